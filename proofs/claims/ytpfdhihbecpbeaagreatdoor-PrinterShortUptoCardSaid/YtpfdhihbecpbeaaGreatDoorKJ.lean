import Derived.Test.YtpfdhihbecpbeaaGreatDoorKF
import Derived.Lib.ItoaLen
import Derived.Test.YtpfdhihbecpbeaaGreatDoorKA
/- Contracts of the program's functions, and lemmas: no statement of its own. -/
namespace Go.Proofs.YtpfdhihbecpbeaaGreatDoor.E
open Go Go.RowKit Go.Proofs.YtpfdhihbecpbeaaGreatDoorW.PrintWords Go.Proofs.YtpfdhihbecpbeaaGreatDoorW.PrintLast Go.Proofs.YtpfdhihbecpbeaaGreatDoorW.PrintMore
set_option linter.unusedVariables false
set_option linter.unusedSimpArgs false
set_option maxRecDepth 100000
set_option maxHeartbeats 4000000
theorem dec_toNat (u : Nat) : (UInt8.ofNat (48 + u % 10)).toNat = 48 + u % 10 := by
 rw [UInt8.toNat_ofNat']; omega
theorem decU_snoc1 (l : List UInt8) (c : UInt8) : decU (l ++ [c]) = decU l * 10 + (c.toNat - 48) := by unfold decU; rw [List.foldl_append]; rfl
theorem decU_dec (u : Nat) : decU (Lib.decDigits u) = u := by
 induction u using Nat.strongRecOn with
 | _ u ih =>
  by_cases h : u < 10
  ·rw [Lib.decDigits, dif_pos h]
   show 0 * 10 + ((UInt8.ofNat (48 + u)).toNat - 48) = u
   have := dec_toNat u
   rw [Nat.mod_eq_of_lt h] at this
   rw [this]; omega
  ·rw [Lib.decDigits, dif_neg h, decU_snoc1, ih (u / 10) (by omega), dec_toNat]
   omega
theorem dec_digs (u : Nat) : ∀ c ∈ Lib.decDigits u, 48 <= c.toNat /\ c.toNat <= 57 := by
 induction u using Nat.strongRecOn with
 | _ u ih =>
  intro c hc
  have h9 := dec_toNat u
  by_cases h : u < 10
  ·rw [Lib.decDigits, dif_pos h, List.mem_singleton] at hc
   rw [Nat.mod_eq_of_lt h] at h9
   rw [hc, h9]; omega
  ·rw [Lib.decDigits, dif_neg h, List.mem_append, List.mem_singleton] at hc
   rcases hc with hc | hc
   ·exact ih (u / 10) (by omega) c hc
   ·rw [hc, h9]; omega
theorem dec_ne (u : Nat) : Lib.decDigits u ≠ [] := by
 rw [Lib.decDigits]
 split <;> simp
theorem dec_head (u : Nat) (h1 : 1 <= u) : (Lib.decDigits u).headD 0 ≠ 48 := by
 induction u using Nat.strongRecOn with
 | _ u ih =>
  by_cases h : u < 10
  ·rw [Lib.decDigits, dif_pos h]
   intro e
   have h2 := dec_toNat u
   rw [Nat.mod_eq_of_lt h] at h2
   have e' : UInt8.ofNat (48 + u) = 48 := e
   rw [e'] at h2
   have : (48 : UInt8).toNat = 48 := rfl
   omega
  ·rw [Lib.decDigits, dif_neg h]
   have := ih (u / 10) (by omega) (by omega)
   cases hl : Lib.decDigits (u / 10) with
   | nil => exact absurd hl (dec_ne _)
   | cons a l => rw [hl] at this; exact this
theorem nDig_le : ∀ (k u : Nat), u < 10 ^ (k + 1) -> Lib.nDigits u <= k + 1
 | 0, u, h => by rw [Lib.nDigits_small (by simpa using h)]; omega
 | k + 1, u, h => by
  by_cases h1 : u < 10
  ·rw [Lib.nDigits_small h1]; omega
  ·rw [Lib.nDigits_big h1]
   have := nDig_le k (u / 10) (by rw [Nat.pow_succ] at h; omega)
   omega
theorem dec_len (k u : Nat) (h : u < 10 ^ (k + 1)) : (Lib.decDigits u).length <= k + 1 := by
 rw [Lib.decDigits_length]; exact nDig_le k u h
def valN : List Nat -> Nat
 | [] => 0
 | d :: ds => d * 10 ^ ds.length + valN ds
theorem valN_lt : ∀ (ds : List Nat), (∀ d ∈ ds, d < 10) -> valN ds < 10 ^ ds.length
 | [], _ => by decide
 | d :: ds, h => by
  have h1 := valN_lt ds (fun x hx => h x (List.mem_cons_of_mem _ hx))
  have h2 := h d List.mem_cons_self
  show d * 10 ^ ds.length + valN ds < 10 ^ (ds.length + 1)
  rw [Nat.pow_succ]
  have h3 : d * 10 ^ ds.length <= 9 * 10 ^ ds.length := Nat.mul_le_mul_right _ (by omega)
  omega
theorem dbl_val : ∀ (ds : List Nat), (dblL ds).2.length = ds.length /\ (∀ d ∈ (dblL ds).2, d < 10) /\ 2 * valN ds = (dblL ds).1 * 10 ^ ds.length + valN (dblL ds).2
 | [] => ⟨rfl, (fun d h => by cases h), rfl⟩
 | d :: ds => by
  obtain ⟨h1, h2, h3⟩ := dbl_val ds
  have e : dblL (d :: ds) = ((2 * d + (dblL ds).1) / 10, (2 * d + (dblL ds).1) % 10 :: (dblL ds).2) := rfl
  rw [e]
  refine ⟨by simp [h1], fun x hx => ?_, ?_⟩
  ·rcases List.mem_cons.1 hx with rfl | hx
   ·omega
   ·exact h2 x hx
  ·show 2 * (d * 10 ^ ds.length + valN ds) = (2 * d + (dblL ds).1) / 10 * 10 ^ (ds.length + 1) + ((2 * d + (dblL ds).1) % 10 * 10 ^ (dblL ds).2.length + valN (dblL ds).2)
   rw [h1, Nat.pow_succ]
   generalize (dblL ds).1 = c at *
   generalize valN (dblL ds).2 = v at *
   generalize 10 ^ ds.length = P at *
   have e2 : 2 * d + c = (2 * d + c) / 10 * 10 + (2 * d + c) % 10 := by omega
   generalize (2 * d + c) / 10 = q at *
   generalize (2 * d + c) % 10 = r at *
   have e3 : (2 * d + c) * P = (q * 10 + r) * P := by rw [<- e2]
   rw [Nat.add_mul, Nat.add_mul] at e3
   have e4 : q * (P * 10) = q * 10 * P := by rw [Nat.mul_comm P 10, Nat.mul_assoc]
   have e5 : 2 * (d * P + valN ds) = 2 * d * P + 2 * valN ds := by rw [Nat.mul_add, Nat.mul_assoc]
   omega
theorem fracN_val : ∀ (k w : Nat) (ds : List Nat), (∀ d ∈ ds, d < 10) -> fracN k w ds * 10 ^ ds.length <= 2 ^ k * (w * 10 ^ ds.length + valN ds) /\ 2 ^ k * (w * 10 ^ ds.length + valN ds) < (fracN k w ds + 1) * 10 ^ ds.length
 | 0, w, ds, h => by
  have h1 := valN_lt ds h
  show w * 10 ^ ds.length <= 1 * (w * 10 ^ ds.length + valN ds) /\ 1 * (w * 10 ^ ds.length + valN ds) < (w + 1) * 10 ^ ds.length
  rw [Nat.add_mul]
  omega
 | k + 1, w, ds, h => by
  obtain ⟨h1, h2, h3⟩ := dbl_val ds
  have ih := fracN_val k (2 * w + (dblL ds).1) (dblL ds).2 h2
  rw [h1] at ih
  have e : fracN (k + 1) w ds = fracN k (2 * w + (dblL ds).1) (dblL ds).2 := rfl
  rw [e]
  have e2 : 2 ^ (k + 1) * (w * 10 ^ ds.length + valN ds) = 2 ^ k * ((2 * w + (dblL ds).1) * 10 ^ ds.length + valN (dblL ds).2) := by
   rw [Nat.pow_succ, Nat.mul_assoc]
   congr 1
   rw [Nat.add_mul, Nat.mul_add, h3, Nat.mul_assoc]
   omega
  rw [e2]
  exact ih
theorem e32 : (2 : Nat) ^ 32 = 4294967296 := by kernel_rfl
theorem fracN_eq (w u : Nat) (ds : List Nat) (h : ∀ d ∈ ds, d < 10) (hv : valN ds * 4294967296 = u * 10 ^ ds.length) : fracN 32 w ds = w * 4294967296 + u := by
 rw [<- e32] at hv ⊢
 obtain ⟨h1, h2⟩ := fracN_val 32 w ds h
 have e : 2 ^ 32 * (w * 10 ^ ds.length + valN ds) = (w * 2 ^ 32 + u) * 10 ^ ds.length := by
  rw [Nat.mul_add, Nat.mul_comm (2 ^ 32) (valN ds), hv, Nat.add_mul, <- Nat.mul_assoc, Nat.mul_comm (2 ^ 32) w]
 rw [e] at h1 h2
 have p : 0 < 10 ^ ds.length := Nat.pow_pos (by decide)
 have h3 := Nat.le_of_mul_le_mul_right h1 p
 have h4 := Nat.lt_of_mul_lt_mul_right h2
 omega
theorem valN_cons (c : UInt8) (l : List UInt8) : valN ((c :: l).map (fun c => c.toNat - 48)) = (c.toNat - 48) * 10 ^ l.length + valN (l.map (fun c => c.toNat - 48)) := by
 show (c.toNat - 48) * 10 ^ (l.map (fun c => c.toNat - 48)).length + _ = _
 rw [List.length_map]
theorem frac_step (q r P M u v : Nat) (e5 : u = q * M + r) (h2 : v * M = r * P) : (q * P + v) * M = u * P := by
 rw [e5, Nat.add_mul, Nat.add_mul, h2, Nat.mul_assoc, Nat.mul_comm P, <- Nat.mul_assoc]
theorem frac_dig (u : Nat) (h : u < 4294967296) : u * 10 / 4294967296 < 10 /\ (UInt8.ofNat (48 + u * 10 / 4294967296)).toNat = 48 + u * 10 / 4294967296 /\ (48 <= (UInt8.ofNat (48 + u * 10 / 4294967296)).toNat /\ (UInt8.ofNat (48 + u * 10 / 4294967296)).toNat <= 57) /\ (u * 10 % 4294967296 = 0 -> u * 10 / 4294967296 * 4294967296 = u * 10) /\ u * 10 = u * 10 / 4294967296 * 4294967296 + u * 10 % 4294967296 /\ u * 10 % 4294967296 < 4294967296 := by
 have h1 := Nat.div_add_mod (u * 10) 4294967296
 have h2 := Nat.mod_lt (u * 10) (show 4294967296 > 0 by decide)
 have h3 : u * 10 / 4294967296 < 10 := (Nat.div_lt_iff_lt_mul (by decide)).2 (by omega)
 generalize u * 10 % 4294967296 = r at *
 generalize u * 10 / 4294967296 = q at *
 have e1 : (UInt8.ofNat (48 + q)).toNat = 48 + q := by rw [UInt8.toNat_ofNat']; omega
 rw [e1]
 refine ⟨h3, rfl, ⟨by omega, by omega⟩, fun h => ?_, ?_, h2⟩
 ·rw [h, Nat.add_zero] at h1; rw [<- h1, Nat.mul_comm]
 ·rw [Nat.mul_comm q]; exact h1.symm
theorem frac_val : ∀ (k u : Nat), u < 4294967296 -> 4294967296 ∣ u * 10 ^ k -> (∀ c ∈ fracT k u, 48 <= c.toNat /\ c.toNat <= 57) /\ valN ((fracT k u).map (fun c => c.toNat - 48)) * 4294967296 = u * 10 ^ (fracT k u).length
 | 0, u, h, hd => by
  have : u = 0 := by
   rw [Nat.pow_zero, Nat.mul_one] at hd
   exact Nat.eq_zero_of_dvd_of_lt hd h
  rw [this]
  have e0 : fracT 0 0 = [] := by rw [fracT]
  rw [e0]
  exact ⟨(fun c h => by cases h), by simp [valN]⟩
 | k + 1, u, h, hd => by
  obtain ⟨hdg, e1, hq, hz, hz2, hr⟩ := frac_dig u h
  have hd2 : 4294967296 ∣ u * 10 % 4294967296 * 10 ^ k := by
   have e3 : u * 10 ^ (k + 1) = u * 10 / 4294967296 * 10 ^ k * 4294967296 + u * 10 % 4294967296 * 10 ^ k := by
    rw [Nat.pow_succ, Nat.mul_comm (10 ^ k) 10, <- Nat.mul_assoc]
    conv => lhs; rw [(frac_dig u h).2.2.2.2.1]
    rw [Nat.add_mul]
    congr 1
    rw [Nat.mul_assoc, Nat.mul_comm 4294967296, <- Nat.mul_assoc]
   rw [e3] at hd
   exact (Nat.dvd_add_right (Nat.dvd_mul_left _ _)).1 hd
  obtain ⟨h1, h2⟩ := frac_val k (u * 10 % 4294967296) hr hd2
  have e : fracT (k + 1) u = UInt8.ofNat (48 + u * 10 / 4294967296) :: if u * 10 % 4294967296 = 0 then [] else fracT k (u * 10 % 4294967296) := by rw [fracT]
  rw [e]
  by_cases h0 : u * 10 % 4294967296 = 0
  ·rw [if_pos h0]
   refine ⟨fun c hc => ?_, ?_⟩
   ·rw [List.mem_singleton] at hc
    rw [hc]; exact hq
   ·rw [valN_cons, e1, List.length_singleton, List.length_nil, Nat.pow_zero, Nat.pow_one, Nat.mul_one, Nat.add_sub_cancel_left]
    have e7 : valN (([] : List UInt8).map (fun c => c.toNat - 48)) = 0 := rfl
    rw [e7, Nat.add_zero]
    exact hz h0
  ·rw [if_neg h0]
   refine ⟨fun c hc => ?_, ?_⟩
   ·rcases List.mem_cons.1 hc with rfl | hc
    ·exact hq
    ·exact h1 c hc
   ·clear hd hd2 hq hz e
    rw [valN_cons, e1, List.length_cons, Nat.pow_succ, Nat.add_sub_cancel_left]
    generalize 10 ^ (fracT k (u * 10 % 4294967296)).length = P at *
    generalize valN ((fracT k (u * 10 % 4294967296)).map (fun c => c.toNat - 48)) = V at *
    clear h1 e1 h0 hdg
    generalize u * 10 / 4294967296 = q at *
    generalize u * 10 % 4294967296 = r at *
    clear h hr
    revert hz2 h2
    generalize 4294967296 = M
    intro h2 hz2
    exact (frac_step q r P M (u * 10) V hz2 h2).trans (by rw [Nat.mul_assoc, Nat.mul_comm 10])
theorem frac_short : ∀ (j k u : Nat), u < 4294967296 -> 4294967296 ∣ u * 10 ^ j -> 1 <= j -> (fracT k u).length <= j
 | j, 0, u, h, hd, hj => by show 0 <= j; omega
 | 0, k + 1, u, h, hd, hj => by omega
 | j + 1, k + 1, u, h, hd, hj => by
  have e : fracT (k + 1) u = UInt8.ofNat (48 + u * 10 / 4294967296) :: if u * 10 % 4294967296 = 0 then [] else fracT k (u * 10 % 4294967296) := by rw [fracT]
  have hr := (frac_dig u h).2.2.2.2.2
  have hd2 : 4294967296 ∣ u * 10 % 4294967296 * 10 ^ j := by
   have e3 : u * 10 ^ (j + 1) = u * 10 / 4294967296 * 10 ^ j * 4294967296 + u * 10 % 4294967296 * 10 ^ j := by
    rw [Nat.pow_succ, Nat.mul_comm (10 ^ j) 10, <- Nat.mul_assoc]
    conv => lhs; rw [(frac_dig u h).2.2.2.2.1]
    rw [Nat.add_mul]
    congr 1
    rw [Nat.mul_assoc, Nat.mul_comm 4294967296, <- Nat.mul_assoc]
   rw [e3] at hd
   exact (Nat.dvd_add_right (Nat.dvd_mul_left _ _)).1 hd
  rw [e]
  by_cases h0 : u * 10 % 4294967296 = 0
  ·rw [if_pos h0]; show 1 <= j + 1; omega
  ·rw [if_neg h0]
   have hj1 : 1 <= j := by
    cases j with
    | zero =>
     rw [Nat.pow_zero, Nat.mul_one] at hd2
     exact absurd (Nat.eq_zero_of_dvd_of_lt hd2 hr) h0
    | succ j => omega
   have := frac_short j k (u * 10 % 4294967296) hr hd2 hj1
   simp only [List.length_cons]
   omega
theorem frac_ne (k u : Nat) : fracT (k + 1) u ≠ [] := by
 show _ :: _ ≠ []
 simp
theorem dvd32 (u j : Nat) (h : 32 <= j) : 4294967296 ∣ u * 10 ^ j := by
 refine Nat.dvd_trans ?_ (Nat.dvd_mul_left _ _)
 have e : 10 ^ j = 10 ^ 32 * 10 ^ (j - 32) := by rw [<- Nat.pow_add]; congr 1; omega
 rw [e]
 exact Nat.dvd_trans ⟨23283064365386962890625, by kernel_rfl⟩ (Nat.dvd_mul_right _ _)
theorem takeDot (ws ps : List UInt8) (h : ∀ c ∈ ws, 48 <= c.toNat /\ c.toNat <= 57) : (ws ++ 46 :: ps).takeWhile (· != 46) = ws /\ (ws ++ 46 :: ps).dropWhile (· != 46) = 46 :: ps := by
 induction ws with
 | nil => exact ⟨rfl, rfl⟩
 | cons c ws ih =>
  have h1 := h c List.mem_cons_self
  have hc : (c != 46) = true := by
   rw [bne_iff_ne]; intro e; rw [e] at h1; exact absurd h1.1 (by decide)
  obtain ⟨h2, h3⟩ := ih (fun x hx => h x (List.mem_cons_of_mem _ hx))
  simp only [List.cons_append, List.takeWhile_cons, List.dropWhile_cons, hc, if_true, h2, h3, and_self]
theorem fixP_fixT (n : Nat) (h : n < 9223372036854775808) : fixP (fixT n) = some (n : Int) /\ ∃ ws ps, fixT n = ws ++ 46 :: ps /\ ws ≠ [] /\ ps ≠ [] /\ ws.length <= 10 /\ ps.length <= 32 /\ (∀ c ∈ ws, 48 <= c.toNat /\ c.toNat <= 57) /\ ∀ c ∈ ps, 48 <= c.toNat /\ c.toNat <= 57 := by
 have e0 : fixT n = Lib.decDigits (n / 4294967296) ++ 46 :: fracT 40 (n % 4294967296) := by
  unfold fixT
  rw [if_neg (by omega)]
  simp
 obtain ⟨ws, hws⟩ : ∃ ws, ws = Lib.decDigits (n / 4294967296) := ⟨_, rfl⟩
 obtain ⟨ps, hps⟩ : ∃ ps, ps = fracT 40 (n % 4294967296) := ⟨_, rfl⟩
 rw [<- hws, <- hps] at e0
 have w1 := dec_digs (n / 4294967296)
 have w2 := dec_ne (n / 4294967296)
 have w3 := dec_len 9 (n / 4294967296) (by omega)
 have w4 := decU_dec (n / 4294967296)
 have w5 : ws.headD 0 = 48 -> ws.length = 1 := by
  rw [hws]
  intro e
  by_cases hz : 1 <= n / 4294967296
  ·exact absurd e (dec_head _ hz)
  ·rw [show n / 4294967296 = 0 by omega, Lib.decDigits, dif_pos (by decide)]; rfl
 obtain ⟨p1, p2⟩ := frac_val 40 (n % 4294967296) (by omega) (dvd32 _ _ (by decide))
 have p3 := frac_short 32 40 (n % 4294967296) (by omega) (dvd32 _ _ (by decide)) (by decide)
 have p4 := frac_ne 39 (n % 4294967296)
 rw [<- hws] at w1 w2 w3 w4
 rw [<- hps] at p1 p2 p3 p4
 clear hws hps
 refine ⟨?_, ws, ps, e0, w2, p4, w3, p3, w1, p1⟩
 obtain ⟨t1, t2⟩ := takeDot ws ps w1
 have l1 := List.length_pos_iff.2 w2
 have l2 := List.length_pos_iff.2 p4
 rw [e0]
 unfold fixP
 simp only [t1, t2, List.tail_cons]
 rw [if_neg, if_neg, if_neg, w4, fracN_eq (n / 4294967296) (n % 4294967296)]
 ·congr 1
  rw [Nat.div_add_mod']
 ·intro d hd
  obtain ⟨c, hc, rfl⟩ := List.mem_map.1 hd
  have := p1 c hc
  omega
 ·rw [List.length_map]; exact p2
 ·omega
 ·simp only [Bool.not_eq_true', Bool.not_eq_false, List.all_eq_true, List.mem_append, Bool.and_eq_true, decide_eq_true_eq]
  intro c hc
  rcases hc with hc | hc
  ·exact w1 c hc
  ·exact p1 c hc
 ·intro hh
  rcases hh with hh | hh | hh | hh | hh | hh
  ·cases hh
  ·omega
  ·omega
  ·omega
  ·omega
  ·have h5 := w5 hh.1
   have h6 := hh.2
   rw [h5] at h6
   exact absurd h6 (by decide)
abbrev It := Int × List UInt8
def rend : List It -> List UInt8
 | [] => []
 | x :: l => x.2 ++ rend l
theorem rend_app (a b : List It) : rend (a ++ b) = rend a ++ rend b := by
 induction a with
 | nil => rfl
 | cons x a ih => show x.2 ++ rend (a ++ b) = _; rw [ih, <- List.append_assoc]; rfl
theorem rend_cons (x : It) (l : List It) : rend (x :: l) = x.2 ++ rend l := rfl
def parI (b : Bool) (l : List It) : List It := if b then (5, [40]) :: (l ++ [(5, [41])]) else l
def rowI : List (List It) -> Bool -> List It
 | [], _ => []
 | x :: l, more => (if more then [(5, [44]), (0, [32])] else []) ++ x ++ rowI l true
def leftB (s : Int) : Int := if s = 3 then 4 else s
def exI (k op num : Int) (name : ByteArray) (args : List Ex) (fs : List (List It)) : List It :=
 if k = 1 then [(3, Lib.itoa num)]
 else if k = 2 then [(4, fixT num)]
 else if k = 3 then [(2, if num = 1 then [116, 114, 117, 101] else [102, 97, 108, 115, 101])]
 else if k = 4 then [(2, [110, 117, 108, 108])]
 else if k = 5 then [(1, toL name)]
 else if k = 6 then (1, toL name) :: (5, [91]) :: (fs.headD [] ++ [(5, [93])])
 else if k = 7 then (1, toL name) :: (5, [40]) :: (rowI fs false ++ [(5, [41])])
 else if k = 8 then (5, sgT op) :: parI (decide (strongE (args.headD (.mk 0 0 0 ⟨#[]⟩ [] 0 0 0)) < 6)) (fs.headD [])
 else if k = 9 then
  parI (decide (strongE (args.headD (.mk 0 0 0 ⟨#[]⟩ [] 0 0 0)) < leftB (strongB 9 op))) (fs.headD []) ++ (0, [32]) :: (5, sgT op) :: (0, [32]) ::
  parI (decide (strongE (args.tail.headD (.mk 0 0 0 ⟨#[]⟩ [] 0 0 0)) < strongB 9 op + 1)) (fs.tail.headD [])
 else []
mutual
def itE : Ex -> List It
 | .mk k op num name args _ _ _ => exI k op num name args (itEs args)
def itEs : List Ex -> List (List It)
 | [] => []
 | e :: l => itE e :: itEs l
end
theorem itEs_map (l : List Ex) : itEs l = l.map itE := by
 induction l with
 | nil => rfl
 | cons e l ih => show itE e :: itEs l = _; rw [ih]; rfl
def inE (least : Int) (e : Ex) : List It := parI (decide (strongE e < least)) (itE e)
def linI (lv : Nat) : List (Nat -> List It) -> List It
 | [] => []
 | f :: l => (0, tabsT lv) :: (f lv ++ (0, [10]) :: linI lv l)
def bodI (fs : List (Nat -> List It)) (lv : Nat) : List It := (0, [32]) :: (5, [123]) :: (0, [10]) :: (linI (lv + 1) fs ++ [(0, tabsT lv), (5, [125])])
def stI (k : Int) (name : ByteArray) (type : Int) (es : List (List It)) (els : List St) (fb fl : List (Nat -> List It)) (lv : Nat) : List It :=
 if k = 1 then (2, [108, 101, 116]) :: (0, [32]) :: (1, toL name) :: (5, [58]) :: (0, [32]) :: (2, tyT type) :: (0, [32]) :: (5, [61]) :: (0, [32]) :: (es.headD [] ++ [(5, [59])])
 else if k = 2 then (1, toL name) :: (0, [32]) :: (5, [61]) :: (0, [32]) :: (es.headD [] ++ [(5, [59])])
 else if k = 3 then (1, toL name) :: (5, [91]) :: (es.headD [] ++ (5, [93]) :: (0, [32]) :: (5, [61]) :: (0, [32]) :: (es.tail.headD [] ++ [(5, [59])]))
 else if k = 4 then
  ((2, [105, 102]) :: (0, [32]) :: (es.headD [] ++ bodI fb lv)) ++
  (if els.length = 1 /\ (els.headD (.mk 0 ⟨#[]⟩ 0 [] [] [] 0 0)).kind = 4 then (0, [32]) :: (2, [101, 108, 115, 101]) :: (0, [32]) :: fl.headD (fun _ => []) lv
  else if 0 < els.length then (0, [32]) :: (2, [101, 108, 115, 101]) :: bodI fl lv
  else [])
 else if k = 5 then (2, [119, 104, 105, 108, 101]) :: (0, [32]) :: (es.headD [] ++ bodI fb lv)
 else if k = 6 then (if es = [] then [(2, [114, 101, 116, 117, 114, 110])] else (2, [114, 101, 116, 117, 114, 110]) :: (0, [32]) :: es.headD []) ++ [(5, [59])]
 else if k = 7 then es.headD [] ++ [(5, [59])]
 else [(5, [59])]
mutual
def itS : St -> Nat -> List It
 | .mk k name type exprs body els _ _, lv => stI k name type (itEs exprs) els (itSs body) (itSs els) lv
def itSs : List St -> List (Nat -> List It)
 | [] => []
 | s :: l => itS s :: itSs l
end
theorem itSs_map (l : List St) : itSs l = l.map itS := by
 induction l with
 | nil => rfl
 | cons e l ih => show itS e :: itSs l = _; rw [ih]; rfl
def vlI (v : Vr) : List It :=
 if v.value = 0 then [] else (0, [32]) :: (5, [61]) :: (0, [32]) ::
  ((if v.type = 1 \/ v.type = 2 then (if v.value < 0 then [(5, [45])] else []) else []) ++
  [if v.type = 1 then (3, Lib.decDigits v.value.natAbs) else if v.type = 2 then (4, fixT v.value.natAbs) else (2, [116, 114, 117, 101])])
def vrI (v : Vr) : List It :=
 (2, [118, 97, 114]) :: (0, [32]) :: (1, toL v.name) :: (5, [58]) :: (0, [32]) ::
 ((if 0 < v.size then [(5, [91]), (3, Lib.itoa v.size), (5, [93]), (0, [32])] else []) ++ (2, tyT v.type) :: (vlI v ++ [(5, [59]), (0, [10])]))
def pmI : List Pm -> Bool -> List It
 | [], _ => []
 | x :: l, more => (if more then [(5, [44]), (0, [32])] else []) ++ (1, toL x.name) :: (5, [58]) :: (0, [32]) :: (2, tyT x.type) :: pmI l true
def fcI (f : Fc) : List It :=
 (2, [102, 110]) :: (0, [32]) :: (1, toL f.name) :: (5, [40]) :: (pmI f.params false ++ (5, [41]) ::
 ((if f.type = 0 then [] else [(5, [58]), (0, [32]), (2, tyT f.type)]) ++ bodI (itSs f.body) 0 ++ [(0, [10])]))
def mdI (m : Md) : List It := (m.vars.map vrI).flatten ++ (m.funcs.map fcI).flatten
def Ap (f : List UInt8 -> List UInt8) (q : List UInt8) : Prop := ∀ p, ∃ r, f p = p ++ r /\ (wideB (f p) = false -> r = q)
theorem wide_app {p r : List UInt8} (h : wideB (p ++ r) = false) : wideB p = false := by
 unfold wideB at h ⊢
 simp only [decide_eq_false_iff_not, List.length_append] at h ⊢
 omega
theorem Ap.id : Ap (fun p => p) [] := fun p => ⟨[], by simp, fun _ => rfl⟩
theorem Ap.put (q : List UInt8) : Ap (fun p => p ++ q) q := fun p => ⟨q, rfl, fun _ => rfl⟩
theorem Ap.comp {f g : List UInt8 -> List UInt8} {q r : List UInt8} (h : Ap f q) (k : Ap g r) : Ap (fun p => g (f p)) (q ++ r) := fun p => by
 obtain ⟨a, h1, h2⟩ := h p
 obtain ⟨b, k1, k2⟩ := k (f p)
 refine ⟨a ++ b, by show g (f p) = _; rw [k1, h1, List.append_assoc], fun hw => ?_⟩
 have hw2 : wideB (g (f p)) = false := hw
 rw [k2 hw2, h2 (wide_app (by rw [<- k1]; exact hw2))]
theorem Ap.cut {f : List UInt8 -> List UInt8} {q : List UInt8} (h : Ap f q) : Ap (fun p => if wideB p then p else f p) q := fun p => by
 show ∃ r, (if wideB p then p else f p) = _ /\ (wideB (if wideB p then p else f p) = false -> _)
 by_cases hp : wideB p = true
 ·rw [if_pos hp]; exact ⟨[], by simp, fun hw => by rw [hp] at hw; cases hw⟩
 ·rw [if_neg hp]; exact h p
theorem Ap.eq {f g : List UInt8 -> List UInt8} {q r : List UInt8} (h : Ap f q) (e : g = f) (e2 : r = q) : Ap g r := by rw [e, e2]; exact h
inductive Aps : List (List UInt8 -> List UInt8) -> List (List It) -> Prop
 | nil : Aps [] []
 | cons {f l i j} : Ap f (rend i) -> Aps l j -> Aps (f :: l) (i :: j)
theorem Aps.head {l : List (List UInt8 -> List UInt8)} {j : List (List It)} (h : Aps l j) : Ap (l.headD id) (rend (j.headD [])) := by
 cases h with
 | nil => exact Ap.id
 | cons h _ => exact h
theorem Aps.tail {l : List (List UInt8 -> List UInt8)} {j : List (List It)} (h : Aps l j) : Aps l.tail j.tail := by
 cases h with
 | nil => exact .nil
 | cons _ h => exact h
theorem ap_oper {f : List UInt8 -> List UInt8} {i : List It} (h : Ap f (rend i)) (b : Bool) : Ap (operT f b) (rend (parI b i)) := by
 cases b with
 | false => exact h
 | true =>
  refine Ap.eq (((Ap.put [40]).comp h).comp (Ap.put [41])) ?_ ?_
  ·funext p; rfl
  ·show rend ((5, [40]) :: (i ++ [(5, [41])])) = _
   simp [rend_app, rend]
theorem ap_row {l : List (List UInt8 -> List UInt8)} {j : List (List It)} (h : Aps l j) : ∀ b, Ap (rowT l b) (rend (rowI j b)) := by
 induction h with
 | nil => intro b; exact Ap.id
 | @cons f l i j h1 h2 ih =>
  intro b
  cases b with
  | false =>
   refine Ap.eq (h1.comp (ih true)) ?_ ?_
   ·funext p; rfl
   ·show rend ([] ++ i ++ rowI j true) = _
    rw [rend_app]; rfl
  | true =>
   refine Ap.eq (((Ap.put [44, 32]).comp h1).comp (ih true)) ?_ ?_
   ·funext p; rfl
   ·show rend ([(5, [44]), (0, [32])] ++ i ++ rowI j true) = _
    rw [rend_app, rend_app]; rfl
theorem strongB_le (o : Int) : strongB 9 o < 6 := by
 have h : ∀ k : Nat, k < 14 -> ([0, 4, 4, 5, 5, 5, 3, 3, 3, 3, 3, 3, 2, 1] : List Int).getD k 0 < 6 := by decide
 show ([0, 4, 4, 5, 5, 5, 3, 3, 3, 3, 3, 3, 2, 1] : List Int).getD o.toNat 0 < 6
 by_cases hk : o.toNat < 14
 ·exact h _ hk
 ·rw [List.getD_eq_getElem?_getD, List.getElem?_eq_none (by show 14 <= _; omega)]; decide
theorem strong9 (e : Ex) : (e.kind == 9) = decide (strongE e < 6) := by
 unfold strongE
 by_cases h : e.kind = 9
 ·rw [h]
  have := strongB_le e.op
  simp [this]
 ·unfold strongB
  rw [if_pos h]
  simp [h]
theorem left_eq (l s : Int) : (decide (l < s) || (l == s && s == 3)) = decide (l < leftB s) := by
 unfold leftB
 by_cases h : s = 3
 ·rw [if_pos h, h, show ((3 : Int) == 3) = true from rfl, Bool.and_true, Bool.eq_iff_iff, Bool.or_eq_true, decide_eq_true_iff, decide_eq_true_iff, beq_iff_eq]
  omega
 ·rw [if_neg h, show (s == 3) = false from beq_eq_false_iff_ne.2 h, Bool.and_false, Bool.or_false]
theorem right_eq (r s : Int) : decide (r <= s) = decide (r < s + 1) := by
 rw [Bool.eq_iff_iff]; simp only [decide_eq_true_eq]; omega
theorem exK_ap {k op num : Int} {name : ByteArray} {args : List Ex} {fs : List (List UInt8 -> List UInt8)} {j : List (List It)} (h : Aps fs j) : Ap (exprK k op num name args fs) (rend (exI k op num name args j)) := fun p => by
 unfold exprK exI
 by_cases k1 : k = 1
 ·rw [if_pos k1, if_pos k1]
  exact (Ap.put _).eq rfl (by simp [rend]) p
 rw [if_neg k1, if_neg k1]
 by_cases k2 : k = 2
 ·rw [if_pos k2, if_pos k2]
  exact (Ap.put _).eq rfl (by simp [rend]) p
 rw [if_neg k2, if_neg k2]
 by_cases k3 : k = 3
 ·rw [if_pos k3, if_pos k3]
  exact (Ap.put _).eq rfl (by simp [rend]) p
 rw [if_neg k3, if_neg k3]
 by_cases k4 : k = 4
 ·rw [if_pos k4, if_pos k4]
  exact (Ap.put _).eq rfl (by simp [rend]) p
 rw [if_neg k4, if_neg k4]
 by_cases k5 : k = 5
 ·rw [if_pos k5, if_pos k5]
  exact (Ap.put _).eq rfl (by simp [rend]) p
 rw [if_neg k5, if_neg k5]
 by_cases k6 : k = 6
 ·rw [if_pos k6, if_pos k6]
  refine Ap.eq (((Ap.put (toL name ++ [91])).comp h.head).comp (Ap.put [93])) (g := fun p => fs.headD id (p ++ toL name ++ [91]) ++ [93]) ?_ ?_ p
  ·funext p; rw [List.append_assoc]
  ·simp [rend_app, rend]
 rw [if_neg k6, if_neg k6]
 by_cases k7 : k = 7
 ·rw [if_pos k7, if_pos k7]
  refine Ap.eq (((Ap.put (toL name ++ [40])).comp (ap_row h false)).comp (Ap.put [41])) (g := fun p => rowT fs false (p ++ toL name ++ [40]) ++ [41]) ?_ ?_ p
  ·funext p; rw [List.append_assoc]
  ·simp [rend_app, rend]
 rw [if_neg k7, if_neg k7]
 by_cases k8 : k = 8
 ·rw [if_pos k8, if_pos k8]
  rw [strong9]
  exact Ap.eq ((Ap.put (sgT op)).comp (ap_oper h.head _)) rfl rfl p
 rw [if_neg k8, if_neg k8]
 by_cases k9 : k = 9
 ·rw [if_pos k9, if_pos k9]
  dsimp only
  rw [left_eq, right_eq]
  generalize decide (strongE (args.headD (.mk 0 0 0 ⟨#[]⟩ [] 0 0 0)) < leftB (strongB 9 op)) = b1
  generalize decide (strongE (args.tail.headD (.mk 0 0 0 ⟨#[]⟩ [] 0 0 0)) < strongB 9 op + 1) = b2
  refine Ap.eq (((ap_oper h.head b1).comp (Ap.put ([32] ++ sgT op ++ [32]))).comp (ap_oper h.tail.head b2)) (g := fun p => operT (fs.tail.headD id) b2 (operT (fs.headD id) b1 p ++ [32] ++ sgT op ++ [32])) ?_ ?_ p
  ·funext p; simp
  ·simp [rend_app, rend]
 rw [if_neg k9, if_neg k9]
 exact Ap.id p
theorem exs_ap (l : List Ex) (h : ∀ e ∈ l, Ap (exprT e) (rend (itE e))) : Aps (l.map exprT) (l.map itE) := by
 induction l with
 | nil => exact .nil
 | cons e l ih => exact .cons (h e List.mem_cons_self) (ih (fun x hx => h x (List.mem_cons_of_mem _ hx)))
theorem expr_ap (n : Nat) : ∀ e : Ex, SizeOf.sizeOf e <= n -> Ap (exprT e) (rend (itE e)) := by
 induction n with
 | zero => intro e h; cases e; simp at h
 | succ n ih =>
  intro e h
  obtain ⟨k, op, num, name, args, a, t, pl⟩ := e
  simp only [Ex.mk.sizeOf_spec] at h
  have h1 : Ap (exprK k op num name args (args.map exprT)) (rend (exI k op num name args (args.map itE))) := exK_ap (exs_ap args (fun x hx => ih x (by have := List.sizeOf_lt_of_mem hx; omega)))
  refine h1.cut.eq ?_ ?_
  ·funext p; exact exprT_eq ..
  ·show rend (exI k op num name args (itEs args)) = _; rw [itEs_map]
theorem exprs_ap (l : List Ex) : Aps (l.map exprT) (l.map itE) := exs_ap l (fun e _ => expr_ap _ e (Nat.le_refl _))
inductive Apl : List (Nat -> List UInt8 -> List UInt8) -> List (Nat -> List It) -> Prop
 | nil : Apl [] []
 | cons {f l i j} : (∀ lv, Ap (f lv) (rend (i lv))) -> Apl l j -> Apl (f :: l) (i :: j)
theorem ap_lines {l : List (Nat -> List UInt8 -> List UInt8)} {j : List (Nat -> List It)} (h : Apl l j) : ∀ lv, Ap (linesT lv l) (rend (linI lv j)) := by
 induction h with
 | nil => intro lv; exact Ap.id
 | @cons f l i j h1 h2 ih =>
  intro lv
  refine Ap.eq (Ap.cut ((((Ap.put (tabsT lv)).comp (h1 lv)).comp (Ap.put [10])).comp (ih lv))) ?_ ?_
  ·funext p; rfl
  ·show rend ((0, tabsT lv) :: (i lv ++ (0, [10]) :: linI lv j)) = _
   simp [rend_app, rend]
theorem ap_body {l : List (Nat -> List UInt8 -> List UInt8)} {j : List (Nat -> List It)} (h : Apl l j) (lv : Nat) : Ap (bodyT l lv) (rend (bodI j lv)) := by
 refine Ap.eq (((Ap.put [32, 123, 10]).comp (ap_lines h (lv + 1))).comp (Ap.put (tabsT lv ++ [125]))) ?_ ?_
 ·funext p; unfold bodyT; rw [List.append_assoc]
 ·unfold bodI; simp [rend_app, rend]
theorem Apl.head {l : List (Nat -> List UInt8 -> List UInt8)} {j : List (Nat -> List It)} (h : Apl l j) (lv : Nat) : Ap (l.headD (fun _ p => p) lv) (rend (j.headD (fun _ => []) lv)) := by
 cases h with
 | nil => exact Ap.id
 | cons h _ => exact h lv
theorem aps_nil {l : List (List UInt8 -> List UInt8)} {j : List (List It)} (h : Aps l j) : l = [] ↔ j = [] := by cases h <;> simp
theorem stK_ap {k : Int} {name : ByteArray} {type : Int} {es : List (List UInt8 -> List UInt8)} {je : List (List It)} {els : List St} {fb fl : List (Nat -> List UInt8 -> List UInt8)} {jb jl : List (Nat -> List It)} (he : Aps es je) (hb : Apl fb jb) (hl : Apl fl jl) (lv : Nat) :
  Ap (stmtK k name type es els fb fl lv) (rend (stI k name type je els jb jl lv)) := fun p => by
 unfold stmtK stI
 split
 ·refine Ap.eq (((Ap.put ([108, 101, 116, 32] ++ toL name ++ [58, 32] ++ tyT type ++ [32, 61, 32])).comp he.head).comp (Ap.put [59])) (g := fun p => es.headD id (p ++ [108, 101, 116, 32] ++ toL name ++ [58, 32] ++ tyT type ++ [32, 61, 32]) ++ [59]) ?_ ?_ p
  ·funext p; simp
  ·simp [rend_app, rend]
 split
 ·refine Ap.eq (((Ap.put (toL name ++ [32, 61, 32])).comp he.head).comp (Ap.put [59])) (g := fun p => es.headD id (p ++ toL name ++ [32, 61, 32]) ++ [59]) ?_ ?_ p
  ·funext p; simp
  ·simp [rend_app, rend]
 split
 ·refine Ap.eq (((((Ap.put (toL name ++ [91])).comp he.head).comp (Ap.put [93, 32, 61, 32])).comp he.tail.head).comp (Ap.put [59])) (g := fun p => es.tail.headD id (es.headD id (p ++ toL name ++ [91]) ++ [93, 32, 61, 32]) ++ [59]) ?_ ?_ p
  ·funext p; simp
  ·simp [rend_app, rend]
 split
 ·have h1 := ((Ap.put [105, 102, 32]).comp he.head).comp (ap_body hb lv)
  dsimp only
  split
  ·refine Ap.eq ((h1.comp (Ap.put [32, 101, 108, 115, 101, 32])).comp (hl.head lv)) (g := fun p => fl.headD (fun _ p => p) lv (bodyT fb lv (es.headD id (p ++ [105, 102, 32])) ++ [32, 101, 108, 115, 101, 32])) ?_ ?_ p
   ·funext p; rfl
   ·simp [rend_app, rend]
  split
  ·refine Ap.eq ((h1.comp (Ap.put [32, 101, 108, 115, 101])).comp (ap_body hl lv)) (g := fun p => bodyT fl lv (bodyT fb lv (es.headD id (p ++ [105, 102, 32])) ++ [32, 101, 108, 115, 101])) ?_ ?_ p
   ·funext p; rfl
   ·simp [rend_app, rend]
  ·refine Ap.eq h1 (g := fun p => bodyT fb lv (es.headD id (p ++ [105, 102, 32]))) ?_ ?_ p
   ·funext p; rfl
   ·simp [rend_app, rend]
 split
 ·refine Ap.eq (((Ap.put [119, 104, 105, 108, 101, 32]).comp he.head).comp (ap_body hb lv)) (g := fun p => bodyT fb lv (es.headD id (p ++ [119, 104, 105, 108, 101, 32]))) ?_ ?_ p
  ·funext p; rfl
  ·simp [rend_app, rend]
 split
 ·by_cases hn : es = []
  ·rw [if_pos ((aps_nil he).1 hn)]
   simp only [if_pos hn]
   exact (Ap.put ([114, 101, 116, 117, 114, 110] ++ [59])).eq (g := fun p => p ++ [114, 101, 116, 117, 114, 110] ++ [59]) (by funext p; rw [List.append_assoc]) (by simp [rend]) p
  ·rw [if_neg (fun q => hn ((aps_nil he).2 q))]
   simp only [if_neg hn]
   refine Ap.eq (((Ap.put ([114, 101, 116, 117, 114, 110] ++ [32])).comp he.head).comp (Ap.put [59])) (g := fun p => es.headD id (p ++ [114, 101, 116, 117, 114, 110] ++ [32]) ++ [59]) ?_ ?_ p
   ·funext p; simp
   ·simp [rend_app, rend]
 split
 ·exact (he.head.comp (Ap.put [59])).eq rfl (by simp [rend_app, rend]) p
 ·exact (Ap.put [59]).eq rfl (by simp [rend]) p
theorem sts_ap (l : List St) (h : ∀ s ∈ l, ∀ lv, Ap (stmtT s lv) (rend (itS s lv))) : Apl (l.map stmtT) (l.map itS) := by
 induction l with
 | nil => exact .nil
 | cons e l ih => exact .cons (h e List.mem_cons_self) (ih (fun x hx => h x (List.mem_cons_of_mem _ hx)))
theorem stmt_ap (n : Nat) : ∀ s : St, SizeOf.sizeOf s <= n -> ∀ lv, Ap (stmtT s lv) (rend (itS s lv)) := by
 induction n with
 | zero => intro e h; cases e; simp at h
 | succ n ih =>
  intro s h lv
  obtain ⟨k, name, type, exprs, body, els, a, pl⟩ := s
  simp only [St.mk.sizeOf_spec] at h
  have h1 : Ap (stmtK k name type (exprs.map exprT) els (body.map stmtT) (els.map stmtT) lv) (rend (stI k name type (exprs.map itE) els (body.map itS) (els.map itS) lv)) :=
   stK_ap (exprs_ap exprs) (sts_ap body (fun x hx => ih x (by have := List.sizeOf_lt_of_mem hx; omega))) (sts_ap els (fun x hx => ih x (by have := List.sizeOf_lt_of_mem hx; omega))) lv
  refine h1.eq ?_ ?_
  ·funext p; exact stmtT_eq ..
  ·show rend (stI k name type (itEs exprs) els (itSs body) (itSs els) lv) = _; rw [itEs_map, itSs_map, itSs_map]
theorem stmts_ap (l : List St) : Apl (l.map stmtT) (l.map itS) := sts_ap l (fun e _ => stmt_ap _ e (Nat.le_refl _))
theorem itoa_neg (n : Int) : Lib.itoa n = (if n < 0 then [45] else []) ++ Lib.decDigits n.natAbs := by
 unfold Lib.itoa
 split
 ·rfl
 ·rename_i h
  rw [show n.toNat = n.natAbs by omega]; rfl
theorem fixT_neg (n : Int) : fixT n = (if n < 0 then [45] else []) ++ fixT n.natAbs := by
 unfold fixT
 rw [if_neg (show ¬ ((n.natAbs : Nat) : Int) < 0 by omega), Int.natAbs_natCast, List.nil_append]
 simp only [List.append_assoc]
theorem var_ap (v : Vr) (h : varOK v = true) : Ap (varT v) (rend (vrI v)) := by
 refine Ap.eq (Ap.put (rend (vrI v))) ?_ rfl
 funext p
 unfold varT vrI vlI
 simp only [rend_cons, rend_app, List.cons_append, List.append_assoc, List.append_cancel_left_eq, List.nil_append]
 by_cases h0 : v.value = 0
 ·simp only [if_pos h0]
  split <;> simp [rend]
 ·simp only [if_neg h0]
  by_cases h1 : v.type = 1
  ·simp only [if_pos h1, if_pos (Or.inl h1 : v.type = 1 \/ v.type = 2)]
   rw [itoa_neg v.value]
   split <;> split <;> simp [rend]
  ·by_cases h2 : v.type = 2
   ·simp only [if_pos h2, if_neg h1, if_pos (Or.inr h2 : v.type = 1 \/ v.type = 2)]
    rw [fixT_neg v.value]
    split <;> split <;> simp [rend]
   ·simp only [if_neg h2, if_neg h1, if_neg (show ¬ (v.type = 1 \/ v.type = 2) from fun q => q.elim h1 h2)]
    split <;> simp [rend]
theorem params_ap : ∀ (l : List Pm) (b : Bool), Ap (paramsT l b) (rend (pmI l b))
 | [], b => Ap.id
 | x :: l, b => by
  have ih := params_ap l true
  cases b with
  | false =>
   refine Ap.eq ((Ap.put (toL x.name ++ [58, 32] ++ tyT x.type)).comp ih) ?_ ?_
   ·funext p; show paramsT l true (p ++ toL x.name ++ [58, 32] ++ tyT x.type) = _; simp
   ·show rend ([] ++ (1, toL x.name) :: (5, [58]) :: (0, [32]) :: (2, tyT x.type) :: pmI l true) = _; simp [rend]
  | true =>
   refine Ap.eq ((Ap.put ([44, 32] ++ toL x.name ++ [58, 32] ++ tyT x.type)).comp ih) ?_ ?_
   ·funext p; show paramsT l true (p ++ [44, 32] ++ toL x.name ++ [58, 32] ++ tyT x.type) = _; simp
   ·show rend ([(5, [44]), (0, [32])] ++ (1, toL x.name) :: (5, [58]) :: (0, [32]) :: (2, tyT x.type) :: pmI l true) = _; simp [rend]
theorem func_ap (f : Fc) : Ap (funcT f) (rend (fcI f)) := by
 have h1 := ((Ap.put ([102, 110, 32] ++ toL f.name ++ [40])).comp (params_ap f.params false)).comp (Ap.put ([41] ++ (if f.type = 0 then [] else [58, 32] ++ tyT f.type)))
 refine Ap.eq ((h1.comp (ap_body (stmts_ap f.body) 0)).comp (Ap.put [10])) ?_ ?_
 ·funext p
  unfold funcT
  rw [stmtTs_map]
  split <;> simp
 ·unfold fcI
  rw [itSs_map]
  split <;> simp [rend_app, rend]
theorem vars_ap : ∀ l : List Vr, l.all varOK = true -> Ap (fun p => l.foldl (fun p v => varT v p) p) (rend (l.map vrI).flatten)
 | [], _ => Ap.id
 | v :: l, h => by
  rw [List.all_cons, Bool.and_eq_true] at h
  exact ((var_ap v h.1).comp (vars_ap l h.2)).eq rfl (by rw [List.map_cons, List.flatten_cons, rend_app])
theorem funcs_ap : ∀ l : List Fc, Ap (funcsT l) (rend (l.map fcI).flatten)
 | [] => Ap.id
 | f :: l => ((func_ap f).comp (funcs_ap l)).cut.eq (by funext p; rfl) (by rw [List.map_cons, List.flatten_cons, rend_app])
theorem mod_text (m : Md) (h : m.vars.all varOK = true) (hw : wideB (modT m) = false) : modT m = rend (mdI m) := by
 obtain ⟨r, h1, h2⟩ := ((vars_ap m.vars h).comp (funcs_ap m.funcs)) []
 have e : modT m = r := by rw [<- List.nil_append r, <- h1]; rfl
 rw [e, h2 hw]
 unfold mdI; rw [rend_app]
def foB (c : UInt8) : Bool := !inNameB c.toNat && c != 46
def sg1 : List UInt8 := [43, 45, 42, 47, 37, 40, 41, 123, 125, 91, 93, 44, 59, 58]
def sg3 : List UInt8 := [61, 33, 60, 62]
def sg2 : List (List UInt8) := [[61, 61], [33, 61], [60, 61], [62, 61], [38, 38], [124, 124]]
def wordsL : List (List UInt8) := [[98, 111, 111, 108], [101, 108, 115, 101], [101, 110, 116], [102, 97, 108, 115, 101], [102, 105, 120], [102, 110], [105, 102], [105, 110, 116], [108, 101, 116], [110, 117, 108, 108], [114, 101, 116, 117, 114, 110], [116, 114, 117, 101], [118, 97, 114], [119, 104, 105, 108, 101]]
inductive OkI : It -> UInt8 -> Prop
 | blank {l c} : (∀ b ∈ l, b = 9 \/ b = 10 \/ b = 32) -> OkI (0, l) c
 | name {s : ByteArray} {c} : nameB s = true -> foB c = true -> OkI (1, toL s) c
 | word {l c} : l ∈ wordsL -> foB c = true -> OkI (2, l) c
 | int {n : Nat} {c} : n < 9223372036854775808 -> foB c = true -> OkI (3, Lib.decDigits n) c
 | fix {n : Nat} {c} : n < 9223372036854775808 -> foB c = true -> OkI (4, fixT n) c
 | one {b c} : b ∈ sg1 -> OkI (5, [b]) c
 | three {b c} : b ∈ sg3 -> c ≠ 61 -> OkI (5, [b]) c
 | two {l c} : l ∈ sg2 -> OkI (5, l) c
def hdI (l : List It) (c : UInt8) : UInt8 := (rend l).headD c
def Wf : List It -> UInt8 -> Prop
 | [], _ => True
 | x :: l, c => OkI x (hdI l c) /\ Wf l c
theorem hdI_app (a b : List It) (c : UInt8) : hdI (a ++ b) c = hdI a (hdI b c) := by
 unfold hdI
 rw [rend_app]
 cases rend a <;> rfl
theorem wf_app (a b : List It) (c : UInt8) : Wf (a ++ b) c ↔ Wf a (hdI b c) /\ Wf b c := by
 induction a with
 | nil => exact ⟨fun h => ⟨trivial, h⟩, fun h => h.2⟩
 | cons x a ih =>
  show OkI x (hdI (a ++ b) c) /\ Wf (a ++ b) c ↔ (OkI x (hdI a (hdI b c)) /\ Wf a (hdI b c)) /\ Wf b c
  rw [ih, hdI_app, and_assoc]
theorem runN_app (p : Int -> Bool) (w b : List UInt8) (hw : ∀ c ∈ w, p c.toNat = true) (hb : b = [] \/ p (b.headD 0).toNat = false) : runN p (w ++ b) = w.length := by
 induction w with
 | nil =>
  cases b with
  | nil => rfl
  | cons c b =>
   rcases hb with hb | hb
   ·cases hb
   ·show (if p c.toNat then _ else 0) = 0
    have : p c.toNat = false := hb
    rw [this]; rfl
 | cons c w ih =>
  show (if p c.toNat then runN p (w ++ b) + 1 else 0) = _
  rw [hw c List.mem_cons_self, if_pos rfl, ih (fun x hx => hw x (List.mem_cons_of_mem _ hx))]; rfl
theorem fo_name {b : List UInt8} (h : foB (b.headD 0) = true) : b = [] \/ inNameB (b.headD 0).toNat = false := by
 unfold foB at h
 rw [Bool.and_eq_true, Bool.not_eq_true'] at h
 exact .inr h.1
theorem fo_digit {b : List UInt8} (h : foB (b.headD 0) = true) : b = [] \/ digitB (b.headD 0).toNat = false := by
 unfold foB at h
 rw [Bool.and_eq_true, Bool.not_eq_true'] at h
 have h1 := h.1
 unfold inNameB at h1
 rw [Bool.or_eq_false_iff] at h1
 exact .inr h1.2
theorem fo_46 {b : List UInt8} (h : foB (b.headD 0) = true) : b.getD 0 0 ≠ 46 := by
 unfold foB at h
 rw [Bool.and_eq_true, bne_iff_ne] at h
 cases b with
 | nil => decide
 | cons c b => exact h.2
theorem digB {c : UInt8} (h : 48 <= c.toNat /\ c.toNat <= 57) : digitB c.toNat = true := by
 unfold digitB; rw [decide_eq_true_eq]; omega
theorem dig_no (c : UInt8) (h : digitB c.toNat = true) : letterB c.toNat = false := by
 unfold digitB at h
 rw [decide_eq_true_eq] at h
 unfold letterB
 rw [Bool.or_eq_false_iff, decide_eq_false_iff_not, beq_eq_false_iff_ne]
 omega
theorem take_app (w b : List UInt8) : (w ++ b).take w.length = w := by simp
theorem piece_ok {k : Int} {w b : List UInt8} (h : OkI (k, w) (b.headD 0)) (hk : k ≠ 0) : pieceS fxB (w ++ b) = (w.length, k) /\ w ≠ [] /\ (w.headD 0 ≠ 35 /\ w.headD 0 ≠ 9 /\ w.headD 0 ≠ 10 /\ w.headD 0 ≠ 13 /\ w.headD 0 ≠ 32) := by
 cases h with
 | blank _ => exact absurd rfl hk
 | @name s _ hn hc =>
  unfold nameB at hn
  simp only [Bool.and_eq_true, decide_eq_true_eq, beq_iff_eq, Bool.not_eq_true'] at hn
  obtain ⟨⟨⟨⟨h1, h2⟩, h3⟩, h4⟩, h5⟩ := hn
  have hl : (toL s).length = s.size := Array.length_toList
  have hall := runN_flat inNameB (toL s) (h4.trans hl.symm)
  have hrun := runN_app inNameB (toL s) b hall (fo_name hc)
  cases hs : toL s with
  | nil => rw [hs] at hl; rw [<- hl] at h1; exact absurd h1 (by decide)
  | cons c r =>
   have hb : bt s 0 = c.toNat := by
    have e : (toL s)[0]'(by rw [hs]; simp) = c := by simp only [hs]; rfl
    rw [<- bt_at s 0 h1, <- e]; rfl
   rw [hb] at h3
   rw [hs] at hrun hl
   have e1 : pieceS fxB (c :: r ++ b) = if letterB c.toNat then (if 24 < runN inNameB (c :: r ++ b) then (0, 0) else if wordB ⟨((c :: r ++ b).take (runN inNameB (c :: r ++ b))).toArray⟩ then (runN inNameB (c :: r ++ b), 2) else (runN inNameB (c :: r ++ b), 1)) else _ := rfl
   rw [e1, if_pos h3, hrun, take_app, <- hs, if_neg (by rw [hs]; omega)]
   have e2 : (⟨(toL s).toArray⟩ : ByteArray) = s := by cases s; rfl
   rw [e2, h5]
   refine ⟨by simp, by rw [hs]; simp, ?_⟩
   rw [hs]
   show c ≠ 35 /\ c ≠ 9 /\ c ≠ 10 /\ c ≠ 13 /\ c ≠ 32
   refine ⟨?_, ?_, ?_, ?_, ?_⟩ <;> (rintro rfl; exact absurd h3 (by decide))
 | @word _ _ hw hc =>
  have key : ∀ w ∈ wordsL, letterB (w.headD 0).toNat = true /\ (∀ c ∈ w, inNameB c.toNat = true) /\ w.length <= 24 /\ w ≠ [] /\ wordB ⟨w.toArray⟩ = true := by
   intro w hw
   simp only [wordsL, List.mem_cons, List.not_mem_nil, or_false] at hw
   rcases hw with rfl | rfl | rfl | rfl | rfl | rfl | rfl | rfl | rfl | rfl | rfl | rfl | rfl | rfl <;> exact ⟨by decide, by decide, by decide, by decide, by kernel_rfl⟩
  obtain ⟨h3, hall, h2, h1, h5⟩ := key w hw
  have hrun := runN_app inNameB w b hall (fo_name hc)
  have hh : (w ++ b).headD 0 = w.headD 0 := by cases w with | nil => exact absurd rfl h1 | cons c w => rfl
  unfold pieceS
  simp only [hh, hrun, take_app, h3, if_true, h5, if_neg (show ¬ 24 < w.length by omega), true_and]
  refine ⟨h1, ?_, ?_, ?_, ?_, ?_⟩ <;> (intro e; rw [e] at h3; exact absurd h3 (by decide))
 | @int n _ hn hc =>
  have d1 := dec_digs n
  have d2 := dec_ne n
  have hrun := runN_app digitB (Lib.decDigits n) b (fun c hc => digB (d1 c hc)) (fo_digit hc)
  have h46 := fo_46 hc
  have hd := decU_dec n
  have hh0 := dec_head n
  have h0 : n = 0 -> Lib.decDigits n = [48] := by rintro rfl; rw [Lib.decDigits, dif_pos (by decide)]; rfl
  revert hd hrun d1 d2 hh0 h0
  generalize Lib.decDigits n = w
  intro d1 d2 hrun hd hh0 h0
  cases w with
  | nil => exact absurd rfl d2
  | cons c r =>
   have hdc := digB (d1 c List.mem_cons_self)
   have e1 : pieceS fxB (c :: r ++ b) = numS fxB (c :: r ++ b) := by
    unfold pieceS
    have e : (c :: r ++ b).headD 0 = c := rfl
    simp only [e, dig_no c hdc, hdc, if_true, if_false, Bool.false_eq_true]
   have e2 : numS fxB (c :: r ++ b) = wholeS (c :: r ++ b) (c :: r).length := by
    unfold numS
    simp only [hrun]
    rw [if_pos]
    right
    rw [List.getD_eq_getElem?_getD, List.getElem?_append_right (Nat.le_refl _), Nat.sub_self, <- List.getD_eq_getElem?_getD]
    exact h46
   rw [e1, e2]
   unfold wholeS
   rw [take_app, hd, if_neg]
   ·refine ⟨rfl, by simp, ?_⟩
    show c ≠ 35 /\ c ≠ 9 /\ c ≠ 10 /\ c ≠ 13 /\ c ≠ 32
    refine ⟨?_, ?_, ?_, ?_, ?_⟩ <;> (rintro rfl; exact absurd hdc (by decide))
   ·rintro (q | ⟨q, q2⟩)
    ·omega
    ·by_cases hn0 : n = 0
     ·rw [h0 hn0] at q2; exact absurd q2 (by decide)
     ·exact hh0 (by omega) q
 | @fix n _ hn hc =>
  obtain ⟨hp, ws, ps, e0, w1, p1, w2, p2, w3, p3⟩ := fixP_fixT n hn
  have hfx : fxB (fixT n) = true := by unfold fxB; rw [hp]; rfl
  rw [e0] at hfx ⊢
  have hrun := runN_app digitB ws (46 :: ps ++ b) (fun c hc => digB (w3 c hc)) (.inr (by show digitB ((46 : UInt8).toNat : Int) = false; decide))
  have hrun2 := runN_app digitB ps b (fun c hc => digB (p3 c hc)) (fo_digit hc)
  cases ws with
  | nil => exact absurd rfl w1
  | cons c r =>
   have hdc := digB (w3 c List.mem_cons_self)
   have e1 : pieceS fxB (c :: r ++ 46 :: ps ++ b) = numS fxB (c :: r ++ 46 :: ps ++ b) := by
    unfold pieceS
    have e : (c :: r ++ 46 :: ps ++ b).headD 0 = c := rfl
    simp only [e, dig_no c hdc, hdc, if_true, if_false, Bool.false_eq_true]
   have l2 := List.length_pos_iff.2 p1
   rw [e1]
   have ea : c :: r ++ 46 :: ps ++ b = c :: r ++ (46 :: (ps ++ b)) := by simp
   have eb : (c :: r ++ 46 :: (ps ++ b)).drop ((c :: r).length + 1) = ps ++ b := by
    rw [<- List.drop_drop, List.drop_left]; rfl
   have ec : (c :: r ++ 46 :: (ps ++ b)).take ((c :: r).length + 1 + ps.length) = c :: r ++ 46 :: ps := by
    rw [show (c :: r).length + 1 + ps.length = (c :: r ++ 46 :: ps).length by simp; omega, show c :: r ++ 46 :: (ps ++ b) = (c :: r ++ 46 :: ps) ++ b by simp, List.take_left]
   have ed : (c :: r ++ 46 :: (ps ++ b)).getD (c :: r).length 0 = 46 := by
    rw [List.getD_eq_getElem?_getD, List.getElem?_append_right (Nat.le_refl _), Nat.sub_self]; rfl
   rw [ea]
   have hrun' : runN digitB (c :: r ++ 46 :: (ps ++ b)) = (c :: r).length := by rw [<- hrun]; rfl
   unfold numS
   simp only [hrun', eb, hrun2, ec, ed]
   rw [if_neg, if_pos l2, if_pos hfx]
   ·refine ⟨by simp; omega, by simp, ?_⟩
    show c ≠ 35 /\ c ≠ 9 /\ c ≠ 10 /\ c ≠ 13 /\ c ≠ 32
    refine ⟨?_, ?_, ?_, ?_, ?_⟩ <;> (rintro rfl; exact absurd hdc (by decide))
   ·rintro (q | q)
    ·simp at q
    ·exact q rfl
 | @one a _ ha =>
  simp only [sg1, List.mem_cons, List.not_mem_nil, or_false] at ha
  rcases ha with rfl | rfl | rfl | rfl | rfl | rfl | rfl | rfl | rfl | rfl | rfl | rfl | rfl | rfl <;> exact ⟨rfl, by decide, by decide⟩
 | @three a _ ha hc =>
  have hc2 : ¬ (1 < (a :: b).length /\ (a :: b).getD 1 0 = 61) := by
   rintro ⟨_, q⟩
   cases b with
   | nil => exact absurd q (show ¬ (0 : UInt8) = 61 by decide)
   | cons x b => exact hc q
  have e : ∀ a : UInt8, a ∈ sg3 -> pieceS fxB ([a] ++ b) = if 1 < (a :: b).length /\ (a :: b).getD 1 0 = 61 then (2, 5) else (1, 5) := by
   intro a ha
   simp only [sg3, List.mem_cons, List.not_mem_nil, or_false] at ha
   rcases ha with rfl | rfl | rfl | rfl
   all_goals
    unfold pieceS
    simp [letterB, digitB]
  rw [e a ha, if_neg hc2]
  refine ⟨rfl, by simp, ?_⟩
  simp only [sg3, List.mem_cons, List.not_mem_nil, or_false] at ha
  rcases ha with rfl | rfl | rfl | rfl <;> decide
 | @two _ _ hw =>
  simp only [sg2, List.mem_cons, List.not_mem_nil, or_false] at hw
  rcases hw with rfl | rfl | rfl | rfl | rfl | rfl
  all_goals
   refine ⟨?_, by decide, by decide⟩
   unfold pieceS
   simp [letterB, digitB]
def tkT (t : Tok) : It := (t.kind, toL t.text)
def fltI (l : List It) : List It := l.filter (fun x => x.1 != 0)
theorem lexBlank (l : List UInt8) : ∀ (w pre b : List UInt8) (k : Nat) (out : List Tok), (∀ c ∈ w, c = 9 \/ c = 10 \/ c = 32) -> l = pre ++ w ++ b -> w.length < k -> ∃ k', k <= k' + w.length /\ lexL fxB l k pre.length out = lexL fxB l k' (pre ++ w).length out
 | [], pre, b, k, out, _, _, _ => ⟨k, Nat.le_add_right _ _, by rw [List.append_nil]⟩
 | c :: w, pre, b, k, out, h, e, hk => by
  cases k with
  | zero => omega
  | succ k =>
   obtain ⟨k', h1, h2⟩ := lexBlank l w (pre ++ [c]) b k out (fun x hx => h x (List.mem_cons_of_mem _ hx)) (by rw [e]; simp) (by simp at hk ⊢; omega)
   refine ⟨k', by simp at h1 ⊢; omega, ?_⟩
   have e1 : lexL fxB l (k + 1) pre.length out = lexL fxB l k (pre.length + 1) out := by
    rw [lexL, if_pos (by rw [e]; simp)]
    have e2 : l.getD pre.length 0 = c := by rw [e, List.getD_eq_getElem?_getD, List.append_assoc, List.getElem?_append_right (Nat.le_refl _), Nat.sub_self]; rfl
    simp only [e2]
    rcases h c List.mem_cons_self with rfl | rfl | rfl <;> simp
   rw [e1]
   rw [List.length_append, List.length_singleton] at h2
   rw [h2]; simp
theorem lex_items (l : List UInt8) : ∀ (its : List It) (pre : List UInt8) (k : Nat) (out : List Tok), Wf its 0 -> l = pre ++ rend its -> (rend its).length < k -> ∃ ts, lexL fxB l k pre.length out = some (.ok (out ++ ts ++ [⟨6, ⟨#[]⟩, l.length⟩])) /\ ts.map tkT = fltI its
 | [], pre, k, out, _, e, hk => by
  cases k with
  | zero => omega
  | succ k =>
   have e2 : l = pre := by rw [e]; exact List.append_nil _
   refine ⟨[], ?_, rfl⟩
   rw [lexL, if_neg (by rw [e2]; omega)]; simp
 | (x, w) :: its, pre, k, out, hw, e, hk => by
  have hlen : (rend ((x, w) :: its)).length = w.length + (rend its).length := by show (w ++ rend its).length = _; rw [List.length_append]
  rw [hlen] at hk
  have e2 : l = pre ++ w ++ rend its := by rw [e]; show pre ++ (w ++ rend its) = _; rw [List.append_assoc]
  by_cases hx : x = 0
  ·subst hx
   have hb : ∀ c ∈ w, c = 9 \/ c = 10 \/ c = 32 := by
    have := hw.1
    cases this with
    | blank h => exact h
   obtain ⟨k', h1, h2⟩ := lexBlank l w pre (rend its) k out hb e2 (by omega)
   obtain ⟨ts, h3, h4⟩ := lex_items l its (pre ++ w) k' out hw.2 e2 (by omega)
   exact ⟨ts, h2.trans h3, h4⟩
  ·obtain ⟨p1, p2, p3⟩ := piece_ok hw.1 hx
   have hwl := List.length_pos_iff.2 p2
   cases k with
   | zero => omega
   | succ k =>
    obtain ⟨ts, h3, h4⟩ := lex_items l its (pre ++ w) k (out ++ [⟨x, ⟨w.toArray⟩, pre.length⟩]) hw.2 e2 (by omega)
    refine ⟨⟨x, ⟨w.toArray⟩, pre.length⟩ :: ts, ?_, ?_⟩
    ·have e3 : lexL fxB l (k + 1) pre.length out = lexL fxB l k (pre ++ w).length (out ++ [⟨x, ⟨w.toArray⟩, pre.length⟩]) := by
      have hd : l.drop pre.length = w ++ rend its := by rw [e2, List.append_assoc, List.drop_left]
      have hh : l.getD pre.length 0 = w.headD 0 := by
       rw [List.getD_eq_getElem?_getD, e2, List.append_assoc, List.getElem?_append_right (Nat.le_refl _), Nat.sub_self]
       cases w with
       | nil => exact absurd rfl p2
       | cons c w => rfl
      rw [lexL, if_pos (by rw [e2]; simp; omega)]
      simp only [hh, hd, p1, take_app]
      obtain ⟨q1, q2, q3, q4, q5⟩ := p3
      rw [if_neg q1, if_neg (by simp only [q2, q3, q4, q5, or_self, not_false_eq_true]), if_neg (by omega), List.length_append]
     rw [e3, h3]; simp
    ·have : (x != 0) = true := by simpa using hx
     show (x, w) :: ts.map tkT = List.filter _ ((x, w) :: its)
     rw [List.filter_cons, this, if_pos rfl, h4]; rfl
abbrev n0 : ByteArray := ⟨#[]⟩
inductive EOK (R : Prop) : Ex -> Prop
 | int {n : Nat} {a t p} : n < 9223372036854775808 -> (R -> t = 0 /\ p = 0) -> EOK R (.mk 1 0 n n0 [] a t p)
 | fix {n : Nat} {a t p} : n < 9223372036854775808 -> (R -> t = 0 /\ p = 0) -> EOK R (.mk 2 0 n n0 [] a t p)
 | bool {n : Int} {a t p} : n = 0 \/ n = 1 -> (R -> t = 0 /\ p = 0) -> EOK R (.mk 3 0 n n0 [] a t p)
 | null {a t p} : (R -> t = 0 /\ p = 0) -> EOK R (.mk 4 0 0 n0 [] a t p)
 | name {s a t p} : nameB s = true -> (R -> t = 0 /\ p = 0) -> EOK R (.mk 5 0 0 s [] a t p)
 | index {s x a t p} : nameB s = true -> EOK R x -> (R -> t = 0 /\ p = 0) -> EOK R (.mk 6 0 0 s [x] a t p)
 | call {s l a t p} : nameB s = true -> l.length <= 16384 -> (∀ x ∈ l, EOK R x) -> (R -> t = 0 /\ p = 0) -> EOK R (.mk 7 0 0 s l a t p)
 | one {o x a t p} : o = 14 \/ o = 15 -> EOK R x -> (R -> t = 0 /\ p = 0) -> EOK R (.mk 8 o 0 n0 [x] a t p)
 | both {o x y a t p} : 1 <= o -> o <= 13 -> EOK R x -> EOK R y -> (R -> t = 0 /\ p = 0) -> EOK R (.mk 9 o 0 n0 [x, y] a t p)
inductive SOK (R : Prop) : St -> Prop
 | lt {s ty e a p} : nameB s = true -> typedB ty = true -> EOK R e -> (R -> p = 0) -> SOK R (.mk 1 s ty [e] [] [] a p)
 | set {s e a p} : nameB s = true -> EOK R e -> (R -> p = 0) -> SOK R (.mk 2 s 0 [e] [] [] a p)
 | put {s i e a p} : nameB s = true -> EOK R i -> EOK R e -> (R -> p = 0) -> SOK R (.mk 3 s 0 [i, e] [] [] a p)
 | iff {e b l a p} : EOK R e -> b.length <= 400 -> l.length <= 400 -> (∀ s ∈ b, SOK R s) -> (∀ s ∈ l, SOK R s) -> (R -> p = 0) -> SOK R (.mk 4 n0 0 [e] b l a p)
 | whl {e b a p} : EOK R e -> b.length <= 400 -> (∀ s ∈ b, SOK R s) -> (R -> p = 0) -> SOK R (.mk 5 n0 0 [e] b [] a p)
 | ret0 {a p} : (R -> p = 0) -> SOK R (.mk 6 n0 0 [] [] [] a p)
 | ret {e a p} : EOK R e -> (R -> p = 0) -> SOK R (.mk 6 n0 0 [e] [] [] a p)
 | call {e a p} : e.kind = 7 -> EOK R e -> (R -> p = 0) -> SOK R (.mk 7 n0 0 [e] [] [] a p)
structure VOK (v : Vr) : Prop where
 ok : varOK v = true
 lo : -9223372036854775808 < v.value
 hi : v.value < 9223372036854775808
 b : v.type = 3 -> v.value = 0 \/ v.value = 1
structure FOK (R : Prop) (f : Fc) : Prop where
 nm : nameB f.name = true
 ty : f.type = 0 \/ typedB f.type = true
 pl : f.params.length <= 8
 ps : ∀ p ∈ f.params, nameB p.name = true /\ typedB p.type = true
 bl : f.body.length <= 400
 bs : ∀ s ∈ f.body, SOK R s
 lc : R -> f.locals = []
structure MOK (R : Prop) (m : Md) : Prop where
 vl : m.vars.length <= 64
 fl : m.funcs.length <= 64
 vs : ∀ v ∈ m.vars, VOK v
 fs : ∀ f ∈ m.funcs, FOK R f
theorem EOK.ok {R : Prop} {e : Ex} (h : EOK R e) : exprOK e = true := by
 induction h with
 | int h _ => simp [exprOK, exprsOK, shapeOK, shapeS, numB]; rfl
 | fix h _ => simp [exprOK, exprsOK, shapeOK, shapeS, numB]; rfl
 | bool h _ => rcases h with rfl | rfl <;> rfl
 | null _ => rfl
 | name h _ => simp [exprOK, exprsOK, shapeOK, shapeS, numB, h]
 | index h _ _ ih => simp [exprOK, exprsOK, shapeOK, shapeS, numB, h, ih]
 | call h hl _ _ ih =>
  rw [exprOK_eq, List.all_eq_true.2 ih, Bool.and_true]
  simp only [shapeOK, shapeS, numB]
  simp [h]
  omega
 | one ho _ _ ih => rcases ho with rfl | rfl <;> (simp [exprOK, exprsOK, shapeOK, shapeS, numB, ih]; rfl)
 | both h1 h2 _ _ _ i1 i2 => simp [exprOK, exprsOK, shapeOK, shapeS, numB, i1, i2, h1, h2]; rfl
theorem SOK.ok {R : Prop} {s : St} (h : SOK R s) : stmtOK s = true := by
 induction h with
 | lt h1 h2 he _ => simp [stmtOK, stmtsOK, exprsOK, stmtHead, stmtShape, h1, h2, he.ok]
 | set h1 he _ => simp [stmtOK, stmtsOK, exprsOK, stmtHead, stmtShape, h1, he.ok]
 | put h1 hi he _ => simp [stmtOK, stmtsOK, exprsOK, stmtHead, stmtShape, h1, he.ok, hi.ok]
 | iff he h1 h2 _ _ _ i1 i2 =>
  rw [stmtOK_eq]
  unfold blockOK
  rw [stmtsOK_all, stmtsOK_all, List.all_eq_true.2 i1, List.all_eq_true.2 i2]
  simp [stmtHead, stmtShape, he.ok, h1, h2]
  rfl
 | whl he h1 _ _ i1 =>
  rw [stmtOK_eq]
  unfold blockOK
  rw [stmtsOK_all, stmtsOK_all, List.all_eq_true.2 i1]
  simp [stmtHead, stmtShape, he.ok, h1]
  rfl
 | ret0 _ => rfl
 | ret he _ => simp [stmtOK, stmtsOK, exprsOK, stmtHead, stmtShape, he.ok]; rfl
 | call hk he _ => simp [stmtOK, stmtsOK, exprsOK, stmtHead, stmtShape, he.ok, hk]; rfl
theorem SOK.all {R : Prop} {l : List St} (h : ∀ x ∈ l, SOK R x) (hl : l.length <= 400) : blockOK l = true := by
 unfold blockOK
 rw [stmtsOK_all, List.all_eq_true.2 (fun x hx => (h x hx).ok)]
 simp [hl]
theorem MOK.ok {R : Prop} {m : Md} (h : MOK R m) : modOK m = true := by
 unfold modOK
 rw [List.all_eq_true.2 (fun v hv => (h.vs v hv).ok), List.all_eq_true.2 (fun f hf => ?_)]
 ·simp [h.vl, h.fl]
 ·have k := h.fs f hf
  unfold funcOK
  rw [List.all_eq_true.2 (fun p hp => by rw [(k.ps p hp).1, (k.ps p hp).2]; rfl), SOK.all k.bs k.bl, k.nm]
  rcases k.ty with ht | ht <;> simp [ht, k.pl]
structure GE (l : List It) : Prop where
 wf : ∀ c, foB c = true -> Wf l c
 hd : ∀ c, hdI l c ≠ 61
 hn : ∀ c, hdI l c = hdI l 0
theorem hd_nm {s : ByteArray} (h : nameB s = true) (k : Int) (l : List It) (c : UInt8) : hdI ((k, toL s) :: l) c ≠ 61 /\ hdI ((k, toL s) :: l) c = hdI ((k, toL s) :: l) 0 := by
 have h1 := name_flat s h
 unfold nameB at h
 simp only [Bool.and_eq_true, decide_eq_true_eq, beq_iff_eq, Bool.not_eq_true'] at h
 obtain ⟨⟨⟨⟨h1, h2⟩, h3⟩, h4⟩, h5⟩ := h
 have hl : (toL s).length = s.size := Array.length_toList
 have hall := runN_flat inNameB (toL s) (h4.trans hl.symm)
 cases hs : toL s with
 | nil => rw [hs] at hl; rw [<- hl] at h1; exact absurd h1 (by decide)
 | cons b w =>
  rw [hs] at hall
  have := hall b List.mem_cons_self
  refine ⟨?_, rfl⟩
  show b ≠ 61
  rintro rfl
  exact absurd this (by decide)
theorem hd_dec (n : Nat) (k : Int) (w : List UInt8) (l : List It) (c : UInt8) : hdI ((k, Lib.decDigits n ++ w) :: l) c ≠ 61 /\ hdI ((k, Lib.decDigits n ++ w) :: l) c = hdI ((k, Lib.decDigits n ++ w) :: l) 0 := by
 have d1 := dec_digs n
 have d2 := dec_ne n
 revert d1 d2
 generalize Lib.decDigits n = d
 intro d1 d2
 cases d with
 | nil => exact absurd rfl d2
 | cons b d =>
  have := d1 b List.mem_cons_self
  refine ⟨?_, rfl⟩
  show b ≠ 61
  rintro rfl
  exact absurd this (by decide)
theorem GE.par {l : List It} (h : GE l) (b : Bool) : GE (parI b l) := by
 cases b with
 | false => exact h
 | true =>
  refine ⟨fun c hc => ?_, fun c => (by show (40 : UInt8) ≠ 61; decide), fun c => rfl⟩
  show Wf ((5, [40]) :: (l ++ [(5, [41])])) c
  refine ⟨.one (by decide), ?_⟩
  rw [wf_app]
  exact ⟨h.wf _ rfl, .one (by decide), trivial⟩
theorem op_ok (o : Int) (h1 : 1 <= o) (h2 : o <= 13) (c : UInt8) (hc : c ≠ 61) : OkI (5, sgT o) c := by
 have h : ∀ k : Nat, k < 14 -> 1 <= k -> sgT k ∈ sg2 \/ ∃ b, sgT k = [b] /\ (b ∈ sg1 \/ b ∈ sg3) := by
  intro k hk h1
  have : k = 1 \/ k = 2 \/ k = 3 \/ k = 4 \/ k = 5 \/ k = 6 \/ k = 7 \/ k = 8 \/ k = 9 \/ k = 10 \/ k = 11 \/ k = 12 \/ k = 13 := by omega
  rcases this with rfl | rfl | rfl | rfl | rfl | rfl | rfl | rfl | rfl | rfl | rfl | rfl | rfl
  all_goals first | exact .inl (by decide) | exact .inr ⟨_, rfl, by decide⟩
 rcases h o.toNat (by omega) (by omega) with hs | ⟨b, hs, hb | hb⟩
 ·rw [show sgT o = sgT (o.toNat : Int) from by rw [Int.toNat_of_nonneg (by omega)]]; exact .two hs
 ·rw [show sgT o = sgT (o.toNat : Int) from by rw [Int.toNat_of_nonneg (by omega)], hs]; exact .one hb
 ·rw [show sgT o = sgT (o.toNat : Int) from by rw [Int.toNat_of_nonneg (by omega)], hs]; exact .three hb hc
theorem itoa_nat (n : Nat) : Lib.itoa (n : Int) = Lib.decDigits n := by
 rw [itoa_neg, if_neg (by omega), Int.natAbs_natCast]; rfl
theorem row_wf (l : List (List It)) (h : ∀ x ∈ l, GE x) (c : UInt8) (hc : foB c = true) : (∀ b, Wf (rowI l b) c) /\ foB (hdI (rowI l true) c) = true := by
 induction l with
 | nil => exact ⟨fun b => trivial, hc⟩
 | cons x l ih =>
  obtain ⟨i1, i2⟩ := ih (fun y hy => h y (List.mem_cons_of_mem _ hy))
  have hx := h x List.mem_cons_self
  refine ⟨fun b => ?_, rfl⟩
  show Wf ((if b then [(5, [44]), (0, [32])] else []) ++ x ++ rowI l true) c
  rw [wf_app, wf_app]
  refine ⟨⟨?_, hx.wf _ i2⟩, i1 true⟩
  cases b with
  | false => exact trivial
  | true => exact ⟨.one (by decide), .blank (by decide), trivial⟩
theorem wfE {R : Prop} {e : Ex} (h : EOK R e) : GE (itE e) := by
 induction h with
 | @int n a t p h _ =>
  show GE [(3, Lib.itoa n)]
  rw [itoa_nat]
  have := hd_dec n 3 [] []
  rw [List.append_nil] at this
  exact ⟨fun c hc => ⟨.int h hc, trivial⟩, fun c => (this c).1, fun c => (this c).2⟩
 | @fix n a t p h _ =>
  show GE [(4, fixT n)]
  have e0 : fixT n = Lib.decDigits (n / 4294967296) ++ 46 :: fracT 40 (n % 4294967296) := by
   unfold fixT
   rw [if_neg (by omega)]
   simp
  have := hd_dec (n / 4294967296) 4 (46 :: fracT 40 (n % 4294967296)) []
  rw [<- e0] at this
  exact ⟨fun c hc => ⟨.fix h hc, trivial⟩, fun c => (this c).1, fun c => (this c).2⟩
 | @bool n a t p h _ =>
  rcases h with rfl | rfl
  ·exact ⟨fun c hc => ⟨.word (by decide) hc, trivial⟩, fun c => (by show (102 : UInt8) ≠ 61; decide), fun c => rfl⟩
  ·exact ⟨fun c hc => ⟨.word (by decide) hc, trivial⟩, fun c => (by show (116 : UInt8) ≠ 61; decide), fun c => rfl⟩
 | null _ => exact ⟨fun c hc => ⟨.word (by decide) hc, trivial⟩, fun c => (by show (110 : UInt8) ≠ 61; decide), fun c => rfl⟩
 | @name s a t p h _ => exact ⟨fun c hc => ⟨.name h hc, trivial⟩, fun c => (hd_nm h 1 [] c).1, fun c => (hd_nm h 1 [] c).2⟩
 | @index s x a t p h _ _ ih =>
  refine ⟨fun c hc => ?_, fun c => (hd_nm h 1 _ c).1, fun c => (hd_nm h 1 _ c).2⟩
  show Wf ((1, toL s) :: (5, [91]) :: (itE x ++ [(5, [93])])) c
  refine ⟨.name h rfl, .one (by decide), ?_⟩
  rw [wf_app]
  exact ⟨ih.wf _ rfl, .one (by decide), trivial⟩
 | @call s l a t p h _ _ _ ih =>
  refine ⟨fun c hc => ?_, fun c => (hd_nm h 1 _ c).1, fun c => (hd_nm h 1 _ c).2⟩
  show Wf ((1, toL s) :: (5, [40]) :: (rowI (itEs l) false ++ [(5, [41])])) c
  refine ⟨.name h rfl, .one (by decide), ?_⟩
  rw [wf_app, itEs_map]
  refine ⟨(row_wf _ (fun x hx => ?_) _ rfl).1 false, .one (by decide), trivial⟩
  obtain ⟨y, hy, rfl⟩ := List.mem_map.1 hx
  exact ih y hy
 | @one o x a t p ho _ _ ih =>
  have hp := ih.par (decide (strongE x < 6))
  rcases ho with rfl | rfl
  ·exact ⟨fun c hc => ⟨.one (by decide), hp.wf c hc⟩, fun c => (by show (45 : UInt8) ≠ 61; decide), fun c => rfl⟩
  ·exact ⟨fun c hc => ⟨.three (by decide) (hp.hd c), hp.wf c hc⟩, fun c => (by show (33 : UInt8) ≠ 61; decide), fun c => rfl⟩
 | @both o x y a t p h1 h2 _ _ _ ix iy =>
  have hx := ix.par (decide (strongE x < leftB (strongB 9 o)))
  have hy := iy.par (decide (strongE y < strongB 9 o + 1))
  have e : itE (.mk 9 o 0 n0 [x, y] a t p) = parI (decide (strongE x < leftB (strongB 9 o))) (itE x) ++ (0, [32]) :: (5, sgT o) :: (0, [32]) :: parI (decide (strongE y < strongB 9 o + 1)) (itE y) := rfl
  rw [e]
  refine ⟨fun c hc => ?_, fun c => ?_, fun c => ?_⟩
  ·rw [wf_app]
   exact ⟨hx.wf _ rfl, .blank (by decide), op_ok o h1 h2 _ (by show (32 : UInt8) ≠ 61; decide), .blank (by decide), hy.wf c hc⟩
  ·rw [hdI_app]; exact hx.hd _
  ·rw [hdI_app, hdI_app]; exact (hx.hn _).trans (hx.hn _).symm
theorem tabs_ok (lv : Nat) (c : UInt8) : OkI (0, tabsT lv) c := .blank (fun b hb => .inl (List.eq_of_mem_replicate hb))
theorem ty_ok {t : Int} (h : typedB t = true) {c : UInt8} (hc : foB c = true) : OkI (2, tyT t) c := by
 unfold typedB at h
 rw [decide_eq_true_eq] at h
 have : t = 1 \/ t = 2 \/ t = 3 \/ t = 4 := by omega
 rcases this with rfl | rfl | rfl | rfl <;> exact .word (by decide) hc
theorem lin_wf (l : List (Nat -> List It)) (h : ∀ f ∈ l, ∀ lv c, Wf (f lv) c) (lv : Nat) (c : UInt8) : Wf (linI lv l) c := by
 induction l with
 | nil => exact trivial
 | cons f l ih =>
  show Wf ((0, tabsT lv) :: (f lv ++ (0, [10]) :: linI lv l)) c
  refine ⟨tabs_ok _ _, ?_⟩
  rw [wf_app]
  exact ⟨h f List.mem_cons_self _ _, .blank (by decide), ih (fun x hx => h x (List.mem_cons_of_mem _ hx))⟩
theorem bod_wf (l : List (Nat -> List It)) (h : ∀ f ∈ l, ∀ lv c, Wf (f lv) c) (lv : Nat) (c : UInt8) : Wf (bodI l lv) c := by
 show Wf ((0, [32]) :: (5, [123]) :: (0, [10]) :: (linI (lv + 1) l ++ [(0, tabsT lv), (5, [125])])) c
 refine ⟨.blank (by decide), .one (by decide), .blank (by decide), ?_⟩
 rw [wf_app]
 exact ⟨lin_wf l h _ _, tabs_ok _ _, .one (by decide), trivial⟩
theorem its_wf {l : List St} (h : ∀ s ∈ l, ∀ lv c, Wf (itS s lv) c) : ∀ f ∈ itSs l, ∀ lv c, Wf (f lv) c := by
 rw [itSs_map]
 intro f hf
 obtain ⟨s, hs, rfl⟩ := List.mem_map.1 hf
 exact h s hs
theorem wfS {R : Prop} {s : St} (h : SOK R s) : ∀ lv c, Wf (itS s lv) c := by
 induction h with
 | @lt s ty e a p h1 h2 he _ =>
  intro lv c
  show Wf ((2, [108, 101, 116]) :: (0, [32]) :: (1, toL s) :: (5, [58]) :: (0, [32]) :: (2, tyT ty) :: (0, [32]) :: (5, [61]) :: (0, [32]) :: (itE e ++ [(5, [59])])) c
  refine ⟨.word (by decide) rfl, .blank (by decide), .name h1 rfl, .one (by decide), .blank (by decide), ty_ok h2 rfl, .blank (by decide), .three (by decide) (by show (32 : UInt8) ≠ 61; decide), .blank (by decide), ?_⟩
  rw [wf_app]
  exact ⟨(wfE he).wf _ rfl, .one (by decide), trivial⟩
 | @set s e a p h1 he _ =>
  intro lv c
  show Wf ((1, toL s) :: (0, [32]) :: (5, [61]) :: (0, [32]) :: (itE e ++ [(5, [59])])) c
  refine ⟨.name h1 rfl, .blank (by decide), .three (by decide) (by show (32 : UInt8) ≠ 61; decide), .blank (by decide), ?_⟩
  rw [wf_app]
  exact ⟨(wfE he).wf _ rfl, .one (by decide), trivial⟩
 | @put s i e a p h1 hi he _ =>
  intro lv c
  show Wf ((1, toL s) :: (5, [91]) :: (itE i ++ (5, [93]) :: (0, [32]) :: (5, [61]) :: (0, [32]) :: (itE e ++ [(5, [59])]))) c
  refine ⟨.name h1 rfl, .one (by decide), ?_⟩
  rw [wf_app]
  refine ⟨(wfE hi).wf _ rfl, .one (by decide), .blank (by decide), .three (by decide) (by show (32 : UInt8) ≠ 61; decide), .blank (by decide), ?_⟩
  rw [wf_app]
  exact ⟨(wfE he).wf _ rfl, .one (by decide), trivial⟩
 | @iff e b l a p he _ _ _ _ _ ib il =>
  intro lv c
  show Wf (((2, [105, 102]) :: (0, [32]) :: (itE e ++ bodI (itSs b) lv)) ++ (if l.length = 1 /\ (l.headD (.mk 0 ⟨#[]⟩ 0 [] [] [] 0 0)).kind = 4 then (0, [32]) :: (2, [101, 108, 115, 101]) :: (0, [32]) :: (itSs l).headD (fun _ => []) lv else if 0 < l.length then (0, [32]) :: (2, [101, 108, 115, 101]) :: bodI (itSs l) lv else [])) c
  rw [wf_app]
  refine ⟨⟨.word (by decide) rfl, .blank (by decide), ?_⟩, ?_⟩
  ·show Wf (itE e ++ bodI (itSs b) lv) _
   rw [wf_app]
   exact ⟨(wfE he).wf _ rfl, bod_wf _ (its_wf ib) _ _⟩
  ·split
   ·refine ⟨.blank (by decide), .word (by decide) rfl, .blank (by decide), ?_⟩
    rename_i hc
    cases l with
    | nil => exact absurd hc.1 (by decide)
    | cons s l => exact il s List.mem_cons_self lv c
   ·split
    ·exact ⟨.blank (by decide), .word (by decide) rfl, bod_wf _ (its_wf il) _ _⟩
    ·exact trivial
 | @whl e b a p he _ _ _ ib =>
  intro lv c
  show Wf ((2, [119, 104, 105, 108, 101]) :: (0, [32]) :: (itE e ++ bodI (itSs b) lv)) c
  refine ⟨.word (by decide) rfl, .blank (by decide), ?_⟩
  rw [wf_app]
  exact ⟨(wfE he).wf _ rfl, bod_wf _ (its_wf ib) _ _⟩
 | ret0 _ => exact fun lv c => ⟨.word (by decide) rfl, .one (by decide), trivial⟩
 | @ret e a p he _ =>
  intro lv c
  show Wf ((2, [114, 101, 116, 117, 114, 110]) :: (0, [32]) :: (itE e ++ [(5, [59])])) c
  refine ⟨.word (by decide) rfl, .blank (by decide), ?_⟩
  rw [wf_app]
  exact ⟨(wfE he).wf _ rfl, .one (by decide), trivial⟩
 | @call e a p _ he _ =>
  intro lv c
  show Wf (itE e ++ [(5, [59])]) c
  rw [wf_app]
  exact ⟨(wfE he).wf _ rfl, .one (by decide), trivial⟩
theorem pm_wf : ∀ (l : List Pm), (∀ p ∈ l, nameB p.name = true /\ typedB p.type = true) -> ∀ c, foB c = true -> (∀ b, Wf (pmI l b) c) /\ foB (hdI (pmI l true) c) = true
 | [], _, c, hc => ⟨fun b => trivial, hc⟩
 | x :: l, h, c, hc => by
  obtain ⟨i1, i2⟩ := pm_wf l (fun y hy => h y (List.mem_cons_of_mem _ hy)) c hc
  have hx := h x List.mem_cons_self
  refine ⟨fun b => ?_, rfl⟩
  have key : Wf ((1, toL x.name) :: (5, [58]) :: (0, [32]) :: (2, tyT x.type) :: pmI l true) c := ⟨.name hx.1 rfl, .one (by decide), .blank (by decide), ty_ok hx.2 i2, i1 true⟩
  show Wf ((if b then [(5, [44]), (0, [32])] else []) ++ (1, toL x.name) :: (5, [58]) :: (0, [32]) :: (2, tyT x.type) :: pmI l true) c
  rw [wf_app]
  refine ⟨?_, key⟩
  cases b with
  | false => exact trivial
  | true => exact ⟨.one (by decide), .blank (by decide), trivial⟩
theorem fc_wf {R : Prop} {f : Fc} (h : FOK R f) (c : UInt8) : Wf (fcI f) c := by
 show Wf ((2, [102, 110]) :: (0, [32]) :: (1, toL f.name) :: (5, [40]) :: (pmI f.params false ++ (5, [41]) :: ((if f.type = 0 then [] else [(5, [58]), (0, [32]), (2, tyT f.type)]) ++ bodI (itSs f.body) 0 ++ [(0, [10])]))) c
 refine ⟨.word (by decide) rfl, .blank (by decide), .name h.nm rfl, .one (by decide), ?_⟩
 rw [wf_app]
 refine ⟨(pm_wf _ h.ps _ rfl).1 false, .one (by decide), ?_⟩
 rw [wf_app, wf_app]
 refine ⟨⟨?_, bod_wf _ (its_wf (fun s hs => wfS (h.bs s hs))) _ _⟩, .blank (by decide), trivial⟩
 by_cases h0 : f.type = 0
 ·rw [if_pos h0]; exact trivial
 ·rw [if_neg h0]
  exact ⟨.one (by decide), .blank (by decide), ty_ok (h.ty.resolve_left h0) rfl, trivial⟩
theorem VOK.facts {v : Vr} (h : VOK v) : nameB v.name = true /\ typedB v.type = true /\ 0 <= v.size /\ v.size <= 256 /\ (v.size > 0 \/ v.type = 4 -> v.value = 0) := by
 have hv := h.ok
 unfold varOK at hv
 dsimp only at hv
 split at hv
 ·rw [Bool.and_eq_true, beq_iff_eq] at hv
  simp only [Bool.and_eq_true, decide_eq_true_eq] at hv
  exact ⟨hv.1.1.1.1, hv.1.1.1.2, hv.1.1.2, hv.1.2, fun _ => hv.2⟩
 ·rename_i hc
  split at hv
  ·simp only [Bool.and_eq_true, decide_eq_true_eq] at hv
   exact ⟨hv.1.1.1.1, hv.1.1.1.2, hv.1.1.2, hv.1.2, fun q => absurd q hc⟩
  ·simp only [Bool.and_eq_true, decide_eq_true_eq] at hv
   exact ⟨hv.1.1.1.1, hv.1.1.1.2, hv.1.1.2, hv.1.2, fun q => absurd q hc⟩
theorem vr_wf {v : Vr} (h : VOK v) (c : UInt8) : Wf (vrI v) c := by
 have hv := h.ok
 have hl := h.lo
 have hu := h.hi
 have hn := h.facts
 obtain ⟨h1, h2, h3, h4, _⟩ := hn
 show Wf ((2, [118, 97, 114]) :: (0, [32]) :: (1, toL v.name) :: (5, [58]) :: (0, [32]) :: ((if 0 < v.size then [(5, [91]), (3, Lib.itoa v.size), (5, [93]), (0, [32])] else []) ++ (2, tyT v.type) :: (vlI v ++ [(5, [59]), (0, [10])]))) c
 have key : Wf (vlI v) 59 /\ foB (hdI (vlI v) 59) = true := by
  unfold vlI
  by_cases h0 : v.value = 0
  ·rw [if_pos h0]; exact ⟨trivial, rfl⟩
  ·rw [if_neg h0]
   refine ⟨⟨.blank (by decide), .three (by decide) (by show (32 : UInt8) ≠ 61; decide), .blank (by decide), ?_⟩, rfl⟩
   rw [wf_app]
   refine ⟨?_, ?_⟩
   ·split
    ·split
     ·exact ⟨.one (by decide), trivial⟩
     ·exact trivial
    ·exact trivial
   ·refine ⟨?_, trivial⟩
    split
    ·exact .int (by omega) rfl
    ·split
     ·exact .fix (by omega) rfl
     ·exact .word (by decide) rfl
 refine ⟨.word (by decide) rfl, .blank (by decide), .name h1 rfl, .one (by decide), .blank (by decide), ?_⟩
 rw [wf_app]
 refine ⟨?_, ty_ok h2 ?_, ?_⟩
 ·split
  ·refine ⟨.one (by decide), ?_, .one (by decide), .blank (by decide), trivial⟩
   rw [show v.size = ((v.size.toNat : Nat) : Int) by omega, itoa_nat]
   exact .int (by omega) rfl
  ·exact trivial
 ·rw [hdI_app]; exact key.2
 ·rw [wf_app]
  exact ⟨key.1, .one (by decide), .blank (by decide), trivial⟩
theorem flat_wf {α : Type} (f : α -> List It) : ∀ (l : List α), (∀ x ∈ l, ∀ c, Wf (f x) c) -> ∀ c, Wf (l.map f).flatten c
 | [], _, c => trivial
 | x :: l, h, c => by
  rw [List.map_cons, List.flatten_cons, wf_app]
  exact ⟨h x List.mem_cons_self _, flat_wf f l (fun y hy => h y (List.mem_cons_of_mem _ hy)) c⟩
theorem md_wf {R : Prop} {m : Md} (h : MOK R m) (c : UInt8) : Wf (mdI m) c := by
 unfold mdI
 rw [wf_app]
 exact ⟨flat_wf _ _ (fun v hv c => vr_wf (h.vs v hv) c) _, flat_wf _ _ (fun f hf c => fc_wf (h.fs f hf) c) _⟩
theorem mod_toks {R : Prop} {m : Md} (h : MOK R m) (hw : wideB (modT m) = false) : ∃ ts, tokensS fxB (modT m) = .ok (ts ++ [⟨6, ⟨#[]⟩, (modT m).length⟩]) /\ ts.map tkT = fltI (mdI m) := by
 have hl : ¬ 16384 < (modT m).length := by unfold wideB at hw; simpa using hw
 have e := mod_text m (List.all_eq_true.2 (fun v hv => (h.vs v hv).ok)) hw
 obtain ⟨ts, h1, h2⟩ := lex_items (modT m) (mdI m) [] ((modT m).length + 1) [] (md_wf h 0) (by rw [List.nil_append]; exact e) (by rw [<- e]; omega)
 refine ⟨ts, ?_, h2⟩
 unfold tokensS
 rw [if_neg hl, show (0 : Nat) = ([] : List UInt8).length from rfl, h1]
 rfl
def Tk (ts : List Tok) (l : List It) : Prop := ts.map tkT = fltI l
theorem Tk.nil {ts : List Tok} (h : Tk ts []) : ts = [] := List.map_eq_nil_iff.1 h
theorem Tk.blank {ts : List Tok} {w : List UInt8} {l : List It} (h : Tk ts ((0, w) :: l)) : Tk ts l := h
theorem Tk.cons {ts : List Tok} {k : Int} {w : List UInt8} {l : List It} (h : Tk ts ((k, w) :: l)) (hk : k ≠ 0) : ∃ t r, ts = t :: r /\ tkT t = (k, w) /\ Tk r l := by
 have h2 : ts.map tkT = (k, w) :: fltI l := by
  rw [h]
  show List.filter _ _ = _
  rw [List.filter_cons, if_pos (by simpa using hk)]; rfl
 obtain ⟨t, r, e, h3, h4⟩ := List.map_eq_cons_iff.1 h2
 exact ⟨t, r, e, h3, h4⟩
theorem Tk.app {ts : List Tok} {a b : List It} (h : Tk ts (a ++ b)) : ∃ t1 t2, ts = t1 ++ t2 /\ Tk t1 a /\ Tk t2 b := by
 have h2 : ts.map tkT = fltI a ++ fltI b := by rw [h]; exact List.filter_append ..
 obtain ⟨t1, t2, e, h3, h4⟩ := List.map_eq_append_iff.1 h2
 exact ⟨t1, t2, e, h3, h4⟩
def Rd {α : Type} (N : Nat) (r : Option (Except Flt (α × List Tok))) (P : α -> Prop) (rest : List Tok) : Prop :=
 r = none \/ (∃ x, r = some (.ok (x, rest)) /\ P x) \/ (30 < N /\ ∃ a, r = some (.error (91, a)))
theorem Rd.ok {α : Type} {N : Nat} {x : α} {P : α -> Prop} {rest : List Tok} (h : P x) : Rd N (some (.ok (x, rest))) P rest := .inr (.inl ⟨x, rfl, h⟩)
theorem Rd.mono {α : Type} {N M : Nat} {r : Option (Except Flt (α × List Tok))} {P Q : α -> Prop} {rest : List Tok} (h : Rd N r P rest) (hn : N <= M) (hq : ∀ x, P x -> Q x) : Rd M r Q rest := by
 rcases h with h | ⟨x, h1, h2⟩ | ⟨h1, h2⟩
 ·exact .inl h
 ·exact .inr (.inl ⟨x, h1, hq x h2⟩)
 ·exact .inr (.inr ⟨by omega, h2⟩)
theorem Rd.bind {α β : Type} {N M : Nat} {m : PM α} {f : α -> PM β} {ts t1 rest : List Tok} {P : α -> Prop} {Q : β -> Prop} (h : Rd N (m ts) P t1) (hn : N <= M) (hf : ∀ x, P x -> Rd M (f x t1) Q rest) : Rd M (m.bind f ts) Q rest := by
 unfold PM.bind
 rcases h with h | ⟨x, h1, h2⟩ | ⟨h1, a, h2⟩
 ·rw [h]; exact .inl rfl
 ·rw [h1]; exact hf x h2
 ·rw [h2]; exact .inr (.inr ⟨by omega, a, rfl⟩)
theorem tx_list (w : List UInt8) : (tx w).toList = w := by rw [ByteArray.toList_eq]; rfl
theorem text_list (s : ByteArray) : s.toList = toL s := ByteArray.toList_eq s
theorem isT_hd {t : Tok} {r : List Tok} {k : Int} {w : List UInt8} (h : tkT t = (k, w)) (v : List UInt8) : isT (tx v) (t :: r) = (w == v && (k == 2 || k == 5)) := by
 unfold isT
 show ((t.text.toList == (tx v).toList) && (t.kind == 2 || t.kind == 5)) = _
 have h1 : t.kind = k := congrArg Prod.fst h
 have h2 : toL t.text = w := congrArg Prod.snd h
 rw [tx_list, text_list, h1, h2]
theorem next_hd {t : Tok} {r : List Tok} {k : Int} {w : List UInt8} (h : tkT t = (k, w)) (h6 : k ≠ 6) : nextT (t :: r) = r := by
 have h1 : t.kind = k := congrArg Prod.fst h
 unfold nextT
 show (if t.kind = 6 then _ else _) = _
 rw [h1, if_neg h6]; rfl
theorem must_hd {t : Tok} {r : List Tok} {k : Int} {w : List UInt8} (h : tkT t = (k, w)) (hk : k = 2 \/ k = 5) : mustP (tx w) (t :: r) = some (.ok ((), r)) := by
 unfold mustP
 rw [isT_hd h, next_hd h (by omega)]
 rcases hk with rfl | rfl <;> simp
def Nx (rest : List Tok) : Prop := isT (tx [40]) rest = false /\ isT (tx [91]) rest = false
def bothW (w : List UInt8) : Int × Int := match bothL.find? (fun p => w == p.1) with
 | some p => p.2
 | none => (0, 0)
theorem both_W (s : ByteArray) : bothS s = bothW (toL s) := by unfold bothS bothW; rw [text_list]; rfl
def Fw (least : Int) (rest : List Tok) : Prop := (rest.headD zTok).kind ≠ 5 \/ (bothS (rest.headD zTok).text).2 < least
mutual
def nsE : Ex -> Nat
 | .mk k op _ _ args _ _ _ =>
  let x := strongE (args.headD (.mk 0 0 0 ⟨#[]⟩ [] 0 0 0))
  let y := strongE (args.tail.headD (.mk 0 0 0 ⟨#[]⟩ [] 0 0 0))
  if k = 6 \/ k = 7 then 1 + (nsEs args).foldr max 0
  else if k = 8 then 1 + ((if x < 6 then 1 else 0) + (nsEs args).headD 0)
  else if k = 9 then max ((if x < leftB (strongB 9 op) then 1 else 0) + (nsEs args).headD 0) ((if y < strongB 9 op + 1 then 1 else 0) + (nsEs args).tail.headD 0)
  else 0
def nsEs : List Ex -> List Nat
 | [] => []
 | e :: l => nsE e :: nsEs l
end
def nsIn (least : Int) (e : Ex) : Nat := (if strongE e < least then 1 else 0) + nsE e
mutual
def bareE : Ex -> Ex
 | .mk k op num name args _ _ _ => .mk k op num name (bareEs args) 0 0 0
def bareEs : List Ex -> List Ex
 | [] => []
 | e :: l => bareE e :: bareEs l
end
def Sm (e x : Ex) : Prop := bareE x = bareE e
def moE (e : Ex) : Int := if strongE e = 6 then 5 else if strongE e = 3 then 2 else strongE e
def Ch (e : Ex) : Prop := ∀ n lv least ts rest, least <= strongE e -> Tk ts (itE e) -> Nx rest -> Fw (strongE e + 1) rest ->
  (prec numT n).strong least lv (ts ++ rest) = none \/ (∃ n' k x, Sm e x /\ (prec numT n).strong least lv (ts ++ rest) = strongL (prec numT n') least lv k (moE e) x rest) \/ (30 < lv + nsE e /\ ∃ a, (prec numT n).strong least lv (ts ++ rest) = some (.error (91, a)))
structure Bk (e : Ex) : Prop where
 one : ∀ n lv ts rest, Tk ts (inE 6 e) -> Nx rest -> Rd (lv + nsIn 6 e) ((prec numT n).one lv (ts ++ rest)) (Sm e) rest
 chain : Ch e
theorem strongL_stop (R : PRec) (least : Int) (lv k : Nat) (most : Int) (e : Ex) (ts : List Tok) (h : Fw least ts) : strongL R least lv k most e ts = none \/ strongL R least lv k most e ts = some (.ok (e, ts)) := by
 cases k with
 | zero => exact .inl rfl
 | succ k =>
  right
  unfold strongL
  dsimp only
  rw [if_pos]
  rcases h with h | h
  ·exact .inl h
  ·exact .inr (.inl h)
theorem strong_hi {o : Int} (h1 : 1 <= o) (h2 : o <= 13) : 1 <= strongB 9 o /\ strongB 9 o <= 5 := by
 have : o = 1 \/ o = 2 \/ o = 3 \/ o = 4 \/ o = 5 \/ o = 6 \/ o = 7 \/ o = 8 \/ o = 9 \/ o = 10 \/ o = 11 \/ o = 12 \/ o = 13 := by omega
 rcases this with rfl | rfl | rfl | rfl | rfl | rfl | rfl | rfl | rfl | rfl | rfl | rfl | rfl <;> decide
theorem op_both {o : Int} (h1 : 1 <= o) (h2 : o <= 13) : bothW (sgT o) = (o, strongB 9 o) := by
 have : o = 1 \/ o = 2 \/ o = 3 \/ o = 4 \/ o = 5 \/ o = 6 \/ o = 7 \/ o = 8 \/ o = 9 \/ o = 10 \/ o = 11 \/ o = 12 \/ o = 13 := by omega
 rcases this with rfl | rfl | rfl | rfl | rfl | rfl | rfl | rfl | rfl | rfl | rfl | rfl | rfl <;> decide
theorem op_nx {o : Int} (h1 : 1 <= o) (h2 : o <= 13) {t : Tok} {r : List Tok} (h : tkT t = (5, sgT o)) : Nx (t :: r) := by
 unfold Nx
 rw [isT_hd h, isT_hd h]
 have : o = 1 \/ o = 2 \/ o = 3 \/ o = 4 \/ o = 5 \/ o = 6 \/ o = 7 \/ o = 8 \/ o = 9 \/ o = 10 \/ o = 11 \/ o = 12 \/ o = 13 := by omega
 rcases this with rfl | rfl | rfl | rfl | rfl | rfl | rfl | rfl | rfl | rfl | rfl | rfl | rfl <;> decide
theorem strong_one {e : Ex} (h : strongE e = 6) (ho : ∀ n lv ts rest, Tk ts (itE e) -> Nx rest -> Rd (lv + nsE e) ((prec numT n).one lv (ts ++ rest)) (Sm e) rest) : Bk e := by
 refine ⟨fun n lv ts rest ht hx => ?_, fun n lv least ts rest hl ht hx hf => ?_⟩
 ·unfold inE at ht
  unfold nsIn
  rw [h] at ht ⊢
  have := ho n lv ts rest ht hx
  exact this.mono (by omega) (fun _ q => q)
 ·cases n with
  | zero => exact .inl rfl
  | succ n =>
   have e1 : (prec numT (n + 1)).strong least lv (ts ++ rest) = PM.bind ((prec numT n).one lv) (fun e => strongL (prec numT n) least lv n 5 e) (ts ++ rest) := rfl
   rw [e1]
   unfold PM.bind
   rcases ho n lv ts rest ht hx with q | ⟨x, q1, q2⟩ | ⟨q1, a, q2⟩
   ·rw [q]; exact .inl rfl
   ·rw [q1]
    right; left
    refine ⟨n, n, x, q2, ?_⟩
    unfold moE
    rw [if_pos h]
   ·rw [q2]; exact .inr (.inr ⟨q1, a, rfl⟩)
theorem chain_strong {e : Ex} (h : Ch e) (n lv : Nat) (least : Int) (hl : least <= strongE e) (ts rest : List Tok) (ht : Tk ts (itE e)) (hx : Nx rest) (hf : Fw least rest) : Rd (lv + nsE e) ((prec numT n).strong least lv (ts ++ rest)) (Sm e) rest := by
 have hf2 : Fw (strongE e + 1) rest := by
  rcases hf with q | q
  ·exact .inl q
  ·exact .inr (by omega)
 rcases h n lv least ts rest hl ht hx hf2 with q | ⟨n', k, x, q1, q2⟩ | ⟨q1, a, q2⟩
 ·rw [q]; exact .inl rfl
 ·rw [q2]
  rcases strongL_stop (prec numT n') least lv k (moE e) x rest hf with q | q
  ·rw [q]; exact .inl rfl
  ·rw [q]; exact Rd.ok q1
 ·rw [q2]; exact .inr (.inr ⟨q1, a, rfl⟩)
theorem strong_step (n : Nat) (least : Int) (lv : Nat) (ts : List Tok) : (prec numT (n + 1)).strong least lv ts = PM.bind ((prec numT n).one lv) (fun e => strongL (prec numT n) least lv n 5 e) ts := rfl
theorem Bk.strong {e : Ex} (h : Bk e) (n lv : Nat) (least : Int) (hl6 : least <= 6) (ts rest : List Tok) (ht : Tk ts (inE least e)) (hx : Nx rest) (hf : Fw least rest) : Rd (lv + nsIn least e) ((prec numT n).strong least lv (ts ++ rest)) (Sm e) rest := by
 by_cases hl : strongE e < least
 ·have h6 : strongE e < 6 := by omega
  have ht6 : Tk ts (inE 6 e) := by
   unfold inE at ht ⊢
   rw [decide_eq_true hl] at ht
   rw [decide_eq_true h6]; exact ht
  have hn : nsIn least e = nsIn 6 e := by unfold nsIn; rw [if_pos hl, if_pos h6]
  rw [hn]
  cases n with
  | zero => exact .inl rfl
  | succ n =>
   rw [strong_step]
   refine Rd.bind (h.one n lv ts rest ht6 hx) (Nat.le_refl _) (fun x hx => ?_)
   rcases strongL_stop (prec numT n) least lv n 5 x rest hf with q | q
   ·rw [q]; exact .inl rfl
   ·rw [q]; exact Rd.ok hx
 ·have ht0 : Tk ts (itE e) := by
   unfold inE at ht
   rw [decide_eq_false hl] at ht; exact ht
  have hn : nsIn least e = nsE e := by unfold nsIn; rw [if_neg hl]; omega
  rw [hn]
  exact chain_strong h.chain n lv least (by omega) ts rest ht0 hx hf
theorem Bk.left {l : Ex} (h : Bk l) {o : Int} (h1 : 1 <= o) (h2 : o <= 13) (n lv : Nat) (least : Int) (hl : least <= strongB 9 o) (ts r : List Tok) (t : Tok) (ht : Tk ts (inE (leftB (strongB 9 o)) l)) (hp : tkT t = (5, sgT o)) :
  (prec numT n).strong least lv (ts ++ t :: r) = none \/ (∃ n' k x m, Sm l x /\ strongB 9 o <= m /\ (prec numT n).strong least lv (ts ++ t :: r) = strongL (prec numT n') least lv k m x (t :: r)) \/ (30 < lv + nsIn (leftB (strongB 9 o)) l /\ ∃ a, (prec numT n).strong least lv (ts ++ t :: r) = some (.error (91, a))) := by
 obtain ⟨s, hs⟩ : ∃ s, s = strongB 9 o := ⟨_, rfl⟩
 have hb := strong_hi h1 h2
 have hx := op_nx h1 h2 (r := r) hp
 have ho : (bothS t.text).2 = s := by rw [both_W, show toL t.text = sgT o from congrArg Prod.snd hp, op_both h1 h2, hs]
 rw [<- hs] at hl ht hb ⊢
 have hlb : s <= leftB s /\ leftB s <= 5 /\ (s = 3 -> leftB s = 4) := by unfold leftB; split <;> omega
 by_cases hlt : strongE l < leftB s
 ·have h6 : strongE l < 6 := by omega
  have ht6 : Tk ts (inE 6 l) := by
   unfold inE at ht ⊢
   rw [decide_eq_true hlt] at ht
   rw [decide_eq_true h6]; exact ht
  have hn : nsIn (leftB s) l = nsIn 6 l := by unfold nsIn; rw [if_pos hlt, if_pos h6]
  rw [hn]
  cases n with
  | zero => exact .inl rfl
  | succ n =>
   rw [strong_step]
   unfold PM.bind
   rcases h.one n lv ts (t :: r) ht6 hx with q | ⟨x, q1, q2⟩ | ⟨q1, a, q2⟩
   ·rw [q]; exact .inl rfl
   ·rw [q1]; exact .inr (.inl ⟨n, n, x, 5, q2, hb.2, rfl⟩)
   ·rw [q2]; exact .inr (.inr ⟨q1, a, rfl⟩)
 ·have ht0 : Tk ts (itE l) := by
   unfold inE at ht
   rw [decide_eq_false hlt] at ht; exact ht
  have hn : nsIn (leftB s) l = nsE l := by unfold nsIn; rw [if_neg hlt]; omega
  rw [hn]
  have hf : Fw (strongE l + 1) (t :: r) := .inr (by show (bothS t.text).2 < _; rw [ho]; omega)
  rcases h.chain n lv least ts (t :: r) (by omega) ht0 hx hf with q | ⟨n', k, x, q1, q2⟩ | q
  ·exact .inl q
  ·refine .inr (.inl ⟨n', k, x, moE l, q1, ?_, q2⟩)
   unfold moE
   split
   ·exact hb.2
   ·split
    ·omega
    ·omega
  ·exact .inr (.inr q)
theorem rd_between {α : Type} {N lv : Nat} {l r : List UInt8} {read : Nat -> PM α} {tl tr : Tok} {ts rest : List Tok} {P : α -> Prop} (hl : tkT tl = (5, l)) (hr : tkT tr = (5, r)) (h : Rd (lv + 1 + N) (read (lv + 1) (ts ++ tr :: rest)) P (tr :: rest)) : Rd (lv + (1 + N)) (betweenP lv (tx l) read (tx r) (tl :: (ts ++ tr :: rest))) P rest := by
 unfold betweenP
 have h1 : isT (tx l) (tl :: (ts ++ tr :: rest)) = true := by rw [isT_hd hl]; simp
 rw [h1, if_pos rfl]
 unfold withinP
 by_cases h30 : lv = 30
 ·rw [if_pos h30]; exact .inr (.inr ⟨by omega, _, rfl⟩)
 ·rw [if_neg h30]
  dsimp only
  rw [next_hd hl (by decide)]
  refine Rd.bind h (by omega) (fun x hx => ?_)
  refine Rd.bind (N := 0) (P := fun _ => True) (t1 := rest) ?_ (Nat.zero_le _) (fun _ _ => Rd.ok hx)
  rw [must_hd hr (.inr rfl)]
  exact Rd.ok trivial
theorem close_fw {t : Tok} {r : List Tok} {w : List UInt8} {least : Int} (h : tkT t = (5, w)) (hw : (bothW w).2 < least) : Fw least (t :: r) := by
 right
 show (bothS t.text).2 < least
 rw [both_W, show toL t.text = w from congrArg Prod.snd h]; exact hw
theorem close_nx {t : Tok} {r : List Tok} {w : List UInt8} {k : Int} (h : tkT t = (k, w)) (h1 : w ≠ [40]) (h2 : w ≠ [91]) : Nx (t :: r) := by
 unfold Nx
 rw [isT_hd h, isT_hd h]
 simp [h1, h2]
theorem strong_ge {R : Prop} {e : Ex} (h : EOK R e) : 1 <= strongE e := by
 cases h with
 | both h1 h2 _ _ _ => exact (strong_hi h1 h2).1
 | _ => show (1 : Int) <= 6; decide
theorem ch_par {R : Prop} {e : Ex} (h : Ch e) (hk : EOK R e) {lv n : Nat} {l r : List UInt8} {tl tr : Tok} {ts rest : List Tok} (hl : tkT tl = (5, l)) (hr : tkT tr = (5, r)) (ht : Tk ts (itE e)) (hw : (bothW r).2 < 1) (h1 : r ≠ [40]) (h2 : r ≠ [91]) : Rd (lv + (1 + nsE e)) (betweenP lv (tx l) (fun lv => (prec numT n).strong 1 lv) (tx r) (tl :: (ts ++ tr :: rest))) (Sm e) rest :=
 rd_between hl hr (chain_strong h n (lv + 1) 1 (strong_ge hk) ts (tr :: rest) ht (close_nx hr h1 h2) (close_fw hr hw))
theorem one_step (n lv : Nat) (ts : List Tok) : (prec numT (n + 1)).one lv ts = oneP numT n (prec numT n) lv ts := rfl
theorem one_atom {n lv : Nat} {t : Tok} {r : List Tok} {k : Int} {w : List UInt8} (h : tkT t = (k, w)) (h1 : (w == [33] && (k == 2 || k == 5)) = false) (h2 : (w == [45] && (k == 2 || k == 5)) = false) : oneP numT n (prec numT n) lv (t :: r) = atomP numT n (prec numT n) lv (t :: r) := by
 unfold oneP
 rw [isT_hd h, isT_hd h, h1, h2]; rfl
theorem atom_name {n lv : Nat} {t : Tok} {r : List Tok} {w : List UInt8} (h : tkT t = (1, w)) : (prec numT (n + 1)).one lv (t :: r) = (if isT (tx [40]) r then callP n (prec numT n) lv t r
  else if isT (tx [91]) r then (indexP (prec numT n) lv).bind (fun l => .ret (.mk 6 0 0 t.text l t.at_ 0 0)) r
  else some (.ok (.mk 5 0 0 t.text [] t.at_ 0 0, r))) := by
 have hk : t.kind = 1 := congrArg Prod.fst h
 rw [one_step, one_atom h (by simp) (by simp)]
 unfold atomP
 have e1 : ((t :: r).headD zTok) = t := rfl
 simp only [e1, hk, isT_hd h, Bool.and_false, Bool.or_false, Bool.false_eq_true, if_false, show (1 : Int) ≠ 3 by decide, show (1 : Int) ≠ 4 by decide, show ((1 : Int) == 2) = false by decide, show ((1 : Int) == 5) = false by decide]
 have e2 : nameP (t :: r) = some (.ok (t, r)) := by
  unfold nameP nextP
  rw [e1, if_pos hk, next_hd h (by decide)]
 unfold PM.bind
 rw [e2]
theorem text_eq {t : Tok} {s : ByteArray} {k : Int} (h : tkT t = (k, toL s)) : t.text = s := by
 have h2 : toL t.text = toL s := congrArg Prod.snd h
 cases t with
 | mk a b c =>
  cases b; cases s
  simp only [toL] at h2
  have := Array.toList_inj.1 h2
  rw [this]
def Hd (l : List It) : Prop := ∀ ts, Tk ts l -> ∃ t r, ts = t :: r /\ ∀ v r', v = [41] \/ v = [59] -> isT (tx v) (t :: r') = false
theorem Hd.app {a b : List It} (h : Hd a) : Hd (a ++ b) := fun ts ht => by
 obtain ⟨t1, t2, rfl, h1, h2⟩ := ht.app
 obtain ⟨t, r, rfl, h3⟩ := h t1 h1
 exact ⟨t, r ++ t2, rfl, h3⟩
theorem hd_one {k : Int} {w : List UInt8} {l : List It} (hk : k ≠ 0) (h1 : (w == [41] && (k == 2 || k == 5)) = false) (h2 : (w == [59] && (k == 2 || k == 5)) = false) : Hd ((k, w) :: l) := fun ts ht => by
 obtain ⟨t, r, e, h3, _⟩ := ht.cons hk
 refine ⟨t, r, e, fun v r' hv => ?_⟩
 rcases hv with rfl | rfl
 ·rw [isT_hd h3]; exact h1
 ·rw [isT_hd h3]; exact h2
theorem Hd.par {l : List It} (h : Hd l) (b : Bool) : Hd (parI b l) := by
 cases b with
 | false => exact h
 | true => exact hd_one (by decide) (by decide) (by decide)
theorem hdE {R : Prop} {e : Ex} (h : EOK R e) : Hd (itE e) := by
 induction h with
 | int _ _ => exact hd_one (by decide) (by simp) (by simp)
 | fix _ _ => exact hd_one (by decide) (by simp) (by simp)
 | bool h _ => rcases h with rfl | rfl <;> exact hd_one (by decide) (by decide) (by decide)
 | null _ => exact hd_one (by decide) (by decide) (by decide)
 | name _ _ => exact hd_one (by decide) (by simp) (by simp)
 | index _ _ _ _ => exact hd_one (by decide) (by simp) (by simp)
 | call _ _ _ _ _ => exact hd_one (by decide) (by simp) (by simp)
 | one ho _ _ _ => rcases ho with rfl | rfl <;> exact hd_one (by decide) (by decide) (by decide)
 | both _ _ _ _ _ ih _ => exact (ih.par _).app
theorem rowI_true (l : List (List It)) : rowI l true = if l = [] then [] else (5, [44]) :: (0, [32]) :: rowI l false := by
 cases l with
 | nil => rfl
 | cons x l => rw [if_neg (by simp)]; rfl
theorem rd_row {R : Prop} : ∀ (l : List Ex), (∀ x ∈ l, EOK R x) -> (∀ x ∈ l, Bk x) -> ∀ (m n lv : Nat) (acc : List Ex) (ts rest : List Tok) (tr : Tok), tkT tr = (5, [41]) -> Tk ts (rowI (l.map itE) false) ->
  Rd (lv + (l.map nsE).foldr max 0) (rowP (tx [41]) (fun _ => exprP (prec numT n) lv) m acc (ts ++ tr :: rest)) (fun x => ∃ y, x = acc ++ y /\ bareEs y = bareEs l) (tr :: rest)
 | [], hk, h, m, n, lv, acc, ts, rest, tr, htr, ht => by
  obtain rfl := Tk.nil ht
  cases m with
  | zero => exact .inl rfl
  | succ m =>
   unfold rowP
   rw [List.nil_append, isT_hd htr, show (([41] : List UInt8) == [41] && ((5 : Int) == 2 || (5 : Int) == 5)) = true from rfl, if_pos rfl]
   exact Rd.ok ⟨[], by simp, rfl⟩
 | x :: l, hk, h, m, n, lv, acc, ts, rest, tr, htr, ht => by
  have ht2 : Tk ts (itE x ++ rowI (l.map itE) true) := ht
  obtain ⟨t1, t2, rfl, h1, h2⟩ := ht2.app
  have hkx := hk x List.mem_cons_self
  obtain ⟨th, tr1, he, hh⟩ := hdE hkx t1 h1
  cases m with
  | zero => exact .inl rfl
  | succ m =>
   unfold rowP
   have e0 : isT (tx [41]) (t1 ++ t2 ++ tr :: rest) = false := by rw [he]; exact hh _ _ (.inl rfl)
   rw [e0, List.append_assoc]
   simp only [Bool.false_eq_true, if_false]
   have hmx : lv + nsE x <= lv + ((x :: l).map nsE).foldr max 0 := by
    show lv + nsE x <= lv + max (nsE x) ((l.map nsE).foldr max 0)
    omega
   have hs : ∀ (t : Tok) (r : List Tok) (w : List UInt8), tkT t = (5, w) -> (bothW w).2 < 1 -> w ≠ [40] -> w ≠ [91] -> Rd (lv + nsE x) (exprP (prec numT n) lv (t1 ++ t :: r)) (Sm x) (t :: r) := fun t r w ht hw q1 q2 =>
    chain_strong (h x List.mem_cons_self).chain n lv 1 (strong_ge hkx) t1 (t :: r) h1 (close_nx ht q1 q2) (close_fw ht hw)
   by_cases hl : l = []
   ·subst hl
    obtain rfl := Tk.nil h2
    refine Rd.bind (hs tr rest [41] htr (by decide) (by decide) (by decide)) hmx (fun y hy => ?_)
    rw [isT_hd htr, show (([41] : List UInt8) == [41] && ((5 : Int) == 2 || (5 : Int) == 5)) = true from rfl, if_pos rfl]
    exact Rd.ok ⟨[y], rfl, by show [bareE y] = [bareE x]; rw [hy]⟩
   ·rw [rowI_true, if_neg (by simpa using hl)] at h2
    obtain ⟨tc, t3, rfl, hc, h3⟩ := h2.cons (by decide)
    have h4 := h3.blank
    refine Rd.bind (hs tc (t3 ++ tr :: rest) [44] hc (by decide) (by decide) (by decide)) hmx (fun y hy => ?_)
    show Rd _ (if isT (tx [41]) (tc :: (t3 ++ tr :: rest)) then _ else _) _ _
    rw [isT_hd hc, show (([44] : List UInt8) == [41] && ((5 : Int) == 2 || (5 : Int) == 5)) = false from rfl]
    simp only [Bool.false_eq_true, if_false]
    refine Rd.bind (N := 0) (P := fun _ => True) (t1 := t3 ++ tr :: rest) ?_ (Nat.zero_le _) (fun _ _ => ?_)
    ·rw [must_hd hc (.inr rfl)]; exact Rd.ok trivial
    ·have e1 : isT (tx [41]) (t3 ++ tr :: rest) = false := by
      cases l with
      | nil => exact absurd rfl hl
      | cons z l =>
       have h5 : Tk t3 (itE z ++ rowI (l.map itE) true) := h4
       obtain ⟨u1, u2, rfl, g1, g2⟩ := h5.app
       obtain ⟨th, tr1, rfl, hh⟩ := hdE (hk z (by simp)) u1 g1
       exact hh _ _ (.inl rfl)
     rw [e1]
     simp only [Bool.false_eq_true, if_false]
     refine (rd_row l (fun x hx => hk x (List.mem_cons_of_mem _ hx)) (fun x hx => h x (List.mem_cons_of_mem _ hx)) m n lv (acc ++ [y]) t3 rest tr htr h4).mono ?_ ?_
     ·show lv + (l.map nsE).foldr max 0 <= lv + max (nsE x) ((l.map nsE).foldr max 0)
      omega
     ·rintro z ⟨q, rfl, hq⟩
      refine ⟨y :: q, by simp, ?_⟩
      show bareE y :: bareEs q = bareE x :: bareEs l
      rw [hq, hy]
theorem nsEs_map (l : List Ex) : nsEs l = l.map nsE := by
 induction l with
 | nil => rfl
 | cons e l ih => show nsE e :: nsEs l = _; rw [ih]; rfl
theorem one_tok {n lv : Nat} {t : Tok} {r : List Tok} {k : Int} {w : List UInt8} (h : tkT t = (k, w)) (hk : k = 3 \/ k = 4 \/ (k = 2 /\ (w = [116, 114, 117, 101] \/ w = [102, 97, 108, 115, 101] \/ w = [110, 117, 108, 108]))) :
  (prec numT (n + 1)).one lv (t :: r) = some (.ok (if k = 3 then .mk 1 0 (numT t) n0 [] t.at_ 0 0 else if k = 4 then .mk 2 0 (numT t) n0 [] t.at_ 0 0 else if w = [116, 114, 117, 101] then .mk 3 0 1 n0 [] t.at_ 0 0 else if w = [102, 97, 108, 115, 101] then .mk 3 0 0 n0 [] t.at_ 0 0 else .mk 4 0 0 n0 [] t.at_ 0 0, r)) := by
 have h1 : t.kind = k := congrArg Prod.fst h
 have e1 : ((t :: r).headD zTok) = t := rfl
 rw [one_step, one_atom h (by rcases hk with rfl | rfl | ⟨rfl, rfl | rfl | rfl⟩ <;> simp) (by rcases hk with rfl | rfl | ⟨rfl, rfl | rfl | rfl⟩ <;> simp)]
 unfold atomP
 simp only [e1, h1, isT_hd h, next_hd h (show k ≠ 6 by omega)]
 rcases hk with rfl | rfl | ⟨rfl, rfl | rfl | rfl⟩ <;> simp
theorem bk_all {R : Prop} {e : Ex} (h : EOK R e) : Bk e := by
 induction h with
 | @int v a t p hv _ =>
  refine strong_one rfl (fun n lv ts rest ht hx => ?_)
  obtain ⟨u, r, rfl, hu, hr⟩ := ht.cons (show (3 : Int) ≠ 0 by decide)
  obtain rfl := hr.nil
  cases n with
  | zero => exact .inl rfl
  | succ n =>
   rw [List.singleton_append, one_tok hu (.inl rfl), if_pos rfl]
   refine Rd.ok ?_
   have : numT u = v := by
    unfold numT
    have h1 : u.kind = 3 := congrArg Prod.fst hu
    have h2 : toL u.text = Lib.itoa v := congrArg Prod.snd hu
    rw [h1, if_neg (by decide)]
    show (decU (toL u.text) : Int) = v
    rw [h2, itoa_nat, decU_dec]
   rw [this]; rfl
 | @fix v a t p hv _ =>
  refine strong_one rfl (fun n lv ts rest ht hx => ?_)
  obtain ⟨u, r, rfl, hu, hr⟩ := ht.cons (show (4 : Int) ≠ 0 by decide)
  obtain rfl := hr.nil
  cases n with
  | zero => exact .inl rfl
  | succ n =>
   rw [List.singleton_append, one_tok hu (.inr (.inl rfl)), if_neg (by decide), if_pos rfl]
   refine Rd.ok ?_
   have : numT u = v := by
    unfold numT
    have h1 : u.kind = 4 := congrArg Prod.fst hu
    have h2 : toL u.text = fixT v := congrArg Prod.snd hu
    rw [h1, if_pos rfl]
    show (fixP (toL u.text)).getD 0 = v
    rw [h2, (fixP_fixT v hv).1]; rfl
   rw [this]; rfl
 | @bool v a t p hv _ =>
  rcases hv with rfl | rfl
  ·refine strong_one rfl (fun n lv ts rest ht hx => ?_)
   obtain ⟨u, r, rfl, hu, hr⟩ := ht.cons (w := [102, 97, 108, 115, 101]) (show (2 : Int) ≠ 0 by decide)
   obtain rfl := Tk.nil hr
   cases n with
   | zero => exact .inl rfl
   | succ n =>
    rw [List.singleton_append, one_tok hu (.inr (.inr ⟨rfl, .inr (.inl rfl)⟩))]
    exact Rd.ok rfl
  ·refine strong_one rfl (fun n lv ts rest ht hx => ?_)
   obtain ⟨u, r, rfl, hu, hr⟩ := ht.cons (w := [116, 114, 117, 101]) (show (2 : Int) ≠ 0 by decide)
   obtain rfl := Tk.nil hr
   cases n with
   | zero => exact .inl rfl
   | succ n =>
    rw [List.singleton_append, one_tok hu (.inr (.inr ⟨rfl, .inl rfl⟩))]
    exact Rd.ok rfl
 | @null a t p _ =>
  refine strong_one rfl (fun n lv ts rest ht hx => ?_)
  obtain ⟨u, r, rfl, hu, hr⟩ := ht.cons (w := [110, 117, 108, 108]) (show (2 : Int) ≠ 0 by decide)
  obtain rfl := Tk.nil hr
  cases n with
  | zero => exact .inl rfl
  | succ n =>
   rw [List.singleton_append, one_tok hu (.inr (.inr ⟨rfl, .inr (.inr rfl)⟩))]
   exact Rd.ok rfl
 | @name s a t p hn _ =>
  refine strong_one rfl (fun n lv ts rest ht hx => ?_)
  obtain ⟨u, r, rfl, hu, hr⟩ := ht.cons (w := toL s) (show (1 : Int) ≠ 0 by decide)
  obtain rfl := Tk.nil hr
  cases n with
  | zero => exact .inl rfl
  | succ n =>
   rw [List.singleton_append, atom_name hu, hx.1, hx.2]
   simp only [Bool.false_eq_true, if_false]
   rw [text_eq hu]
   exact Rd.ok rfl
 | @index s x a t p hn hk _ ih =>
  refine strong_one rfl (fun n lv ts rest ht hx => ?_)
  have ht2 : Tk ts ((1, toL s) :: (5, [91]) :: (itE x ++ [(5, [93])])) := ht
  obtain ⟨u, r, rfl, hu, hr⟩ := ht2.cons (by decide)
  obtain ⟨ul, r1, rfl, hl, hr1⟩ := hr.cons (by decide)
  obtain ⟨u1, u2, rfl, h1, h2⟩ := hr1.app
  obtain ⟨ur, r2, rfl, hrr, hr2⟩ := h2.cons (by decide)
  obtain rfl := hr2.nil
  cases n with
  | zero => exact .inl rfl
  | succ n =>
   have e1 : (u :: ul :: (u1 ++ [ur])) ++ rest = u :: ul :: (u1 ++ ur :: rest) := by simp
   rw [e1, atom_name hu, isT_hd hl, isT_hd hl, show (([91] : List UInt8) == [40] && ((5 : Int) == 2 || (5 : Int) == 5)) = false from rfl, show (([91] : List UInt8) == [91] && ((5 : Int) == 2 || (5 : Int) == 5)) = true from rfl]
   simp only [Bool.false_eq_true, if_false, if_true]
   have en : nsE (.mk 6 0 0 s [x] a t p) = 1 + max (nsE x) 0 := rfl
   rw [en]
   refine Rd.bind (N := lv + (1 + nsE x)) (P := fun l => bareEs l = [bareE x]) (t1 := rest) ?_ (by omega) (fun y hy => ?_)
   ·unfold indexP
    refine rd_between hl hrr ?_
    refine Rd.bind (chain_strong ih.chain n (lv + 1) 1 (strong_ge hk) u1 (ur :: rest) h1 (close_nx hrr (by decide) (by decide)) (close_fw hrr (by decide))) (Nat.le_refl _) (fun y hy => Rd.ok ?_)
    show [bareE y] = [bareE x]
    rw [hy]
   ·refine Rd.ok ?_
    rw [text_eq hu]
    show Ex.mk 6 0 0 s (bareEs y) 0 0 0 = Ex.mk 6 0 0 s [bareE x] 0 0 0
    rw [hy]
 | @call s l a t p hn hlen hk _ ih =>
  refine strong_one rfl (fun n lv ts rest ht hx => ?_)
  have ht2 : Tk ts ((1, toL s) :: (5, [40]) :: (rowI (itEs l) false ++ [(5, [41])])) := ht
  obtain ⟨u, r, rfl, hu, hr⟩ := ht2.cons (by decide)
  obtain ⟨ul, r1, rfl, hl, hr1⟩ := hr.cons (by decide)
  obtain ⟨u1, u2, rfl, h1, h2⟩ := hr1.app
  obtain ⟨ur, r2, rfl, hrr, hr2⟩ := h2.cons (by decide)
  obtain rfl := hr2.nil
  rw [itEs_map] at h1
  cases n with
  | zero => exact .inl rfl
  | succ n =>
   have e1 : (u :: ul :: (u1 ++ [ur])) ++ rest = u :: ul :: (u1 ++ ur :: rest) := by simp
   rw [e1, atom_name hu, isT_hd hl, show (([40] : List UInt8) == [40] && ((5 : Int) == 2 || (5 : Int) == 5)) = true from rfl]
   simp only [if_true]
   have en : nsE (.mk 7 0 0 s l a t p) = 1 + (nsEs l).foldr max 0 := rfl
   rw [en, nsEs_map]
   unfold callP
   refine Rd.bind (N := lv + (1 + (l.map nsE).foldr max 0)) (P := fun y => bareEs y = bareEs l) (t1 := rest) ?_ (Nat.le_refl _) (fun y hy => ?_)
   ·refine rd_between hl hrr ?_
    exact (rd_row l hk ih n n (lv + 1) [] u1 rest ur hrr h1).mono (Nat.le_refl _) (fun x ⟨y, h3, h4⟩ => by rw [h3]; exact h4)
   ·refine Rd.ok ?_
    rw [text_eq hu]
    show Ex.mk 7 0 0 s (bareEs y) 0 0 0 = Ex.mk 7 0 0 s (bareEs l) 0 0 0
    rw [hy]
 | @one o x a t p ho hk _ ih =>
  refine strong_one rfl (fun n lv ts rest ht hx => ?_)
  have ht2 : Tk ts ((5, sgT o) :: inE 6 x) := ht
  obtain ⟨u, r, rfl, hu, hr⟩ := ht2.cons (by decide)
  have en : nsE (.mk 8 o 0 n0 [x] a t p) = 1 + nsIn 6 x := rfl
  rw [en]
  cases n with
  | zero => exact .inl rfl
  | succ n =>
   have key : ∀ (q : Int) (m : Int), q = o -> Rd (lv + (1 + nsIn 6 x)) (withinP lv (fun lv ts => ((prec numT n).one lv).bind (fun e => .ret (.mk 8 q 0 ⟨#[]⟩ [e] m 0 0)) (nextT ts)) (u :: (r ++ rest))) (Sm (.mk 8 o 0 n0 [x] a t p)) rest := by
    intro q m hq
    unfold withinP
    by_cases h30 : lv = 30
    ·rw [if_pos h30]; exact .inr (.inr ⟨by omega, _, rfl⟩)
    ·rw [if_neg h30]
     dsimp only
     rw [next_hd hu (by decide)]
     refine Rd.bind (ih.one n (lv + 1) r rest hr hx) (by omega) (fun y hy => Rd.ok ?_)
     show Ex.mk 8 q 0 n0 [bareE y] 0 0 0 = Ex.mk 8 o 0 n0 [bareE x] 0 0 0
     rw [hy, hq]
   rw [one_step]
   unfold oneP
   show Rd _ (if isT _ (u :: (r ++ rest)) then _ else if isT _ (u :: (r ++ rest)) then _ else _) _ _
   rw [isT_hd hu, isT_hd hu]
   rcases ho with rfl | rfl
   ·rw [show (sgT 14 == [33] && ((5 : Int) == 2 || (5 : Int) == 5)) = false from rfl, show (sgT 14 == [45] && ((5 : Int) == 2 || (5 : Int) == 5)) = true from rfl]
    simp only [Bool.false_eq_true, if_false, if_true]
    exact key 14 _ rfl
   ·rw [show (sgT 15 == [33] && ((5 : Int) == 2 || (5 : Int) == 5)) = true from rfl]
    simp only [if_true]
    exact key 15 _ rfl
 | @both o x y a t p h1 h2 hx hy hr ix iy =>
  have hs := strong_hi h1 h2
  have es : strongE (.mk 9 o 0 n0 [x, y] a t p) = strongB 9 o := rfl
  have en : nsE (.mk 9 o 0 n0 [x, y] a t p) = max (nsIn (leftB (strongB 9 o)) x) (nsIn (strongB 9 o + 1) y) := rfl
  have hc : Ch (.mk 9 o 0 n0 [x, y] a t p) := by
   intro n lv least ts rest hl ht hnx hf
   have ht2 : Tk ts (inE (leftB (strongB 9 o)) x ++ (0, [32]) :: (5, sgT o) :: (0, [32]) :: inE (strongB 9 o + 1) y) := ht
   obtain ⟨u1, u2, rfl, g1, g2⟩ := ht2.app
   obtain ⟨u, u3, rfl, g3, g4⟩ := g2.blank.cons (by decide)
   have g5 := g4.blank
   rw [es] at hl hf
   rw [en]
   have ea : u1 ++ u :: u3 ++ rest = u1 ++ u :: (u3 ++ rest) := by simp
   rw [ea]
   rcases ix.left h1 h2 n lv least hl u1 (u3 ++ rest) u g1 g3 with q | ⟨n', k, x', m, q1, q2, q3⟩ | ⟨q1, q2⟩
   ·exact .inl q
   ·rw [q3]
    cases k with
    | zero => exact .inl rfl
    | succ k =>
     have e1 : strongL (prec numT n') least lv (k + 1) m x' (u :: (u3 ++ rest)) = PM.bind ((prec numT n').strong (strongB 9 o + 1) lv) (fun e2 => strongL (prec numT n') least lv k (if strongB 9 o = 3 then 2 else strongB 9 o) (.mk 9 o 0 ⟨#[]⟩ [x', e2] u.at_ 0 0)) (u3 ++ rest) := by
      conv => lhs; unfold strongL
      have h5 : u.kind = 5 := congrArg Prod.fst g3
      have hb : bothS u.text = (o, strongB 9 o) := by rw [both_W, show toL u.text = sgT o from congrArg Prod.snd g3, op_both h1 h2]
      have eh : (u :: (u3 ++ rest)).headD zTok = u := rfl
      simp only [eh, hb, h5]
      rw [if_neg (by omega), next_hd g3 (by decide)]
     rw [e1]
     unfold PM.bind
     rcases iy.strong n' lv (strongB 9 o + 1) (by omega) u3 rest g5 hnx hf with q | ⟨y', p1, p2⟩ | ⟨p1, a1, p2⟩
     ·rw [q]; exact .inl rfl
     ·rw [p1]
      right; left
      refine ⟨n', k, .mk 9 o 0 n0 [x', y'] u.at_ 0 0, ?_, ?_⟩
      ·show Ex.mk 9 o 0 n0 [bareE x', bareE y'] 0 0 0 = Ex.mk 9 o 0 n0 [bareE x, bareE y] 0 0 0
       rw [q1, p2]
      ·unfold moE
       rw [es, if_neg (show ¬ strongB 9 o = 6 by omega)]
     ·rw [p2]; exact .inr (.inr ⟨by omega, a1, rfl⟩)
   ·exact .inr (.inr ⟨by omega, q2⟩)
  refine ⟨fun n lv ts rest ht hnx => ?_, hc⟩
  have h6 : strongE (.mk 9 o 0 n0 [x, y] a t p) < 6 := by rw [es]; omega
  have ht2 : Tk ts ((5, [40]) :: (itE (.mk 9 o 0 n0 [x, y] a t p) ++ [(5, [41])])) := by
   unfold inE at ht
   rw [decide_eq_true h6] at ht; exact ht
  have e6 : nsIn 6 (.mk 9 o 0 n0 [x, y] a t p) = 1 + nsE (.mk 9 o 0 n0 [x, y] a t p) := by unfold nsIn; rw [if_pos h6]
  rw [e6]
  obtain ⟨ul, r1, rfl, hl, hr1⟩ := ht2.cons (by decide)
  obtain ⟨u1, u2, rfl, g1, g2⟩ := hr1.app
  obtain ⟨ur, r2, rfl, hrr, hr2⟩ := g2.cons (by decide)
  obtain rfl := hr2.nil
  cases n with
  | zero => exact .inl rfl
  | succ n =>
   have e1 : (ul :: (u1 ++ [ur])) ++ rest = ul :: (u1 ++ ur :: rest) := by simp
   rw [e1, one_step, one_atom hl (by decide) (by decide)]
   unfold atomP
   have h5 : ul.kind = 5 := congrArg Prod.fst hl
   have eh : (ul :: (u1 ++ ur :: rest)).headD zTok = ul := rfl
   simp only [eh, h5, isT_hd hl]
   exact ch_par hc (.both h1 h2 hx hy hr) hl hrr g1 (by decide) (by decide) (by decide)
mutual
def nsS : St -> Nat
 | .mk k _ _ exprs body els _ _ =>
  if k = 3 then max (1 + (nsEs exprs).headD 0) ((nsEs exprs).tail.headD 0)
  else if k = 4 then max ((nsEs exprs).headD 0) (max (1 + (nsSs body).foldr max 0) (if els.length = 0 then 0 else 1 + (nsSs els).foldr max 0))
  else if k = 5 then max ((nsEs exprs).headD 0) (1 + (nsSs body).foldr max 0)
  else (nsEs exprs).headD 0
def nsSs : List St -> List Nat
 | [] => []
 | s :: l => nsS s :: nsSs l
end
theorem nsSs_map (l : List St) : nsSs l = l.map nsS := by
 induction l with
 | nil => rfl
 | cons e l ih => show nsS e :: nsSs l = _; rw [ih]; rfl
mutual
def bareS : St -> St
 | .mk k name type exprs body els _ _ => .mk k name type (bareEs exprs) (bareSs body) (bareSs els) 0 0
def bareSs : List St -> List St
 | [] => []
 | s :: l => bareS s :: bareSs l
end
def Ss (s x : St) : Prop := bareS x = bareS s
theorem word_no {t : Tok} {r : List Tok} {w : List UInt8} (h : tkT t = (1, w)) (v : List UInt8) : isT (tx v) (t :: r) = false := by
 rw [isT_hd h]; simp
theorem name_hd {t : Tok} {r : List Tok} {w : List UInt8} (h : tkT t = (1, w)) : nameP (t :: r) = some (.ok (t, r)) := by
 have e1 : ((t :: r).headD zTok) = t := rfl
 have hk : t.kind = 1 := congrArg Prod.fst h
 unfold nameP nextP
 rw [e1, if_pos hk, next_hd h (by decide)]
theorem rd_must {β : Type} {M : Nat} {t : Tok} {r rest : List Tok} {k : Int} {w : List UInt8} (h : tkT t = (k, w)) (hk : k = 2 \/ k = 5) {f : Unit -> PM β} {Q : β -> Prop} (hf : Rd M (f () r) Q rest) : Rd M ((mustP (tx w)).bind f (t :: r)) Q rest := by
 unfold PM.bind
 rw [must_hd h hk]; exact hf
theorem rd_name {β : Type} {M : Nat} {t : Tok} {r rest : List Tok} {w : List UInt8} (h : tkT t = (1, w)) {f : Tok -> PM β} {Q : β -> Prop} (hf : Rd M (f t r) Q rest) : Rd M (nameP.bind f (t :: r)) Q rest := by
 unfold PM.bind
 rw [name_hd h]; exact hf
theorem may_hd {t : Tok} {r : List Tok} {k : Int} {w : List UInt8} (h : tkT t = (k, w)) (h6 : k ≠ 6) (v : List UInt8) : mayP (tx v) (t :: r) = some (.ok (if (w == v && (k == 2 || k == 5)) = true then (true, r) else (false, t :: r))) := by
 unfold mayP
 rw [isT_hd h, next_hd h h6]
 split <;> rfl
theorem scalar_hd {t : Tok} {r : List Tok} {ty : Int} (hty : typedB ty = true) (h : tkT t = (2, tyT ty)) : scalarP (t :: r) = some (.ok (ty, r)) := by
 unfold typedB at hty
 rw [decide_eq_true_eq] at hty
 unfold scalarP
 simp only [isT_hd h, next_hd h (show (2 : Int) ≠ 6 by decide)]
 have : ty = 1 \/ ty = 2 \/ ty = 3 \/ ty = 4 := by omega
 rcases this with rfl | rfl | rfl | rfl <;> rfl
theorem rd_scalar {β : Type} {M : Nat} {t : Tok} {r rest : List Tok} {ty : Int} (hty : typedB ty = true) (h : tkT t = (2, tyT ty)) {f : Int -> PM β} {Q : β -> Prop} (hf : Rd M (f ty r) Q rest) : Rd M (scalarP.bind f (t :: r)) Q rest := by
 unfold PM.bind
 rw [scalar_hd hty h]; exact hf
theorem rd_expr {R : Prop} {β : Type} {e : Ex} (h : EOK R e) {n lv M : Nat} {ts r rest : List Tok} {t : Tok} {w : List UInt8} (ht : Tk ts (itE e)) (hp : tkT t = (5, w)) (hw : (bothW w).2 < 1) (h1 : w ≠ [40]) (h2 : w ≠ [91]) (hM : lv + nsE e <= M) {f : Ex -> PM β} {Q : β -> Prop} (hf : ∀ x, Sm e x -> Rd M (f x (t :: r)) Q rest) : Rd M ((exprP (prec numT n) lv).bind f (ts ++ t :: r)) Q rest :=
 Rd.bind (chain_strong (bk_all h).chain n lv 1 (strong_ge h) ts (t :: r) ht (close_nx hp h1 h2) (close_fw hp hw)) hM hf
theorem rd_semi {M : Nat} {t : Tok} {r : List Tok} (h : tkT t = (5, [59])) {s x : St} (hs : Ss s x) : Rd M (semiP x (t :: r)) (Ss s) r := rd_must h (.inr rfl) (Rd.ok hs)
def HdS (l : List It) : Prop := ∀ ts, Tk ts l -> ∃ t r, ts = t :: r /\ ∀ r', startsT (t :: r') = true /\ isT (tx [101, 108, 115, 101]) (t :: r') = false
theorem hds_name {w : List UInt8} {l : List It} : HdS ((1, w) :: l) := fun ts ht => by
 obtain ⟨t, r, e, h3, _⟩ := ht.cons (show (1 : Int) ≠ 0 by decide)
 refine ⟨t, r, e, fun r' => ⟨?_, word_no h3 _⟩⟩
 unfold startsT
 show (t.kind == 1 || _ || _ || _ || _) = true
 rw [show t.kind = 1 from congrArg Prod.fst h3]; rfl
theorem hds_word {w : List UInt8} {l : List It} (hw : w = [108, 101, 116] \/ w = [105, 102] \/ w = [119, 104, 105, 108, 101] \/ w = [114, 101, 116, 117, 114, 110]) : HdS ((2, w) :: l) := fun ts ht => by
 obtain ⟨t, r, e, h3, _⟩ := ht.cons (show (2 : Int) ≠ 0 by decide)
 refine ⟨t, r, e, fun r' => ?_⟩
 unfold startsT
 simp only [isT_hd h3]
 rcases hw with rfl | rfl | rfl | rfl <;> simp
theorem hdS {R : Prop} {s : St} (h : SOK R s) (ind : Nat) : HdS (itS s ind) := by
 cases h with
 | lt _ _ _ _ => exact hds_word (.inl rfl)
 | set _ _ _ => exact hds_name
 | put _ _ _ _ => exact hds_name
 | iff _ _ _ _ _ _ => exact hds_word (.inr (.inl rfl))
 | whl _ _ _ _ => exact hds_word (.inr (.inr (.inl rfl)))
 | ret0 _ => exact hds_word (.inr (.inr (.inr rfl)))
 | ret _ _ => exact hds_word (.inr (.inr (.inr rfl)))
 | @call e a p hk he _ =>
  cases he with
  | call _ _ _ _ => exact hds_name
  | _ => exact absurd hk (by simp [Ex.kind])
structure Sb (s : St) : Prop where
 stmt : ∀ n lv ind ts rest, Tk ts (itS s ind) -> isT (tx [101, 108, 115, 101]) rest = false -> Rd (lv + nsS s) ((prec numT n).stmt lv (ts ++ rest)) (Ss s) rest
 choice : s.kind = 4 -> ∀ n lv ind ts rest, Tk ts (itS s ind) -> isT (tx [101, 108, 115, 101]) rest = false -> Rd (lv + nsS s) ((prec numT n).choice lv (ts ++ rest)) (Ss s) rest
theorem rd_stmts {R : Prop} : ∀ (l : List St), (∀ x ∈ l, SOK R x) -> (∀ x ∈ l, Sb x) -> ∀ (m n lv ind : Nat) (acc : List St) (ts rest : List Tok) (tr : Tok), tkT tr = (5, [125]) -> Tk ts (linI ind (l.map itS)) -> acc.length + l.length <= 400 ->
  Rd (lv + (l.map nsS).foldr max 0) (stmtsL (prec numT n) lv m acc (ts ++ tr :: rest)) (fun x => ∃ y, x = acc ++ y /\ bareSs y = bareSs l) (tr :: rest)
 | [], hk, h, m, n, lv, ind, acc, ts, rest, tr, htr, ht, hl => by
  obtain rfl := Tk.nil ht
  cases m with
  | zero => exact .inl rfl
  | succ m =>
   unfold stmtsL
   have e0 : startsT ([] ++ tr :: rest) = false := by
    unfold startsT
    rw [List.nil_append]
    simp only [isT_hd htr]
    show (tr.kind == 1 || _ || _ || _ || _) = false
    rw [show tr.kind = 5 from congrArg Prod.fst htr]; rfl
   rw [e0]
   exact Rd.ok ⟨[], by simp, rfl⟩
 | x :: l, hk, h, m, n, lv, ind, acc, ts, rest, tr, htr, ht, hl => by
  have ht2 : Tk ts ((0, tabsT ind) :: (itS x ind ++ (0, [10]) :: linI ind (l.map itS))) := ht
  obtain ⟨t1, t2, rfl, h1, h2⟩ := ht2.blank.app
  have h3 := h2.blank
  obtain ⟨th, tr1, he, hh⟩ := hdS (hk x List.mem_cons_self) ind t1 h1
  cases m with
  | zero => exact .inl rfl
  | succ m =>
   unfold stmtsL
   have e0 : startsT (t1 ++ t2 ++ tr :: rest) = true := by rw [he]; exact (hh _).1
   rw [e0, if_pos rfl, if_neg (by simp at hl; omega), List.append_assoc]
   have hmx : lv + nsS x <= lv + ((x :: l).map nsS).foldr max 0 := by
    show lv + nsS x <= lv + max (nsS x) ((l.map nsS).foldr max 0)
    omega
   have hne : isT (tx [101, 108, 115, 101]) (t2 ++ tr :: rest) = false := by
    cases l with
    | nil =>
     obtain rfl := Tk.nil h3
     rw [List.nil_append, isT_hd htr]; rfl
    | cons z l =>
     have h5 : Tk t2 ((0, tabsT ind) :: (itS z ind ++ (0, [10]) :: linI ind (l.map itS))) := h3
     obtain ⟨u1, u2, rfl, g1, g2⟩ := h5.blank.app
     obtain ⟨th, tr1, rfl, hh⟩ := hdS (hk z (by simp)) ind u1 g1
     exact (hh _).2
   refine Rd.bind ((h x List.mem_cons_self).stmt n lv ind t1 (t2 ++ tr :: rest) h1 hne) hmx (fun y hy => ?_)
   refine (rd_stmts l (fun x hx => hk x (List.mem_cons_of_mem _ hx)) (fun x hx => h x (List.mem_cons_of_mem _ hx)) m n lv ind (acc ++ [y]) t2 rest tr htr h3 (by simp at hl ⊢; omega)).mono ?_ ?_
   ·show lv + (l.map nsS).foldr max 0 <= lv + max (nsS x) ((l.map nsS).foldr max 0)
    omega
   ·rintro z ⟨q, rfl, hq⟩
    refine ⟨y :: q, by simp, ?_⟩
    show bareS y :: bareSs q = bareS x :: bareSs l
    rw [hq, hy]
theorem rd_block {R : Prop} {l : List St} (hk : ∀ x ∈ l, SOK R x) (h : ∀ x ∈ l, Sb x) (hl : l.length <= 400) (n lv ind : Nat) (ts rest : List Tok) (ht : Tk ts (bodI (itSs l) ind)) :
  Rd (lv + (1 + (l.map nsS).foldr max 0)) ((prec numT n).block lv (ts ++ rest)) (fun x => bareSs x = bareSs l) rest := by
 have ht2 : Tk ts ((0, [32]) :: (5, [123]) :: (0, [10]) :: (linI (ind + 1) (itSs l) ++ [(0, tabsT ind), (5, [125])])) := ht
 obtain ⟨ul, r1, rfl, hl1, hr1⟩ := ht2.blank.cons (by decide)
 obtain ⟨u1, u2, rfl, h1, h2⟩ := hr1.blank.app
 obtain ⟨ur, r2, rfl, hrr, hr2⟩ := h2.blank.cons (by decide)
 obtain rfl := hr2.nil
 rw [itSs_map] at h1
 cases n with
 | zero => exact .inl rfl
 | succ n =>
  have e1 : (ul :: (u1 ++ [ur])) ++ rest = ul :: (u1 ++ ur :: rest) := by simp
  have e2 : (prec numT (n + 1)).block lv (ul :: (u1 ++ ur :: rest)) = betweenP lv (tx [123]) (fun lv => stmtsL (prec numT n) lv n []) (tx [125]) (ul :: (u1 ++ ur :: rest)) := rfl
  rw [e1, e2]
  refine rd_between hl1 hrr ?_
  exact (rd_stmts l hk h n n (lv + 1) (ind + 1) [] u1 rest ur hrr h1 (by simpa using hl)).mono (Nat.le_refl _) (fun x ⟨y, h3, h4⟩ => by rw [h3]; exact h4)
theorem stmtStep (n lv : Nat) (ts : List Tok) : (prec numT (n + 1)).stmt lv ts = stmtP n (prec numT n) lv ts := rfl
theorem choice_step (n lv : Nat) (ts : List Tok) : (prec numT (n + 1)).choice lv ts = choiceP (prec numT n) lv ts := rfl
theorem stmt_name {n lv : Nat} {t : Tok} {r : List Tok} {w : List UInt8} (h : tkT t = (1, w)) : (prec numT (n + 1)).stmt lv (t :: r) = (if isT (tx [40]) r then (callP n (prec numT n) lv t).bind (fun e => semiP (.mk 7 ⟨#[]⟩ 0 [e] [] [] t.at_ 0)) r
  else if isT (tx [91]) r then (indexP (prec numT n) lv).bind (fun l => (mustP (tx [61])).bind fun _ => (exprP (prec numT n) lv).bind fun e => semiP (.mk 3 t.text 0 (l ++ [e]) [] [] t.at_ 0)) r
  else (mustP (tx [61])).bind (fun _ => (exprP (prec numT n) lv).bind fun e => semiP (.mk 2 t.text 0 [e] [] [] t.at_ 0)) r) := by
 rw [stmtStep]
 unfold stmtP
 simp only [word_no h, Bool.false_eq_true, if_false]
 conv => lhs; unfold PM.bind
 rw [name_hd h]
 rfl
theorem sb_of {s : St} (hk : s.kind ≠ 4) (h : ∀ n lv ind ts rest, Tk ts (itS s ind) -> isT (tx [101, 108, 115, 101]) rest = false -> Rd (lv + nsS s) ((prec numT (n + 1)).stmt lv (ts ++ rest)) (Ss s) rest) : Sb s := by
 refine ⟨fun n lv ind ts rest ht hr => ?_, fun q => absurd q hk⟩
 cases n with
 | zero => exact .inl rfl
 | succ n => exact h n lv ind ts rest ht hr
theorem stmt_word {n lv : Nat} {t : Tok} {r : List Tok} {w : List UInt8} (h : tkT t = (2, w)) : (prec numT (n + 1)).stmt lv (t :: r) =
  if w = [105, 102] then (prec numT n).choice lv (t :: r)
  else if w = [119, 104, 105, 108, 101] then (exprP (prec numT n) lv).bind (fun e => ((prec numT n).block lv).bind fun l => .ret (.mk 5 ⟨#[]⟩ 0 [e] l [] t.at_ 0)) r
  else if w = [108, 101, 116] then nameP.bind (fun u => (mustP (tx [58])).bind fun _ => scalarP.bind fun ty => (mustP (tx [61])).bind fun _ => (exprP (prec numT n) lv).bind fun e => semiP (.mk 1 u.text ty [e] [] [] t.at_ 0)) r
  else if w = [114, 101, 116, 117, 114, 110] then (if isT (tx [59]) r then semiP (.mk 6 ⟨#[]⟩ 0 [] [] [] t.at_ 0) r else (exprP (prec numT n) lv).bind (fun e => semiP (.mk 6 ⟨#[]⟩ 0 [e] [] [] t.at_ 0)) r)
  else stmtP n (prec numT n) lv (t :: r) := by
 rw [stmtStep]
 by_cases h1 : w = [105, 102]
 ·rw [if_pos h1]; unfold stmtP; simp only [isT_hd h, h1]; rfl
 rw [if_neg h1]
 by_cases h2 : w = [119, 104, 105, 108, 101]
 ·rw [if_pos h2]; unfold stmtP; simp only [isT_hd h, h2, next_hd h (show (2 : Int) ≠ 6 by decide)]; rfl
 rw [if_neg h2]
 by_cases h3 : w = [108, 101, 116]
 ·rw [if_pos h3]; unfold stmtP; simp only [isT_hd h, h3, next_hd h (show (2 : Int) ≠ 6 by decide)]; rfl
 rw [if_neg h3]
 by_cases h4 : w = [114, 101, 116, 117, 114, 110]
 ·rw [if_pos h4]; unfold stmtP; simp only [isT_hd h, h4, next_hd h (show (2 : Int) ≠ 6 by decide)]; rfl
 rw [if_neg h4]
theorem sb_all {R : Prop} {s : St} (h : SOK R s) : Sb s := by
 induction h with
 | @lt s ty e a p h1 h2 he _ =>
  refine sb_of (by show (1 : Int) ≠ 4; decide) (fun n lv ind ts rest ht hr => ?_)
  have ht2 : Tk ts ((2, [108, 101, 116]) :: (0, [32]) :: (1, toL s) :: (5, [58]) :: (0, [32]) :: (2, tyT ty) :: (0, [32]) :: (5, [61]) :: (0, [32]) :: (itE e ++ [(5, [59])])) := ht
  obtain ⟨u1, r1, rfl, g1, ht3⟩ := ht2.cons (by decide)
  obtain ⟨u2, r2, rfl, g2, ht4⟩ := ht3.blank.cons (by decide)
  obtain ⟨u3, r3, rfl, g3, ht5⟩ := ht4.cons (by decide)
  obtain ⟨u4, r4, rfl, g4, ht6⟩ := ht5.blank.cons (by decide)
  obtain ⟨u5, r5, rfl, g5, ht7⟩ := ht6.blank.cons (by decide)
  obtain ⟨t1, t2, rfl, k1, k2⟩ := ht7.blank.app
  obtain ⟨u6, r6, rfl, g6, ht8⟩ := k2.cons (by decide)
  obtain rfl := ht8.nil
  have e1 : u1 :: u2 :: u3 :: u4 :: u5 :: (t1 ++ [u6]) ++ rest = u1 :: u2 :: u3 :: u4 :: u5 :: (t1 ++ u6 :: rest) := by simp
  have en : nsS (.mk 1 s ty [e] [] [] a p) = nsE e := rfl
  rw [e1, stmt_word g1, if_neg (by decide), if_neg (by decide), if_pos rfl, en]
  refine rd_name g2 (rd_must g3 (.inr rfl) (rd_scalar h2 g4 (rd_must g5 (.inr rfl) (rd_expr he k1 g6 (by decide) (by decide) (by decide) (Nat.le_refl _) (fun x hx => rd_semi g6 ?_)))))
  show St.mk 1 u2.text ty [bareE x] [] [] 0 0 = .mk 1 s ty [bareE e] [] [] 0 0
  rw [text_eq g2, hx]
 | @set s e a p h1 he _ =>
  refine sb_of (by show (2 : Int) ≠ 4; decide) (fun n lv ind ts rest ht hr => ?_)
  have ht2 : Tk ts ((1, toL s) :: (0, [32]) :: (5, [61]) :: (0, [32]) :: (itE e ++ [(5, [59])])) := ht
  obtain ⟨u1, r1, rfl, g1, ht3⟩ := ht2.cons (by decide)
  obtain ⟨u2, r2, rfl, g2, ht4⟩ := ht3.blank.cons (by decide)
  obtain ⟨t1, t2, rfl, k1, k2⟩ := ht4.blank.app
  obtain ⟨u6, r6, rfl, g6, ht8⟩ := k2.cons (by decide)
  obtain rfl := ht8.nil
  have e1 : u1 :: u2 :: (t1 ++ [u6]) ++ rest = u1 :: u2 :: (t1 ++ u6 :: rest) := by simp
  have en : nsS (.mk 2 s 0 [e] [] [] a p) = nsE e := rfl
  rw [e1, stmt_name g1, en, isT_hd g2, isT_hd g2]
  refine rd_must g2 (.inr rfl) (rd_expr he k1 g6 (by decide) (by decide) (by decide) (Nat.le_refl _) (fun x hx => rd_semi g6 ?_))
  show St.mk 2 u1.text 0 [bareE x] [] [] 0 0 = .mk 2 s 0 [bareE e] [] [] 0 0
  rw [text_eq g1, hx]
 | @put s i e a p h1 hi he _ =>
  refine sb_of (by show (3 : Int) ≠ 4; decide) (fun n lv ind ts rest ht hr => ?_)
  have ht2 : Tk ts ((1, toL s) :: (5, [91]) :: (itE i ++ (5, [93]) :: (0, [32]) :: (5, [61]) :: (0, [32]) :: (itE e ++ [(5, [59])]))) := ht
  obtain ⟨u1, r1, rfl, g1, ht3⟩ := ht2.cons (by decide)
  obtain ⟨u2, r2, rfl, g2, ht4⟩ := ht3.cons (by decide)
  obtain ⟨t1, t2, rfl, k1, k2⟩ := ht4.app
  obtain ⟨u3, r3, rfl, g3, ht5⟩ := k2.cons (by decide)
  obtain ⟨u4, r4, rfl, g4, ht6⟩ := ht5.blank.cons (by decide)
  obtain ⟨t3, t4, rfl, k3, k4⟩ := ht6.blank.app
  obtain ⟨u6, r6, rfl, g6, ht8⟩ := k4.cons (by decide)
  obtain rfl := ht8.nil
  have e1 : u1 :: u2 :: (t1 ++ u3 :: u4 :: (t3 ++ [u6])) ++ rest = u1 :: u2 :: (t1 ++ u3 :: u4 :: (t3 ++ u6 :: rest)) := by simp
  have en : nsS (.mk 3 s 0 [i, e] [] [] a p) = max (1 + nsE i) (nsE e) := rfl
  rw [e1, stmt_name g1, en, isT_hd g2, isT_hd g2]
  show Rd _ ((indexP (prec numT n) lv).bind _ _) _ _
  refine Rd.bind (N := lv + (1 + nsE i)) (P := fun l => ∃ y, l = [y] /\ Sm i y) (t1 := u4 :: (t3 ++ u6 :: rest)) ?_ (by omega) ?_
  ·unfold indexP
   refine rd_between g2 g3 ?_
   exact rd_expr hi k1 g3 (by decide) (by decide) (by decide) (Nat.le_refl _) (fun x hx => Rd.ok ⟨x, rfl, hx⟩)
  ·rintro l ⟨y, rfl, hy⟩
   refine rd_must g4 (.inr rfl) (rd_expr he k3 g6 (by decide) (by decide) (by decide) (by omega) (fun x hx => rd_semi g6 ?_))
   show St.mk 3 u1.text 0 [bareE y, bareE x] [] [] 0 0 = .mk 3 s 0 [bareE i, bareE e] [] [] 0 0
   rw [text_eq g1, hx, hy]
 | @iff e b l a p he hb hl hbs hls _ ib il =>
  have key : ∀ n lv ind ts rest, Tk ts (itS (.mk 4 n0 0 [e] b l a p) ind) -> isT (tx [101, 108, 115, 101]) rest = false -> Rd (lv + nsS (.mk 4 n0 0 [e] b l a p)) ((prec numT n).choice lv (ts ++ rest)) (Ss (.mk 4 n0 0 [e] b l a p)) rest := by
   intro n lv ind ts rest ht hr
   have ht2 : Tk ts (((2, [105, 102]) :: (0, [32]) :: (itE e ++ bodI (itSs b) ind)) ++ (if l.length = 1 /\ (l.headD (.mk 0 ⟨#[]⟩ 0 [] [] [] 0 0)).kind = 4 then (0, [32]) :: (2, [101, 108, 115, 101]) :: (0, [32]) :: (itSs l).headD (fun _ => []) ind else if 0 < l.length then (0, [32]) :: (2, [101, 108, 115, 101]) :: bodI (itSs l) ind else [])) := ht
   have en : nsS (.mk 4 n0 0 [e] b l a p) = max (nsE e) (max (1 + (nsSs b).foldr max 0) (if l.length = 0 then 0 else 1 + (nsSs l).foldr max 0)) := rfl
   rw [en, nsSs_map, nsSs_map]
   obtain ⟨t1, t2, rfl, k1, k2⟩ := ht2.app
   have k1' : Tk t1 ((2, [105, 102]) :: (0, [32]) :: (itE e ++ bodI (itSs b) ind)) := k1
   obtain ⟨u1, r1, rfl, g1, ht3⟩ := k1'.cons (by decide)
   obtain ⟨t3, t4, rfl, k3, k4⟩ := ht3.blank.app
   have k4' : Tk t4 ((0, [32]) :: (5, [123]) :: (0, [10]) :: (linI (ind + 1) (itSs b) ++ [(0, tabsT ind), (5, [125])])) := k4
   obtain ⟨u2, r2, hu2, g2, _⟩ := k4'.blank.cons (by decide)
   cases n with
   | zero => exact .inl rfl
   | succ n =>
    have e1 : u1 :: (t3 ++ t4) ++ t2 ++ rest = u1 :: (t3 ++ (t4 ++ (t2 ++ rest))) := by simp
    rw [e1, choice_step]
    unfold choiceP
    refine rd_must g1 (.inl rfl) ?_
    have e2 : t3 ++ (t4 ++ (t2 ++ rest)) = t3 ++ u2 :: (r2 ++ (t2 ++ rest)) := by rw [hu2]; rfl
    rw [e2]
    refine rd_expr he k3 g2 (by decide) (by decide) (by decide) (by omega) (fun x hx => ?_)
    have e3 : u2 :: (r2 ++ (t2 ++ rest)) = t4 ++ (t2 ++ rest) := by rw [hu2]; rfl
    rw [e3]
    refine Rd.bind (rd_block hbs ib hb n lv ind t4 (t2 ++ rest) k4) (by omega) (fun y hy => ?_)
    by_cases h0 : 0 < l.length
    ·rw [if_neg (show ¬ l.length = 0 by omega)]
     have k2' : ∃ q, Tk t2 ((0, [32]) :: (2, [101, 108, 115, 101]) :: q) /\ q = (if l.length = 1 /\ (l.headD (.mk 0 ⟨#[]⟩ 0 [] [] [] 0 0)).kind = 4 then (0, [32]) :: (itSs l).headD (fun _ => []) ind else bodI (itSs l) ind) := by
      refine ⟨_, ?_, rfl⟩
      revert k2
      split
      ·exact fun k2 => k2
      ·exact fun k2 => k2
     obtain ⟨q, k5, hq⟩ := k2'
     obtain ⟨u3, r3, rfl, g3, k6⟩ := k5.blank.cons (by decide)
     refine Rd.bind (N := 0) (P := fun b => b = true) (t1 := r3 ++ rest) ?_ (Nat.zero_le _) ?_
     ·show Rd 0 (mayP _ (u3 :: (r3 ++ rest))) _ _
      rw [may_hd g3 (by decide)]
      exact Rd.ok rfl
     ·rintro _ rfl
      rw [if_pos rfl]
      by_cases hc : l.length = 1 /\ (l.headD (.mk 0 ⟨#[]⟩ 0 [] [] [] 0 0)).kind = 4
      ·rw [if_pos hc] at hq
       rw [hq] at k6
       have k7 := k6.blank
       match l, hc, hls, il, k7 with
       | [s], hc, hls, il, k7 =>
        have k8 : Tk r3 (itS s ind) := k7
        obtain ⟨th, tr, he', hh⟩ := hdS (hls s (by simp)) ind r3 k8
        have hif : isT (tx [105, 102]) (r3 ++ rest) = true := by
         have hsk : s.kind = 4 := hc.2
         have k9 : ∃ q, Tk r3 ((2, [105, 102]) :: q) := by
          have hs4 := hls s (by simp)
          cases hs4 with
          | iff _ _ _ _ _ _ => exact ⟨_, k8⟩
          | _ => exact absurd hsk (by simp [St.kind])
         obtain ⟨q, k9⟩ := k9
         obtain ⟨v, r, rfl, g, _⟩ := k9.cons (by decide)
         show isT _ (v :: (r ++ rest)) = true
         rw [isT_hd g]; rfl
        rw [hif, if_pos rfl]
        have em : ([s].map nsS).foldr max 0 = nsS s := by show max (nsS s) 0 = nsS s; omega
        rw [em]
        refine Rd.bind (N := lv + (1 + nsS s)) (P := Ss s) (t1 := rest) ?_ (by omega) (fun z hz => Rd.ok ?_)
        ·unfold withinP
         by_cases h30 : lv = 30
         ·rw [if_pos h30]; exact .inr (.inr ⟨by omega, _, rfl⟩)
         ·rw [if_neg h30]
          exact ((il s (by simp)).choice hc.2 n (lv + 1) ind r3 rest k8 hr).mono (by omega) (fun _ q => q)
        ·show St.mk 4 n0 0 [bareE x] (bareSs y) [bareS z] 0 0 = .mk 4 n0 0 [bareE e] (bareSs b) [bareS s] 0 0
         rw [hx, hy, hz]
      ·rw [if_neg hc] at hq
       rw [hq] at k6
       have k6' : Tk r3 ((0, [32]) :: (5, [123]) :: (0, [10]) :: (linI (ind + 1) (itSs l) ++ [(0, tabsT ind), (5, [125])])) := k6
       obtain ⟨u4, r4, hu4, g4, _⟩ := k6'.blank.cons (by decide)
       have hif : isT (tx [105, 102]) (r3 ++ rest) = false := by
        rw [hu4]
        show isT _ (u4 :: (r4 ++ rest)) = false
        rw [isT_hd g4]; rfl
       rw [hif]
       simp only [Bool.false_eq_true, if_false]
       refine Rd.bind (rd_block hls il hl n lv ind r3 rest k6) (by omega) (fun z hz => Rd.ok ?_)
       show St.mk 4 n0 0 [bareE x] (bareSs y) (bareSs z) 0 0 = .mk 4 n0 0 [bareE e] (bareSs b) (bareSs l) 0 0
       rw [hx, hy, hz]
    ·have hl0 : l = [] := List.length_eq_zero_iff.1 (by omega)
     subst hl0
     obtain rfl : t2 = [] := Tk.nil (by simpa using k2)
     rw [List.nil_append]
     refine Rd.bind (N := 0) (P := fun b => b = false) (t1 := rest) ?_ (Nat.zero_le _) ?_
     ·unfold mayP
      rw [hr]
      exact Rd.ok rfl
     ·rintro _ rfl
      simp only [Bool.false_eq_true, if_false]
      refine Rd.ok ?_
      show St.mk 4 n0 0 [bareE x] (bareSs y) [] 0 0 = .mk 4 n0 0 [bareE e] (bareSs b) [] 0 0
      rw [hx, hy]
  refine ⟨fun n lv ind ts rest ht hr => ?_, fun _ => key⟩
  have ht2 : ∃ q, Tk ts ((2, [105, 102]) :: q) := ⟨_, ht⟩
  obtain ⟨q, ht2⟩ := ht2
  obtain ⟨u1, r1, e1, g1, _⟩ := ht2.cons (by decide)
  cases n with
  | zero => exact .inl rfl
  | succ n =>
   have e2 : (prec numT (n + 1)).stmt lv (ts ++ rest) = (prec numT n).choice lv (ts ++ rest) := by
    rw [e1]
    show (prec numT (n + 1)).stmt lv (u1 :: (r1 ++ rest)) = _
    rw [stmt_word g1, if_pos rfl]; rfl
   rw [e2]
   exact key n lv ind ts rest ht hr
 | @whl e b a p he hb hbs _ ib =>
  refine sb_of (by show (5 : Int) ≠ 4; decide) (fun n lv ind ts rest ht hr => ?_)
  have ht2 : Tk ts ((2, [119, 104, 105, 108, 101]) :: (0, [32]) :: (itE e ++ bodI (itSs b) ind)) := ht
  have en : nsS (.mk 5 n0 0 [e] b [] a p) = max (nsE e) (1 + (nsSs b).foldr max 0) := rfl
  rw [en, nsSs_map]
  obtain ⟨u1, r1, rfl, g1, ht3⟩ := ht2.cons (by decide)
  obtain ⟨t3, t4, rfl, k3, k4⟩ := ht3.blank.app
  have k4' : Tk t4 ((0, [32]) :: (5, [123]) :: (0, [10]) :: (linI (ind + 1) (itSs b) ++ [(0, tabsT ind), (5, [125])])) := k4
  obtain ⟨u2, r2, hu2, g2, _⟩ := k4'.blank.cons (by decide)
  have e1 : u1 :: (t3 ++ t4) ++ rest = u1 :: (t3 ++ u2 :: (r2 ++ rest)) := by rw [hu2]; simp
  rw [e1, stmt_word g1, if_neg (by decide), if_pos rfl]
  refine rd_expr he k3 g2 (by decide) (by decide) (by decide) (by omega) (fun x hx => ?_)
  have e3 : u2 :: (r2 ++ rest) = t4 ++ rest := by rw [hu2]; rfl
  rw [e3]
  refine Rd.bind (rd_block hbs ib hb n lv ind t4 rest k4) (by omega) (fun y hy => Rd.ok ?_)
  show St.mk 5 n0 0 [bareE x] (bareSs y) [] 0 0 = .mk 5 n0 0 [bareE e] (bareSs b) [] 0 0
  rw [hx, hy]
 | @ret0 a p _ =>
  refine sb_of (by show (6 : Int) ≠ 4; decide) (fun n lv ind ts rest ht hr => ?_)
  have ht2 : Tk ts ((2, [114, 101, 116, 117, 114, 110]) :: (5, [59]) :: []) := ht
  obtain ⟨u1, r1, rfl, g1, ht3⟩ := ht2.cons (by decide)
  obtain ⟨u2, r2, rfl, g2, ht4⟩ := ht3.cons (by decide)
  obtain rfl := ht4.nil
  show Rd _ ((prec numT (n + 1)).stmt lv (u1 :: (u2 :: rest))) _ _
  rw [stmt_word g1, if_neg (by decide), if_neg (by decide), if_neg (by decide), if_pos rfl, isT_hd g2]
  exact rd_semi g2 rfl
 | @ret e a p he _ =>
  refine sb_of (by show (6 : Int) ≠ 4; decide) (fun n lv ind ts rest ht hr => ?_)
  have ht2 : Tk ts ((2, [114, 101, 116, 117, 114, 110]) :: (0, [32]) :: (itE e ++ [(5, [59])])) := ht
  obtain ⟨u1, r1, rfl, g1, ht3⟩ := ht2.cons (by decide)
  obtain ⟨t3, t4, rfl, k3, k4⟩ := ht3.blank.app
  obtain ⟨u6, r6, rfl, g6, ht8⟩ := k4.cons (by decide)
  obtain rfl := ht8.nil
  have e1 : u1 :: (t3 ++ [u6]) ++ rest = u1 :: (t3 ++ u6 :: rest) := by simp
  have en : nsS (.mk 6 n0 0 [e] [] [] a p) = nsE e := rfl
  rw [e1, stmt_word g1, if_neg (by decide), if_neg (by decide), if_neg (by decide), if_pos rfl, en]
  obtain ⟨th, tr, he', hh⟩ := hdE he t3 k3
  have hs : isT (tx [59]) (t3 ++ u6 :: rest) = false := by rw [he']; exact hh _ _ (.inr rfl)
  rw [hs]
  simp only [Bool.false_eq_true, if_false]
  refine rd_expr he k3 g6 (by decide) (by decide) (by decide) (Nat.le_refl _) (fun x hx => rd_semi g6 ?_)
  show St.mk 6 n0 0 [bareE x] [] [] 0 0 = .mk 6 n0 0 [bareE e] [] [] 0 0
  rw [hx]
 | @call e a p hk he _ =>
  refine sb_of (by show (7 : Int) ≠ 4; decide) (fun n lv ind ts rest ht hr => ?_)
  cases he with
  | @call s l a2 t2 p2 hn hlen hall _ =>
   have ht2 : Tk ts (((1, toL s) :: (5, [40]) :: (rowI (itEs l) false ++ [(5, [41])])) ++ [(5, [59])]) := ht
   have en : nsS (.mk 7 n0 0 [.mk 7 0 0 s l a2 t2 p2] [] [] a p) = 1 + (nsEs l).foldr max 0 := rfl
   rw [en, nsEs_map]
   obtain ⟨t1, t3, rfl, k1, k2⟩ := ht2.app
   obtain ⟨u1, r1, rfl, g1, ht3⟩ := k1.cons (by decide)
   obtain ⟨u2, r2, rfl, g2, ht4⟩ := ht3.cons (by decide)
   obtain ⟨t4, t5, rfl, k3, k4⟩ := ht4.app
   obtain ⟨u3, r3, rfl, g3, ht5⟩ := k4.cons (by decide)
   obtain rfl := ht5.nil
   obtain ⟨u6, r6, rfl, g6, ht8⟩ := k2.cons (by decide)
   obtain rfl := ht8.nil
   rw [itEs_map] at k3
   have e1 : u1 :: u2 :: (t4 ++ [u3]) ++ [u6] ++ rest = u1 :: u2 :: (t4 ++ u3 :: (u6 :: rest)) := by simp
   rw [e1, stmt_name g1, isT_hd g2]
   show Rd _ ((callP n (prec numT n) lv u1).bind _ _) _ _
   refine Rd.bind (N := lv + (1 + (l.map nsE).foldr max 0)) (P := fun y => bareE y = .mk 7 0 0 s (bareEs l) 0 0 0) (t1 := u6 :: rest) ?_ (Nat.le_refl _) (fun y hy => rd_semi g6 ?_)
   ·unfold callP
    refine Rd.bind (N := lv + (1 + (l.map nsE).foldr max 0)) (P := fun y => bareEs y = bareEs l) (t1 := u6 :: rest) ?_ (Nat.le_refl _) (fun y hy => Rd.ok ?_)
    ·refine rd_between g2 g3 ?_
     exact (rd_row l hall (fun x hx => bk_all (hall x hx)) n n (lv + 1) [] t4 (u6 :: rest) u3 g3 k3).mono (Nat.le_refl _) (fun x ⟨y, h3, h4⟩ => by rw [h3]; exact h4)
    ·rw [text_eq g1]
     show Ex.mk 7 0 0 s (bareEs y) 0 0 0 = _
     rw [hy]
   ·show St.mk 7 n0 0 [bareE y] [] [] 0 0 = .mk 7 n0 0 [.mk 7 0 0 s (bareEs l) 0 0 0] [] [] 0 0
    rw [hy]
  | _ => exact absurd hk (by simp [Ex.kind])
end Go.Proofs.YtpfdhihbecpbeaaGreatDoor.E
