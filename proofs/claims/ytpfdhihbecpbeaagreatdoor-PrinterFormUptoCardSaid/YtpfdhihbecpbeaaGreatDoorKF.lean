import Derived.Test.YtpfdhihbecpbeaaGreatDoorKE
import Derived.Deep.QuietTactic
import Derived.Test.YtpfdhihbecpbeaaGreatDoorKA
import Derived.Lib.ItoaNum
/- Contracts of the program's functions, and lemmas: no statement of its own. -/
namespace Go.Proofs.YtpfdhihbecpbeaaGreatDoor.E
open Go Go.RowKit Go.Proofs.YtpfdhihbecpbeaaGreatDoorW.PrintWords Go.Proofs.YtpfdhihbecpbeaaGreatDoorW.PrintLast Go.Proofs.YtpfdhihbecpbeaaGreatDoorW.PrintMore
set_option linter.unusedVariables false
set_option linter.unusedSimpArgs false
set_option maxRecDepth 100000
set_option maxHeartbeats 4000000
theorem x5o : ∀ c : UInt8, (0 <= Lib.indexByte z2q c) ↔ z2q.contains c = true := by
 intro c
 have key : ∀ l : List UInt8, (0 <= Lib.indexByte l c ↔ l.contains c = true) /\ -1 <= Lib.indexByte l c := by
  intro l
  induction l with
  | nil =>
   have e : Lib.indexByte [] c = -1 := rfl
   rw [e]
   exact ⟨by simp, by decide⟩
  | cons b l ih =>
   have e : Lib.indexByte (b :: l) c = if (b == c) = true then (0 : Int) else if (Lib.indexByte l c == -1) = true then -1 else Lib.indexByte l c + 1 := rfl
   rw [e, List.contains_cons]
   by_cases hb : b = c
   ·subst hb
    simp
   ·have h1 : (b == c) = false := by simpa using hb
    have h2 : (c == b) = false := by simpa using Ne.symm hb
    rw [h1, h2, if_neg (by decide), Bool.false_or]
    obtain ⟨i1, i2⟩ := ih
    rw [<- i1]
    by_cases h3 : Lib.indexByte l c = -1
    ·rw [h3]; simp
    ·have h4 : (Lib.indexByte l c == -1) = false := by simpa using h3
     rw [h4, if_neg (by decide)]
     omega
 exact (key z2q).1
set_option maxHeartbeats 32000000 in
theorem x9f (s : ByteArray) (hs : s.size <= 1000000) (hpos : 0 < s.size) (w : World) (h : s[0]'hpos = 61) : q2d s w := by
 unfold q2d
 have hlen : s.data.toList.length = s.size := Array.length_toList
 obtain ⟨R, hR⟩ : ∃ R, R = q1b fxB s.data.toList := ⟨_, rfl⟩
 have hR2 : R = if 1 < s.size /\ s.data.toList.getD 1 0 = 61 then (2, 5) else (1, 5) := by
  rw [hR]
  unfold q1b
  rw [q8w s hpos, h, hlen]
  by_cases hq : 1 < s.size /\ s.data.toList.getD 1 0 = 61
  ·rw [if_pos hq]
   simp only [show q1g ((61 : UInt8).toNat : Int) = false from by decide, show q0k ((61 : UInt8).toNat : Int) = false from by decide, Bool.false_eq_true, if_false]
   rw [if_neg (by decide), if_pos ⟨by decide, hq⟩]
  ·rw [if_neg hq]
   simp only [show q1g ((61 : UInt8).toNat : Int) = false from by decide, show q0k ((61 : UInt8).toNat : Int) = false from by decide, Bool.false_eq_true, if_false]
   rw [if_neg (by decide), if_neg (fun h => hq h.2), if_pos (by decide)]
 rw [<- hR]
 have hL := fun w => q2q 61 w
 have hD := fun w => q3u 61 w
 rw [show q1g 61 = false from by decide] at hL
 rw [show q0k 61 = false from by decide] at hD
 have HLB := q0h hL
 have HDB := q0h hD
 clear hR hL hD hlen
 by_cases h1 : 1 < s.size
 ·rw [q8x s 1 h1] at hR2
  by_cases h2 : s[1]'h1 = 61
  ·have HRV := q0h (hR2.trans (if_pos ⟨h1, h2⟩))
   clear hR2
   go_enter Tryz.func63, Tryz.ntmps63
   go_wp2_with fail
   refine (HLB.out _).mono ?_
   rintro e w1 ⟨rfl, rfl⟩
   go_wp2_with fail
   refine (HDB.out _).mono ?_
   rintro e w1 ⟨rfl, rfl⟩
   go_wp2_with fail
   go_ret2
   exact ⟨by rw [HRV.out]; rfl, Below.refl _ _⟩
  ·have HRV := q0h (hR2.trans (if_neg (fun h => h2 h.2)))
   have h2b : ¬ (((s[1]'h1).toNat : Nat) : Int) = 61 := fun h => h2 (UInt8.toNat_inj.1 (by have e : (61 : UInt8).toNat = 61 := rfl; omega))
   have h2c : ((((s[1]'h1).toNat : Nat) : Int) == 61) = false := by rw [beq_eq_false_iff_ne]; exact h2b
   clear hR2
   go_enter Tryz.func63, Tryz.ntmps63
   go_wp2_with fail
   refine (HLB.out _).mono ?_
   rintro e w1 ⟨rfl, rfl⟩
   go_wp2_with fail
   refine (HDB.out _).mono ?_
   rintro e w1 ⟨rfl, rfl⟩
   go_wp2_with fail
   go_ret2
   exact ⟨by rw [HRV.out]; rfl, Below.refl _ _⟩
 ·have HRV := q0h (hR2.trans (if_neg (fun h => h1 h.1)))
  clear hR2
  go_enter Tryz.func63, Tryz.ntmps63
  go_wp2_with fail
  refine (HLB.out _).mono ?_
  rintro e w1 ⟨rfl, rfl⟩
  go_wp2_with fail
  refine (HDB.out _).mono ?_
  rintro e w1 ⟨rfl, rfl⟩
  go_wp2_with fail
  go_ret2
  exact ⟨by rw [HRV.out]; rfl, Below.refl _ _⟩
set_option maxHeartbeats 32000000 in
theorem x9g (s : ByteArray) (hs : s.size <= 1000000) (hpos : 0 < s.size) (w : World) (h : s[0]'hpos = 33) : q2d s w := by
 unfold q2d
 have hlen : s.data.toList.length = s.size := Array.length_toList
 obtain ⟨R, hR⟩ : ∃ R, R = q1b fxB s.data.toList := ⟨_, rfl⟩
 have hR2 : R = if 1 < s.size /\ s.data.toList.getD 1 0 = 61 then (2, 5) else (1, 5) := by
  rw [hR]
  unfold q1b
  rw [q8w s hpos, h, hlen]
  by_cases hq : 1 < s.size /\ s.data.toList.getD 1 0 = 61
  ·rw [if_pos hq]
   simp only [show q1g ((33 : UInt8).toNat : Int) = false from by decide, show q0k ((33 : UInt8).toNat : Int) = false from by decide, Bool.false_eq_true, if_false]
   rw [if_neg (by decide), if_pos ⟨by decide, hq⟩]
  ·rw [if_neg hq]
   simp only [show q1g ((33 : UInt8).toNat : Int) = false from by decide, show q0k ((33 : UInt8).toNat : Int) = false from by decide, Bool.false_eq_true, if_false]
   rw [if_neg (by decide), if_neg (fun h => hq h.2), if_pos (by decide)]
 rw [<- hR]
 have hL := fun w => q2q 33 w
 have hD := fun w => q3u 33 w
 rw [show q1g 33 = false from by decide] at hL
 rw [show q0k 33 = false from by decide] at hD
 have HLB := q0h hL
 have HDB := q0h hD
 clear hR hL hD hlen
 by_cases h1 : 1 < s.size
 ·rw [q8x s 1 h1] at hR2
  by_cases h2 : s[1]'h1 = 61
  ·have HRV := q0h (hR2.trans (if_pos ⟨h1, h2⟩))
   clear hR2
   go_enter Tryz.func63, Tryz.ntmps63
   go_wp2_with fail
   refine (HLB.out _).mono ?_
   rintro e w1 ⟨rfl, rfl⟩
   go_wp2_with fail
   refine (HDB.out _).mono ?_
   rintro e w1 ⟨rfl, rfl⟩
   go_wp2_with fail
   go_ret2
   exact ⟨by rw [HRV.out]; rfl, Below.refl _ _⟩
  ·have HRV := q0h (hR2.trans (if_neg (fun h => h2 h.2)))
   have h2b : ¬ (((s[1]'h1).toNat : Nat) : Int) = 61 := fun h => h2 (UInt8.toNat_inj.1 (by have e : (61 : UInt8).toNat = 61 := rfl; omega))
   have h2c : ((((s[1]'h1).toNat : Nat) : Int) == 61) = false := by rw [beq_eq_false_iff_ne]; exact h2b
   clear hR2
   go_enter Tryz.func63, Tryz.ntmps63
   go_wp2_with fail
   refine (HLB.out _).mono ?_
   rintro e w1 ⟨rfl, rfl⟩
   go_wp2_with fail
   refine (HDB.out _).mono ?_
   rintro e w1 ⟨rfl, rfl⟩
   go_wp2_with fail
   go_ret2
   exact ⟨by rw [HRV.out]; rfl, Below.refl _ _⟩
 ·have HRV := q0h (hR2.trans (if_neg (fun h => h1 h.1)))
  clear hR2
  go_enter Tryz.func63, Tryz.ntmps63
  go_wp2_with fail
  refine (HLB.out _).mono ?_
  rintro e w1 ⟨rfl, rfl⟩
  go_wp2_with fail
  refine (HDB.out _).mono ?_
  rintro e w1 ⟨rfl, rfl⟩
  go_wp2_with fail
  go_ret2
  exact ⟨by rw [HRV.out]; rfl, Below.refl _ _⟩
set_option maxHeartbeats 32000000 in
theorem x9h (s : ByteArray) (hs : s.size <= 1000000) (hpos : 0 < s.size) (w : World) (h : s[0]'hpos = 60) : q2d s w := by
 unfold q2d
 have hlen : s.data.toList.length = s.size := Array.length_toList
 obtain ⟨R, hR⟩ : ∃ R, R = q1b fxB s.data.toList := ⟨_, rfl⟩
 have hR2 : R = if 1 < s.size /\ s.data.toList.getD 1 0 = 61 then (2, 5) else (1, 5) := by
  rw [hR]
  unfold q1b
  rw [q8w s hpos, h, hlen]
  by_cases hq : 1 < s.size /\ s.data.toList.getD 1 0 = 61
  ·rw [if_pos hq]
   simp only [show q1g ((60 : UInt8).toNat : Int) = false from by decide, show q0k ((60 : UInt8).toNat : Int) = false from by decide, Bool.false_eq_true, if_false]
   rw [if_neg (by decide), if_pos ⟨by decide, hq⟩]
  ·rw [if_neg hq]
   simp only [show q1g ((60 : UInt8).toNat : Int) = false from by decide, show q0k ((60 : UInt8).toNat : Int) = false from by decide, Bool.false_eq_true, if_false]
   rw [if_neg (by decide), if_neg (fun h => hq h.2), if_pos (by decide)]
 rw [<- hR]
 have hL := fun w => q2q 60 w
 have hD := fun w => q3u 60 w
 rw [show q1g 60 = false from by decide] at hL
 rw [show q0k 60 = false from by decide] at hD
 have HLB := q0h hL
 have HDB := q0h hD
 clear hR hL hD hlen
 by_cases h1 : 1 < s.size
 ·rw [q8x s 1 h1] at hR2
  by_cases h2 : s[1]'h1 = 61
  ·have HRV := q0h (hR2.trans (if_pos ⟨h1, h2⟩))
   clear hR2
   go_enter Tryz.func63, Tryz.ntmps63
   go_wp2_with fail
   refine (HLB.out _).mono ?_
   rintro e w1 ⟨rfl, rfl⟩
   go_wp2_with fail
   refine (HDB.out _).mono ?_
   rintro e w1 ⟨rfl, rfl⟩
   go_wp2_with fail
   go_ret2
   exact ⟨by rw [HRV.out]; rfl, Below.refl _ _⟩
  ·have HRV := q0h (hR2.trans (if_neg (fun h => h2 h.2)))
   have h2b : ¬ (((s[1]'h1).toNat : Nat) : Int) = 61 := fun h => h2 (UInt8.toNat_inj.1 (by have e : (61 : UInt8).toNat = 61 := rfl; omega))
   have h2c : ((((s[1]'h1).toNat : Nat) : Int) == 61) = false := by rw [beq_eq_false_iff_ne]; exact h2b
   clear hR2
   go_enter Tryz.func63, Tryz.ntmps63
   go_wp2_with fail
   refine (HLB.out _).mono ?_
   rintro e w1 ⟨rfl, rfl⟩
   go_wp2_with fail
   refine (HDB.out _).mono ?_
   rintro e w1 ⟨rfl, rfl⟩
   go_wp2_with fail
   go_ret2
   exact ⟨by rw [HRV.out]; rfl, Below.refl _ _⟩
 ·have HRV := q0h (hR2.trans (if_neg (fun h => h1 h.1)))
  clear hR2
  go_enter Tryz.func63, Tryz.ntmps63
  go_wp2_with fail
  refine (HLB.out _).mono ?_
  rintro e w1 ⟨rfl, rfl⟩
  go_wp2_with fail
  refine (HDB.out _).mono ?_
  rintro e w1 ⟨rfl, rfl⟩
  go_wp2_with fail
  go_ret2
  exact ⟨by rw [HRV.out]; rfl, Below.refl _ _⟩
set_option maxHeartbeats 32000000 in
theorem x9i (s : ByteArray) (hs : s.size <= 1000000) (hpos : 0 < s.size) (w : World) (h : s[0]'hpos = 62) : q2d s w := by
 unfold q2d
 have hlen : s.data.toList.length = s.size := Array.length_toList
 obtain ⟨R, hR⟩ : ∃ R, R = q1b fxB s.data.toList := ⟨_, rfl⟩
 have hR2 : R = if 1 < s.size /\ s.data.toList.getD 1 0 = 61 then (2, 5) else (1, 5) := by
  rw [hR]
  unfold q1b
  rw [q8w s hpos, h, hlen]
  by_cases hq : 1 < s.size /\ s.data.toList.getD 1 0 = 61
  ·rw [if_pos hq]
   simp only [show q1g ((62 : UInt8).toNat : Int) = false from by decide, show q0k ((62 : UInt8).toNat : Int) = false from by decide, Bool.false_eq_true, if_false]
   rw [if_neg (by decide), if_pos ⟨by decide, hq⟩]
  ·rw [if_neg hq]
   simp only [show q1g ((62 : UInt8).toNat : Int) = false from by decide, show q0k ((62 : UInt8).toNat : Int) = false from by decide, Bool.false_eq_true, if_false]
   rw [if_neg (by decide), if_neg (fun h => hq h.2), if_pos (by decide)]
 rw [<- hR]
 have hL := fun w => q2q 62 w
 have hD := fun w => q3u 62 w
 rw [show q1g 62 = false from by decide] at hL
 rw [show q0k 62 = false from by decide] at hD
 have HLB := q0h hL
 have HDB := q0h hD
 clear hR hL hD hlen
 by_cases h1 : 1 < s.size
 ·rw [q8x s 1 h1] at hR2
  by_cases h2 : s[1]'h1 = 61
  ·have HRV := q0h (hR2.trans (if_pos ⟨h1, h2⟩))
   clear hR2
   go_enter Tryz.func63, Tryz.ntmps63
   go_wp2_with fail
   refine (HLB.out _).mono ?_
   rintro e w1 ⟨rfl, rfl⟩
   go_wp2_with fail
   refine (HDB.out _).mono ?_
   rintro e w1 ⟨rfl, rfl⟩
   go_wp2_with fail
   go_ret2
   exact ⟨by rw [HRV.out]; rfl, Below.refl _ _⟩
  ·have HRV := q0h (hR2.trans (if_neg (fun h => h2 h.2)))
   have h2b : ¬ (((s[1]'h1).toNat : Nat) : Int) = 61 := fun h => h2 (UInt8.toNat_inj.1 (by have e : (61 : UInt8).toNat = 61 := rfl; omega))
   have h2c : ((((s[1]'h1).toNat : Nat) : Int) == 61) = false := by rw [beq_eq_false_iff_ne]; exact h2b
   clear hR2
   go_enter Tryz.func63, Tryz.ntmps63
   go_wp2_with fail
   refine (HLB.out _).mono ?_
   rintro e w1 ⟨rfl, rfl⟩
   go_wp2_with fail
   refine (HDB.out _).mono ?_
   rintro e w1 ⟨rfl, rfl⟩
   go_wp2_with fail
   go_ret2
   exact ⟨by rw [HRV.out]; rfl, Below.refl _ _⟩
 ·have HRV := q0h (hR2.trans (if_neg (fun h => h1 h.1)))
  clear hR2
  go_enter Tryz.func63, Tryz.ntmps63
  go_wp2_with fail
  refine (HLB.out _).mono ?_
  rintro e w1 ⟨rfl, rfl⟩
  go_wp2_with fail
  refine (HDB.out _).mono ?_
  rintro e w1 ⟨rfl, rfl⟩
  go_wp2_with fail
  go_ret2
  exact ⟨by rw [HRV.out]; rfl, Below.refl _ _⟩
set_option maxHeartbeats 32000000 in
theorem z8z (s : ByteArray) (hs : s.size <= 1000000) (hpos : 0 < s.size) (w : World) (hl : q1g (s[0]'hpos).toNat = false) (hd : q0k (s[0]'hpos).toNat = false) (x38 : ¬ s[0]'hpos = 38) (x124 : ¬ s[0]'hpos = 124) (x61 : ¬ s[0]'hpos = 61) (x33 : ¬ s[0]'hpos = 33) (x60 : ¬ s[0]'hpos = 60) (x62 : ¬ s[0]'hpos = 62) : q2d s w := by
 unfold q2d
 obtain ⟨R, hR⟩ : ∃ R, R = q1b fxB s.data.toList := ⟨_, rfl⟩
 have hR2 : R = if z2q.contains (s[0]'hpos) = true then (1, 5) else (0, 0) := by
  rw [hR]
  unfold q1b
  rw [q8w s hpos]
  simp only [hl, hd, x38, x124, x61, x33, x60, x62, Bool.false_eq_true, if_false, false_or, false_and]
 rw [<- hR]
 have HLB := q0h (fun w => q2q ((s[0]'hpos).toNat : Nat) w)
 have HDB := q0h (fun w => q3u ((s[0]'hpos).toNat : Nat) w)
 rw [hl] at HLB
 rw [hd] at HDB
 have hI := fun w => Tryz.strings_IndexByte ⟨#[43, 45, 42, 47, 37, 40, 41, 123, 125, 91, 93, 44, 59, 58]⟩ ((s[0]'hpos).toNat : Nat) w
 have e1 : (((s[0]'hpos).toNat : Nat) : Int).toNat.toUInt8 = s[0]'hpos := by
  rw [Int.toNat_natCast]
  exact UInt8.toNat_inj.1 (by simp)
 rw [e1] at hI
 have hI2 := x5o (s[0]'hpos)
 have hI3 : Lib.indexByte (⟨#[43, 45, 42, 47, 37, 40, 41, 123, 125, 91, 93, 44, 59, 58]⟩ : ByteArray).data.toList (s[0]'hpos) = Lib.indexByte z2q (s[0]'hpos) := rfl
 rw [hI3] at hI
 obtain ⟨ix, hix⟩ : ∃ i, i = Lib.indexByte z2q (s[0]'hpos) := ⟨_, rfl⟩
 rw [<- hix] at hI hI2
 have HI := q0h hI
 have n38 : ¬ (((s[0]'hpos).toNat : Nat) : Int) = 38 := fun h => x38 (UInt8.toNat_inj.1 (by have e : (38 : UInt8).toNat = 38 := rfl; omega))
 have m38 : ((((s[0]'hpos).toNat : Nat) : Int) == 38) = false := by rw [beq_eq_false_iff_ne]; exact n38
 have n124 : ¬ (((s[0]'hpos).toNat : Nat) : Int) = 124 := fun h => x124 (UInt8.toNat_inj.1 (by have e : (124 : UInt8).toNat = 124 := rfl; omega))
 have m124 : ((((s[0]'hpos).toNat : Nat) : Int) == 124) = false := by rw [beq_eq_false_iff_ne]; exact n124
 have n61 : ¬ (((s[0]'hpos).toNat : Nat) : Int) = 61 := fun h => x61 (UInt8.toNat_inj.1 (by have e : (61 : UInt8).toNat = 61 := rfl; omega))
 have m61 : ((((s[0]'hpos).toNat : Nat) : Int) == 61) = false := by rw [beq_eq_false_iff_ne]; exact n61
 have n33 : ¬ (((s[0]'hpos).toNat : Nat) : Int) = 33 := fun h => x33 (UInt8.toNat_inj.1 (by have e : (33 : UInt8).toNat = 33 := rfl; omega))
 have m33 : ((((s[0]'hpos).toNat : Nat) : Int) == 33) = false := by rw [beq_eq_false_iff_ne]; exact n33
 have n60 : ¬ (((s[0]'hpos).toNat : Nat) : Int) = 60 := fun h => x60 (UInt8.toNat_inj.1 (by have e : (60 : UInt8).toNat = 60 := rfl; omega))
 have m60 : ((((s[0]'hpos).toNat : Nat) : Int) == 60) = false := by rw [beq_eq_false_iff_ne]; exact n60
 have n62 : ¬ (((s[0]'hpos).toNat : Nat) : Int) = 62 := fun h => x62 (UInt8.toNat_inj.1 (by have e : (62 : UInt8).toNat = 62 := rfl; omega))
 have m62 : ((((s[0]'hpos).toNat : Nat) : Int) == 62) = false := by rw [beq_eq_false_iff_ne]; exact n62
 clear hR hl hd e1 hI hI3 hix x38 x124 x61 x33 x60 x62
 by_cases h0 : 0 <= ix
 ·have HRV := q0h (hR2.trans (if_pos (hI2.1 h0)))
  clear hR2 hI2
  go_enter Tryz.func63, Tryz.ntmps63
  go_wp2_with fail
  refine (HLB.out _).mono ?_
  rintro e w1 ⟨rfl, rfl⟩
  go_wp2_with fail
  refine (HDB.out _).mono ?_
  rintro e w1 ⟨rfl, rfl⟩
  go_wp2_with fail
  refine (HI.out _).mono ?_
  rintro e w1 ⟨rfl, rfl⟩
  go_wp2_with fail
  go_ret2
  exact ⟨by rw [HRV.out]; rfl, Below.refl _ _⟩
 ·have HRV := q0h (hR2.trans (if_neg (fun h => h0 (hI2.2 h))))
  clear hR2 hI2
  go_enter Tryz.func63, Tryz.ntmps63
  go_wp2_with fail
  refine (HLB.out _).mono ?_
  rintro e w1 ⟨rfl, rfl⟩
  go_wp2_with fail
  refine (HDB.out _).mono ?_
  rintro e w1 ⟨rfl, rfl⟩
  go_wp2_with fail
  refine (HI.out _).mono ?_
  rintro e w1 ⟨rfl, rfl⟩
  go_wp2_with fail
  go_ret2
  exact ⟨by rw [HRV.out]; rfl, Below.refl _ _⟩
theorem x5p (s : ByteArray) (hs : s.size <= 1000000) (hpos : 0 < s.size) (w : World) (hg : z8h w) : q2d s w := by
 cases hl : q1g (s[0]'hpos).toNat with
 | true => exact z7d s hs hpos w hl
 | false =>
  cases hd : q0k (s[0]'hpos).toNat with
  | true => exact z8y s hs hpos w hg hl hd
  | false =>
   by_cases x38 : s[0]'hpos = 38
   ·exact x9e s hs hpos w x38
   by_cases x124 : s[0]'hpos = 124
   ·exact x5n s hs hpos w x124
   by_cases x61 : s[0]'hpos = 61
   ·exact x9f s hs hpos w x61
   by_cases x33 : s[0]'hpos = 33
   ·exact x9g s hs hpos w x33
   by_cases x60 : s[0]'hpos = 60
   ·exact x9h s hs hpos w x60
   by_cases x62 : s[0]'hpos = 62
   ·exact x9i s hs hpos w x62
   exact z8z s hs hpos w hl hd x38 x124 x61 x33 x60 x62
theorem x5q (m : List UInt8) (n : Nat) (k i : Int) (hz : m.length <= 16384) (h3 : k = 3 -> n = q2a q0k m /\ n ≠ 0 /\ decU (m.take n) < 9223372036854775808) (h4 : k = 4 -> j7t (m.take n) /\ (z8g (m.take n)).isSome = true) : z1o ⟨k, ⟨(m.take n).toArray⟩, i⟩ := by
 refine ⟨?_, fun hk => ?_, fun hk => h4 hk⟩
 ·show (m.take n).toArray.size <= 16384
  rw [List.size_toArray, List.length_take]
  omega
 ·obtain ⟨e1, e2, e3⟩ := h3 hk
  refine ⟨?_, ?_, e3⟩
  ·show (m.take n).toArray.size ≠ 0
   rw [List.size_toArray, List.length_take, e1]
   have := q4d q0k m
   omega
  ·intro c hc
   have hc2 : c ∈ m.take n := hc
   rw [e1] at hc2
   exact q9p m c hc2
theorem z7e (m : List UInt8) (i : Int) (hz : m.length <= 16384) (h : (q3v m (q2a q0k m)).1 ≠ 0) : (q3v m (q2a q0k m)).1 <= m.length /\ z1o ⟨(q3v m (q2a q0k m)).2, ⟨(m.take (q3v m (q2a q0k m)).1).toArray⟩, i⟩ := by
 unfold q3v at h ⊢
 split at h
 ·exact absurd rfl h
 ·rename_i hc
  rw [if_neg hc]
  exact ⟨q4d _ _, x5q m _ _ _ hz (fun _ => ⟨rfl, h, Nat.lt_of_not_le (fun q => hc (.inl q))⟩) (fun q => by cases q)⟩
theorem j3u (m : List UInt8) (i : Int) (hz : m.length <= 16384) (h0 : q2a q0k m ≠ 0) (h : (z6m fxB m).1 ≠ 0) : (z6m fxB m).1 <= m.length /\ z1o ⟨(z6m fxB m).2, ⟨(m.take (z6m fxB m).1).toArray⟩, i⟩ := by
 have e : z6m fxB m = if q2a q0k m = m.length \/ m.getD (q2a q0k m) 0 ≠ 46 then q3v m (q2a q0k m) else if 0 < q2a q0k (m.drop (q2a q0k m + 1)) then if fxB (m.take (q2a q0k m + 1 + q2a q0k (m.drop (q2a q0k m + 1)))) then (q2a q0k m + 1 + q2a q0k (m.drop (q2a q0k m + 1)), 4) else (0, 0) else q3v m (q2a q0k m) := rfl
 rw [e] at h ⊢
 clear e
 by_cases c1 : q2a q0k m = m.length \/ m.getD (q2a q0k m) 0 ≠ 46
 ·rw [if_pos c1] at h ⊢
  exact z7e m i hz h
 ·rw [if_neg c1] at h ⊢
  by_cases c2 : 0 < q2a q0k (m.drop (q2a q0k m + 1))
  ·rw [if_pos c2] at h ⊢
   by_cases c3 : fxB (m.take (q2a q0k m + 1 + q2a q0k (m.drop (q2a q0k m + 1)))) = true
   ·rw [if_pos c3] at h ⊢
    have hl := q4d q0k m
    have hl2 := q4d q0k (m.drop (q2a q0k m + 1))
    have hn : q2a q0k m ≠ m.length := fun q => c1 (.inl q)
    have h46 : m.getD (q2a q0k m) 0 = 46 := Classical.byContradiction fun q => c1 (.inr q)
    rw [List.length_drop] at hl2
    refine ⟨by show q2a q0k m + 1 + q2a q0k (m.drop (q2a q0k m + 1)) <= m.length; omega, ?_⟩
    exact x5q m _ _ _ hz (fun q => by cases q) (fun _ => ⟨x5m m _ _ rfl h0 rfl (by omega) (by omega) h46, c3⟩)
   ·rw [if_neg c3] at h
    exact absurd rfl h
  ·rw [if_neg c2] at h ⊢
   exact z7e m i hz h
theorem q9q (m : List UInt8) (n : Nat) (k i : Int) (hz : m.length <= 16384) (hk : k ≠ 3 /\ k ≠ 4) : z1o ⟨k, ⟨(m.take n).toArray⟩, i⟩ := x5q m n k i hz (fun q => absurd q hk.1) (fun q => absurd q hk.2)
theorem z2v (m : List UInt8) (i : Int) (hm : m ≠ []) (hz : m.length <= 16384) (h : (q1b fxB m).1 ≠ 0) : (q1b fxB m).1 <= m.length /\ z1o ⟨(q1b fxB m).2, ⟨(m.take (q1b fxB m).1).toArray⟩, i⟩ := by
 have hp := List.length_pos_iff.2 hm
 obtain ⟨q, hq⟩ : ∃ q, q = q1b fxB m := ⟨_, rfl⟩
 have hq2 := hq
 rw [<- hq] at h ⊢
 unfold q1b at hq2
 simp only at hq2
 by_cases a1 : q1g (m.headD 0).toNat = true
 ·rw [if_pos a1] at hq2
  split at hq2
  ·rw [hq2] at h; exact absurd rfl h
  ·split at hq2
   ·rw [hq2]; exact ⟨q4d _ _, q9q m _ 2 _ hz (by decide)⟩
   ·rw [hq2]; exact ⟨q4d _ _, q9q m _ 1 _ hz (by decide)⟩
 ·rw [if_neg a1] at hq2
  by_cases a2 : q0k (m.headD 0).toNat = true
  ·rw [if_pos a2] at hq2
   have h0 : q2a q0k m ≠ 0 := by
    cases m with
    | nil => exact absurd rfl hm
    | cons c m =>
     have a3 : q0k c.toNat = true := a2
     unfold q2a; rw [if_pos a3]; omega
   rw [hq2] at h ⊢
   exact j3u m i hz h0 h
  ·rw [if_neg a2] at hq2
   split at hq2
   ·split at hq2
    ·rename_i c; rw [hq2]; exact ⟨by show 2 <= m.length; omega, q9q m _ _ _ hz (by decide)⟩
    ·rw [hq2] at h; exact absurd rfl h
   ·split at hq2
    ·rename_i c; rw [hq2]; exact ⟨by show 2 <= m.length; omega, q9q m _ _ _ hz (by decide)⟩
    ·split at hq2
     ·rw [hq2]; exact ⟨by show 1 <= m.length; omega, q9q m _ _ _ hz (by decide)⟩
     ·rw [hq2] at h; exact absurd rfl h
theorem q8f (l : List UInt8) (hz : l.length <= 16384) : ∀ (k i : Nat) (out : List Tok) (r : Except Flt (List Tok)), q7n fxB l k i out = some r -> i <= l.length -> out.length <= i -> (∀ t ∈ out, z1o t) -> match r with
  | .ok ts => j3f ts /\ ts.length <= 16385 /\ ∀ t ∈ ts, z1o t
  | .error f => f.1 ≠ 0
 | 0, _, _, _, h, _, _, _ => by cases h
 | k + 1, i, out, r, h, hi, ho, hall => by
  unfold q7n at h
  by_cases hl : i < l.length
  ·rw [if_pos hl] at h
   simp only at h
   split at h
   ·have h1 := q4d q7e (l.drop i)
    rw [List.length_drop] at h1
    exact q8f l hz k _ out r h (by omega) (by omega) hall
   ·split at h
    ·exact q8f l hz k _ out r h (by omega) (by omega) hall
    ·split at h
     ·have hr : r = .error (80, i) := by injection h with h; exact h.symm
      rw [hr]
      show (80 : Int) ≠ 0
      decide
     ·rename_i hp
      have hne : l.drop i ≠ [] := fun q => by
       have := congrArg List.length q
       rw [List.length_drop, List.length_nil] at this
       omega
      have hk := z2v (l.drop i) i hne (by rw [List.length_drop]; omega) hp
      have h1 := hk.1
      rw [List.length_drop] at h1
      refine q8f l hz k _ _ r h (by omega) (by rw [List.length_append]; show out.length + 1 <= _; omega) ?_
      intro t ht
      rcases List.mem_append.1 ht with ht | ht
      ·exact hall t ht
      ·obtain rfl : t = _ := List.mem_singleton.1 ht
       exact hk.2
  ·rw [if_neg hl] at h
   have hr : r = .ok (out ++ [⟨6, ⟨#[]⟩, l.length⟩]) := by injection h with h; exact h.symm
   rw [hr]
   refine ⟨⟨out, _, rfl, rfl⟩, by rw [List.length_append]; show out.length + 1 <= _; omega, ?_⟩
   intro t ht
   rcases List.mem_append.1 ht with ht | ht
   ·exact hall t ht
   ·obtain rfl : t = _ := List.mem_singleton.1 ht
    refine ⟨by show (0 : Nat) <= 16384; omega, (fun q => by cases q), (fun q => by cases q)⟩
theorem q4g (l : List UInt8) : match q3j fxB l with
  | .ok ts => j3f ts /\ ts.length <= 16385 /\ ∀ t ∈ ts, z1o t
  | .error f => f.1 ≠ 0 := by
 unfold q3j
 by_cases hz : 16384 < l.length
 ·rw [if_pos hz]
  show (2 : Int) ≠ 0
  decide
 ·rw [if_neg hz]
  obtain ⟨r, hr⟩ := q6m fxB l (l.length + 1) 0 [] (by omega)
  rw [hr]
  exact q8f l (by omega) _ _ _ r hr (by omega) (Nat.le_refl _) (fun t ht => by cases ht)
theorem x2z (t : Int) (w : World) : Calls Tryz.prog 62 #[.int .u8 t] w fun e w' => e = .returned (.bool (q7e t)) /\ w = w' := by
 go_enter Tryz.func62, Tryz.ntmps62
 go_wp2
 all_goals go_ret
 all_goals exact ⟨q0g (by unfold q7e; rfl), rfl⟩
theorem x5r : q1k 62 := fun args w => by kernel_rfl
theorem x9j (x : Int) (w : World) : q3r 62 #[] (.int .u8 x) w (q7e x) := (x2z x w).mono fun e w' h => ⟨h.1, by rw [<- h.2]; exact Below.refl _ _⟩
theorem x5s (s : ByteArray) (w : World) (hs : s.size <= 1000000) : Calls Tryz.prog 61 #[.string s, .func (.func 62) #[] #[]] w fun e w' => e = .returned (.int .i64 (q2a q7e s.data.toList)) /\ Below w.heap.size w w' :=
 z4z 62 #[] q7e s w x5r x9j (Nat.le_trans hs (by decide))
theorem x5t : (Tryz.prog.info? 63).map (fun i => (i.zero, i.size, i.bytes)) = some (some (.agg #[.int .i64 0, .string ⟨#[]⟩, .int .i64 0]), 3, 32) := by kernel_rfl
theorem x9k (s : ByteArray) (i : Nat) : (s.extract i s.size).data.toList = s.data.toList.drop i := by
 rw [q5u, List.take_of_length_le]
 rw [List.length_drop, Array.length_toList]
 exact Nat.le_refl _
theorem j3v (s : ByteArray) (i : Nat) : (s.extract i s.size).size = s.size - i := by
 rw [q4c]
 show ((s.data.toList.drop i).take (s.size - i)).toArray.size = _
 rw [List.size_toArray, List.length_take, List.length_drop, Array.length_toList]
 show min (s.size - i) (s.size - i) = _
 omega
theorem x0x (w : World) (base : Nat) (ok : Nat -> Prop) (x : Tok) : z5a.M w base ok x [.int .i64 x.kind, .string x.text, .int .i64 x.at_] := ⟨[.int .i64 x.kind], [.string x.text, .int .i64 x.at_], rfl, rfl, ⟨[.string x.text], [.int .i64 x.at_], rfl, rfl, rfl⟩⟩
structure TS (N bf : Nat) (w0 w : World) (v : Value) (out : List Tok) : Prop where
 be : Below w0.heap.size w0 w
 hf : w.heap[bf]? = some (.cells #[.int .i64 0, .int .i64 0] 35 (0, 0))
 row : z5a.R 63 w N (fun k => N <= k) v out
 nw : N <= w.heap.size
 lo : w0.heap.size <= bf /\ bf < N
theorem TS.below {N bf : Nat} {w0 w w1 : World} {v : Value} {out : List Tok} (h : TS N bf w0 w v out) (hb : Below w.heap.size w w1) : TS N bf w0 w1 v out :=
 ⟨q0e h.be hb, (hb.block bf (q0c h.hf)).trans h.hf, Kd.R_below h.row hb, Nat.le_trans h.nw hb.size, h.lo⟩
theorem TS.app {N bf : Nat} {w0 w w1 : World} {v v1 : Value} {out : List Tok} {x : Tok} (h : TS N bf w0 w v out) (hr : z5a.R 63 w1 N (fun k => N <= k) v1 (out ++ [x])) (hg : w.grownBy w1 v.ownBlock) : TS N bf w0 w1 v1 (out ++ [x]) := by
 have hlt : ∀ k, v.ownBlock = some k -> N <= k := fun k hk => h.row.1 k hk
 refine ⟨z5e h.be hg (fun k hk => by have := hlt k hk; have := h.lo; omega), (hg.block bf (q0c h.hf) (fun e => by have := hlt bf e.symm; have := h.lo; omega)).trans h.hf, hr, Nat.le_trans h.nw hg.size, h.lo⟩
theorem x9l {fx : List UInt8 -> Bool} {l : List UInt8} {k i : Nat} {out : List Tok} (hi : ¬ i < l.length) : q7n fx l (k + 1) i out = some (.ok (out ++ [⟨6, ⟨#[]⟩, l.length⟩])) := by
 unfold q7n; rw [if_neg hi]
theorem x9m {fx : List UInt8 -> Bool} {l : List UInt8} {k i : Nat} {out : List Tok} (hi : i < l.length) (hc : l.getD i 0 = 35) : q7n fx l (k + 1) i out = q7n fx l k (i + q2a q7e (l.drop i)) out := by
 rw [q7n, if_pos hi]; simp only; rw [if_pos hc]
theorem q9r {fx : List UInt8 -> Bool} {l : List UInt8} {k i : Nat} {out : List Tok} (hi : i < l.length) (h1 : l.getD i 0 ≠ 35) (hc : l.getD i 0 = 9 \/ l.getD i 0 = 10 \/ l.getD i 0 = 13 \/ l.getD i 0 = 32) : q7n fx l (k + 1) i out = q7n fx l k (i + 1) out := by
 rw [q7n, if_pos hi]; simp only; rw [if_neg h1, if_pos hc]
theorem j3w {fx : List UInt8 -> Bool} {l : List UInt8} {k i : Nat} {out : List Tok} (hi : i < l.length) (h1 : l.getD i 0 ≠ 35) (hc : ¬ (l.getD i 0 = 9 \/ l.getD i 0 = 10 \/ l.getD i 0 = 13 \/ l.getD i 0 = 32)) (hp : (q1b fx (l.drop i)).1 = 0) : q7n fx l (k + 1) i out = some (.error (80, i)) := by
 rw [q7n, if_pos hi]; simp only; rw [if_neg h1, if_neg hc, if_pos hp]
theorem j3x {fx : List UInt8 -> Bool} {l : List UInt8} {k i : Nat} {out : List Tok} (hi : i < l.length) (h1 : l.getD i 0 ≠ 35) (hc : ¬ (l.getD i 0 = 9 \/ l.getD i 0 = 10 \/ l.getD i 0 = 13 \/ l.getD i 0 = 32)) (hp : (q1b fx (l.drop i)).1 ≠ 0) : q7n fx l (k + 1) i out = q7n fx l k (i + (q1b fx (l.drop i)).1) (out ++ [⟨(q1b fx (l.drop i)).2, ⟨((l.drop i).take (q1b fx (l.drop i)).1).toArray⟩, i⟩]) := by
 rw [q7n, if_pos hi]; simp only; rw [if_neg h1, if_neg hc, if_neg hp]
set_option maxHeartbeats 32000000 in
theorem z9a (s : ByteArray) (hz : 16384 < s.size) (hsz : s.size <= 1000000000) (w : World) : Calls Tryz.prog 25 #[.string s] w fun e w' => Below w.heap.size w w' /\ e = .returned (.tuple #[.slice none 0 0, .agg #[.int .i64 2, .int .i64 (-1)]]) := by
 have HB := q0h (q0d (Below.refl w.heap.size w) (.cells #[.int .i64 2, .int .i64 (-1)] 35))
 go_enter Tryz.func25, Tryz.ntmps25
 go_wp2_with fail
 refine bodyPost_ret (z0p rfl _ _ w.heap.size 35 #[.int .i64 2, .int .i64 (-1)] (0, 0) _ rfl (heap_alloc_new _ _) Tryz.underlying35 rfl (by kernel_rfl)) rfl ?_
 exact ⟨HB.out, rfl⟩
def j6e (w w' : World) (e : Ending) : Except Flt (List Tok) -> Prop
 | .ok ts => ∃ v, e = .returned (.tuple #[v, .agg #[.int .i64 0, .int .i64 0]]) /\ z5a.R 63 w' w.heap.size (fun k => w.heap.size <= k) v ts
 | .error f => e = .returned (.tuple #[.slice none 0 0, .agg #[.int .i64 f.1, .int .i64 f.2]])
set_option maxHeartbeats 32000000 in
theorem z7f (s : ByteArray) (hz : s.size <= 16384) (w : World) (hg : z8h w) (r : Except Flt (List Tok)) (hr : q7n fxB s.data.toList (s.data.toList.length + 1) 0 [] = some r) : Calls Tryz.prog 25 #[.string s] w fun e w' => Below w.heap.size w w' /\ j6e w w' e r := by
 obtain ⟨bf, hbf⟩ : ∃ b, b = w.heap.size := ⟨_, rfl⟩
 obtain ⟨N, hN⟩ : ∃ b, b = w.heap.size + 1 := ⟨_, rfl⟩
 obtain ⟨W, hW⟩ : ∃ W, W = w.alloc (.cells #[.int .i64 0, .int .i64 0] 35) := ⟨_, rfl⟩
 have qf : W.heap[bf]? = some (.cells #[.int .i64 0, .int .i64 0] 35 (0, 0)) := by rw [hW, hbf]; exact heap_alloc_new _ _
 have HT := q0h (show TS N bf w W (.slice none 0 0) [] from ⟨by rw [hW]; exact q0d (Below.refl _ _) _, qf, Kd.R_nil _ _ _ _ _, by rw [hN, hW]; simp, by omega⟩)
 have HW := q0h hW
 have HBF := q0h hbf
 have HG := q0h hg
 have HR := q0h hr
 obtain ⟨l, hl⟩ : ∃ l, l = s.data.toList := ⟨_, rfl⟩
 have hll : l.length = s.size := by rw [hl]; simp
 have HLL := q0h hll
 have HL := q0h hl
 rw [<- hl] at HR
 clear hW hbf hN qf hg hr hll hl
 go_enter Tryz.func25, Tryz.ntmps25
 go_wp2_with fail
 rw [<- HW.out, <- HBF.out]
 go_wp2_with fail
 go_loopg [4, 5] (l.length + 1) (fun k vo vi wr => ∃ (out : List Tok) (i : Nat) (A : Option Addr) (c : Nat), vo = .slice A out.length c /\ vi = .int .i64 i /\ i <= s.size /\ out.length <= i /\ Hid (TS N bf w wr (.slice A out.length c) out) /\ Hid (q7n fxB l k i out = some r))
 case atStart => exact ⟨[], 0, none, 0, rfl, rfl, by omega, by simp, HT, HR⟩
 case round =>
  clear HR HT
  obtain ⟨out, i, A, c, rfl, rfl, hi, ho, HS, HQ⟩ := hrel
  cases gk with
  | zero => exact absurd HQ.out (by intro h; cases h)
  | succ k =>
   by_cases hlt : i < s.size
   ·have HLT := q0h (show i < l.length by rw [HLL.out]; exact hlt)
    have HAT := q0h (show l.getD i 0 = s[i] from by rw [HL.out]; exact q8x s i hlt)
    have HEX := q0h (show (s.extract i s.size).data.toList = l.drop i by rw [HL.out]; exact x9k s i)
    have HEZ := q0h (j3v s i)
    by_cases x35 : s[i]'hlt = 35
    ·have HN := q0h ((x9m HLT.out (HAT.out.trans x35)).symm.trans HQ.out)
     go_wp2_with fail
     refine (x5s (s.extract i s.size) wr (by rw [HEZ.out]; omega)).mono ?_
     rintro e w1 ⟨rfl, hb⟩
     have HS1 := q0h (HS.out.below hb)
     clear hb
     rw [HEX.out]
     have hn := q4d q7e (l.drop i)
     rw [List.length_drop, HLL.out] at hn
     obtain ⟨n, hnn⟩ : ∃ n, n = q2a q7e (l.drop i) := ⟨_, rfl⟩
     rw [<- hnn] at HN hn ⊢
     clear hnn x35
     go_wp2_with fail
     go_roundg k
     case measure => omega
     case rel => exact ⟨out, i + n, A, c, rfl, by go_num, by omega, by omega, HS1, HN⟩
    have m35 : ((((s[i]'hlt).toNat : Nat) : Int) == 35) = false := by rw [beq_eq_false_iff_ne]; exact fun h => x35 (UInt8.toNat_inj.1 (by have e : (35 : UInt8).toNat = 35 := rfl; omega))
    by_cases x9 : s[i]'hlt = 9
    ·have HN := q0h ((q9r HLT.out (by rw [HAT.out]; exact x35) (by rw [HAT.out, x9]; decide)).symm.trans HQ.out)
     clear x35
     go_wp2_with fail
     go_roundg k
     case measure => omega
     case rel => exact ⟨out, i + 1, A, c, rfl, by go_num, by omega, by omega, HS, HN⟩
    have m9 : ((((s[i]'hlt).toNat : Nat) : Int) == 9) = false := by rw [beq_eq_false_iff_ne]; exact fun h => x9 (UInt8.toNat_inj.1 (by have e : (9 : UInt8).toNat = 9 := rfl; omega))
    by_cases x10 : s[i]'hlt = 10
    ·have HN := q0h ((q9r HLT.out (by rw [HAT.out]; exact x35) (by rw [HAT.out, x10]; decide)).symm.trans HQ.out)
     clear x35
     go_wp2_with fail
     go_roundg k
     case measure => omega
     case rel => exact ⟨out, i + 1, A, c, rfl, by go_num, by omega, by omega, HS, HN⟩
    have m10 : ((((s[i]'hlt).toNat : Nat) : Int) == 10) = false := by rw [beq_eq_false_iff_ne]; exact fun h => x10 (UInt8.toNat_inj.1 (by have e : (10 : UInt8).toNat = 10 := rfl; omega))
    by_cases x13 : s[i]'hlt = 13
    ·have HN := q0h ((q9r HLT.out (by rw [HAT.out]; exact x35) (by rw [HAT.out, x13]; decide)).symm.trans HQ.out)
     clear x35
     go_wp2_with fail
     go_roundg k
     case measure => omega
     case rel => exact ⟨out, i + 1, A, c, rfl, by go_num, by omega, by omega, HS, HN⟩
    have m13 : ((((s[i]'hlt).toNat : Nat) : Int) == 13) = false := by rw [beq_eq_false_iff_ne]; exact fun h => x13 (UInt8.toNat_inj.1 (by have e : (13 : UInt8).toNat = 13 := rfl; omega))
    by_cases x32 : s[i]'hlt = 32
    ·have HN := q0h ((q9r HLT.out (by rw [HAT.out]; exact x35) (by rw [HAT.out, x32]; decide)).symm.trans HQ.out)
     clear x35
     go_wp2_with fail
     go_roundg k
     case measure => omega
     case rel => exact ⟨out, i + 1, A, c, rfl, by go_num, by omega, by omega, HS, HN⟩
    have m32 : ((((s[i]'hlt).toNat : Nat) : Int) == 32) = false := by rw [beq_eq_false_iff_ne]; exact fun h => x32 (UInt8.toNat_inj.1 (by have e : (32 : UInt8).toNat = 32 := rfl; omega))
    have HC := q0h (show ¬ (l.getD i 0 = 9 \/ l.getD i 0 = 10 \/ l.getD i 0 = 13 \/ l.getD i 0 = 32) from fun h => by rw [HAT.out] at h; rcases h with h | h | h | h; exact x9 h; exact x10 h; exact x13 h; exact x32 h)
    have H35 := q0h (show l.getD i 0 ≠ 35 by rw [HAT.out]; exact x35)
    clear x35 x9 x10 x13 x32
    have HP := q0h (x5p (s.extract i s.size) (by rw [HEZ.out]; omega) (by rw [HEZ.out]; omega) wr (HG.out.below HS.out.be))
    obtain ⟨pn, hpn⟩ : ∃ n, n = (q1b fxB (l.drop i)).1 := ⟨_, rfl⟩
    obtain ⟨pk, hpk⟩ : ∃ n, n = (q1b fxB (l.drop i)).2 := ⟨_, rfl⟩
    have HPN := q0h hpn
    have HPK := q0h hpk
    clear hpn hpk
    go_wp2_with fail
    clear m35 m9 m10 m13 m32
    refine HP.out.mono ?_
    rintro e w1 ⟨rfl, hb⟩
    have HS1 := q0h (HS.out.below hb)
    clear hb HP
    rw [HEX.out, <- HPN.out, <- HPK.out]
    by_cases h0 : pn = 0
    ·have HN := q0h (q0p ((j3w HLT.out H35.out HC.out (by rw [<- HPN.out]; exact h0)).symm.trans HQ.out))
     have z0 : w1.cell? ⟨bf, 0, none⟩ = some (.int .i64 0) := (q0a HS1.out.hf 0).trans rfl
     have z1 : w1.cell? ⟨bf, 1, none⟩ = some (.int .i64 0) := (q0a HS1.out.hf 1).trans rfl
     have f0 : w1.frozen? ⟨bf, 0, none⟩ = false := q0f HS1.out.hf 0
     have f1 : w1.frozen? ⟨bf, 1, none⟩ = false := q0f HS1.out.hf 1
     go_wp2_with fail
     obtain ⟨W2, hW2⟩ : ∃ W, W = (w1.setCell ⟨bf, 0, none⟩ (.int .i64 80)).setCell ⟨bf, 1, none⟩ (.int .i64 i) := ⟨_, rfl⟩
     rw [<- hW2]
     have j2 : W2.heap[bf]? = some (.cells #[.int .i64 80, .int .i64 i] 35 (0, 0)) := by rw [hW2]; exact q0y (q0y HS1.out.hf 0 (.int .i64 80) rfl) 1 (.int .i64 i) rfl
     have hb2 : Below w.heap.size w W2 := by rw [hW2]; exact q1q (q1q HS1.out.be HS1.out.lo.1) HS1.out.lo.1
     clear z0 z1 f0 f1
     try simp only [Exit.jump]
     refine bodyPost_ret (z0p rfl _ _ bf 35 #[.int .i64 80, .int .i64 i] (0, 0) _ rfl j2 Tryz.underlying35 rfl (by kernel_rfl)) rfl ?_
     exact ⟨hb2, by rw [HN.out]; rfl⟩
    ·have HN := q0h ((j3x HLT.out H35.out HC.out (by rw [<- HPN.out]; exact h0)).symm.trans HQ.out)
     have hpl := (z2v (l.drop i) 0 (fun q => by have h5 := HLT.out; have := congrArg List.length q; rw [List.length_drop, List.length_nil] at this; omega) (by rw [List.length_drop, HLL.out]; omega) (by rw [<- HPN.out]; exact h0)).1
     rw [<- HPN.out, List.length_drop, HLL.out] at hpl
     rw [<- HPN.out, <- HPK.out] at HN
     have HTX := q0h (show (⟨((l.drop i).take pn).toArray⟩ : ByteArray) = s.extract i (i + pn) by rw [q4c, <- HL.out, Nat.add_sub_cancel_left])
     rw [HTX.out] at HN
     have hq : i + pn <= s.size := by omega
     have hq2 : (i : Int) + (pn : Int) <= (s.size : Int) := by omega
     have hsl : ∀ W, (Instr.slice 9 (.string s) (some (.int .i64 (i : Int))) (some (.int .i64 ((i : Int) + (pn : Int)))) none).run Tryz.prog W = .ok (.string (s.extract i (i + pn))) W := fun W => by
      rw [run_slice_string (w := W) 9 s .i64 .i64 _ _ Tryz.underlying9 (by omega) (by omega) (by omega)]
      rw [show ((i : Int)).toNat = i by omega, show ((i : Int) + (pn : Int)).toNat = i + pn by omega]
     go_wp2_with fail
     refine (x5d (s.extract i (i + pn)) (by rw [q4c]; show ((s.data.toList.drop i).take (i + pn - i)).toArray.size <= _; rw [List.size_toArray, List.length_take]; omega) w1).mono ?_
     rintro e w2 ⟨rfl, hb⟩
     have HS2 := q0h (HS1.out.below hb)
     clear hb
     go_wp2_with (at_builtin; refine Kd.R_append z5a (w0 := w2) N rfl _ _ 52 63 (.agg #[.int .i64 0, .string ⟨#[]⟩, .int .i64 0]) 32 rfl Tryz.underlying52 x5t rfl (show 0 < 3 by decide) (by decide) (.slice A out.length c) out (⟨pk, s.extract i (i + pn), (i : Int)⟩ : Tok) [.int .i64 pk, .string (s.extract i (i + pn)), .int .i64 i] (fun k => N <= k) (fun _ => False) rfl rfl (x0x _ _ _ (⟨pk, s.extract i (i + pn), (i : Int)⟩ : Tok)) (fun _ h => h.elim) (fun k hk => by have := HS2.out.nw; show N <= k; omega) HS2.out.row (Below.refl _ _) HS2.out.nw (by omega) ?_)
     intro v1 w3 hv1 hb1 hg1 hat1
     obtain ⟨A', c', rfl⟩ := Kd.R_slice hv1
     have HS3 := q0h (HS2.out.app hv1 hg1)
     have hl1 : (out ++ [(⟨pk, s.extract i (i + pn), (i : Int)⟩ : Tok)]).length = out.length + 1 := by simp
     rw [hl1] at HS3 hv1 hat1 ⊢
     clear hv1 hb1 hg1 hat1
     go_wp2_with fail
     go_roundg k
     case measure => omega
     case rel => exact ⟨out ++ [⟨pk, s.extract i (i + pn), (i : Int)⟩], i + pn, A', c', by rw [hl1], by go_num, by omega, by rw [hl1]; omega, by rw [hl1]; exact HS3, HN⟩
   ·have HN := q0h (q0p ((x9l (by rw [HLL.out]; exact hlt)).symm.trans HQ.out))
    go_wp2_with (at_builtin; refine Kd.R_append z5a (w0 := wr) N rfl _ _ 52 63 (.agg #[.int .i64 0, .string ⟨#[]⟩, .int .i64 0]) 32 rfl Tryz.underlying52 x5t rfl (show 0 < 3 by decide) (by decide) (.slice A out.length c) out (⟨6, ⟨#[]⟩, (s.size : Int)⟩ : Tok) [.int .i64 6, .string ⟨#[]⟩, .int .i64 s.size] (fun k => N <= k) (fun _ => False) rfl rfl (x0x _ _ _ (⟨6, ⟨#[]⟩, (s.size : Int)⟩ : Tok)) (fun _ h => h.elim) (fun k hk => by have := HS.out.nw; show N <= k; omega) HS.out.row (Below.refl _ _) HS.out.nw (by omega) ?_)
    intro v1 w3 hv1 hb1 hg1 hat1
    obtain ⟨A', c', rfl⟩ := Kd.R_slice hv1
    have HS3 := q0h (HS.out.app hv1 hg1)
    have hl1 : (out ++ [(⟨6, ⟨#[]⟩, (s.size : Int)⟩ : Tok)]).length = out.length + 1 := by simp
    rw [hl1] at HS3 hv1 hat1 ⊢
    clear hv1 hb1 hg1 hat1
    have z0 : w3.cell? ⟨bf, 0, none⟩ = some (.int .i64 0) := (q0a HS3.out.hf 0).trans rfl
    have z1 : w3.cell? ⟨bf, 1, none⟩ = some (.int .i64 0) := (q0a HS3.out.hf 1).trans rfl
    have f0 : w3.frozen? ⟨bf, 0, none⟩ = false := q0f HS3.out.hf 0
    have f1 : w3.frozen? ⟨bf, 1, none⟩ = false := q0f HS3.out.hf 1
    go_wp2_with fail
    obtain ⟨W2, hW2⟩ : ∃ W, W = (w3.setCell ⟨bf, 0, none⟩ (.int .i64 0)).setCell ⟨bf, 1, none⟩ (.int .i64 0) := ⟨_, rfl⟩
    rw [<- hW2]
    have j2 : W2.heap[bf]? = some (.cells #[.int .i64 0, .int .i64 0] 35 (0, 0)) := by rw [hW2]; exact q0y (q0y HS3.out.hf 0 (.int .i64 0) rfl) 1 (.int .i64 0) rfl
    have hb2 : Below w.heap.size w W2 := by rw [hW2]; exact q1q (q1q HS3.out.be HS3.out.lo.1) HS3.out.lo.1
    have hr2 : z5a.R 63 W2 w.heap.size (fun k => w.heap.size <= k) (.slice A' (out.length + 1) c') (out ++ [⟨6, ⟨#[]⟩, (s.size : Int)⟩]) := by
     have h5 := HS3.out.lo
     refine Kd.R_mono (Kd.R_lower (Kd.R_step HS3.out.row (fun k hk _ => ?_)) (show w.heap.size <= N by omega)) (fun k hk => by have h6 : N <= k := hk; show w.heap.size <= k; omega)
     have h6 : N <= k := hk
     rw [hW2]
     exact (Below.heap_setCell _ ⟨bf, 1, none⟩ _ k (by show k ≠ bf; omega)).trans (Below.heap_setCell _ ⟨bf, 0, none⟩ _ k (by show k ≠ bf; omega))
    clear z0 z1 f0 f1
    try simp only [Exit.jump]
    refine bodyPost_ret (z0p rfl _ _ bf 35 #[.int .i64 0, .int .i64 0] (0, 0) _ rfl j2 Tryz.underlying35 rfl (by kernel_rfl)) rfl ?_
    refine ⟨hb2, ?_⟩
    rw [HN.out, HLL.out]
    exact ⟨_, rfl, hr2⟩
theorem x3a : x5e fxB := by
 intro s w hg hsz
 have hk := q4g s.data.toList
 have hll : s.data.toList.length = s.size := by simp
 by_cases hz : 16384 < s.size
 ·have e : q3j fxB s.data.toList = .error (2, -1) := by unfold q3j; rw [if_pos (by rw [hll]; exact hz)]
  rw [e]
  refine (z9a s hz hsz w).mono ?_
  rintro e w' ⟨hb, rfl⟩
  exact ⟨hb, rfl, by decide⟩
 ·obtain ⟨r, hr⟩ := q6m fxB s.data.toList (s.data.toList.length + 1) 0 [] (by omega)
  have e : q3j fxB s.data.toList = r := by unfold q3j; rw [if_neg (by rw [hll]; exact hz), hr]; rfl
  rw [e] at hk ⊢
  refine (z7f s (by omega) w hg r hr).mono ?_
  rintro e w' ⟨hb, ha⟩
  refine ⟨hb, ?_⟩
  cases r with
  | ok ts => exact ⟨ha, hk⟩
  | error f => exact ⟨ha, hk⟩
def Gv {α : Type} (o : Option (Except Flt (α × List Tok))) (k : Nat) : Prop := ∃ x, o = some x /\ ∀ a ts', x = .ok (a, ts') -> ts'.length < k
theorem Gv.mono {α : Type} {o : Option (Except Flt (α × List Tok))} {k k' : Nat} (h : Gv o k) (hk : k <= k') : Gv o k' :=
 let ⟨x, h1, h2⟩ := h
 ⟨x, h1, fun a ts' e => Nat.lt_of_lt_of_le (h2 a ts' e) hk⟩
theorem q2o {α : Type} {a : α} {ts : List Tok} {k : Nat} (h : ts.length < k) : Gv (some (.ok (a, ts))) k := ⟨_, rfl, fun a2 t2 e => by injection e with e; injection e with e1 e2; rw [<- e2]; exact h⟩
theorem q8y {α : Type} {f : Flt} {k : Nat} : Gv (some (.error f) : Option (Except Flt (α × List Tok))) k := ⟨_, rfl, fun a2 t2 e => by cases e⟩
theorem q0l {α β : Type} {m : PM α} {f : α -> PM β} {ts : List Tok} {k1 k : Nat} (h : Gv (m ts) k1) (hf : ∀ a ts', ts'.length < k1 -> Gv (f a ts') k) : Gv (m.bind f ts) k := by
 obtain ⟨r, h1, h2⟩ := h
 unfold PM.bind
 rw [h1]
 cases r with
 | error e => exact q8y
 | ok p => exact hf p.1 p.2 (h2 p.1 p.2 rfl)
theorem x0y (ts : List Tok) : (q0w ts).length <= ts.length := by
 unfold q0w
 split
 ·exact Nat.le_refl _
 ·rw [List.length_tail]; omega
theorem z2w {ts : List Tok} (h6 : (ts.headD q2m).kind ≠ 6) (h0 : (ts.headD q2m).kind ≠ 0) : (q0w ts).length < ts.length := by
 unfold q0w
 rw [if_neg h6]
 cases ts with
 | nil => exact absurd rfl h0
 | cons t r => simp
theorem x0z {s : ByteArray} {ts : List Tok} (h : isT s ts = true) : (ts.headD q2m).kind = 2 \/ (ts.headD q2m).kind = 5 := by
 unfold isT at h
 rw [Bool.and_eq_true, Bool.or_eq_true] at h
 exact h.2.imp (fun q => beq_iff_eq.1 q) (fun q => beq_iff_eq.1 q)
theorem q5j {s : ByteArray} {ts : List Tok} (h : isT s ts = true) : (q0w ts).length < ts.length := by
 rcases x0z h with h1 | h1 <;> exact z2w (by rw [h1]; decide) (by rw [h1]; decide)
theorem q3e (s : ByteArray) (ts : List Tok) : Gv (q1y s ts) ts.length := by
 unfold q1y
 split
 ·rename_i h; exact q2o (q5j h)
 ·exact q8y
theorem z4i (s : ByteArray) (ts : List Tok) : Gv (z4a s ts) (ts.length + 1) := by
 unfold z4a
 split
 ·rename_i h; exact q2o (by have := q5j h; omega)
 ·exact q2o (by omega)
theorem z0s (ts : List Tok) : Gv (q6a ts) ts.length := by
 unfold q6a x4e
 split
 ·rename_i h; exact q2o (z2w (by rw [h]; decide) (by rw [h]; decide))
 ·exact q8y
theorem q7s (ts : List Tok) : Gv (q2v ts) ts.length := by
 unfold q2v
 split
 ·rename_i h; exact q2o (q5j h)
 ·split
  ·rename_i h; exact q2o (q5j h)
  ·split
   ·rename_i h; exact q2o (q5j h)
   ·split
    ·rename_i h; exact q2o (q5j h)
    ·exact q8y
theorem x5u (num : Tok -> Int) (t s : Int) (ts : List Tok) : Gv (q6g num t s ts) (ts.length + 1) := by
 unfold q6g
 split
 ·exact q8y
 ·exact q2o (by have := x0y ts; omega)
theorem x9n (num : Tok -> Int) (t : Int) (ts : List Tok) : Gv (q9k num t ts) (ts.length + 1) := by
 unfold q9k
 split
 ·refine q0l (z4i _ _) (fun b t1 h1 => ?_)
  cases b with
  | true => exact q2o h1
  | false => exact q0l (q3e _ _) (fun _ t2 h2 => q2o (by omega))
 ·split
  ·exact q0l (q3e _ _) (fun _ t2 h2 => q2o (by omega))
  ·exact q0l (z4i _ _) (fun b t1 h1 => (x5u num _ _ t1).mono (by omega))
theorem j3y (num : Tok -> Int) (ts : List Tok) : Gv (x2j num ts) (ts.length + 1) := by
 unfold x2j
 split
 ·exact q8y
 ·split
  ·exact q8y
  ·exact q2o (by have := x0y ts; omega)
theorem z9b (num : Tok -> Int) (ts : List Tok) : Gv (q3h num ts) ts.length := by
 unfold q3h
 refine q0l (q3e _ _) (fun _ t1 h1 => q0l (z0s _) (fun t t2 h2 => q0l (q3e _ _) (fun _ t3 h3 => q0l (z4i _ _) (fun b t4 h4 => q0l (k1 := t4.length + 1) ?_ (fun v t5 h5 => q0l (q3e _ _) (fun _ t6 h6 => q2o (by omega)))))))
 cases b with
 | true => exact q0l (j3y num _) (fun n t5 h5 => q0l (q3e _ _) (fun _ t6 h6 => q0l (q7s _) (fun ty t7 h7 => q2o (by omega))))
 | false =>
  refine q0l (q7s _) (fun ty t5 h5 => q0l (z4i _ _) (fun e t6 h6 => ?_))
  cases e with
  | true => exact q0l (x9n num _ _) (fun v t7 h7 => q2o (by omega))
  | false => exact q2o (by omega)
theorem x5v {α : Type} (stop : ByteArray) (read : List α -> PM α) (B : Nat) (hr : ∀ l ts, ts.length < B -> Gv (read l ts) ts.length) : ∀ (n : Nat) (l : List α) (ts : List Tok), ts.length < B -> ts.length < n -> Gv (z2p stop read n l ts) (ts.length + 1)
 | 0, _, _, _, h => by omega
 | n + 1, l, ts, hB, h => by
  unfold z2p
  split
  ·exact q2o (by omega)
  ·refine q0l (hr l ts hB) (fun a t1 h1 => ?_)
   split
   ·exact q2o (by omega)
   ·refine q0l (q3e _ _) (fun _ t2 h2 => ?_)
    split
    ·exact q8y
    ·exact (x5v stop read B hr n _ t2 (by omega) (by omega)).mono (by omega)
theorem q9s {α : Type} {lv : Nat} {read : Nat -> PM α} {ts : List Tok} {k : Nat} (h : ∀ lv, Gv (read lv ts) k) : Gv (q1x lv read ts) k := by
 unfold q1x
 split
 ·exact q8y
 ·exact h _
theorem q8g {α : Type} {lv : Nat} {left right : ByteArray} {read : Nat -> PM α} {ts : List Tok} (h : ∀ lv ts', ts'.length < ts.length -> Gv (read lv ts') (ts'.length + 1)) : Gv (q2n lv left read right ts) ts.length := by
 unfold q2n
 split
 ·rename_i hl
  refine q9s (fun lv => q0l (h lv _ (q5j hl)) (fun a t1 h1 => q0l (q3e _ _) (fun _ t2 h2 => q2o ?_)))
  have := q5j hl
  omega
 ·exact q8y
structure RK (n : Nat) (R : q4e) : Prop where
 strong : ∀ ts l lv, 2 * ts.length + 2 <= n -> Gv (R.strong l lv ts) ts.length
 one : ∀ ts lv, 2 * ts.length + 1 <= n -> Gv (R.one lv ts) ts.length
 stmt : ∀ ts lv, 2 * ts.length + 2 <= n -> Gv (R.stmt lv ts) ts.length
 choice : ∀ ts lv, 2 * ts.length + 1 <= n -> Gv (R.choice lv ts) ts.length
 block : ∀ ts lv, 2 * ts.length + 1 <= n -> Gv (R.block lv ts) ts.length
theorem x5w {n : Nat} {R : q4e} (h : RK n R) (lv : Nat) (t : Tok) (ts : List Tok) (hn : 2 * ts.length <= n) : Gv (q8k n R lv t ts) ts.length := by
 unfold q8k
 refine q0l (q8g (fun lv ts' h1 => ?_)) (fun l t1 h1 => q2o h1)
 exact x5v _ _ ts.length (fun l t2 h2 => h.strong t2 1 lv (by omega)) n [] ts' h1 (by omega)
theorem x1a {n : Nat} {R : q4e} (h : RK n R) (lv : Nat) (ts : List Tok) (hn : 2 * ts.length <= n) : Gv (q4m R lv ts) ts.length := by
 unfold q4m
 refine q8g (fun lv ts' h1 => ?_)
 exact q0l (h.strong ts' 1 lv (by omega)) (fun e t1 h2 => q2o (by omega))
theorem j3z (num : Tok -> Int) {n : Nat} {R : q4e} (h : RK n R) (lv : Nat) (ts : List Tok) (hn : 2 * ts.length <= n) : Gv (z0r num n R lv ts) ts.length := by
 unfold z0r
 dsimp only
 split
 ·rename_i hk; exact q2o (z2w (by rw [hk]; decide) (by rw [hk]; decide))
 split
 ·rename_i hk; exact q2o (z2w (by rw [hk]; decide) (by rw [hk]; decide))
 split
 ·rename_i hk; exact q2o (q5j hk)
 split
 ·rename_i hk; exact q2o (q5j hk)
 split
 ·rename_i hk; exact q2o (q5j hk)
 split
 ·exact q8g (fun lv t1 h1 => (h.strong t1 1 lv (by omega)).mono (by omega))
 refine q0l (z0s ts) (fun _ t1 h1 => ?_)
 split
 ·exact (x5w h lv _ t1 (by omega)).mono (by omega)
 split
 ·exact q0l (x1a h lv t1 (by omega)) (fun l t2 h2 => q2o (by omega))
 ·exact q2o h1
theorem j6f (num : Tok -> Int) {n : Nat} {R : q4e} (h : RK n R) (lv : Nat) (ts : List Tok) (hn : 2 * ts.length <= n) : Gv (x4f num n R lv ts) ts.length := by
 unfold x4f
 split
 ·rename_i hk
  have := q5j hk
  exact q9s (fun lv => q0l (h.one _ lv (by omega)) (fun e t1 h1 => q2o (by omega)))
 split
 ·rename_i hk
  have := q5j hk
  exact q9s (fun lv => q0l (h.one _ lv (by omega)) (fun e t1 h1 => q2o (by omega)))
 exact j3z num h lv ts hn
theorem z4j {n : Nat} {R : q4e} (h : RK n R) (least : Int) (lv : Nat) : ∀ (k : Nat) (most : Int) (e : Ex) (ts : List Tok), ts.length < k -> 2 * ts.length <= n -> Gv (q2r R least lv k most e ts) (ts.length + 1)
 | 0, _, _, _, hk, _ => by omega
 | k + 1, most, e, ts, hk, hn => by
  unfold q2r
  dsimp only
  split
  ·exact q2o (by omega)
  ·rename_i hc
   have h5 : (ts.headD q2m).kind = 5 := Classical.byContradiction fun q => hc (.inl q)
   have hl := z2w (ts := ts) (by rw [h5]; decide) (by rw [h5]; decide)
   exact q0l (h.strong _ _ lv (by omega)) (fun e2 t1 h1 => (z4j h least lv k _ _ t1 (by omega) (by omega)).mono (by omega))
theorem x5x {n : Nat} {R : q4e} (h : RK n R) (least : Int) (lv : Nat) (ts : List Tok) (hn : 2 * ts.length + 1 <= n) : Gv (q8r n R least lv ts) ts.length := by
 unfold q8r
 exact q0l (h.one ts lv hn) (fun e t1 h1 => (z4j h least lv n 5 e t1 (by omega) (by omega)).mono (by omega))
theorem z7g {n : Nat} {R : q4e} (h : RK n R) (lv : Nat) : ∀ (k : Nat) (l : List St) (ts : List Tok), ts.length < k -> 2 * ts.length + 2 <= n -> Gv (q5i R lv k l ts) (ts.length + 1)
 | 0, _, _, hk, _ => by omega
 | k + 1, l, ts, hk, hn => by
  unfold q5i
  split
  ·split
   ·exact q8y
   ·exact q0l (h.stmt ts lv hn) (fun s t1 h1 => (z7g h lv k _ t1 (by omega) (by omega)).mono (by omega))
  ·exact q2o (by omega)
theorem x9o {n : Nat} {R : q4e} (h : RK n R) (lv : Nat) (ts : List Tok) (hn : 2 * ts.length <= n) : Gv (z4b n R lv ts) ts.length := by
 unfold z4b
 exact q8g (fun lv t1 h1 => z7g h lv n [] t1 (by omega) (by omega))
theorem z0t (s : St) (ts : List Tok) : Gv (q4p s ts) ts.length := by
 unfold q4p
 exact q0l (q3e _ _) (fun _ t1 h1 => q2o h1)
theorem j4a {n : Nat} {R : q4e} (h : RK n R) (lv : Nat) (ts : List Tok) (hn : 2 * ts.length + 1 <= n) : Gv (q9l n R lv ts) ts.length := by
 unfold q9l
 dsimp only
 split
 ·exact h.choice ts lv hn
 split
 ·rename_i hk
  have := q5j hk
  exact q0l (h.strong _ 1 lv (by omega)) (fun e t1 h1 => q0l (h.block t1 lv (by omega)) (fun l t2 h2 => q2o (by omega)))
 split
 ·rename_i hk
  have := q5j hk
  exact q0l (z0s _) (fun t t1 h1 => q0l (q3e _ _) (fun _ t2 h2 => q0l (q7s _) (fun ty t3 h3 => q0l (q3e _ _) (fun _ t4 h4 => q0l (h.strong t4 1 lv (by omega)) (fun e t5 h5 => (z0t _ t5).mono (by omega))))))
 split
 ·rename_i hk
  have := q5j hk
  split
  ·exact (z0t _ _).mono (by omega)
  ·exact q0l (h.strong _ 1 lv (by omega)) (fun e t1 h1 => (z0t _ t1).mono (by omega))
 refine q0l (z0s ts) (fun t t1 h1 => ?_)
 split
 ·exact q0l (x5w h lv t t1 (by omega)) (fun e t2 h2 => (z0t _ t2).mono (by omega))
 split
 ·exact q0l (x1a h lv t1 (by omega)) (fun l t2 h2 => q0l (q3e _ _) (fun _ t3 h3 => q0l (h.strong t3 1 lv (by omega)) (fun e t4 h4 => (z0t _ t4).mono (by omega))))
 ·exact q0l (q3e _ _) (fun _ t3 h3 => q0l (h.strong t3 1 lv (by omega)) (fun e t4 h4 => (z0t _ t4).mono (by omega)))
theorem x5y {n : Nat} {R : q4e} (h : RK n R) (lv : Nat) (ts : List Tok) (hn : 2 * ts.length <= n) : Gv (q6t R lv ts) ts.length := by
 unfold q6t
 dsimp only
 refine q0l (q3e _ ts) (fun _ t1 h1 => q0l (h.strong t1 1 lv (by omega)) (fun e t2 h2 => q0l (h.block t2 lv (by omega)) (fun l t3 h3 => q0l (z4i _ t3) (fun b t4 h4 => ?_))))
 split
 ·split
  ·exact q0l (q9s (fun lv => h.choice t4 lv (by omega))) (fun s t5 h5 => q2o (by omega))
  ·exact q0l (h.block t4 lv (by omega)) (fun l2 t5 h5 => q2o (by omega))
 ·exact q2o (by omega)
theorem z0u (num : Tok -> Int) : ∀ n, RK n (q2w num n)
 | 0 => ⟨fun _ _ _ h => by omega, fun _ _ h => by omega, fun _ _ h => by omega, fun _ _ h => by omega, fun _ _ h => by omega⟩
 | n + 1 => ⟨fun ts l lv h => x5x (z0u num n) l lv ts (by omega), fun ts lv h => j6f num (z0u num n) lv ts (by omega), fun ts lv h => j4a (z0u num n) lv ts (by omega), fun ts lv h => x5y (z0u num n) lv ts (by omega), fun ts lv h => x9o (z0u num n) lv ts (by omega)⟩
theorem x9p (l : List Pm) (ts : List Tok) : Gv (q8p l ts) ts.length := by
 unfold q8p
 split
 ·exact q8y
 ·exact q0l (z0s ts) (fun t t1 h1 => q0l (q3e _ _) (fun _ t2 h2 => q0l (q7s _) (fun ty t3 h3 => q2o (by omega))))
theorem z9c {n : Nat} {R : q4e} (h : RK n R) (lv : Nat) (ts : List Tok) (hn : 2 * ts.length + 1 <= n) : Gv (q3i n R lv ts) ts.length := by
 unfold q3i
 refine q0l (q3e _ ts) (fun _ t1 h1 => q0l (z0s _) (fun t t2 h2 => q0l (q3e _ _) (fun _ t3 h3 => q0l (x5v _ _ ts.length (fun l t _ => x9p l t) n [] t3 (by omega) (by omega)) (fun ps t4 h4 => q0l (q3e _ _) (fun _ t5 h5 => q0l (z4i _ _) (fun b t6 h6 => q0l (k1 := t6.length + 1) ?_ (fun ty t7 h7 => q0l (h.block t7 lv (by omega)) (fun l t8 h8 => q2o (by omega)))))))))
 split
 ·exact (q7s t6).mono (by omega)
 ·exact q2o (by omega)
theorem x1b (num : Tok -> Int) : ∀ (k : Nat) (l : List Vr) (ts : List Tok), ts.length < k -> Gv (q8s num k l ts) (ts.length + 1)
 | 0, _, _, hk => by omega
 | k + 1, l, ts, hk => by
  unfold q8s
  split
  ·split
   ·exact q8y
   ·exact q0l (z9b num ts) (fun v t1 h1 => (x1b num k _ t1 (by omega)).mono (by omega))
  ·exact q2o (by omega)
theorem z7h {n : Nat} {R : q4e} (h : RK n R) : ∀ (k : Nat) (l : List Fc) (ts : List Tok), ts.length < k -> 2 * ts.length + 1 <= n -> Gv (q6l n R k l ts) (ts.length + 1)
 | 0, _, _, hk, _ => by omega
 | k + 1, l, ts, hk, hn => by
  unfold q6l
  split
  ·split
   ·exact q8y
   ·exact q0l (z9c h 0 ts hn) (fun v t1 h1 => (z7h h k _ t1 (by omega) (by omega)).mono (by omega))
  ·exact q2o (by omega)
theorem z2x (num : Tok -> Int) (ts : List Tok) (hl : ts.length <= 16385) : ∃ r, x4g num 60000 ts = some r := by
 have h : Gv (x4g num 60000 ts) (ts.length + 1) := by
  unfold x4g
  refine q0l (x1b num 60000 [] ts (by omega)) (fun vs t1 h1 => q0l (z7h (z0u num 60000) 60000 [] t1 (by omega) (by omega)) (fun fs t2 h2 => ?_))
  split
  ·exact q2o (by omega)
  ·exact q8y
 exact ⟨_, h.choose_spec.1⟩
def q2p (l : List UInt8) : Md × Flt := q7h q1v fxB l
theorem q9t (s : ByteArray) (hs : s.size <= 1000000000) (w : World) (hg : z8h w) :
  Calls Tryz.prog 15 #[.string s] w fun e w' => Below w.heap.size w w' /\ ∃ v, e = .returned (.tuple #[v, .agg #[.int .i64 (q2p s.data.toList).2.1, .int .i64 (q2p s.data.toList).2.2]]) /\ mdV w.heap.size w' (q2p s.data.toList).1 v :=
 x5g x2y x3a s hs w hg (fun ts hts => z2x q1v ts (by
  have hk := q4g s.data.toList
  rw [hts] at hk
  exact hk.2.1))
def toL (s : ByteArray) : List UInt8 := s.data.toList
def q1c (t : Int) : Bool := decide (1 <= t /\ t <= 4)
def z7i (k n : Int) : Bool := if k = 1 \/ k = 2 then decide (0 <= n) else if k = 3 then n == 0 || n == 1 else n == 0
def q2f (k : Int) : Option (Bool × Int × Int × Int × Int) :=
 if k = 1 \/ k = 2 \/ k = 3 \/ k = 4 then some (false, 0, 0, 0, 0)
 else if k = 5 then some (true, 0, 0, 0, 0)
 else if k = 6 then some (true, 0, 0, 1, 1)
 else if k = 7 then some (true, 0, 0, 0, 16384)
 else if k = 8 then some (false, 14, 15, 1, 1)
 else if k = 9 then some (false, 1, 13, 2, 2)
 else none
def q5e (k op num : Int) (name : ByteArray) (n : Nat) : Bool := match q2f k with
 | none => false
 | some (nm, lo, hi, le, mo) => decide (lo <= op) && decide (op <= hi) && decide (le <= (n : Int)) && decide ((n : Int) <= mo) && z7i k num && (if nm then q1p name else decide (name.size = 0))
mutual
def q0x : Ex -> Bool
 | .mk k op num name args _ _ _ => q5e k op num name args.length && q3s args
def q3s : List Ex -> Bool
 | [] => true
 | e :: l => q0x e && q3s l
end
def Ex.kind : Ex -> Int | .mk k _ _ _ _ _ _ _ => k
def Ex.op : Ex -> Int | .mk _ o _ _ _ _ _ _ => o
def St.kind : St -> Int | .mk k _ _ _ _ _ _ _ => k
def q1u (k : Int) (ne nb nl : Nat) (ek : Int) : Option (Bool × Bool × Int × Int × Bool) :=
 if k = 1 then some (true, true, 1, 1, nb == 0 && nl == 0)
 else if k = 2 then some (true, false, 1, 1, nb == 0 && nl == 0)
 else if k = 3 then some (true, false, 2, 2, nb == 0 && nl == 0)
 else if k = 4 then some (false, false, 1, 1, true)
 else if k = 5 then some (false, false, 1, 1, nl == 0)
 else if k = 6 then some (false, false, 0, 1, nb == 0 && nl == 0)
 else if k = 7 then some (false, false, 1, 1, nb == 0 && nl == 0 && ne == 1 && ek == 7)
 else none
def q4h (k : Int) (name : ByteArray) (type : Int) (exprs : List Ex) (nb nl : Nat) : Bool := match q1u k exprs.length nb nl (exprs.head?.map Ex.kind |>.getD 0) with
 | none => false
 | some (nm, ty, le, mo, bare) => bare && decide (le <= (exprs.length : Int)) && decide ((exprs.length : Int) <= mo) && (if nm then q1p name else decide (name.size = 0)) && (if ty then q1c type else decide (type = 0))
mutual
def q4n : St -> Bool
 | .mk k name type exprs body els _ _ => q4h k name type exprs body.length els.length && q3s exprs && (decide (body.length <= 400) && q5v body) && (decide (els.length <= 400) && q5v els)
def q5v : List St -> Bool
 | [] => true
 | s :: l => q4n s && q5v l
end
def q0t (l : List St) : Bool := decide (l.length <= 400) && q5v l
def q6x (v : Vr) : Bool :=
 let ok := q1p v.name && q1c v.type && decide (0 <= v.size) && decide (v.size <= 256)
 if v.size > 0 \/ v.type = 4 then ok && v.value == 0
 else if v.type = 3 then ok && bits .andNot .i64 v.value 1 == 0
 else ok && v.value != -9223372036854775808
def q6q (f : Fc) : Bool := f.params.all (fun p => q1p p.name && q1c p.type) && q1p f.name && (f.type == 0 || q1c f.type) && decide (f.params.length <= 8) && q0t f.body
def q8l (m : Md) : Bool := decide (m.vars.length <= 64) && decide (m.funcs.length <= 64) && m.vars.all q6x && m.funcs.all q6q
def q1w (p : List UInt8) : Bool := decide (16384 < p.length)
def tyT (t : Int) : List UInt8 := if t = 1 then [105, 110, 116] else if t = 2 then [102, 105, 120] else if t = 3 then [98, 111, 111, 108] else if t = 4 then [101, 110, 116] else []
def sgL : List (List UInt8) := [[], [43], [45], [42], [47], [37], [61, 61], [33, 61], [60], [60, 61], [62], [62, 61], [38, 38], [124, 124], [45], [33]]
def sgT (op : Int) : List UInt8 := sgL.getD op.toNat []
def q3m : Nat -> Nat -> List UInt8
 | 0, _ => []
 | k + 1, u => UInt8.ofNat (48 + u * 10 / 4294967296) :: if u * 10 % 4294967296 = 0 then [] else q3m k (u * 10 % 4294967296)
def q4o (n : Int) : List UInt8 := (if n < 0 then [45] else []) ++ Lib.decDigits (n.natAbs / 4294967296) ++ [46] ++ q3m 40 (n.natAbs % 4294967296)
def q0u (k op : Int) : Int := if k ≠ 9 then 6 else [0, 4, 4, 5, 5, 5, 3, 3, 3, 3, 3, 3, 2, 1].getD op.toNat 0
def q0v (e : Ex) : Int := q0u e.kind e.op
def q4k (f : List UInt8 -> List UInt8) (apart : Bool) (p : List UInt8) : List UInt8 := if apart then f (p ++ [40]) ++ [41] else f p
def z9d : List (List UInt8 -> List UInt8) -> Bool -> List UInt8 -> List UInt8
 | [], _, p => p
 | f :: l, more, p => z9d l true (f (if more then p ++ [44, 32] else p))
def q5f (k op num : Int) (name : ByteArray) (args : List Ex) (fs : List (List UInt8 -> List UInt8)) (p : List UInt8) : List UInt8 :=
 if k = 1 then p ++ Lib.itoa num
 else if k = 2 then p ++ q4o num
 else if k = 3 then p ++ (if num = 1 then [116, 114, 117, 101] else [102, 97, 108, 115, 101])
 else if k = 4 then p ++ [110, 117, 108, 108]
 else if k = 5 then p ++ toL name
 else if k = 6 then fs.headD id (p ++ toL name ++ [91]) ++ [93]
 else if k = 7 then z9d fs false (p ++ toL name ++ [40]) ++ [41]
 else if k = 8 then q4k (fs.headD id) ((args.headD (.mk 0 0 0 ⟨#[]⟩ [] 0 0 0)).kind == 9) (p ++ sgT op)
 else if k = 9 then
  let l := q0v (args.headD (.mk 0 0 0 ⟨#[]⟩ [] 0 0 0))
  let r := q0v (args.tail.headD (.mk 0 0 0 ⟨#[]⟩ [] 0 0 0))
  let s := q0u 9 op
  q4k (fs.tail.headD id) (decide (r <= s)) (q4k (fs.headD id) (decide (l < s) || (l == s && s == 3)) p ++ [32] ++ sgT op ++ [32])
 else p
mutual
def q0q : Ex -> List UInt8 -> List UInt8
 | .mk k op num name args _ _ _, p => if q1w p then p else q5f k op num name args (q9u args) p
def q9u : List Ex -> List (List UInt8 -> List UInt8)
 | [] => []
 | e :: l => q0q e :: q9u l
end
def q2y (lv : Nat) : List UInt8 := List.replicate lv 9
def q5k (lv : Nat) : List (Nat -> List UInt8 -> List UInt8) -> List UInt8 -> List UInt8
 | [], p => p
 | f :: l, p => if q1w p then p else q5k lv l (f lv (p ++ q2y lv) ++ [10])
def q3w (fs : List (Nat -> List UInt8 -> List UInt8)) (lv : Nat) (p : List UInt8) : List UInt8 := q5k (lv + 1) fs (p ++ [32, 123, 10]) ++ q2y lv ++ [125]
def q8m (k : Int) (name : ByteArray) (type : Int) (es : List (List UInt8 -> List UInt8)) (els : List St) (fb fl : List (Nat -> List UInt8 -> List UInt8)) (lv : Nat) (p : List UInt8) : List UInt8 :=
 if k = 1 then es.headD id (p ++ [108, 101, 116, 32] ++ toL name ++ [58, 32] ++ tyT type ++ [32, 61, 32]) ++ [59]
 else if k = 2 then es.headD id (p ++ toL name ++ [32, 61, 32]) ++ [59]
 else if k = 3 then es.tail.headD id (es.headD id (p ++ toL name ++ [91]) ++ [93, 32, 61, 32]) ++ [59]
 else if k = 4 then
  let q := q3w fb lv (es.headD id (p ++ [105, 102, 32]))
  if els.length = 1 /\ (els.headD (.mk 0 ⟨#[]⟩ 0 [] [] [] 0 0)).kind = 4 then fl.headD (fun _ p => p) lv (q ++ [32, 101, 108, 115, 101, 32])
  else if 0 < els.length then q3w fl lv (q ++ [32, 101, 108, 115, 101])
  else q
 else if k = 5 then q3w fb lv (es.headD id (p ++ [119, 104, 105, 108, 101, 32]))
 else if k = 6 then (if es = [] then p ++ [114, 101, 116, 117, 114, 110] else es.headD id (p ++ [114, 101, 116, 117, 114, 110] ++ [32])) ++ [59]
 else if k = 7 then es.headD id p ++ [59]
 else p ++ [59]
mutual
def q1f : St -> Nat -> List UInt8 -> List UInt8
 | .mk k name type exprs body els _ _, lv, p => q8m k name type (q9u exprs) els (q9v body) (q9v els) lv p
def q9v : List St -> List (Nat -> List UInt8 -> List UInt8)
 | [] => []
 | s :: l => q1f s :: q9v l
end
def z0n (v : Vr) (p : List UInt8) : List UInt8 :=
 p ++ [118, 97, 114, 32] ++ toL v.name ++ [58, 32] ++ (if 0 < v.size then [91] ++ Lib.itoa v.size ++ [93, 32] else []) ++ tyT v.type ++
 (if v.value = 0 then [] else [32, 61, 32] ++ (if v.type = 1 then Lib.itoa v.value else if v.type = 2 then q4o v.value else [116, 114, 117, 101])) ++ [59, 10]
def q2e : List Pm -> Bool -> List UInt8 -> List UInt8
 | [], _, p => p
 | x :: l, more, p => q2e l true ((if more then p ++ [44, 32] else p) ++ toL x.name ++ [58, 32] ++ tyT x.type)
def q6i (f : Fc) (p : List UInt8) : List UInt8 :=
 let q := q2e f.params false (p ++ [102, 110, 32] ++ toL f.name ++ [40]) ++ [41]
 q3w (q9v f.body) 0 (if f.type = 0 then q else q ++ [58, 32] ++ tyT f.type) ++ [10]
def q5w : List Fc -> List UInt8 -> List UInt8
 | [], p => p
 | f :: l, p => if q1w p then p else q5w l (q6i f p)
def q5l (m : Md) : List UInt8 := q5w m.funcs (m.vars.foldl (fun p v => z0n v p) [])
def q5x (again : List UInt8 -> Int) (m : Md) : List UInt8 × Int :=
 if !q8l m then ([], 100) else if q1w (q5l m) then ([], 2) else if again (q5l m) ≠ 0 then ([], 100) else (q5l m, 0)
theorem z4k (l : List Ex) : q9u l = l.map q0q := by
 induction l with
 | nil => rfl
 | cons e l ih => show q0q e :: q9u l = _; rw [ih]; rfl
theorem q4r (l : List St) : q9v l = l.map q1f := by
 induction l with
 | nil => rfl
 | cons e l ih => show q1f e :: q9v l = _; rw [ih]; rfl
theorem z2y (l : List Ex) : q3s l = l.all q0x := by
 induction l with
 | nil => rfl
 | cons e l ih => show (q0x e && q3s l) = _; rw [ih]; rfl
theorem q3k (l : List St) : q5v l = l.all q4n := by
 induction l with
 | nil => rfl
 | cons e l ih => show (q4n e && q5v l) = _; rw [ih]; rfl
theorem q3n (k op num : Int) (name : ByteArray) (args : List Ex) (a t pl : Int) (p : List UInt8) : q0q (.mk k op num name args a t pl) p = if q1w p then p else q5f k op num name args (args.map q0q) p := by
 rw [<- z4k]; rfl
theorem q4i (k : Int) (name : ByteArray) (type : Int) (exprs : List Ex) (body els : List St) (a pl : Int) (lv : Nat) (p : List UInt8) : q1f (.mk k name type exprs body els a pl) lv p = q8m k name type (exprs.map q0q) els (body.map q1f) (els.map q1f) lv p := by
 rw [<- z4k, <- q4r, <- q4r]; rfl
theorem q9w (k op num : Int) (name : ByteArray) (args : List Ex) (a t pl : Int) : q0x (.mk k op num name args a t pl) = (q5e k op num name args.length && args.all q0x) := by
 rw [<- z2y]; rfl
theorem q9x (k : Int) (name : ByteArray) (type : Int) (exprs : List Ex) (body els : List St) (a pl : Int) : q4n (.mk k name type exprs body els a pl) = (q4h k name type exprs body.length els.length && exprs.all q0x && q0t body && q0t els) := by
 unfold q0t
 rw [<- z2y]; rfl
def j4b (d : UInt8) : Bool := decide (d.toNat <= 126) && d != 13 && d != 10
def j9f : UInt8 -> List UInt8 -> Bool
 | _, [] => true
 | c, d :: l => decide (d.toNat <= 126) && d != 13 && (d != 10 || (c == 59 || c == 123 || c == 125)) && j9f d l
def Ln (p : List UInt8) : Prop := j9f 0 p = true
theorem z9e (d : UInt8) (h : q0s (d.toNat : Nat) = true) : j4b d = true := by
 have hall : ∀ n : Nat, n < 256 -> q0s (n : Int) = true -> j4b (UInt8.ofNat n) = true := by decide
 have := hall d.toNat (UInt8.toNat_lt d) h
 rwa [UInt8.ofNat_toNat] at this
theorem q9y (p : Int -> Bool) : ∀ (l : List UInt8), q2a p l = l.length -> ∀ c ∈ l, p (c.toNat : Nat) = true
 | [], _, c, hc => by cases hc
 | d :: l, h, c, hc => by
  unfold q2a at h
  split at h
  ·rename_i hd
   rcases List.mem_cons.1 hc with rfl | hc
   ·exact hd
   ·exact q9y p l (by rw [List.length_cons] at h; omega) c hc
  ·rw [List.length_cons] at h; omega
theorem x5z (s : ByteArray) (h : q1p s = true) : (toL s).all j4b = true := by
 unfold q1p at h
 simp only [Bool.and_eq_true, beq_iff_eq] at h
 rw [List.all_eq_true]
 intro c hc
 exact z9e c (q9y q0s (toL s) (by show q2a q0s s.data.toList = s.data.toList.length; rw [h.1.2, Array.length_toList]; rfl) c hc)
def Wl (p : List UInt8) : Prop := Ln p /\ (p = [] \/ p.getLast? = some 10)
def zVr : Vr := ⟨⟨#[]⟩, 0, 0, 0, 0⟩
def zPm : Pm := ⟨⟨#[]⟩, 0⟩
def zFc : Fc := ⟨⟨#[]⟩, [], 0, [], 0, []⟩
theorem q9z {w : World} {x : Vr} {cs : List Value} (h : kVr.K w x cs) : cs = [.string x.name, .int .i64 x.type, .int .i64 x.size, .int .i64 x.value, .int .i64 x.at_] := by
 obtain ⟨_, _, rfl, rfl, _, _, rfl, rfl, _, _, rfl, rfl, _, _, rfl, rfl, rfl⟩ := h
 rfl
theorem z1z {w : World} {x : Pm} {cs : List Value} (h : kPm.K w x cs) : cs = [.string x.name, .int .i64 x.type] := by
 obtain ⟨_, _, rfl, rfl, rfl⟩ := h
 rfl
theorem q7t {w : World} {x : Fc} {cs : List Value} (h : kFc.K w x cs) : ∃ A c A1 c1 A2 c2, cs = [.string x.name, .slice A x.params.length c, .int .i64 x.type, .slice A1 x.body.length c1, .int .i64 x.at_, .slice A2 x.locals.length c2] /\ kPm.C w A x.params.length x.params /\ kSt.C w A1 x.body.length x.body := by
 obtain ⟨_, _, rfl, rfl, _, _, rfl, ⟨A, c, rfl, hl, hc⟩, _, _, rfl, rfl, _, _, rfl, ⟨A1, c1, rfl, hl1, hc1⟩, _, _, rfl, rfl, ⟨A2, c2, rfl, _, _⟩⟩ := h
 exact ⟨A, c, A1, c1, A2, c2, rfl, hc, hc1⟩
theorem z5f {w : World} {x : Ex} {cs : List Value} (h : kEx.K w x cs) : ∃ k o n s A l c a t p, cs = [.int .i64 k, .int .i64 o, .int .i64 n, .string s, .slice A l c, .int .i64 a, .int .i64 t, .int .i64 p] := by
 obtain ⟨k, o, n, s, l, a, t, p⟩ := x
 obtain ⟨A, c, rfl, _, _⟩ := q2x h
 exact ⟨_, _, _, _, _, _, _, _, _, _, rfl⟩
theorem x6a {w : World} {x : St} {cs : List Value} (h : kSt.K w x cs) : ∃ k s t A n c A1 n1 c1 A2 n2 c2 a p, cs = [.int .i64 k, .string s, .int .i64 t, .slice A n c, .slice A1 n1 c1, .slice A2 n2 c2, .int .i64 a, .int .i64 p] := by
 obtain ⟨k, s, t, l, b, e, a, p⟩ := x
 obtain ⟨A, c, A1, c1, A2, c2, rfl, _⟩ := q3y h
 exact ⟨_, _, _, _, _, _, _, _, _, _, _, _, _, _, rfl⟩
theorem x6b {w : World} {x : Vr} {cs : List Value} (h : kVr.K w x cs) : ∃ s a b c d, cs = [.string s, .int .i64 a, .int .i64 b, .int .i64 c, .int .i64 d] := ⟨_, _, _, _, _, q9z h⟩
theorem j4c {w : World} {x : Pm} {cs : List Value} (h : kPm.K w x cs) : ∃ s a, cs = [.string s, .int .i64 a] := ⟨_, _, z1z h⟩
theorem x6c {w : World} {x : Fc} {cs : List Value} (h : kFc.K w x cs) : ∃ s A n c t A1 n1 c1 a A2 n2 c2, cs = [.string s, .slice A n c, .int .i64 t, .slice A1 n1 c1, .int .i64 a, .slice A2 n2 c2] := by
 obtain ⟨A, c, A1, c1, A2, c2, rfl, _⟩ := q7t h
 exact ⟨_, _, _, _, _, _, _, _, _, _, _, _, rfl⟩
theorem q6y {w : World} {A : Option Addr} {n : Nat} {xs : List Ex} (h : kEx.C w A n xs) (i : Nat) (hi : i < n) : ∃ ad k o n s A1 l1 c1 a t p, A = some ad /\ Hid (kEx.K w (xs.getD i zEx) [.int .i64 k, .int .i64 o, .int .i64 n, .string s, .slice A1 l1 c1, .int .i64 a, .int .i64 t, .int .i64 p]) /\ w.cell? (ad.add (i * 8)) = some (.int .i64 k) /\ w.cell? ⟨(ad.add (i * 8)).block, (ad.add (i * 8)).off + 1, none⟩ = some (.int .i64 o) /\ w.cell? ⟨(ad.add (i * 8)).block, (ad.add (i * 8)).off + 2, none⟩ = some (.int .i64 n) /\ w.cell? ⟨(ad.add (i * 8)).block, (ad.add (i * 8)).off + 3, none⟩ = some (.string s) /\ w.cell? ⟨(ad.add (i * 8)).block, (ad.add (i * 8)).off + 4, none⟩ = some (.slice A1 l1 c1) /\ w.cell? ⟨(ad.add (i * 8)).block, (ad.add (i * 8)).off + 5, none⟩ = some (.int .i64 a) /\ w.cell? ⟨(ad.add (i * 8)).block, (ad.add (i * 8)).off + 6, none⟩ = some (.int .i64 t) /\ w.cell? ⟨(ad.add (i * 8)).block, (ad.add (i * 8)).off + 7, none⟩ = some (.int .i64 p) := by
 obtain ⟨ad, c, e, _, hK, hc0⟩ := Kd.C_get h zEx (i : Int) (by omega) (by omega)
 have hc : ∀ j u, c[j]? = some u -> w.cell? (ad.add (i * 8 + j)) = some u := hc0
 have hK2 : kEx.K w (xs.getD i zEx) c := hK
 obtain ⟨k, o, n, s, A1, l1, c1, a, t, p, rfl⟩ := z5f hK2
 exact ⟨ad, k, o, n, s, A1, l1, c1, a, t, p, e, hK2, hc 0 _ rfl, by rw [<- q0z _ _ 1 (by omega)]; exact hc 1 _ rfl, by rw [<- q0z _ _ 2 (by omega)]; exact hc 2 _ rfl, by rw [<- q0z _ _ 3 (by omega)]; exact hc 3 _ rfl, by rw [<- q0z _ _ 4 (by omega)]; exact hc 4 _ rfl, by rw [<- q0z _ _ 5 (by omega)]; exact hc 5 _ rfl, by rw [<- q0z _ _ 6 (by omega)]; exact hc 6 _ rfl, by rw [<- q0z _ _ 7 (by omega)]; exact hc 7 _ rfl⟩
theorem x6d {w : World} {A : Option Addr} {n : Nat} {xs : List St} (h : kSt.C w A n xs) (i : Nat) (hi : i < n) : ∃ ad k s t A1 n1 c1 A2 n2 c2 A3 n3 c3 a p, A = some ad /\ Hid (kSt.K w (xs.getD i zSt) [.int .i64 k, .string s, .int .i64 t, .slice A1 n1 c1, .slice A2 n2 c2, .slice A3 n3 c3, .int .i64 a, .int .i64 p]) /\ w.cell? (ad.add (i * 8)) = some (.int .i64 k) /\ w.cell? ⟨(ad.add (i * 8)).block, (ad.add (i * 8)).off + 1, none⟩ = some (.string s) /\ w.cell? ⟨(ad.add (i * 8)).block, (ad.add (i * 8)).off + 2, none⟩ = some (.int .i64 t) /\ w.cell? ⟨(ad.add (i * 8)).block, (ad.add (i * 8)).off + 3, none⟩ = some (.slice A1 n1 c1) /\ w.cell? ⟨(ad.add (i * 8)).block, (ad.add (i * 8)).off + 4, none⟩ = some (.slice A2 n2 c2) /\ w.cell? ⟨(ad.add (i * 8)).block, (ad.add (i * 8)).off + 5, none⟩ = some (.slice A3 n3 c3) /\ w.cell? ⟨(ad.add (i * 8)).block, (ad.add (i * 8)).off + 6, none⟩ = some (.int .i64 a) /\ w.cell? ⟨(ad.add (i * 8)).block, (ad.add (i * 8)).off + 7, none⟩ = some (.int .i64 p) := by
 obtain ⟨ad, c, e, _, hK, hc0⟩ := Kd.C_get h zSt (i : Int) (by omega) (by omega)
 have hc : ∀ j u, c[j]? = some u -> w.cell? (ad.add (i * 8 + j)) = some u := hc0
 have hK2 : kSt.K w (xs.getD i zSt) c := hK
 obtain ⟨k, s, t, A1, n1, c1, A2, n2, c2, A3, n3, c3, a, p, rfl⟩ := x6a hK2
 exact ⟨ad, k, s, t, A1, n1, c1, A2, n2, c2, A3, n3, c3, a, p, e, hK2, hc 0 _ rfl, by rw [<- q0z _ _ 1 (by omega)]; exact hc 1 _ rfl, by rw [<- q0z _ _ 2 (by omega)]; exact hc 2 _ rfl, by rw [<- q0z _ _ 3 (by omega)]; exact hc 3 _ rfl, by rw [<- q0z _ _ 4 (by omega)]; exact hc 4 _ rfl, by rw [<- q0z _ _ 5 (by omega)]; exact hc 5 _ rfl, by rw [<- q0z _ _ 6 (by omega)]; exact hc 6 _ rfl, by rw [<- q0z _ _ 7 (by omega)]; exact hc 7 _ rfl⟩
theorem x9q {w : World} {A : Option Addr} {n : Nat} {xs : List Vr} (h : kVr.C w A n xs) (i : Nat) (hi : i < n) : ∃ ad s a b cc d, A = some ad /\ Hid (kVr.K w (xs.getD i zVr) [.string s, .int .i64 a, .int .i64 b, .int .i64 cc, .int .i64 d]) /\ w.cell? (ad.add (i * 5)) = some (.string s) /\ w.cell? ⟨(ad.add (i * 5)).block, (ad.add (i * 5)).off + 1, none⟩ = some (.int .i64 a) /\ w.cell? ⟨(ad.add (i * 5)).block, (ad.add (i * 5)).off + 2, none⟩ = some (.int .i64 b) /\ w.cell? ⟨(ad.add (i * 5)).block, (ad.add (i * 5)).off + 3, none⟩ = some (.int .i64 cc) /\ w.cell? ⟨(ad.add (i * 5)).block, (ad.add (i * 5)).off + 4, none⟩ = some (.int .i64 d) := by
 obtain ⟨ad, c, e, _, hK, hc0⟩ := Kd.C_get h zVr (i : Int) (by omega) (by omega)
 have hc : ∀ j u, c[j]? = some u -> w.cell? (ad.add (i * 5 + j)) = some u := hc0
 have hK2 : kVr.K w (xs.getD i zVr) c := hK
 obtain ⟨s, a, b, cc, d, rfl⟩ := x6b hK2
 exact ⟨ad, s, a, b, cc, d, e, hK2, hc 0 _ rfl, by rw [<- q0z _ _ 1 (by omega)]; exact hc 1 _ rfl, by rw [<- q0z _ _ 2 (by omega)]; exact hc 2 _ rfl, by rw [<- q0z _ _ 3 (by omega)]; exact hc 3 _ rfl, by rw [<- q0z _ _ 4 (by omega)]; exact hc 4 _ rfl⟩
theorem x9r {w : World} {A : Option Addr} {n : Nat} {xs : List Pm} (h : kPm.C w A n xs) (i : Nat) (hi : i < n) : ∃ ad s a, A = some ad /\ Hid (kPm.K w (xs.getD i zPm) [.string s, .int .i64 a]) /\ w.cell? (ad.add (i * 2)) = some (.string s) /\ w.cell? ⟨(ad.add (i * 2)).block, (ad.add (i * 2)).off + 1, none⟩ = some (.int .i64 a) := by
 obtain ⟨ad, c, e, _, hK, hc0⟩ := Kd.C_get h zPm (i : Int) (by omega) (by omega)
 have hc : ∀ j u, c[j]? = some u -> w.cell? (ad.add (i * 2 + j)) = some u := hc0
 have hK2 : kPm.K w (xs.getD i zPm) c := hK
 obtain ⟨s, a, rfl⟩ := j4c hK2
 exact ⟨ad, s, a, e, hK2, hc 0 _ rfl, by rw [<- q0z _ _ 1 (by omega)]; exact hc 1 _ rfl⟩
theorem x9s {w : World} {A : Option Addr} {n : Nat} {xs : List Fc} (h : kFc.C w A n xs) (i : Nat) (hi : i < n) : ∃ ad s A1 n1 c1 t A2 n2 c2 a A3 n3 c3, A = some ad /\ Hid (kFc.K w (xs.getD i zFc) [.string s, .slice A1 n1 c1, .int .i64 t, .slice A2 n2 c2, .int .i64 a, .slice A3 n3 c3]) /\ w.cell? (ad.add (i * 6)) = some (.string s) /\ w.cell? ⟨(ad.add (i * 6)).block, (ad.add (i * 6)).off + 1, none⟩ = some (.slice A1 n1 c1) /\ w.cell? ⟨(ad.add (i * 6)).block, (ad.add (i * 6)).off + 2, none⟩ = some (.int .i64 t) /\ w.cell? ⟨(ad.add (i * 6)).block, (ad.add (i * 6)).off + 3, none⟩ = some (.slice A2 n2 c2) /\ w.cell? ⟨(ad.add (i * 6)).block, (ad.add (i * 6)).off + 4, none⟩ = some (.int .i64 a) /\ w.cell? ⟨(ad.add (i * 6)).block, (ad.add (i * 6)).off + 5, none⟩ = some (.slice A3 n3 c3) := by
 obtain ⟨ad, c, e, _, hK, hc0⟩ := Kd.C_get h zFc (i : Int) (by omega) (by omega)
 have hc : ∀ j u, c[j]? = some u -> w.cell? (ad.add (i * 6 + j)) = some u := hc0
 have hK2 : kFc.K w (xs.getD i zFc) c := hK
 obtain ⟨s, A1, n1, c1, t, A2, n2, c2, a, A3, n3, c3, rfl⟩ := x6c hK2
 exact ⟨ad, s, A1, n1, c1, t, A2, n2, c2, a, A3, n3, c3, e, hK2, hc 0 _ rfl, by rw [<- q0z _ _ 1 (by omega)]; exact hc 1 _ rfl, by rw [<- q0z _ _ 2 (by omega)]; exact hc 2 _ rfl, by rw [<- q0z _ _ 3 (by omega)]; exact hc 3 _ rfl, by rw [<- q0z _ _ 4 (by omega)]; exact hc 4 _ rfl, by rw [<- q0z _ _ 5 (by omega)]; exact hc 5 _ rfl⟩
theorem z9f (K : Nat) (pd : Ex -> Bool) (A : Option Addr) (c : Nat) (l : List Ex) (w : World) (he : q1k K)
  (hp : ∀ x cs w', x ∈ l -> Below w.heap.size w w' -> kEx.K w' x cs -> q3r K #[] (.agg cs.toArray) w' (pd x)) (hr : kEx.C w A l.length l) (hl : l.length <= 9223372036854775806) :
  Calls Tryz.prog 198 #[.slice A l.length c, .func (.func K) #[] #[]] w fun e w' => ∃ r : Int, e = .returned (.int .i64 r) /\ (r = -1 /\ l.any pd = false \/ 0 <= r /\ l.any pd = true) /\ Below w.heap.size w w' := by
 have HP := q0h hp; clear hp
 have HR := q0h hr; clear hr
 unfold q1k at he
 go_enter Tryz.func198, Tryz.ntmps198
 go_wp2
 go_loopw [8] (fun i w' => ∃ k : Nat, k <= l.length /\ i = .int .i64 k /\ Hid (∀ j, j < k -> pd (l.getD j zEx) = false) /\ Hid (Below w.heap.size w w')) (fun i _ => l.length - (intOf i).toNat)
 case atStart => exact ⟨0, by omega, rfl, fun j hj => by omega, Below.refl _ _⟩
 case round =>
  obtain ⟨i, hk, rfl, HJ, HB⟩ := hrel
  by_cases hlt : i < l.length
  ·obtain ⟨ad, k, o, n, s, A1, l1, c1, a, t, p, rfl, HK, h0, h1, h2, h3, h4, h5, h6, h7⟩ := q6y (Kd.C_below HR.out HB.out) i hlt
   obtain ⟨x, hx⟩ : ∃ x, x = l.getD i zEx := ⟨_, rfl⟩
   rw [<- hx] at HK
   have HX := q0h hx
   clear hx
   go_wp2_with fail
   refine (HP.out x _ _ (q1a l zEx i hlt x HX.out) HB.out HK.out).mono ?_
   rintro e w1 ⟨rfl, hb⟩
   have HB1 := q0h hb; clear hb
   by_cases hpk : pd x = true
   ·have HY := q0h (q8a pd zEx l i hlt (HX.out ▸ hpk))
    rw [hpk]
    clear hpk
    go_wp2_with fail
    go_ret
    exact ⟨i, rfl, .inr ⟨by omega, HY.out⟩, q0e HB.out HB1.out⟩
   ·have hpk' := Bool.eq_false_iff.2 hpk
    have HY := q0h (q9h pd zEx l i HJ.out (HX.out ▸ hpk'))
    rw [hpk']
    clear hpk hpk'
    go_wp2_with fail
    go_roundw
    case rel => exact ⟨i + 1, by omega, by go_num, HY.out, q0e HB.out HB1.out⟩
    case measure => simp [intOf]; omega
  ·obtain rfl : i = l.length := by omega
   have HY := q0h (q9i pd zEx l HJ.out)
   go_wp2
   go_ret
   exact ⟨-1, rfl, .inl ⟨rfl, HY.out⟩, HB.out⟩
theorem q4s (K : Nat) (pd : Ex -> Bool) (A : Option Addr) (c : Nat) (l : List Ex) (w : World) (he : q1k K)
  (hp : ∀ x cs w', x ∈ l -> Below w.heap.size w w' -> kEx.K w' x cs -> q3r K #[] (.agg cs.toArray) w' (pd x)) (hr : kEx.C w A l.length l) (hl : l.length <= 9223372036854775806) :
  Calls Tryz.prog 159 #[.slice A l.length c, .func (.func K) #[] #[]] w fun e w' => e = .returned (.bool (l.any pd)) /\ Below w.heap.size w w' := by
 have HC := q0h (z9f K pd A c l w he hp hr hl); clear hp hr he
 go_enter Tryz.func159, Tryz.ntmps159
 go_wp2_with fail
 refine HC.out.mono ?_
 rintro e w1 ⟨r, rfl, hr, hb⟩
 have HB := q0h hb; clear hb HC
 have HR := q0h hr; clear hr
 by_cases h0 : 0 <= r
 ·have HY : Hid (l.any pd = true) := by have := HR.out; rcases this with h | h; omega; exact h.2
  go_wp2_with fail
  go_ret
  exact ⟨by rw [HY.out]; first | rfl | (simp; omega), HB.out⟩
 ·have HY : Hid (l.any pd = false) := by have := HR.out; rcases this with h | h; exact h.2; omega
  go_wp2_with fail
  go_ret
  exact ⟨by rw [HY.out]; first | rfl | (simp; omega), HB.out⟩
theorem z9g (K : Nat) (pd : St -> Bool) (A : Option Addr) (c : Nat) (l : List St) (w : World) (he : q1k K)
  (hp : ∀ x cs w', x ∈ l -> Below w.heap.size w w' -> kSt.K w' x cs -> q3r K #[] (.agg cs.toArray) w' (pd x)) (hr : kSt.C w A l.length l) (hl : l.length <= 9223372036854775806) :
  Calls Tryz.prog 158 #[.slice A l.length c, .func (.func K) #[] #[]] w fun e w' => ∃ r : Int, e = .returned (.int .i64 r) /\ (r = -1 /\ l.any pd = false \/ 0 <= r /\ l.any pd = true) /\ Below w.heap.size w w' := by
 have HP := q0h hp; clear hp
 have HR := q0h hr; clear hr
 unfold q1k at he
 go_enter Tryz.func158, Tryz.ntmps158
 go_wp2
 go_loopw [8] (fun i w' => ∃ k : Nat, k <= l.length /\ i = .int .i64 k /\ Hid (∀ j, j < k -> pd (l.getD j zSt) = false) /\ Hid (Below w.heap.size w w')) (fun i _ => l.length - (intOf i).toNat)
 case atStart => exact ⟨0, by omega, rfl, fun j hj => by omega, Below.refl _ _⟩
 case round =>
  obtain ⟨i, hk, rfl, HJ, HB⟩ := hrel
  by_cases hlt : i < l.length
  ·obtain ⟨ad, k, s, t, A1, n1, c1, A2, n2, c2, A3, n3, c3, a, p, rfl, HK, h0, h1, h2, h3, h4, h5, h6, h7⟩ := x6d (Kd.C_below HR.out HB.out) i hlt
   obtain ⟨x, hx⟩ : ∃ x, x = l.getD i zSt := ⟨_, rfl⟩
   rw [<- hx] at HK
   have HX := q0h hx
   clear hx
   go_wp2_with fail
   refine (HP.out x _ _ (q1a l zSt i hlt x HX.out) HB.out HK.out).mono ?_
   rintro e w1 ⟨rfl, hb⟩
   have HB1 := q0h hb; clear hb
   by_cases hpk : pd x = true
   ·have HY := q0h (q8a pd zSt l i hlt (HX.out ▸ hpk))
    rw [hpk]
    clear hpk
    go_wp2_with fail
    go_ret
    exact ⟨i, rfl, .inr ⟨by omega, HY.out⟩, q0e HB.out HB1.out⟩
   ·have hpk' := Bool.eq_false_iff.2 hpk
    have HY := q0h (q9h pd zSt l i HJ.out (HX.out ▸ hpk'))
    rw [hpk']
    clear hpk hpk'
    go_wp2_with fail
    go_roundw
    case rel => exact ⟨i + 1, by omega, by go_num, HY.out, q0e HB.out HB1.out⟩
    case measure => simp [intOf]; omega
  ·obtain rfl : i = l.length := by omega
   have HY := q0h (q9i pd zSt l HJ.out)
   go_wp2
   go_ret
   exact ⟨-1, rfl, .inl ⟨rfl, HY.out⟩, HB.out⟩
theorem z9h (K : Nat) (pd : St -> Bool) (A : Option Addr) (c : Nat) (l : List St) (w : World) (he : q1k K)
  (hp : ∀ x cs w', x ∈ l -> Below w.heap.size w w' -> kSt.K w' x cs -> q3r K #[] (.agg cs.toArray) w' (pd x)) (hr : kSt.C w A l.length l) (hl : l.length <= 9223372036854775806) :
  Calls Tryz.prog 121 #[.slice A l.length c, .func (.func K) #[] #[]] w fun e w' => e = .returned (.bool (l.any pd)) /\ Below w.heap.size w w' := by
 have HC := q0h (z9g K pd A c l w he hp hr hl); clear hp hr he
 go_enter Tryz.func121, Tryz.ntmps121
 go_wp2_with fail
 refine HC.out.mono ?_
 rintro e w1 ⟨r, rfl, hr, hb⟩
 have HB := q0h hb; clear hb HC
 have HR := q0h hr; clear hr
 by_cases h0 : 0 <= r
 ·have HY : Hid (l.any pd = true) := by have := HR.out; rcases this with h | h; omega; exact h.2
  go_wp2_with fail
  go_ret
  exact ⟨by rw [HY.out]; first | rfl | (simp; omega), HB.out⟩
 ·have HY : Hid (l.any pd = false) := by have := HR.out; rcases this with h | h; exact h.2; omega
  go_wp2_with fail
  go_ret
  exact ⟨by rw [HY.out]; first | rfl | (simp; omega), HB.out⟩
theorem x3b (K : Nat) (pd : Vr -> Bool) (A : Option Addr) (c : Nat) (l : List Vr) (w : World) (he : q1k K)
  (hp : ∀ x cs w', x ∈ l -> Below w.heap.size w w' -> kVr.K w' x cs -> q3r K #[] (.agg cs.toArray) w' (pd x)) (hr : kVr.C w A l.length l) (hl : l.length <= 9223372036854775806) :
  Calls Tryz.prog 76 #[.slice A l.length c, .func (.func K) #[] #[]] w fun e w' => ∃ r : Int, e = .returned (.int .i64 r) /\ (r = -1 /\ l.any pd = false \/ 0 <= r /\ l.any pd = true) /\ Below w.heap.size w w' := by
 have HP := q0h hp; clear hp
 have HR := q0h hr; clear hr
 unfold q1k at he
 go_enter Tryz.func76, Tryz.ntmps76
 go_wp2
 go_loopw [8] (fun i w' => ∃ k : Nat, k <= l.length /\ i = .int .i64 k /\ Hid (∀ j, j < k -> pd (l.getD j zVr) = false) /\ Hid (Below w.heap.size w w')) (fun i _ => l.length - (intOf i).toNat)
 case atStart => exact ⟨0, by omega, rfl, fun j hj => by omega, Below.refl _ _⟩
 case round =>
  obtain ⟨i, hk, rfl, HJ, HB⟩ := hrel
  by_cases hlt : i < l.length
  ·obtain ⟨ad, s, a, b, cc, d, rfl, HK, h0, h1, h2, h3, h4⟩ := x9q (Kd.C_below HR.out HB.out) i hlt
   obtain ⟨x, hx⟩ : ∃ x, x = l.getD i zVr := ⟨_, rfl⟩
   rw [<- hx] at HK
   have HX := q0h hx
   clear hx
   go_wp2_with fail
   refine (HP.out x _ _ (q1a l zVr i hlt x HX.out) HB.out HK.out).mono ?_
   rintro e w1 ⟨rfl, hb⟩
   have HB1 := q0h hb; clear hb
   by_cases hpk : pd x = true
   ·have HY := q0h (q8a pd zVr l i hlt (HX.out ▸ hpk))
    rw [hpk]
    clear hpk
    go_wp2_with fail
    go_ret
    exact ⟨i, rfl, .inr ⟨by omega, HY.out⟩, q0e HB.out HB1.out⟩
   ·have hpk' := Bool.eq_false_iff.2 hpk
    have HY := q0h (q9h pd zVr l i HJ.out (HX.out ▸ hpk'))
    rw [hpk']
    clear hpk hpk'
    go_wp2_with fail
    go_roundw
    case rel => exact ⟨i + 1, by omega, by go_num, HY.out, q0e HB.out HB1.out⟩
    case measure => simp [intOf]; omega
  ·obtain rfl : i = l.length := by omega
   have HY := q0h (q9i pd zVr l HJ.out)
   go_wp2
   go_ret
   exact ⟨-1, rfl, .inl ⟨rfl, HY.out⟩, HB.out⟩
theorem x3c (K : Nat) (pd : Vr -> Bool) (A : Option Addr) (c : Nat) (l : List Vr) (w : World) (he : q1k K)
  (hp : ∀ x cs w', x ∈ l -> Below w.heap.size w w' -> kVr.K w' x cs -> q3r K #[] (.agg cs.toArray) w' (pd x)) (hr : kVr.C w A l.length l) (hl : l.length <= 9223372036854775806) :
  Calls Tryz.prog 34 #[.slice A l.length c, .func (.func K) #[] #[]] w fun e w' => e = .returned (.bool (l.any pd)) /\ Below w.heap.size w w' := by
 have HC := q0h (x3b K pd A c l w he hp hr hl); clear hp hr he
 go_enter Tryz.func34, Tryz.ntmps34
 go_wp2_with fail
 refine HC.out.mono ?_
 rintro e w1 ⟨r, rfl, hr, hb⟩
 have HB := q0h hb; clear hb HC
 have HR := q0h hr; clear hr
 by_cases h0 : 0 <= r
 ·have HY : Hid (l.any pd = true) := by have := HR.out; rcases this with h | h; omega; exact h.2
  go_wp2_with fail
  go_ret
  exact ⟨by rw [HY.out]; first | rfl | (simp; omega), HB.out⟩
 ·have HY : Hid (l.any pd = false) := by have := HR.out; rcases this with h | h; exact h.2; omega
  go_wp2_with fail
  go_ret
  exact ⟨by rw [HY.out]; first | rfl | (simp; omega), HB.out⟩
theorem z9i (K : Nat) (pd : Fc -> Bool) (A : Option Addr) (c : Nat) (l : List Fc) (w : World) (he : q1k K)
  (hp : ∀ x cs w', x ∈ l -> Below w.heap.size w w' -> kFc.K w' x cs -> q3r K #[] (.agg cs.toArray) w' (pd x)) (hr : kFc.C w A l.length l) (hl : l.length <= 9223372036854775806) :
  Calls Tryz.prog 79 #[.slice A l.length c, .func (.func K) #[] #[]] w fun e w' => ∃ r : Int, e = .returned (.int .i64 r) /\ (r = -1 /\ l.any pd = false \/ 0 <= r /\ l.any pd = true) /\ Below w.heap.size w w' := by
 have HP := q0h hp; clear hp
 have HR := q0h hr; clear hr
 unfold q1k at he
 go_enter Tryz.func79, Tryz.ntmps79
 go_wp2
 go_loopw [8] (fun i w' => ∃ k : Nat, k <= l.length /\ i = .int .i64 k /\ Hid (∀ j, j < k -> pd (l.getD j zFc) = false) /\ Hid (Below w.heap.size w w')) (fun i _ => l.length - (intOf i).toNat)
 case atStart => exact ⟨0, by omega, rfl, fun j hj => by omega, Below.refl _ _⟩
 case round =>
  obtain ⟨i, hk, rfl, HJ, HB⟩ := hrel
  by_cases hlt : i < l.length
  ·obtain ⟨ad, s, A1, n1, c1, t, A2, n2, c2, a, A3, n3, c3, rfl, HK, h0, h1, h2, h3, h4, h5⟩ := x9s (Kd.C_below HR.out HB.out) i hlt
   obtain ⟨x, hx⟩ : ∃ x, x = l.getD i zFc := ⟨_, rfl⟩
   rw [<- hx] at HK
   have HX := q0h hx
   clear hx
   go_wp2_with fail
   refine (HP.out x _ _ (q1a l zFc i hlt x HX.out) HB.out HK.out).mono ?_
   rintro e w1 ⟨rfl, hb⟩
   have HB1 := q0h hb; clear hb
   by_cases hpk : pd x = true
   ·have HY := q0h (q8a pd zFc l i hlt (HX.out ▸ hpk))
    rw [hpk]
    clear hpk
    go_wp2_with fail
    go_ret
    exact ⟨i, rfl, .inr ⟨by omega, HY.out⟩, q0e HB.out HB1.out⟩
   ·have hpk' := Bool.eq_false_iff.2 hpk
    have HY := q0h (q9h pd zFc l i HJ.out (HX.out ▸ hpk'))
    rw [hpk']
    clear hpk hpk'
    go_wp2_with fail
    go_roundw
    case rel => exact ⟨i + 1, by omega, by go_num, HY.out, q0e HB.out HB1.out⟩
    case measure => simp [intOf]; omega
  ·obtain rfl : i = l.length := by omega
   have HY := q0h (q9i pd zFc l HJ.out)
   go_wp2
   go_ret
   exact ⟨-1, rfl, .inl ⟨rfl, HY.out⟩, HB.out⟩
theorem z9j (K : Nat) (pd : Fc -> Bool) (A : Option Addr) (c : Nat) (l : List Fc) (w : World) (he : q1k K)
  (hp : ∀ x cs w', x ∈ l -> Below w.heap.size w w' -> kFc.K w' x cs -> q3r K #[] (.agg cs.toArray) w' (pd x)) (hr : kFc.C w A l.length l) (hl : l.length <= 9223372036854775806) :
  Calls Tryz.prog 37 #[.slice A l.length c, .func (.func K) #[] #[]] w fun e w' => e = .returned (.bool (l.any pd)) /\ Below w.heap.size w w' := by
 have HC := q0h (z9i K pd A c l w he hp hr hl); clear hp hr he
 go_enter Tryz.func37, Tryz.ntmps37
 go_wp2_with fail
 refine HC.out.mono ?_
 rintro e w1 ⟨r, rfl, hr, hb⟩
 have HB := q0h hb; clear hb HC
 have HR := q0h hr; clear hr
 by_cases h0 : 0 <= r
 ·have HY : Hid (l.any pd = true) := by have := HR.out; rcases this with h | h; omega; exact h.2
  go_wp2_with fail
  go_ret
  exact ⟨by rw [HY.out]; first | rfl | (simp; omega), HB.out⟩
 ·have HY : Hid (l.any pd = false) := by have := HR.out; rcases this with h | h; exact h.2; omega
  go_wp2_with fail
  go_ret
  exact ⟨by rw [HY.out]; first | rfl | (simp; omega), HB.out⟩
end Go.Proofs.YtpfdhihbecpbeaaGreatDoor.E
