import Derived.Test.YtpfdhihbecpbeaaGreatDoorKE
import Derived.Deep.QuietTactic
import Derived.Test.YtpfdhihbecpbeaaGreatDoorKA
import Derived.Lib.ItoaNum
/- Contracts of the program's functions, and lemmas: no statement of its own. -/
namespace Go.Proofs.YtpfdhihbecpbeaaGreatDoor.E
open Go Go.RowKit Go.Proofs.YtpfdhihbecpbeaaGreatDoorW.PrintWords Go.Proofs.YtpfdhihbecpbeaaGreatDoorW.PrintLast Go.Proofs.YtpfdhihbecpbeaaGreatDoorW.PrintMore
set_option linter.unusedVariables false
set_option linter.unusedSimpArgs false
set_option maxRecDepth 100000
set_option maxHeartbeats 4000000
theorem idx_signs : ∀ c : UInt8, (0 <= Lib.indexByte signsL c) ↔ signsL.contains c = true := by
 intro c
 have key : ∀ l : List UInt8, (0 <= Lib.indexByte l c ↔ l.contains c = true) /\ -1 <= Lib.indexByte l c := by
  intro l
  induction l with
  | nil =>
   have e : Lib.indexByte [] c = -1 := rfl
   rw [e]
   exact ⟨by simp, by decide⟩
  | cons b l ih =>
   have e : Lib.indexByte (b :: l) c = if (b == c) = true then (0 : Int) else if (Lib.indexByte l c == -1) = true then -1 else Lib.indexByte l c + 1 := rfl
   rw [e, List.contains_cons]
   by_cases hb : b = c
   ·subst hb
    simp
   ·have h1 : (b == c) = false := by simpa using hb
    have h2 : (c == b) = false := by simpa using Ne.symm hb
    rw [h1, h2, if_neg (by decide), Bool.false_or]
    obtain ⟨i1, i2⟩ := ih
    rw [<- i1]
    by_cases h3 : Lib.indexByte l c = -1
    ·rw [h3]; simp
    ·have h4 : (Lib.indexByte l c == -1) = false := by simpa using h3
     rw [h4, if_neg (by decide)]
     omega
 exact (key signsL).1
set_option maxHeartbeats 32000000 in
theorem piece_61 (s : ByteArray) (hs : s.size <= 1000000) (hpos : 0 < s.size) (w : World) (h : s[0]'hpos = 61) : PieceAns s w := by
 unfold PieceAns
 have hlen : s.data.toList.length = s.size := Array.length_toList
 obtain ⟨R, hR⟩ : ∃ R, R = pieceS fxB s.data.toList := ⟨_, rfl⟩
 have hR2 : R = if 1 < s.size /\ s.data.toList.getD 1 0 = 61 then (2, 5) else (1, 5) := by
  rw [hR]
  unfold pieceS
  rw [head_at s hpos, h, hlen]
  by_cases hq : 1 < s.size /\ s.data.toList.getD 1 0 = 61
  ·rw [if_pos hq]
   simp only [show letterB ((61 : UInt8).toNat : Int) = false from by decide, show digitB ((61 : UInt8).toNat : Int) = false from by decide, Bool.false_eq_true, if_false]
   rw [if_neg (by decide), if_pos ⟨by decide, hq⟩]
  ·rw [if_neg hq]
   simp only [show letterB ((61 : UInt8).toNat : Int) = false from by decide, show digitB ((61 : UInt8).toNat : Int) = false from by decide, Bool.false_eq_true, if_false]
   rw [if_neg (by decide), if_neg (fun h => hq h.2), if_pos (by decide)]
 rw [<- hR]
 have hL := fun w => letter_any 61 w
 have hD := fun w => digit_any 61 w
 rw [show letterB 61 = false from by decide] at hL
 rw [show digitB 61 = false from by decide] at hD
 have HLB := Lib.hid hL
 have HDB := Lib.hid hD
 clear hR hL hD hlen
 by_cases h1 : 1 < s.size
 ·rw [getD_at s 1 h1] at hR2
  by_cases h2 : s[1]'h1 = 61
  ·have HRV := Lib.hid (hR2.trans (if_pos ⟨h1, h2⟩))
   clear hR2
   go_enter Tryz.func63, Tryz.ntmps63
   go_wp2_with fail
   refine (HLB.out _).mono ?_
   rintro e w1 ⟨rfl, rfl⟩
   go_wp2_with fail
   refine (HDB.out _).mono ?_
   rintro e w1 ⟨rfl, rfl⟩
   go_wp2_with fail
   go_ret2
   exact ⟨by rw [HRV.out]; rfl, Below.refl _ _⟩
  ·have HRV := Lib.hid (hR2.trans (if_neg (fun h => h2 h.2)))
   have h2b : ¬ (((s[1]'h1).toNat : Nat) : Int) = 61 := fun h => h2 (UInt8.toNat_inj.1 (by have e : (61 : UInt8).toNat = 61 := rfl; omega))
   have h2c : ((((s[1]'h1).toNat : Nat) : Int) == 61) = false := by rw [beq_eq_false_iff_ne]; exact h2b
   clear hR2
   go_enter Tryz.func63, Tryz.ntmps63
   go_wp2_with fail
   refine (HLB.out _).mono ?_
   rintro e w1 ⟨rfl, rfl⟩
   go_wp2_with fail
   refine (HDB.out _).mono ?_
   rintro e w1 ⟨rfl, rfl⟩
   go_wp2_with fail
   go_ret2
   exact ⟨by rw [HRV.out]; rfl, Below.refl _ _⟩
 ·have HRV := Lib.hid (hR2.trans (if_neg (fun h => h1 h.1)))
  clear hR2
  go_enter Tryz.func63, Tryz.ntmps63
  go_wp2_with fail
  refine (HLB.out _).mono ?_
  rintro e w1 ⟨rfl, rfl⟩
  go_wp2_with fail
  refine (HDB.out _).mono ?_
  rintro e w1 ⟨rfl, rfl⟩
  go_wp2_with fail
  go_ret2
  exact ⟨by rw [HRV.out]; rfl, Below.refl _ _⟩
set_option maxHeartbeats 32000000 in
theorem piece_33 (s : ByteArray) (hs : s.size <= 1000000) (hpos : 0 < s.size) (w : World) (h : s[0]'hpos = 33) : PieceAns s w := by
 unfold PieceAns
 have hlen : s.data.toList.length = s.size := Array.length_toList
 obtain ⟨R, hR⟩ : ∃ R, R = pieceS fxB s.data.toList := ⟨_, rfl⟩
 have hR2 : R = if 1 < s.size /\ s.data.toList.getD 1 0 = 61 then (2, 5) else (1, 5) := by
  rw [hR]
  unfold pieceS
  rw [head_at s hpos, h, hlen]
  by_cases hq : 1 < s.size /\ s.data.toList.getD 1 0 = 61
  ·rw [if_pos hq]
   simp only [show letterB ((33 : UInt8).toNat : Int) = false from by decide, show digitB ((33 : UInt8).toNat : Int) = false from by decide, Bool.false_eq_true, if_false]
   rw [if_neg (by decide), if_pos ⟨by decide, hq⟩]
  ·rw [if_neg hq]
   simp only [show letterB ((33 : UInt8).toNat : Int) = false from by decide, show digitB ((33 : UInt8).toNat : Int) = false from by decide, Bool.false_eq_true, if_false]
   rw [if_neg (by decide), if_neg (fun h => hq h.2), if_pos (by decide)]
 rw [<- hR]
 have hL := fun w => letter_any 33 w
 have hD := fun w => digit_any 33 w
 rw [show letterB 33 = false from by decide] at hL
 rw [show digitB 33 = false from by decide] at hD
 have HLB := Lib.hid hL
 have HDB := Lib.hid hD
 clear hR hL hD hlen
 by_cases h1 : 1 < s.size
 ·rw [getD_at s 1 h1] at hR2
  by_cases h2 : s[1]'h1 = 61
  ·have HRV := Lib.hid (hR2.trans (if_pos ⟨h1, h2⟩))
   clear hR2
   go_enter Tryz.func63, Tryz.ntmps63
   go_wp2_with fail
   refine (HLB.out _).mono ?_
   rintro e w1 ⟨rfl, rfl⟩
   go_wp2_with fail
   refine (HDB.out _).mono ?_
   rintro e w1 ⟨rfl, rfl⟩
   go_wp2_with fail
   go_ret2
   exact ⟨by rw [HRV.out]; rfl, Below.refl _ _⟩
  ·have HRV := Lib.hid (hR2.trans (if_neg (fun h => h2 h.2)))
   have h2b : ¬ (((s[1]'h1).toNat : Nat) : Int) = 61 := fun h => h2 (UInt8.toNat_inj.1 (by have e : (61 : UInt8).toNat = 61 := rfl; omega))
   have h2c : ((((s[1]'h1).toNat : Nat) : Int) == 61) = false := by rw [beq_eq_false_iff_ne]; exact h2b
   clear hR2
   go_enter Tryz.func63, Tryz.ntmps63
   go_wp2_with fail
   refine (HLB.out _).mono ?_
   rintro e w1 ⟨rfl, rfl⟩
   go_wp2_with fail
   refine (HDB.out _).mono ?_
   rintro e w1 ⟨rfl, rfl⟩
   go_wp2_with fail
   go_ret2
   exact ⟨by rw [HRV.out]; rfl, Below.refl _ _⟩
 ·have HRV := Lib.hid (hR2.trans (if_neg (fun h => h1 h.1)))
  clear hR2
  go_enter Tryz.func63, Tryz.ntmps63
  go_wp2_with fail
  refine (HLB.out _).mono ?_
  rintro e w1 ⟨rfl, rfl⟩
  go_wp2_with fail
  refine (HDB.out _).mono ?_
  rintro e w1 ⟨rfl, rfl⟩
  go_wp2_with fail
  go_ret2
  exact ⟨by rw [HRV.out]; rfl, Below.refl _ _⟩
set_option maxHeartbeats 32000000 in
theorem piece_60 (s : ByteArray) (hs : s.size <= 1000000) (hpos : 0 < s.size) (w : World) (h : s[0]'hpos = 60) : PieceAns s w := by
 unfold PieceAns
 have hlen : s.data.toList.length = s.size := Array.length_toList
 obtain ⟨R, hR⟩ : ∃ R, R = pieceS fxB s.data.toList := ⟨_, rfl⟩
 have hR2 : R = if 1 < s.size /\ s.data.toList.getD 1 0 = 61 then (2, 5) else (1, 5) := by
  rw [hR]
  unfold pieceS
  rw [head_at s hpos, h, hlen]
  by_cases hq : 1 < s.size /\ s.data.toList.getD 1 0 = 61
  ·rw [if_pos hq]
   simp only [show letterB ((60 : UInt8).toNat : Int) = false from by decide, show digitB ((60 : UInt8).toNat : Int) = false from by decide, Bool.false_eq_true, if_false]
   rw [if_neg (by decide), if_pos ⟨by decide, hq⟩]
  ·rw [if_neg hq]
   simp only [show letterB ((60 : UInt8).toNat : Int) = false from by decide, show digitB ((60 : UInt8).toNat : Int) = false from by decide, Bool.false_eq_true, if_false]
   rw [if_neg (by decide), if_neg (fun h => hq h.2), if_pos (by decide)]
 rw [<- hR]
 have hL := fun w => letter_any 60 w
 have hD := fun w => digit_any 60 w
 rw [show letterB 60 = false from by decide] at hL
 rw [show digitB 60 = false from by decide] at hD
 have HLB := Lib.hid hL
 have HDB := Lib.hid hD
 clear hR hL hD hlen
 by_cases h1 : 1 < s.size
 ·rw [getD_at s 1 h1] at hR2
  by_cases h2 : s[1]'h1 = 61
  ·have HRV := Lib.hid (hR2.trans (if_pos ⟨h1, h2⟩))
   clear hR2
   go_enter Tryz.func63, Tryz.ntmps63
   go_wp2_with fail
   refine (HLB.out _).mono ?_
   rintro e w1 ⟨rfl, rfl⟩
   go_wp2_with fail
   refine (HDB.out _).mono ?_
   rintro e w1 ⟨rfl, rfl⟩
   go_wp2_with fail
   go_ret2
   exact ⟨by rw [HRV.out]; rfl, Below.refl _ _⟩
  ·have HRV := Lib.hid (hR2.trans (if_neg (fun h => h2 h.2)))
   have h2b : ¬ (((s[1]'h1).toNat : Nat) : Int) = 61 := fun h => h2 (UInt8.toNat_inj.1 (by have e : (61 : UInt8).toNat = 61 := rfl; omega))
   have h2c : ((((s[1]'h1).toNat : Nat) : Int) == 61) = false := by rw [beq_eq_false_iff_ne]; exact h2b
   clear hR2
   go_enter Tryz.func63, Tryz.ntmps63
   go_wp2_with fail
   refine (HLB.out _).mono ?_
   rintro e w1 ⟨rfl, rfl⟩
   go_wp2_with fail
   refine (HDB.out _).mono ?_
   rintro e w1 ⟨rfl, rfl⟩
   go_wp2_with fail
   go_ret2
   exact ⟨by rw [HRV.out]; rfl, Below.refl _ _⟩
 ·have HRV := Lib.hid (hR2.trans (if_neg (fun h => h1 h.1)))
  clear hR2
  go_enter Tryz.func63, Tryz.ntmps63
  go_wp2_with fail
  refine (HLB.out _).mono ?_
  rintro e w1 ⟨rfl, rfl⟩
  go_wp2_with fail
  refine (HDB.out _).mono ?_
  rintro e w1 ⟨rfl, rfl⟩
  go_wp2_with fail
  go_ret2
  exact ⟨by rw [HRV.out]; rfl, Below.refl _ _⟩
set_option maxHeartbeats 32000000 in
theorem piece_62 (s : ByteArray) (hs : s.size <= 1000000) (hpos : 0 < s.size) (w : World) (h : s[0]'hpos = 62) : PieceAns s w := by
 unfold PieceAns
 have hlen : s.data.toList.length = s.size := Array.length_toList
 obtain ⟨R, hR⟩ : ∃ R, R = pieceS fxB s.data.toList := ⟨_, rfl⟩
 have hR2 : R = if 1 < s.size /\ s.data.toList.getD 1 0 = 61 then (2, 5) else (1, 5) := by
  rw [hR]
  unfold pieceS
  rw [head_at s hpos, h, hlen]
  by_cases hq : 1 < s.size /\ s.data.toList.getD 1 0 = 61
  ·rw [if_pos hq]
   simp only [show letterB ((62 : UInt8).toNat : Int) = false from by decide, show digitB ((62 : UInt8).toNat : Int) = false from by decide, Bool.false_eq_true, if_false]
   rw [if_neg (by decide), if_pos ⟨by decide, hq⟩]
  ·rw [if_neg hq]
   simp only [show letterB ((62 : UInt8).toNat : Int) = false from by decide, show digitB ((62 : UInt8).toNat : Int) = false from by decide, Bool.false_eq_true, if_false]
   rw [if_neg (by decide), if_neg (fun h => hq h.2), if_pos (by decide)]
 rw [<- hR]
 have hL := fun w => letter_any 62 w
 have hD := fun w => digit_any 62 w
 rw [show letterB 62 = false from by decide] at hL
 rw [show digitB 62 = false from by decide] at hD
 have HLB := Lib.hid hL
 have HDB := Lib.hid hD
 clear hR hL hD hlen
 by_cases h1 : 1 < s.size
 ·rw [getD_at s 1 h1] at hR2
  by_cases h2 : s[1]'h1 = 61
  ·have HRV := Lib.hid (hR2.trans (if_pos ⟨h1, h2⟩))
   clear hR2
   go_enter Tryz.func63, Tryz.ntmps63
   go_wp2_with fail
   refine (HLB.out _).mono ?_
   rintro e w1 ⟨rfl, rfl⟩
   go_wp2_with fail
   refine (HDB.out _).mono ?_
   rintro e w1 ⟨rfl, rfl⟩
   go_wp2_with fail
   go_ret2
   exact ⟨by rw [HRV.out]; rfl, Below.refl _ _⟩
  ·have HRV := Lib.hid (hR2.trans (if_neg (fun h => h2 h.2)))
   have h2b : ¬ (((s[1]'h1).toNat : Nat) : Int) = 61 := fun h => h2 (UInt8.toNat_inj.1 (by have e : (61 : UInt8).toNat = 61 := rfl; omega))
   have h2c : ((((s[1]'h1).toNat : Nat) : Int) == 61) = false := by rw [beq_eq_false_iff_ne]; exact h2b
   clear hR2
   go_enter Tryz.func63, Tryz.ntmps63
   go_wp2_with fail
   refine (HLB.out _).mono ?_
   rintro e w1 ⟨rfl, rfl⟩
   go_wp2_with fail
   refine (HDB.out _).mono ?_
   rintro e w1 ⟨rfl, rfl⟩
   go_wp2_with fail
   go_ret2
   exact ⟨by rw [HRV.out]; rfl, Below.refl _ _⟩
 ·have HRV := Lib.hid (hR2.trans (if_neg (fun h => h1 h.1)))
  clear hR2
  go_enter Tryz.func63, Tryz.ntmps63
  go_wp2_with fail
  refine (HLB.out _).mono ?_
  rintro e w1 ⟨rfl, rfl⟩
  go_wp2_with fail
  refine (HDB.out _).mono ?_
  rintro e w1 ⟨rfl, rfl⟩
  go_wp2_with fail
  go_ret2
  exact ⟨by rw [HRV.out]; rfl, Below.refl _ _⟩
set_option maxHeartbeats 32000000 in
theorem piece_other (s : ByteArray) (hs : s.size <= 1000000) (hpos : 0 < s.size) (w : World) (hl : letterB (s[0]'hpos).toNat = false) (hd : digitB (s[0]'hpos).toNat = false) (x38 : ¬ s[0]'hpos = 38) (x124 : ¬ s[0]'hpos = 124) (x61 : ¬ s[0]'hpos = 61) (x33 : ¬ s[0]'hpos = 33) (x60 : ¬ s[0]'hpos = 60) (x62 : ¬ s[0]'hpos = 62) : PieceAns s w := by
 unfold PieceAns
 obtain ⟨R, hR⟩ : ∃ R, R = pieceS fxB s.data.toList := ⟨_, rfl⟩
 have hR2 : R = if signsL.contains (s[0]'hpos) = true then (1, 5) else (0, 0) := by
  rw [hR]
  unfold pieceS
  rw [head_at s hpos]
  simp only [hl, hd, x38, x124, x61, x33, x60, x62, Bool.false_eq_true, if_false, false_or, false_and]
 rw [<- hR]
 have HLB := Lib.hid (fun w => letter_any ((s[0]'hpos).toNat : Nat) w)
 have HDB := Lib.hid (fun w => digit_any ((s[0]'hpos).toNat : Nat) w)
 rw [hl] at HLB
 rw [hd] at HDB
 have hI := fun w => Tryz.strings_IndexByte ⟨#[43, 45, 42, 47, 37, 40, 41, 123, 125, 91, 93, 44, 59, 58]⟩ ((s[0]'hpos).toNat : Nat) w
 have e1 : (((s[0]'hpos).toNat : Nat) : Int).toNat.toUInt8 = s[0]'hpos := by
  rw [Int.toNat_natCast]
  exact UInt8.toNat_inj.1 (by simp)
 rw [e1] at hI
 have hI2 := idx_signs (s[0]'hpos)
 have hI3 : Lib.indexByte (⟨#[43, 45, 42, 47, 37, 40, 41, 123, 125, 91, 93, 44, 59, 58]⟩ : ByteArray).data.toList (s[0]'hpos) = Lib.indexByte signsL (s[0]'hpos) := rfl
 rw [hI3] at hI
 obtain ⟨ix, hix⟩ : ∃ i, i = Lib.indexByte signsL (s[0]'hpos) := ⟨_, rfl⟩
 rw [<- hix] at hI hI2
 have HI := Lib.hid hI
 have n38 : ¬ (((s[0]'hpos).toNat : Nat) : Int) = 38 := fun h => x38 (UInt8.toNat_inj.1 (by have e : (38 : UInt8).toNat = 38 := rfl; omega))
 have m38 : ((((s[0]'hpos).toNat : Nat) : Int) == 38) = false := by rw [beq_eq_false_iff_ne]; exact n38
 have n124 : ¬ (((s[0]'hpos).toNat : Nat) : Int) = 124 := fun h => x124 (UInt8.toNat_inj.1 (by have e : (124 : UInt8).toNat = 124 := rfl; omega))
 have m124 : ((((s[0]'hpos).toNat : Nat) : Int) == 124) = false := by rw [beq_eq_false_iff_ne]; exact n124
 have n61 : ¬ (((s[0]'hpos).toNat : Nat) : Int) = 61 := fun h => x61 (UInt8.toNat_inj.1 (by have e : (61 : UInt8).toNat = 61 := rfl; omega))
 have m61 : ((((s[0]'hpos).toNat : Nat) : Int) == 61) = false := by rw [beq_eq_false_iff_ne]; exact n61
 have n33 : ¬ (((s[0]'hpos).toNat : Nat) : Int) = 33 := fun h => x33 (UInt8.toNat_inj.1 (by have e : (33 : UInt8).toNat = 33 := rfl; omega))
 have m33 : ((((s[0]'hpos).toNat : Nat) : Int) == 33) = false := by rw [beq_eq_false_iff_ne]; exact n33
 have n60 : ¬ (((s[0]'hpos).toNat : Nat) : Int) = 60 := fun h => x60 (UInt8.toNat_inj.1 (by have e : (60 : UInt8).toNat = 60 := rfl; omega))
 have m60 : ((((s[0]'hpos).toNat : Nat) : Int) == 60) = false := by rw [beq_eq_false_iff_ne]; exact n60
 have n62 : ¬ (((s[0]'hpos).toNat : Nat) : Int) = 62 := fun h => x62 (UInt8.toNat_inj.1 (by have e : (62 : UInt8).toNat = 62 := rfl; omega))
 have m62 : ((((s[0]'hpos).toNat : Nat) : Int) == 62) = false := by rw [beq_eq_false_iff_ne]; exact n62
 clear hR hl hd e1 hI hI3 hix x38 x124 x61 x33 x60 x62
 by_cases h0 : 0 <= ix
 ·have HRV := Lib.hid (hR2.trans (if_pos (hI2.1 h0)))
  clear hR2 hI2
  go_enter Tryz.func63, Tryz.ntmps63
  go_wp2_with fail
  refine (HLB.out _).mono ?_
  rintro e w1 ⟨rfl, rfl⟩
  go_wp2_with fail
  refine (HDB.out _).mono ?_
  rintro e w1 ⟨rfl, rfl⟩
  go_wp2_with fail
  refine (HI.out _).mono ?_
  rintro e w1 ⟨rfl, rfl⟩
  go_wp2_with fail
  go_ret2
  exact ⟨by rw [HRV.out]; rfl, Below.refl _ _⟩
 ·have HRV := Lib.hid (hR2.trans (if_neg (fun h => h0 (hI2.2 h))))
  clear hR2 hI2
  go_enter Tryz.func63, Tryz.ntmps63
  go_wp2_with fail
  refine (HLB.out _).mono ?_
  rintro e w1 ⟨rfl, rfl⟩
  go_wp2_with fail
  refine (HDB.out _).mono ?_
  rintro e w1 ⟨rfl, rfl⟩
  go_wp2_with fail
  refine (HI.out _).mono ?_
  rintro e w1 ⟨rfl, rfl⟩
  go_wp2_with fail
  go_ret2
  exact ⟨by rw [HRV.out]; rfl, Below.refl _ _⟩
theorem piece_any (s : ByteArray) (hs : s.size <= 1000000) (hpos : 0 < s.size) (w : World) (hg : GErr w) : PieceAns s w := by
 cases hl : letterB (s[0]'hpos).toNat with
 | true => exact piece_letter s hs hpos w hl
 | false =>
  cases hd : digitB (s[0]'hpos).toNat with
  | true => exact piece_digit s hs hpos w hg hl hd
  | false =>
   by_cases x38 : s[0]'hpos = 38
   ·exact piece_38 s hs hpos w x38
   by_cases x124 : s[0]'hpos = 124
   ·exact piece_124 s hs hpos w x124
   by_cases x61 : s[0]'hpos = 61
   ·exact piece_61 s hs hpos w x61
   by_cases x33 : s[0]'hpos = 33
   ·exact piece_33 s hs hpos w x33
   by_cases x60 : s[0]'hpos = 60
   ·exact piece_60 s hs hpos w x60
   by_cases x62 : s[0]'hpos = 62
   ·exact piece_62 s hs hpos w x62
   exact piece_other s hs hpos w hl hd x38 x124 x61 x33 x60 x62
theorem tok_of (m : List UInt8) (n : Nat) (k i : Int) (hz : m.length <= 16384) (h3 : k = 3 -> n = runN digitB m /\ n ≠ 0 /\ decU (m.take n) < 9223372036854775808) (h4 : k = 4 -> FixT (m.take n) /\ (fixP (m.take n)).isSome = true) : TokOK ⟨k, ⟨(m.take n).toArray⟩, i⟩ := by
 refine ⟨?_, fun hk => ?_, fun hk => h4 hk⟩
 ·show (m.take n).toArray.size <= 16384
  rw [List.size_toArray, List.length_take]
  omega
 ·obtain ⟨e1, e2, e3⟩ := h3 hk
  refine ⟨?_, ?_, e3⟩
  ·show (m.take n).toArray.size ≠ 0
   rw [List.size_toArray, List.length_take, e1]
   have := runN_le digitB m
   omega
  ·intro c hc
   have hc2 : c ∈ m.take n := hc
   rw [e1] at hc2
   exact runN_digs m c hc2
theorem whole_tok (m : List UInt8) (i : Int) (hz : m.length <= 16384) (h : (wholeS m (runN digitB m)).1 ≠ 0) : (wholeS m (runN digitB m)).1 <= m.length /\ TokOK ⟨(wholeS m (runN digitB m)).2, ⟨(m.take (wholeS m (runN digitB m)).1).toArray⟩, i⟩ := by
 unfold wholeS at h ⊢
 split at h
 ·exact absurd rfl h
 ·rename_i hc
  rw [if_neg hc]
  exact ⟨runN_le _ _, tok_of m _ _ _ hz (fun _ => ⟨rfl, h, Nat.lt_of_not_le (fun q => hc (.inl q))⟩) (fun q => by cases q)⟩
theorem num_tok (m : List UInt8) (i : Int) (hz : m.length <= 16384) (h0 : runN digitB m ≠ 0) (h : (numS fxB m).1 ≠ 0) : (numS fxB m).1 <= m.length /\ TokOK ⟨(numS fxB m).2, ⟨(m.take (numS fxB m).1).toArray⟩, i⟩ := by
 have e : numS fxB m = if runN digitB m = m.length \/ m.getD (runN digitB m) 0 ≠ 46 then wholeS m (runN digitB m) else if 0 < runN digitB (m.drop (runN digitB m + 1)) then if fxB (m.take (runN digitB m + 1 + runN digitB (m.drop (runN digitB m + 1)))) then (runN digitB m + 1 + runN digitB (m.drop (runN digitB m + 1)), 4) else (0, 0) else wholeS m (runN digitB m) := rfl
 rw [e] at h ⊢
 clear e
 by_cases c1 : runN digitB m = m.length \/ m.getD (runN digitB m) 0 ≠ 46
 ·rw [if_pos c1] at h ⊢
  exact whole_tok m i hz h
 ·rw [if_neg c1] at h ⊢
  by_cases c2 : 0 < runN digitB (m.drop (runN digitB m + 1))
  ·rw [if_pos c2] at h ⊢
   by_cases c3 : fxB (m.take (runN digitB m + 1 + runN digitB (m.drop (runN digitB m + 1)))) = true
   ·rw [if_pos c3] at h ⊢
    have hl := runN_le digitB m
    have hl2 := runN_le digitB (m.drop (runN digitB m + 1))
    have hn : runN digitB m ≠ m.length := fun q => c1 (.inl q)
    have h46 : m.getD (runN digitB m) 0 = 46 := Classical.byContradiction fun q => c1 (.inr q)
    rw [List.length_drop] at hl2
    refine ⟨by show runN digitB m + 1 + runN digitB (m.drop (runN digitB m + 1)) <= m.length; omega, ?_⟩
    exact tok_of m _ _ _ hz (fun q => by cases q) (fun _ => ⟨fixT_of m _ _ rfl h0 rfl (by omega) (by omega) h46, c3⟩)
   ·rw [if_neg c3] at h
    exact absurd rfl h
  ·rw [if_neg c2] at h ⊢
   exact whole_tok m i hz h
theorem sign_tok (m : List UInt8) (n : Nat) (k i : Int) (hz : m.length <= 16384) (hk : k ≠ 3 /\ k ≠ 4) : TokOK ⟨k, ⟨(m.take n).toArray⟩, i⟩ := tok_of m n k i hz (fun q => absurd q hk.1) (fun q => absurd q hk.2)
theorem piece_tok (m : List UInt8) (i : Int) (hm : m ≠ []) (hz : m.length <= 16384) (h : (pieceS fxB m).1 ≠ 0) : (pieceS fxB m).1 <= m.length /\ TokOK ⟨(pieceS fxB m).2, ⟨(m.take (pieceS fxB m).1).toArray⟩, i⟩ := by
 have hp := List.length_pos_iff.2 hm
 obtain ⟨q, hq⟩ : ∃ q, q = pieceS fxB m := ⟨_, rfl⟩
 have hq2 := hq
 rw [<- hq] at h ⊢
 unfold pieceS at hq2
 simp only at hq2
 by_cases a1 : letterB (m.headD 0).toNat = true
 ·rw [if_pos a1] at hq2
  split at hq2
  ·rw [hq2] at h; exact absurd rfl h
  ·split at hq2
   ·rw [hq2]; exact ⟨runN_le _ _, sign_tok m _ 2 _ hz (by decide)⟩
   ·rw [hq2]; exact ⟨runN_le _ _, sign_tok m _ 1 _ hz (by decide)⟩
 ·rw [if_neg a1] at hq2
  by_cases a2 : digitB (m.headD 0).toNat = true
  ·rw [if_pos a2] at hq2
   have h0 : runN digitB m ≠ 0 := by
    cases m with
    | nil => exact absurd rfl hm
    | cons c m =>
     have a3 : digitB c.toNat = true := a2
     unfold runN; rw [if_pos a3]; omega
   rw [hq2] at h ⊢
   exact num_tok m i hz h0 h
  ·rw [if_neg a2] at hq2
   split at hq2
   ·split at hq2
    ·rename_i c; rw [hq2]; exact ⟨by show 2 <= m.length; omega, sign_tok m _ _ _ hz (by decide)⟩
    ·rw [hq2] at h; exact absurd rfl h
   ·split at hq2
    ·rename_i c; rw [hq2]; exact ⟨by show 2 <= m.length; omega, sign_tok m _ _ _ hz (by decide)⟩
    ·split at hq2
     ·rw [hq2]; exact ⟨by show 1 <= m.length; omega, sign_tok m _ _ _ hz (by decide)⟩
     ·rw [hq2] at h; exact absurd rfl h
theorem lexL_keeps (l : List UInt8) (hz : l.length <= 16384) : ∀ (k i : Nat) (out : List Tok) (r : Except Flt (List Tok)), lexL fxB l k i out = some r -> i <= l.length -> out.length <= i -> (∀ t ∈ out, TokOK t) -> match r with
  | .ok ts => EndT ts /\ ts.length <= 16385 /\ ∀ t ∈ ts, TokOK t
  | .error f => f.1 ≠ 0
 | 0, _, _, _, h, _, _, _ => by cases h
 | k + 1, i, out, r, h, hi, ho, hall => by
  unfold lexL at h
  by_cases hl : i < l.length
  ·rw [if_pos hl] at h
   simp only at h
   split at h
   ·have h1 := runN_le noLine (l.drop i)
    rw [List.length_drop] at h1
    exact lexL_keeps l hz k _ out r h (by omega) (by omega) hall
   ·split at h
    ·exact lexL_keeps l hz k _ out r h (by omega) (by omega) hall
    ·split at h
     ·have hr : r = .error (80, i) := by injection h with h; exact h.symm
      rw [hr]
      show (80 : Int) ≠ 0
      decide
     ·rename_i hp
      have hne : l.drop i ≠ [] := fun q => by
       have := congrArg List.length q
       rw [List.length_drop, List.length_nil] at this
       omega
      have hk := piece_tok (l.drop i) i hne (by rw [List.length_drop]; omega) hp
      have h1 := hk.1
      rw [List.length_drop] at h1
      refine lexL_keeps l hz k _ _ r h (by omega) (by rw [List.length_append]; show out.length + 1 <= _; omega) ?_
      intro t ht
      rcases List.mem_append.1 ht with ht | ht
      ·exact hall t ht
      ·obtain rfl : t = _ := List.mem_singleton.1 ht
       exact hk.2
  ·rw [if_neg hl] at h
   have hr : r = .ok (out ++ [⟨6, ⟨#[]⟩, l.length⟩]) := by injection h with h; exact h.symm
   rw [hr]
   refine ⟨⟨out, _, rfl, rfl⟩, by rw [List.length_append]; show out.length + 1 <= _; omega, ?_⟩
   intro t ht
   rcases List.mem_append.1 ht with ht | ht
   ·exact hall t ht
   ·obtain rfl : t = _ := List.mem_singleton.1 ht
    refine ⟨by show (0 : Nat) <= 16384; omega, (fun q => by cases q), (fun q => by cases q)⟩
theorem tokensS_keeps (l : List UInt8) : match tokensS fxB l with
  | .ok ts => EndT ts /\ ts.length <= 16385 /\ ∀ t ∈ ts, TokOK t
  | .error f => f.1 ≠ 0 := by
 unfold tokensS
 by_cases hz : 16384 < l.length
 ·rw [if_pos hz]
  show (2 : Int) ≠ 0
  decide
 ·rw [if_neg hz]
  obtain ⟨r, hr⟩ := lexL_more fxB l (l.length + 1) 0 [] (by omega)
  rw [hr]
  exact lexL_keeps l (by omega) _ _ _ r hr (by omega) (Nat.le_refl _) (fun t ht => by cases ht)
theorem noLine_any (t : Int) (w : World) : Calls Tryz.prog 62 #[.int .u8 t] w fun e w' => e = .returned (.bool (noLine t)) /\ w = w' := by
 go_enter Tryz.func62, Tryz.ntmps62
 go_wp2
 all_goals go_ret
 all_goals exact ⟨ret_bool (by unfold noLine; rfl), rfl⟩
theorem en_noLine : Enters 62 := fun args w => by kernel_rfl
theorem noLine_p (x : Int) (w : World) : PCalls 62 #[] (.int .u8 x) w (noLine x) := (noLine_any x w).mono fun e w' h => ⟨h.1, by rw [<- h.2]; exact Below.refl _ _⟩
theorem runNoLine (s : ByteArray) (w : World) (hs : s.size <= 1000000) : Calls Tryz.prog 61 #[.string s, .func (.func 62) #[] #[]] w fun e w' => e = .returned (.int .i64 (runN noLine s.data.toList)) /\ Below w.heap.size w w' :=
 run_any 62 #[] noLine s w en_noLine noLine_p (Nat.le_trans hs (by decide))
theorem infoTok : (Tryz.prog.info? 63).map (fun i => (i.zero, i.size, i.bytes)) = some (some (.agg #[.int .i64 0, .string ⟨#[]⟩, .int .i64 0]), 3, 32) := by kernel_rfl
theorem toL_drop (s : ByteArray) (i : Nat) : (s.extract i s.size).data.toList = s.data.toList.drop i := by
 rw [toL_extract, List.take_of_length_le]
 rw [List.length_drop, Array.length_toList]
 exact Nat.le_refl _
theorem ex_size (s : ByteArray) (i : Nat) : (s.extract i s.size).size = s.size - i := by
 rw [extract_eq]
 show ((s.data.toList.drop i).take (s.size - i)).toArray.size = _
 rw [List.size_toArray, List.length_take, List.length_drop, Array.length_toList]
 show min (s.size - i) (s.size - i) = _
 omega
theorem kTok_mkM (w : World) (base : Nat) (ok : Nat -> Prop) (x : Tok) : kTok.M w base ok x [.int .i64 x.kind, .string x.text, .int .i64 x.at_] := ⟨[.int .i64 x.kind], [.string x.text, .int .i64 x.at_], rfl, rfl, ⟨[.string x.text], [.int .i64 x.at_], rfl, rfl, rfl⟩⟩
structure TS (N bf : Nat) (w0 w : World) (v : Value) (out : List Tok) : Prop where
 be : Below w0.heap.size w0 w
 hf : w.heap[bf]? = some (.cells #[.int .i64 0, .int .i64 0] 35 (0, 0))
 row : kTok.R 63 w N (fun k => N <= k) v out
 nw : N <= w.heap.size
 lo : w0.heap.size <= bf /\ bf < N
theorem TS.below {N bf : Nat} {w0 w w1 : World} {v : Value} {out : List Tok} (h : TS N bf w0 w v out) (hb : Below w.heap.size w w1) : TS N bf w0 w1 v out :=
 ⟨below_next h.be hb, (hb.block bf (blk_lt h.hf)).trans h.hf, Kd.R_below h.row hb, Nat.le_trans h.nw hb.size, h.lo⟩
theorem TS.app {N bf : Nat} {w0 w w1 : World} {v v1 : Value} {out : List Tok} {x : Tok} (h : TS N bf w0 w v out) (hr : kTok.R 63 w1 N (fun k => N <= k) v1 (out ++ [x])) (hg : w.grownBy w1 v.ownBlock) : TS N bf w0 w1 v1 (out ++ [x]) := by
 have hlt : ∀ k, v.ownBlock = some k -> N <= k := fun k hk => h.row.1 k hk
 refine ⟨below_gr h.be hg (fun k hk => by have := hlt k hk; have := h.lo; omega), (hg.block bf (blk_lt h.hf) (fun e => by have := hlt bf e.symm; have := h.lo; omega)).trans h.hf, hr, Nat.le_trans h.nw hg.size, h.lo⟩
theorem lex_stop {fx : List UInt8 -> Bool} {l : List UInt8} {k i : Nat} {out : List Tok} (hi : ¬ i < l.length) : lexL fx l (k + 1) i out = some (.ok (out ++ [⟨6, ⟨#[]⟩, l.length⟩])) := by
 unfold lexL; rw [if_neg hi]
theorem lex_note {fx : List UInt8 -> Bool} {l : List UInt8} {k i : Nat} {out : List Tok} (hi : i < l.length) (hc : l.getD i 0 = 35) : lexL fx l (k + 1) i out = lexL fx l k (i + runN noLine (l.drop i)) out := by
 rw [lexL, if_pos hi]; simp only; rw [if_pos hc]
theorem lex_blank {fx : List UInt8 -> Bool} {l : List UInt8} {k i : Nat} {out : List Tok} (hi : i < l.length) (h1 : l.getD i 0 ≠ 35) (hc : l.getD i 0 = 9 \/ l.getD i 0 = 10 \/ l.getD i 0 = 13 \/ l.getD i 0 = 32) : lexL fx l (k + 1) i out = lexL fx l k (i + 1) out := by
 rw [lexL, if_pos hi]; simp only; rw [if_neg h1, if_pos hc]
theorem lex_bad {fx : List UInt8 -> Bool} {l : List UInt8} {k i : Nat} {out : List Tok} (hi : i < l.length) (h1 : l.getD i 0 ≠ 35) (hc : ¬ (l.getD i 0 = 9 \/ l.getD i 0 = 10 \/ l.getD i 0 = 13 \/ l.getD i 0 = 32)) (hp : (pieceS fx (l.drop i)).1 = 0) : lexL fx l (k + 1) i out = some (.error (80, i)) := by
 rw [lexL, if_pos hi]; simp only; rw [if_neg h1, if_neg hc, if_pos hp]
theorem lex_tok {fx : List UInt8 -> Bool} {l : List UInt8} {k i : Nat} {out : List Tok} (hi : i < l.length) (h1 : l.getD i 0 ≠ 35) (hc : ¬ (l.getD i 0 = 9 \/ l.getD i 0 = 10 \/ l.getD i 0 = 13 \/ l.getD i 0 = 32)) (hp : (pieceS fx (l.drop i)).1 ≠ 0) : lexL fx l (k + 1) i out = lexL fx l k (i + (pieceS fx (l.drop i)).1) (out ++ [⟨(pieceS fx (l.drop i)).2, ⟨((l.drop i).take (pieceS fx (l.drop i)).1).toArray⟩, i⟩]) := by
 rw [lexL, if_pos hi]; simp only; rw [if_neg h1, if_neg hc, if_neg hp]
set_option maxHeartbeats 32000000 in
theorem tokens_long (s : ByteArray) (hz : 16384 < s.size) (hsz : s.size <= 1000000000) (w : World) : Calls Tryz.prog 25 #[.string s] w fun e w' => Below w.heap.size w w' /\ e = .returned (.tuple #[.slice none 0 0, .agg #[.int .i64 2, .int .i64 (-1)]]) := by
 have HB := Lib.hid (below_alloc (Below.refl w.heap.size w) (.cells #[.int .i64 2, .int .i64 (-1)] 35))
 go_enter Tryz.func25, Tryz.ntmps25
 go_wp2_with fail
 refine bodyPost_ret (results_tc rfl _ _ w.heap.size 35 #[.int .i64 2, .int .i64 (-1)] (0, 0) _ rfl (heap_alloc_new _ _) Tryz.underlying35 rfl (by kernel_rfl)) rfl ?_
 exact ⟨HB.out, rfl⟩
def LexAns (w w' : World) (e : Ending) : Except Flt (List Tok) -> Prop
 | .ok ts => ∃ v, e = .returned (.tuple #[v, .agg #[.int .i64 0, .int .i64 0]]) /\ kTok.R 63 w' w.heap.size (fun k => w.heap.size <= k) v ts
 | .error f => e = .returned (.tuple #[.slice none 0 0, .agg #[.int .i64 f.1, .int .i64 f.2]])
set_option maxHeartbeats 32000000 in
theorem tokens_short (s : ByteArray) (hz : s.size <= 16384) (w : World) (hg : GErr w) (r : Except Flt (List Tok)) (hr : lexL fxB s.data.toList (s.data.toList.length + 1) 0 [] = some r) : Calls Tryz.prog 25 #[.string s] w fun e w' => Below w.heap.size w w' /\ LexAns w w' e r := by
 obtain ⟨bf, hbf⟩ : ∃ b, b = w.heap.size := ⟨_, rfl⟩
 obtain ⟨N, hN⟩ : ∃ b, b = w.heap.size + 1 := ⟨_, rfl⟩
 obtain ⟨W, hW⟩ : ∃ W, W = w.alloc (.cells #[.int .i64 0, .int .i64 0] 35) := ⟨_, rfl⟩
 have qf : W.heap[bf]? = some (.cells #[.int .i64 0, .int .i64 0] 35 (0, 0)) := by rw [hW, hbf]; exact heap_alloc_new _ _
 have HT := Lib.hid (show TS N bf w W (.slice none 0 0) [] from ⟨by rw [hW]; exact below_alloc (Below.refl _ _) _, qf, Kd.R_nil _ _ _ _ _, by rw [hN, hW]; simp, by omega⟩)
 have HW := Lib.hid hW
 have HBF := Lib.hid hbf
 have HG := Lib.hid hg
 have HR := Lib.hid hr
 obtain ⟨l, hl⟩ : ∃ l, l = s.data.toList := ⟨_, rfl⟩
 have hll : l.length = s.size := by rw [hl]; simp
 have HLL := Lib.hid hll
 have HL := Lib.hid hl
 rw [<- hl] at HR
 clear hW hbf hN qf hg hr hll hl
 go_enter Tryz.func25, Tryz.ntmps25
 go_wp2_with fail
 rw [<- HW.out, <- HBF.out]
 go_wp2_with fail
 go_loopg [4, 5] (l.length + 1) (fun k vo vi wr => ∃ (out : List Tok) (i : Nat) (A : Option Addr) (c : Nat), vo = .slice A out.length c /\ vi = .int .i64 i /\ i <= s.size /\ out.length <= i /\ Hid (TS N bf w wr (.slice A out.length c) out) /\ Hid (lexL fxB l k i out = some r))
 case atStart => exact ⟨[], 0, none, 0, rfl, rfl, by omega, by simp, HT, HR⟩
 case round =>
  clear HR HT
  obtain ⟨out, i, A, c, rfl, rfl, hi, ho, HS, HQ⟩ := hrel
  cases gk with
  | zero => exact absurd HQ.out (by intro h; cases h)
  | succ k =>
   by_cases hlt : i < s.size
   ·have HLT := Lib.hid (show i < l.length by rw [HLL.out]; exact hlt)
    have HAT := Lib.hid (show l.getD i 0 = s[i] from by rw [HL.out]; exact getD_at s i hlt)
    have HEX := Lib.hid (show (s.extract i s.size).data.toList = l.drop i by rw [HL.out]; exact toL_drop s i)
    have HEZ := Lib.hid (ex_size s i)
    by_cases x35 : s[i]'hlt = 35
    ·have HN := Lib.hid ((lex_note HLT.out (HAT.out.trans x35)).symm.trans HQ.out)
     go_wp2_with fail
     refine (runNoLine (s.extract i s.size) wr (by rw [HEZ.out]; omega)).mono ?_
     rintro e w1 ⟨rfl, hb⟩
     have HS1 := Lib.hid (HS.out.below hb)
     clear hb
     rw [HEX.out]
     have hn := runN_le noLine (l.drop i)
     rw [List.length_drop, HLL.out] at hn
     obtain ⟨n, hnn⟩ : ∃ n, n = runN noLine (l.drop i) := ⟨_, rfl⟩
     rw [<- hnn] at HN hn ⊢
     clear hnn x35
     go_wp2_with fail
     go_roundg k
     case measure => omega
     case rel => exact ⟨out, i + n, A, c, rfl, by go_num, by omega, by omega, HS1, HN⟩
    have m35 : ((((s[i]'hlt).toNat : Nat) : Int) == 35) = false := by rw [beq_eq_false_iff_ne]; exact fun h => x35 (UInt8.toNat_inj.1 (by have e : (35 : UInt8).toNat = 35 := rfl; omega))
    by_cases x9 : s[i]'hlt = 9
    ·have HN := Lib.hid ((lex_blank HLT.out (by rw [HAT.out]; exact x35) (by rw [HAT.out, x9]; decide)).symm.trans HQ.out)
     clear x35
     go_wp2_with fail
     go_roundg k
     case measure => omega
     case rel => exact ⟨out, i + 1, A, c, rfl, by go_num, by omega, by omega, HS, HN⟩
    have m9 : ((((s[i]'hlt).toNat : Nat) : Int) == 9) = false := by rw [beq_eq_false_iff_ne]; exact fun h => x9 (UInt8.toNat_inj.1 (by have e : (9 : UInt8).toNat = 9 := rfl; omega))
    by_cases x10 : s[i]'hlt = 10
    ·have HN := Lib.hid ((lex_blank HLT.out (by rw [HAT.out]; exact x35) (by rw [HAT.out, x10]; decide)).symm.trans HQ.out)
     clear x35
     go_wp2_with fail
     go_roundg k
     case measure => omega
     case rel => exact ⟨out, i + 1, A, c, rfl, by go_num, by omega, by omega, HS, HN⟩
    have m10 : ((((s[i]'hlt).toNat : Nat) : Int) == 10) = false := by rw [beq_eq_false_iff_ne]; exact fun h => x10 (UInt8.toNat_inj.1 (by have e : (10 : UInt8).toNat = 10 := rfl; omega))
    by_cases x13 : s[i]'hlt = 13
    ·have HN := Lib.hid ((lex_blank HLT.out (by rw [HAT.out]; exact x35) (by rw [HAT.out, x13]; decide)).symm.trans HQ.out)
     clear x35
     go_wp2_with fail
     go_roundg k
     case measure => omega
     case rel => exact ⟨out, i + 1, A, c, rfl, by go_num, by omega, by omega, HS, HN⟩
    have m13 : ((((s[i]'hlt).toNat : Nat) : Int) == 13) = false := by rw [beq_eq_false_iff_ne]; exact fun h => x13 (UInt8.toNat_inj.1 (by have e : (13 : UInt8).toNat = 13 := rfl; omega))
    by_cases x32 : s[i]'hlt = 32
    ·have HN := Lib.hid ((lex_blank HLT.out (by rw [HAT.out]; exact x35) (by rw [HAT.out, x32]; decide)).symm.trans HQ.out)
     clear x35
     go_wp2_with fail
     go_roundg k
     case measure => omega
     case rel => exact ⟨out, i + 1, A, c, rfl, by go_num, by omega, by omega, HS, HN⟩
    have m32 : ((((s[i]'hlt).toNat : Nat) : Int) == 32) = false := by rw [beq_eq_false_iff_ne]; exact fun h => x32 (UInt8.toNat_inj.1 (by have e : (32 : UInt8).toNat = 32 := rfl; omega))
    have HC := Lib.hid (show ¬ (l.getD i 0 = 9 \/ l.getD i 0 = 10 \/ l.getD i 0 = 13 \/ l.getD i 0 = 32) from fun h => by rw [HAT.out] at h; rcases h with h | h | h | h; exact x9 h; exact x10 h; exact x13 h; exact x32 h)
    have H35 := Lib.hid (show l.getD i 0 ≠ 35 by rw [HAT.out]; exact x35)
    clear x35 x9 x10 x13 x32
    have HP := Lib.hid (piece_any (s.extract i s.size) (by rw [HEZ.out]; omega) (by rw [HEZ.out]; omega) wr (HG.out.below HS.out.be))
    obtain ⟨pn, hpn⟩ : ∃ n, n = (pieceS fxB (l.drop i)).1 := ⟨_, rfl⟩
    obtain ⟨pk, hpk⟩ : ∃ n, n = (pieceS fxB (l.drop i)).2 := ⟨_, rfl⟩
    have HPN := Lib.hid hpn
    have HPK := Lib.hid hpk
    clear hpn hpk
    go_wp2_with fail
    clear m35 m9 m10 m13 m32
    refine HP.out.mono ?_
    rintro e w1 ⟨rfl, hb⟩
    have HS1 := Lib.hid (HS.out.below hb)
    clear hb HP
    rw [HEX.out, <- HPN.out, <- HPK.out]
    by_cases h0 : pn = 0
    ·have HN := Lib.hid (some_inj ((lex_bad HLT.out H35.out HC.out (by rw [<- HPN.out]; exact h0)).symm.trans HQ.out))
     have z0 : w1.cell? ⟨bf, 0, none⟩ = some (.int .i64 0) := (blk_cell HS1.out.hf 0).trans rfl
     have z1 : w1.cell? ⟨bf, 1, none⟩ = some (.int .i64 0) := (blk_cell HS1.out.hf 1).trans rfl
     have f0 : w1.frozen? ⟨bf, 0, none⟩ = false := blk_frozen HS1.out.hf 0
     have f1 : w1.frozen? ⟨bf, 1, none⟩ = false := blk_frozen HS1.out.hf 1
     go_wp2_with fail
     obtain ⟨W2, hW2⟩ : ∃ W, W = (w1.setCell ⟨bf, 0, none⟩ (.int .i64 80)).setCell ⟨bf, 1, none⟩ (.int .i64 i) := ⟨_, rfl⟩
     rw [<- hW2]
     have j2 : W2.heap[bf]? = some (.cells #[.int .i64 80, .int .i64 i] 35 (0, 0)) := by rw [hW2]; exact blk_put (blk_put HS1.out.hf 0 (.int .i64 80) rfl) 1 (.int .i64 i) rfl
     have hb2 : Below w.heap.size w W2 := by rw [hW2]; exact below_set (below_set HS1.out.be HS1.out.lo.1) HS1.out.lo.1
     clear z0 z1 f0 f1
     try simp only [Exit.jump]
     refine bodyPost_ret (results_tc rfl _ _ bf 35 #[.int .i64 80, .int .i64 i] (0, 0) _ rfl j2 Tryz.underlying35 rfl (by kernel_rfl)) rfl ?_
     exact ⟨hb2, by rw [HN.out]; rfl⟩
    ·have HN := Lib.hid ((lex_tok HLT.out H35.out HC.out (by rw [<- HPN.out]; exact h0)).symm.trans HQ.out)
     have hpl := (piece_tok (l.drop i) 0 (fun q => by have h5 := HLT.out; have := congrArg List.length q; rw [List.length_drop, List.length_nil] at this; omega) (by rw [List.length_drop, HLL.out]; omega) (by rw [<- HPN.out]; exact h0)).1
     rw [<- HPN.out, List.length_drop, HLL.out] at hpl
     rw [<- HPN.out, <- HPK.out] at HN
     have HTX := Lib.hid (show (⟨((l.drop i).take pn).toArray⟩ : ByteArray) = s.extract i (i + pn) by rw [extract_eq, <- HL.out, Nat.add_sub_cancel_left])
     rw [HTX.out] at HN
     have hq : i + pn <= s.size := by omega
     have hq2 : (i : Int) + (pn : Int) <= (s.size : Int) := by omega
     have hsl : ∀ W, (Instr.slice 9 (.string s) (some (.int .i64 (i : Int))) (some (.int .i64 ((i : Int) + (pn : Int)))) none).run Tryz.prog W = .ok (.string (s.extract i (i + pn))) W := fun W => by
      rw [run_slice_string (w := W) 9 s .i64 .i64 _ _ Tryz.underlying9 (by omega) (by omega) (by omega)]
      rw [show ((i : Int)).toNat = i by omega, show ((i : Int) + (pn : Int)).toNat = i + pn by omega]
     go_wp2_with fail
     refine (clone_any (s.extract i (i + pn)) (by rw [extract_eq]; show ((s.data.toList.drop i).take (i + pn - i)).toArray.size <= _; rw [List.size_toArray, List.length_take]; omega) w1).mono ?_
     rintro e w2 ⟨rfl, hb⟩
     have HS2 := Lib.hid (HS1.out.below hb)
     clear hb
     go_wp2_with (at_builtin; refine Kd.R_append kTok (w0 := w2) N rfl _ _ 52 63 (.agg #[.int .i64 0, .string ⟨#[]⟩, .int .i64 0]) 32 rfl Tryz.underlying52 infoTok rfl (show 0 < 3 by decide) (by decide) (.slice A out.length c) out (⟨pk, s.extract i (i + pn), (i : Int)⟩ : Tok) [.int .i64 pk, .string (s.extract i (i + pn)), .int .i64 i] (fun k => N <= k) (fun _ => False) rfl rfl (kTok_mkM _ _ _ (⟨pk, s.extract i (i + pn), (i : Int)⟩ : Tok)) (fun _ h => h.elim) (fun k hk => by have := HS2.out.nw; show N <= k; omega) HS2.out.row (Below.refl _ _) HS2.out.nw (by omega) ?_)
     intro v1 w3 hv1 hb1 hg1 hat1
     obtain ⟨A', c', rfl⟩ := Kd.R_slice hv1
     have HS3 := Lib.hid (HS2.out.app hv1 hg1)
     have hl1 : (out ++ [(⟨pk, s.extract i (i + pn), (i : Int)⟩ : Tok)]).length = out.length + 1 := by simp
     rw [hl1] at HS3 hv1 hat1 ⊢
     clear hv1 hb1 hg1 hat1
     go_wp2_with fail
     go_roundg k
     case measure => omega
     case rel => exact ⟨out ++ [⟨pk, s.extract i (i + pn), (i : Int)⟩], i + pn, A', c', by rw [hl1], by go_num, by omega, by rw [hl1]; omega, by rw [hl1]; exact HS3, HN⟩
   ·have HN := Lib.hid (some_inj ((lex_stop (by rw [HLL.out]; exact hlt)).symm.trans HQ.out))
    go_wp2_with (at_builtin; refine Kd.R_append kTok (w0 := wr) N rfl _ _ 52 63 (.agg #[.int .i64 0, .string ⟨#[]⟩, .int .i64 0]) 32 rfl Tryz.underlying52 infoTok rfl (show 0 < 3 by decide) (by decide) (.slice A out.length c) out (⟨6, ⟨#[]⟩, (s.size : Int)⟩ : Tok) [.int .i64 6, .string ⟨#[]⟩, .int .i64 s.size] (fun k => N <= k) (fun _ => False) rfl rfl (kTok_mkM _ _ _ (⟨6, ⟨#[]⟩, (s.size : Int)⟩ : Tok)) (fun _ h => h.elim) (fun k hk => by have := HS.out.nw; show N <= k; omega) HS.out.row (Below.refl _ _) HS.out.nw (by omega) ?_)
    intro v1 w3 hv1 hb1 hg1 hat1
    obtain ⟨A', c', rfl⟩ := Kd.R_slice hv1
    have HS3 := Lib.hid (HS.out.app hv1 hg1)
    have hl1 : (out ++ [(⟨6, ⟨#[]⟩, (s.size : Int)⟩ : Tok)]).length = out.length + 1 := by simp
    rw [hl1] at HS3 hv1 hat1 ⊢
    clear hv1 hb1 hg1 hat1
    have z0 : w3.cell? ⟨bf, 0, none⟩ = some (.int .i64 0) := (blk_cell HS3.out.hf 0).trans rfl
    have z1 : w3.cell? ⟨bf, 1, none⟩ = some (.int .i64 0) := (blk_cell HS3.out.hf 1).trans rfl
    have f0 : w3.frozen? ⟨bf, 0, none⟩ = false := blk_frozen HS3.out.hf 0
    have f1 : w3.frozen? ⟨bf, 1, none⟩ = false := blk_frozen HS3.out.hf 1
    go_wp2_with fail
    obtain ⟨W2, hW2⟩ : ∃ W, W = (w3.setCell ⟨bf, 0, none⟩ (.int .i64 0)).setCell ⟨bf, 1, none⟩ (.int .i64 0) := ⟨_, rfl⟩
    rw [<- hW2]
    have j2 : W2.heap[bf]? = some (.cells #[.int .i64 0, .int .i64 0] 35 (0, 0)) := by rw [hW2]; exact blk_put (blk_put HS3.out.hf 0 (.int .i64 0) rfl) 1 (.int .i64 0) rfl
    have hb2 : Below w.heap.size w W2 := by rw [hW2]; exact below_set (below_set HS3.out.be HS3.out.lo.1) HS3.out.lo.1
    have hr2 : kTok.R 63 W2 w.heap.size (fun k => w.heap.size <= k) (.slice A' (out.length + 1) c') (out ++ [⟨6, ⟨#[]⟩, (s.size : Int)⟩]) := by
     have h5 := HS3.out.lo
     refine Kd.R_mono (Kd.R_lower (Kd.R_step HS3.out.row (fun k hk _ => ?_)) (show w.heap.size <= N by omega)) (fun k hk => by have h6 : N <= k := hk; show w.heap.size <= k; omega)
     have h6 : N <= k := hk
     rw [hW2]
     exact (Below.heap_setCell _ ⟨bf, 1, none⟩ _ k (by show k ≠ bf; omega)).trans (Below.heap_setCell _ ⟨bf, 0, none⟩ _ k (by show k ≠ bf; omega))
    clear z0 z1 f0 f1
    try simp only [Exit.jump]
    refine bodyPost_ret (results_tc rfl _ _ bf 35 #[.int .i64 0, .int .i64 0] (0, 0) _ rfl j2 Tryz.underlying35 rfl (by kernel_rfl)) rfl ?_
    refine ⟨hb2, ?_⟩
    rw [HN.out, HLL.out]
    exact ⟨_, rfl, hr2⟩
theorem tokens_any : TokSpec fxB := by
 intro s w hg hsz
 have hk := tokensS_keeps s.data.toList
 have hll : s.data.toList.length = s.size := by simp
 by_cases hz : 16384 < s.size
 ·have e : tokensS fxB s.data.toList = .error (2, -1) := by unfold tokensS; rw [if_pos (by rw [hll]; exact hz)]
  rw [e]
  refine (tokens_long s hz hsz w).mono ?_
  rintro e w' ⟨hb, rfl⟩
  exact ⟨hb, rfl, by decide⟩
 ·obtain ⟨r, hr⟩ := lexL_more fxB s.data.toList (s.data.toList.length + 1) 0 [] (by omega)
  have e : tokensS fxB s.data.toList = r := by unfold tokensS; rw [if_neg (by rw [hll]; exact hz), hr]; rfl
  rw [e] at hk ⊢
  refine (tokens_short s (by omega) w hg r hr).mono ?_
  rintro e w' ⟨hb, ha⟩
  refine ⟨hb, ?_⟩
  cases r with
  | ok ts => exact ⟨ha, hk⟩
  | error f => exact ⟨ha, hk⟩
def Gv {α : Type} (o : Option (Except Flt (α × List Tok))) (k : Nat) : Prop := ∃ x, o = some x /\ ∀ a ts', x = .ok (a, ts') -> ts'.length < k
theorem Gv.mono {α : Type} {o : Option (Except Flt (α × List Tok))} {k k' : Nat} (h : Gv o k) (hk : k <= k') : Gv o k' :=
 let ⟨x, h1, h2⟩ := h
 ⟨x, h1, fun a ts' e => Nat.lt_of_lt_of_le (h2 a ts' e) hk⟩
theorem gv_ok {α : Type} {a : α} {ts : List Tok} {k : Nat} (h : ts.length < k) : Gv (some (.ok (a, ts))) k := ⟨_, rfl, fun a2 t2 e => by injection e with e; injection e with e1 e2; rw [<- e2]; exact h⟩
theorem gv_er {α : Type} {f : Flt} {k : Nat} : Gv (some (.error f) : Option (Except Flt (α × List Tok))) k := ⟨_, rfl, fun a2 t2 e => by cases e⟩
theorem gv_bind {α β : Type} {m : PM α} {f : α -> PM β} {ts : List Tok} {k1 k : Nat} (h : Gv (m ts) k1) (hf : ∀ a ts', ts'.length < k1 -> Gv (f a ts') k) : Gv (m.bind f ts) k := by
 obtain ⟨r, h1, h2⟩ := h
 unfold PM.bind
 rw [h1]
 cases r with
 | error e => exact gv_er
 | ok p => exact hf p.1 p.2 (h2 p.1 p.2 rfl)
theorem nextT_le (ts : List Tok) : (nextT ts).length <= ts.length := by
 unfold nextT
 split
 ·exact Nat.le_refl _
 ·rw [List.length_tail]; omega
theorem kind_lt {ts : List Tok} (h6 : (ts.headD zTok).kind ≠ 6) (h0 : (ts.headD zTok).kind ≠ 0) : (nextT ts).length < ts.length := by
 unfold nextT
 rw [if_neg h6]
 cases ts with
 | nil => exact absurd rfl h0
 | cons t r => simp
theorem isT_kind {s : ByteArray} {ts : List Tok} (h : isT s ts = true) : (ts.headD zTok).kind = 2 \/ (ts.headD zTok).kind = 5 := by
 unfold isT at h
 rw [Bool.and_eq_true, Bool.or_eq_true] at h
 exact h.2.imp (fun q => beq_iff_eq.1 q) (fun q => beq_iff_eq.1 q)
theorem isT_lt {s : ByteArray} {ts : List Tok} (h : isT s ts = true) : (nextT ts).length < ts.length := by
 rcases isT_kind h with h1 | h1 <;> exact kind_lt (by rw [h1]; decide) (by rw [h1]; decide)
theorem gv_must (s : ByteArray) (ts : List Tok) : Gv (mustP s ts) ts.length := by
 unfold mustP
 split
 ·rename_i h; exact gv_ok (isT_lt h)
 ·exact gv_er
theorem gv_may (s : ByteArray) (ts : List Tok) : Gv (mayP s ts) (ts.length + 1) := by
 unfold mayP
 split
 ·rename_i h; exact gv_ok (by have := isT_lt h; omega)
 ·exact gv_ok (by omega)
theorem gv_name (ts : List Tok) : Gv (nameP ts) ts.length := by
 unfold nameP nextP
 split
 ·rename_i h; exact gv_ok (kind_lt (by rw [h]; decide) (by rw [h]; decide))
 ·exact gv_er
theorem gv_scalar (ts : List Tok) : Gv (scalarP ts) ts.length := by
 unfold scalarP
 split
 ·rename_i h; exact gv_ok (isT_lt h)
 ·split
  ·rename_i h; exact gv_ok (isT_lt h)
  ·split
   ·rename_i h; exact gv_ok (isT_lt h)
   ·split
    ·rename_i h; exact gv_ok (isT_lt h)
    ·exact gv_er
theorem gv_signed (num : Tok -> Int) (t s : Int) (ts : List Tok) : Gv (signedP num t s ts) (ts.length + 1) := by
 unfold signedP
 split
 ·exact gv_er
 ·exact gv_ok (by have := nextT_le ts; omega)
theorem gv_value (num : Tok -> Int) (t : Int) (ts : List Tok) : Gv (valueP num t ts) (ts.length + 1) := by
 unfold valueP
 split
 ·refine gv_bind (gv_may _ _) (fun b t1 h1 => ?_)
  cases b with
  | true => exact gv_ok h1
  | false => exact gv_bind (gv_must _ _) (fun _ t2 h2 => gv_ok (by omega))
 ·split
  ·exact gv_bind (gv_must _ _) (fun _ t2 h2 => gv_ok (by omega))
  ·exact gv_bind (gv_may _ _) (fun b t1 h1 => (gv_signed num _ _ t1).mono (by omega))
theorem gv_size (num : Tok -> Int) (ts : List Tok) : Gv (sizeP num ts) (ts.length + 1) := by
 unfold sizeP
 split
 ·exact gv_er
 ·split
  ·exact gv_er
  ·exact gv_ok (by have := nextT_le ts; omega)
theorem gv_variable (num : Tok -> Int) (ts : List Tok) : Gv (variableP num ts) ts.length := by
 unfold variableP
 refine gv_bind (gv_must _ _) (fun _ t1 h1 => gv_bind (gv_name _) (fun t t2 h2 => gv_bind (gv_must _ _) (fun _ t3 h3 => gv_bind (gv_may _ _) (fun b t4 h4 => gv_bind (k1 := t4.length + 1) ?_ (fun v t5 h5 => gv_bind (gv_must _ _) (fun _ t6 h6 => gv_ok (by omega)))))))
 cases b with
 | true => exact gv_bind (gv_size num _) (fun n t5 h5 => gv_bind (gv_must _ _) (fun _ t6 h6 => gv_bind (gv_scalar _) (fun ty t7 h7 => gv_ok (by omega))))
 | false =>
  refine gv_bind (gv_scalar _) (fun ty t5 h5 => gv_bind (gv_may _ _) (fun e t6 h6 => ?_))
  cases e with
  | true => exact gv_bind (gv_value num _ _) (fun v t7 h7 => gv_ok (by omega))
  | false => exact gv_ok (by omega)
theorem gv_row {α : Type} (stop : ByteArray) (read : List α -> PM α) (B : Nat) (hr : ∀ l ts, ts.length < B -> Gv (read l ts) ts.length) : ∀ (n : Nat) (l : List α) (ts : List Tok), ts.length < B -> ts.length < n -> Gv (rowP stop read n l ts) (ts.length + 1)
 | 0, _, _, _, h => by omega
 | n + 1, l, ts, hB, h => by
  unfold rowP
  split
  ·exact gv_ok (by omega)
  ·refine gv_bind (hr l ts hB) (fun a t1 h1 => ?_)
   split
   ·exact gv_ok (by omega)
   ·refine gv_bind (gv_must _ _) (fun _ t2 h2 => ?_)
    split
    ·exact gv_er
    ·exact (gv_row stop read B hr n _ t2 (by omega) (by omega)).mono (by omega)
theorem gv_within {α : Type} {lv : Nat} {read : Nat -> PM α} {ts : List Tok} {k : Nat} (h : ∀ lv, Gv (read lv ts) k) : Gv (withinP lv read ts) k := by
 unfold withinP
 split
 ·exact gv_er
 ·exact h _
theorem gv_between {α : Type} {lv : Nat} {left right : ByteArray} {read : Nat -> PM α} {ts : List Tok} (h : ∀ lv ts', ts'.length < ts.length -> Gv (read lv ts') (ts'.length + 1)) : Gv (betweenP lv left read right ts) ts.length := by
 unfold betweenP
 split
 ·rename_i hl
  refine gv_within (fun lv => gv_bind (h lv _ (isT_lt hl)) (fun a t1 h1 => gv_bind (gv_must _ _) (fun _ t2 h2 => gv_ok ?_)))
  have := isT_lt hl
  omega
 ·exact gv_er
structure RK (n : Nat) (R : PRec) : Prop where
 strong : ∀ ts l lv, 2 * ts.length + 2 <= n -> Gv (R.strong l lv ts) ts.length
 one : ∀ ts lv, 2 * ts.length + 1 <= n -> Gv (R.one lv ts) ts.length
 stmt : ∀ ts lv, 2 * ts.length + 2 <= n -> Gv (R.stmt lv ts) ts.length
 choice : ∀ ts lv, 2 * ts.length + 1 <= n -> Gv (R.choice lv ts) ts.length
 block : ∀ ts lv, 2 * ts.length + 1 <= n -> Gv (R.block lv ts) ts.length
theorem gv_call {n : Nat} {R : PRec} (h : RK n R) (lv : Nat) (t : Tok) (ts : List Tok) (hn : 2 * ts.length <= n) : Gv (callP n R lv t ts) ts.length := by
 unfold callP
 refine gv_bind (gv_between (fun lv ts' h1 => ?_)) (fun l t1 h1 => gv_ok h1)
 exact gv_row _ _ ts.length (fun l t2 h2 => h.strong t2 1 lv (by omega)) n [] ts' h1 (by omega)
theorem gv_index {n : Nat} {R : PRec} (h : RK n R) (lv : Nat) (ts : List Tok) (hn : 2 * ts.length <= n) : Gv (indexP R lv ts) ts.length := by
 unfold indexP
 refine gv_between (fun lv ts' h1 => ?_)
 exact gv_bind (h.strong ts' 1 lv (by omega)) (fun e t1 h2 => gv_ok (by omega))
theorem gv_atom (num : Tok -> Int) {n : Nat} {R : PRec} (h : RK n R) (lv : Nat) (ts : List Tok) (hn : 2 * ts.length <= n) : Gv (atomP num n R lv ts) ts.length := by
 unfold atomP
 dsimp only
 split
 ·rename_i hk; exact gv_ok (kind_lt (by rw [hk]; decide) (by rw [hk]; decide))
 split
 ·rename_i hk; exact gv_ok (kind_lt (by rw [hk]; decide) (by rw [hk]; decide))
 split
 ·rename_i hk; exact gv_ok (isT_lt hk)
 split
 ·rename_i hk; exact gv_ok (isT_lt hk)
 split
 ·rename_i hk; exact gv_ok (isT_lt hk)
 split
 ·exact gv_between (fun lv t1 h1 => (h.strong t1 1 lv (by omega)).mono (by omega))
 refine gv_bind (gv_name ts) (fun _ t1 h1 => ?_)
 split
 ·exact (gv_call h lv _ t1 (by omega)).mono (by omega)
 split
 ·exact gv_bind (gv_index h lv t1 (by omega)) (fun l t2 h2 => gv_ok (by omega))
 ·exact gv_ok h1
theorem gv_one (num : Tok -> Int) {n : Nat} {R : PRec} (h : RK n R) (lv : Nat) (ts : List Tok) (hn : 2 * ts.length <= n) : Gv (oneP num n R lv ts) ts.length := by
 unfold oneP
 split
 ·rename_i hk
  have := isT_lt hk
  exact gv_within (fun lv => gv_bind (h.one _ lv (by omega)) (fun e t1 h1 => gv_ok (by omega)))
 split
 ·rename_i hk
  have := isT_lt hk
  exact gv_within (fun lv => gv_bind (h.one _ lv (by omega)) (fun e t1 h1 => gv_ok (by omega)))
 exact gv_atom num h lv ts hn
theorem gv_strongL {n : Nat} {R : PRec} (h : RK n R) (least : Int) (lv : Nat) : ∀ (k : Nat) (most : Int) (e : Ex) (ts : List Tok), ts.length < k -> 2 * ts.length <= n -> Gv (strongL R least lv k most e ts) (ts.length + 1)
 | 0, _, _, _, hk, _ => by omega
 | k + 1, most, e, ts, hk, hn => by
  unfold strongL
  dsimp only
  split
  ·exact gv_ok (by omega)
  ·rename_i hc
   have h5 : (ts.headD zTok).kind = 5 := Classical.byContradiction fun q => hc (.inl q)
   have hl := kind_lt (ts := ts) (by rw [h5]; decide) (by rw [h5]; decide)
   exact gv_bind (h.strong _ _ lv (by omega)) (fun e2 t1 h1 => (gv_strongL h least lv k _ _ t1 (by omega) (by omega)).mono (by omega))
theorem gv_strong {n : Nat} {R : PRec} (h : RK n R) (least : Int) (lv : Nat) (ts : List Tok) (hn : 2 * ts.length + 1 <= n) : Gv (strongP n R least lv ts) ts.length := by
 unfold strongP
 exact gv_bind (h.one ts lv hn) (fun e t1 h1 => (gv_strongL h least lv n 5 e t1 (by omega) (by omega)).mono (by omega))
theorem gv_stmtsL {n : Nat} {R : PRec} (h : RK n R) (lv : Nat) : ∀ (k : Nat) (l : List St) (ts : List Tok), ts.length < k -> 2 * ts.length + 2 <= n -> Gv (stmtsL R lv k l ts) (ts.length + 1)
 | 0, _, _, hk, _ => by omega
 | k + 1, l, ts, hk, hn => by
  unfold stmtsL
  split
  ·split
   ·exact gv_er
   ·exact gv_bind (h.stmt ts lv hn) (fun s t1 h1 => (gv_stmtsL h lv k _ t1 (by omega) (by omega)).mono (by omega))
  ·exact gv_ok (by omega)
theorem gv_block {n : Nat} {R : PRec} (h : RK n R) (lv : Nat) (ts : List Tok) (hn : 2 * ts.length <= n) : Gv (blockP n R lv ts) ts.length := by
 unfold blockP
 exact gv_between (fun lv t1 h1 => gv_stmtsL h lv n [] t1 (by omega) (by omega))
theorem gv_semi (s : St) (ts : List Tok) : Gv (semiP s ts) ts.length := by
 unfold semiP
 exact gv_bind (gv_must _ _) (fun _ t1 h1 => gv_ok h1)
theorem gv_stmt {n : Nat} {R : PRec} (h : RK n R) (lv : Nat) (ts : List Tok) (hn : 2 * ts.length + 1 <= n) : Gv (stmtP n R lv ts) ts.length := by
 unfold stmtP
 dsimp only
 split
 ·exact h.choice ts lv hn
 split
 ·rename_i hk
  have := isT_lt hk
  exact gv_bind (h.strong _ 1 lv (by omega)) (fun e t1 h1 => gv_bind (h.block t1 lv (by omega)) (fun l t2 h2 => gv_ok (by omega)))
 split
 ·rename_i hk
  have := isT_lt hk
  exact gv_bind (gv_name _) (fun t t1 h1 => gv_bind (gv_must _ _) (fun _ t2 h2 => gv_bind (gv_scalar _) (fun ty t3 h3 => gv_bind (gv_must _ _) (fun _ t4 h4 => gv_bind (h.strong t4 1 lv (by omega)) (fun e t5 h5 => (gv_semi _ t5).mono (by omega))))))
 split
 ·rename_i hk
  have := isT_lt hk
  split
  ·exact (gv_semi _ _).mono (by omega)
  ·exact gv_bind (h.strong _ 1 lv (by omega)) (fun e t1 h1 => (gv_semi _ t1).mono (by omega))
 refine gv_bind (gv_name ts) (fun t t1 h1 => ?_)
 split
 ·exact gv_bind (gv_call h lv t t1 (by omega)) (fun e t2 h2 => (gv_semi _ t2).mono (by omega))
 split
 ·exact gv_bind (gv_index h lv t1 (by omega)) (fun l t2 h2 => gv_bind (gv_must _ _) (fun _ t3 h3 => gv_bind (h.strong t3 1 lv (by omega)) (fun e t4 h4 => (gv_semi _ t4).mono (by omega))))
 ·exact gv_bind (gv_must _ _) (fun _ t3 h3 => gv_bind (h.strong t3 1 lv (by omega)) (fun e t4 h4 => (gv_semi _ t4).mono (by omega)))
theorem gv_choice {n : Nat} {R : PRec} (h : RK n R) (lv : Nat) (ts : List Tok) (hn : 2 * ts.length <= n) : Gv (choiceP R lv ts) ts.length := by
 unfold choiceP
 dsimp only
 refine gv_bind (gv_must _ ts) (fun _ t1 h1 => gv_bind (h.strong t1 1 lv (by omega)) (fun e t2 h2 => gv_bind (h.block t2 lv (by omega)) (fun l t3 h3 => gv_bind (gv_may _ t3) (fun b t4 h4 => ?_))))
 split
 ·split
  ·exact gv_bind (gv_within (fun lv => h.choice t4 lv (by omega))) (fun s t5 h5 => gv_ok (by omega))
  ·exact gv_bind (h.block t4 lv (by omega)) (fun l2 t5 h5 => gv_ok (by omega))
 ·exact gv_ok (by omega)
theorem rk_prec (num : Tok -> Int) : ∀ n, RK n (prec num n)
 | 0 => ⟨fun _ _ _ h => by omega, fun _ _ h => by omega, fun _ _ h => by omega, fun _ _ h => by omega, fun _ _ h => by omega⟩
 | n + 1 => ⟨fun ts l lv h => gv_strong (rk_prec num n) l lv ts (by omega), fun ts lv h => gv_one num (rk_prec num n) lv ts (by omega), fun ts lv h => gv_stmt (rk_prec num n) lv ts (by omega), fun ts lv h => gv_choice (rk_prec num n) lv ts (by omega), fun ts lv h => gv_block (rk_prec num n) lv ts (by omega)⟩
theorem gv_param (l : List Pm) (ts : List Tok) : Gv (paramP l ts) ts.length := by
 unfold paramP
 split
 ·exact gv_er
 ·exact gv_bind (gv_name ts) (fun t t1 h1 => gv_bind (gv_must _ _) (fun _ t2 h2 => gv_bind (gv_scalar _) (fun ty t3 h3 => gv_ok (by omega))))
theorem gv_function {n : Nat} {R : PRec} (h : RK n R) (lv : Nat) (ts : List Tok) (hn : 2 * ts.length + 1 <= n) : Gv (functionP n R lv ts) ts.length := by
 unfold functionP
 refine gv_bind (gv_must _ ts) (fun _ t1 h1 => gv_bind (gv_name _) (fun t t2 h2 => gv_bind (gv_must _ _) (fun _ t3 h3 => gv_bind (gv_row _ _ ts.length (fun l t _ => gv_param l t) n [] t3 (by omega) (by omega)) (fun ps t4 h4 => gv_bind (gv_must _ _) (fun _ t5 h5 => gv_bind (gv_may _ _) (fun b t6 h6 => gv_bind (k1 := t6.length + 1) ?_ (fun ty t7 h7 => gv_bind (h.block t7 lv (by omega)) (fun l t8 h8 => gv_ok (by omega)))))))))
 split
 ·exact (gv_scalar t6).mono (by omega)
 ·exact gv_ok (by omega)
theorem gv_varsL (num : Tok -> Int) : ∀ (k : Nat) (l : List Vr) (ts : List Tok), ts.length < k -> Gv (varsL num k l ts) (ts.length + 1)
 | 0, _, _, hk => by omega
 | k + 1, l, ts, hk => by
  unfold varsL
  split
  ·split
   ·exact gv_er
   ·exact gv_bind (gv_variable num ts) (fun v t1 h1 => (gv_varsL num k _ t1 (by omega)).mono (by omega))
  ·exact gv_ok (by omega)
theorem gv_funcsL {n : Nat} {R : PRec} (h : RK n R) : ∀ (k : Nat) (l : List Fc) (ts : List Tok), ts.length < k -> 2 * ts.length + 1 <= n -> Gv (funcsL n R k l ts) (ts.length + 1)
 | 0, _, _, hk, _ => by omega
 | k + 1, l, ts, hk, hn => by
  unfold funcsL
  split
  ·split
   ·exact gv_er
   ·exact gv_bind (gv_function h 0 ts hn) (fun v t1 h1 => (gv_funcsL h k _ t1 (by omega) (by omega)).mono (by omega))
  ·exact gv_ok (by omega)
theorem modP_more (num : Tok -> Int) (ts : List Tok) (hl : ts.length <= 16385) : ∃ r, modP num 60000 ts = some r := by
 have h : Gv (modP num 60000 ts) (ts.length + 1) := by
  unfold modP
  refine gv_bind (gv_varsL num 60000 [] ts (by omega)) (fun vs t1 h1 => gv_bind (gv_funcsL (rk_prec num 60000) 60000 [] t1 (by omega) (by omega)) (fun fs t2 h2 => ?_))
  split
  ·exact gv_ok (by omega)
  ·exact gv_er
 exact ⟨_, h.choose_spec.1⟩
def PARSE (l : List UInt8) : Md × Flt := parseR numT fxB l
theorem parse_all (s : ByteArray) (hs : s.size <= 1000000000) (w : World) (hg : GErr w) :
  Calls Tryz.prog 15 #[.string s] w fun e w' => Below w.heap.size w w' /\ ∃ v, e = .returned (.tuple #[v, .agg #[.int .i64 (PARSE s.data.toList).2.1, .int .i64 (PARSE s.data.toList).2.2]]) /\ mdV w.heap.size w' (PARSE s.data.toList).1 v :=
 parse_any number_any tokens_any s hs w hg (fun ts hts => modP_more numT ts (by
  have hk := tokensS_keeps s.data.toList
  rw [hts] at hk
  exact hk.2.1))
def toL (s : ByteArray) : List UInt8 := s.data.toList
def typedB (t : Int) : Bool := decide (1 <= t /\ t <= 4)
def numB (k n : Int) : Bool := if k = 1 \/ k = 2 then decide (0 <= n) else if k = 3 then n == 0 || n == 1 else n == 0
def shapeS (k : Int) : Option (Bool × Int × Int × Int × Int) :=
 if k = 1 \/ k = 2 \/ k = 3 \/ k = 4 then some (false, 0, 0, 0, 0)
 else if k = 5 then some (true, 0, 0, 0, 0)
 else if k = 6 then some (true, 0, 0, 1, 1)
 else if k = 7 then some (true, 0, 0, 0, 16384)
 else if k = 8 then some (false, 14, 15, 1, 1)
 else if k = 9 then some (false, 1, 13, 2, 2)
 else none
def shapeOK (k op num : Int) (name : ByteArray) (n : Nat) : Bool := match shapeS k with
 | none => false
 | some (nm, lo, hi, le, mo) => decide (lo <= op) && decide (op <= hi) && decide (le <= (n : Int)) && decide ((n : Int) <= mo) && numB k num && (if nm then nameB name else decide (name.size = 0))
mutual
def exprOK : Ex -> Bool
 | .mk k op num name args _ _ _ => shapeOK k op num name args.length && exprsOK args
def exprsOK : List Ex -> Bool
 | [] => true
 | e :: l => exprOK e && exprsOK l
end
def Ex.kind : Ex -> Int | .mk k _ _ _ _ _ _ _ => k
def Ex.op : Ex -> Int | .mk _ o _ _ _ _ _ _ => o
def St.kind : St -> Int | .mk k _ _ _ _ _ _ _ => k
def stmtShape (k : Int) (ne nb nl : Nat) (ek : Int) : Option (Bool × Bool × Int × Int × Bool) :=
 if k = 1 then some (true, true, 1, 1, nb == 0 && nl == 0)
 else if k = 2 then some (true, false, 1, 1, nb == 0 && nl == 0)
 else if k = 3 then some (true, false, 2, 2, nb == 0 && nl == 0)
 else if k = 4 then some (false, false, 1, 1, true)
 else if k = 5 then some (false, false, 1, 1, nl == 0)
 else if k = 6 then some (false, false, 0, 1, nb == 0 && nl == 0)
 else if k = 7 then some (false, false, 1, 1, nb == 0 && nl == 0 && ne == 1 && ek == 7)
 else none
def stmtHead (k : Int) (name : ByteArray) (type : Int) (exprs : List Ex) (nb nl : Nat) : Bool := match stmtShape k exprs.length nb nl (exprs.head?.map Ex.kind |>.getD 0) with
 | none => false
 | some (nm, ty, le, mo, bare) => bare && decide (le <= (exprs.length : Int)) && decide ((exprs.length : Int) <= mo) && (if nm then nameB name else decide (name.size = 0)) && (if ty then typedB type else decide (type = 0))
mutual
def stmtOK : St -> Bool
 | .mk k name type exprs body els _ _ => stmtHead k name type exprs body.length els.length && exprsOK exprs && (decide (body.length <= 400) && stmtsOK body) && (decide (els.length <= 400) && stmtsOK els)
def stmtsOK : List St -> Bool
 | [] => true
 | s :: l => stmtOK s && stmtsOK l
end
def blockOK (l : List St) : Bool := decide (l.length <= 400) && stmtsOK l
def varOK (v : Vr) : Bool :=
 let ok := nameB v.name && typedB v.type && decide (0 <= v.size) && decide (v.size <= 256)
 if v.size > 0 \/ v.type = 4 then ok && v.value == 0
 else if v.type = 3 then ok && bits .andNot .i64 v.value 1 == 0
 else ok && v.value != -9223372036854775808
def funcOK (f : Fc) : Bool := f.params.all (fun p => nameB p.name && typedB p.type) && nameB f.name && (f.type == 0 || typedB f.type) && decide (f.params.length <= 8) && blockOK f.body
def modOK (m : Md) : Bool := decide (m.vars.length <= 64) && decide (m.funcs.length <= 64) && m.vars.all varOK && m.funcs.all funcOK
def wideB (p : List UInt8) : Bool := decide (16384 < p.length)
def tyT (t : Int) : List UInt8 := if t = 1 then [105, 110, 116] else if t = 2 then [102, 105, 120] else if t = 3 then [98, 111, 111, 108] else if t = 4 then [101, 110, 116] else []
def sgL : List (List UInt8) := [[], [43], [45], [42], [47], [37], [61, 61], [33, 61], [60], [60, 61], [62], [62, 61], [38, 38], [124, 124], [45], [33]]
def sgT (op : Int) : List UInt8 := sgL.getD op.toNat []
def fracT : Nat -> Nat -> List UInt8
 | 0, _ => []
 | k + 1, u => UInt8.ofNat (48 + u * 10 / 4294967296) :: if u * 10 % 4294967296 = 0 then [] else fracT k (u * 10 % 4294967296)
def fixT (n : Int) : List UInt8 := (if n < 0 then [45] else []) ++ Lib.decDigits (n.natAbs / 4294967296) ++ [46] ++ fracT 40 (n.natAbs % 4294967296)
def strongB (k op : Int) : Int := if k ≠ 9 then 6 else [0, 4, 4, 5, 5, 5, 3, 3, 3, 3, 3, 3, 2, 1].getD op.toNat 0
def strongE (e : Ex) : Int := strongB e.kind e.op
def operT (f : List UInt8 -> List UInt8) (apart : Bool) (p : List UInt8) : List UInt8 := if apart then f (p ++ [40]) ++ [41] else f p
def rowT : List (List UInt8 -> List UInt8) -> Bool -> List UInt8 -> List UInt8
 | [], _, p => p
 | f :: l, more, p => rowT l true (f (if more then p ++ [44, 32] else p))
def exprK (k op num : Int) (name : ByteArray) (args : List Ex) (fs : List (List UInt8 -> List UInt8)) (p : List UInt8) : List UInt8 :=
 if k = 1 then p ++ Lib.itoa num
 else if k = 2 then p ++ fixT num
 else if k = 3 then p ++ (if num = 1 then [116, 114, 117, 101] else [102, 97, 108, 115, 101])
 else if k = 4 then p ++ [110, 117, 108, 108]
 else if k = 5 then p ++ toL name
 else if k = 6 then fs.headD id (p ++ toL name ++ [91]) ++ [93]
 else if k = 7 then rowT fs false (p ++ toL name ++ [40]) ++ [41]
 else if k = 8 then operT (fs.headD id) ((args.headD (.mk 0 0 0 ⟨#[]⟩ [] 0 0 0)).kind == 9) (p ++ sgT op)
 else if k = 9 then
  let l := strongE (args.headD (.mk 0 0 0 ⟨#[]⟩ [] 0 0 0))
  let r := strongE (args.tail.headD (.mk 0 0 0 ⟨#[]⟩ [] 0 0 0))
  let s := strongB 9 op
  operT (fs.tail.headD id) (decide (r <= s)) (operT (fs.headD id) (decide (l < s) || (l == s && s == 3)) p ++ [32] ++ sgT op ++ [32])
 else p
mutual
def exprT : Ex -> List UInt8 -> List UInt8
 | .mk k op num name args _ _ _, p => if wideB p then p else exprK k op num name args (exprTs args) p
def exprTs : List Ex -> List (List UInt8 -> List UInt8)
 | [] => []
 | e :: l => exprT e :: exprTs l
end
def tabsT (lv : Nat) : List UInt8 := List.replicate lv 9
def linesT (lv : Nat) : List (Nat -> List UInt8 -> List UInt8) -> List UInt8 -> List UInt8
 | [], p => p
 | f :: l, p => if wideB p then p else linesT lv l (f lv (p ++ tabsT lv) ++ [10])
def bodyT (fs : List (Nat -> List UInt8 -> List UInt8)) (lv : Nat) (p : List UInt8) : List UInt8 := linesT (lv + 1) fs (p ++ [32, 123, 10]) ++ tabsT lv ++ [125]
def stmtK (k : Int) (name : ByteArray) (type : Int) (es : List (List UInt8 -> List UInt8)) (els : List St) (fb fl : List (Nat -> List UInt8 -> List UInt8)) (lv : Nat) (p : List UInt8) : List UInt8 :=
 if k = 1 then es.headD id (p ++ [108, 101, 116, 32] ++ toL name ++ [58, 32] ++ tyT type ++ [32, 61, 32]) ++ [59]
 else if k = 2 then es.headD id (p ++ toL name ++ [32, 61, 32]) ++ [59]
 else if k = 3 then es.tail.headD id (es.headD id (p ++ toL name ++ [91]) ++ [93, 32, 61, 32]) ++ [59]
 else if k = 4 then
  let q := bodyT fb lv (es.headD id (p ++ [105, 102, 32]))
  if els.length = 1 /\ (els.headD (.mk 0 ⟨#[]⟩ 0 [] [] [] 0 0)).kind = 4 then fl.headD (fun _ p => p) lv (q ++ [32, 101, 108, 115, 101, 32])
  else if 0 < els.length then bodyT fl lv (q ++ [32, 101, 108, 115, 101])
  else q
 else if k = 5 then bodyT fb lv (es.headD id (p ++ [119, 104, 105, 108, 101, 32]))
 else if k = 6 then (if es = [] then p ++ [114, 101, 116, 117, 114, 110] else es.headD id (p ++ [114, 101, 116, 117, 114, 110] ++ [32])) ++ [59]
 else if k = 7 then es.headD id p ++ [59]
 else p ++ [59]
mutual
def stmtT : St -> Nat -> List UInt8 -> List UInt8
 | .mk k name type exprs body els _ _, lv, p => stmtK k name type (exprTs exprs) els (stmtTs body) (stmtTs els) lv p
def stmtTs : List St -> List (Nat -> List UInt8 -> List UInt8)
 | [] => []
 | s :: l => stmtT s :: stmtTs l
end
def varT (v : Vr) (p : List UInt8) : List UInt8 :=
 p ++ [118, 97, 114, 32] ++ toL v.name ++ [58, 32] ++ (if 0 < v.size then [91] ++ Lib.itoa v.size ++ [93, 32] else []) ++ tyT v.type ++
 (if v.value = 0 then [] else [32, 61, 32] ++ (if v.type = 1 then Lib.itoa v.value else if v.type = 2 then fixT v.value else [116, 114, 117, 101])) ++ [59, 10]
def paramsT : List Pm -> Bool -> List UInt8 -> List UInt8
 | [], _, p => p
 | x :: l, more, p => paramsT l true ((if more then p ++ [44, 32] else p) ++ toL x.name ++ [58, 32] ++ tyT x.type)
def funcT (f : Fc) (p : List UInt8) : List UInt8 :=
 let q := paramsT f.params false (p ++ [102, 110, 32] ++ toL f.name ++ [40]) ++ [41]
 bodyT (stmtTs f.body) 0 (if f.type = 0 then q else q ++ [58, 32] ++ tyT f.type) ++ [10]
def funcsT : List Fc -> List UInt8 -> List UInt8
 | [], p => p
 | f :: l, p => if wideB p then p else funcsT l (funcT f p)
def modT (m : Md) : List UInt8 := funcsT m.funcs (m.vars.foldl (fun p v => varT v p) [])
def printS (again : List UInt8 -> Int) (m : Md) : List UInt8 × Int :=
 if !modOK m then ([], 100) else if wideB (modT m) then ([], 2) else if again (modT m) ≠ 0 then ([], 100) else (modT m, 0)
theorem exprTs_map (l : List Ex) : exprTs l = l.map exprT := by
 induction l with
 | nil => rfl
 | cons e l ih => show exprT e :: exprTs l = _; rw [ih]; rfl
theorem stmtTs_map (l : List St) : stmtTs l = l.map stmtT := by
 induction l with
 | nil => rfl
 | cons e l ih => show stmtT e :: stmtTs l = _; rw [ih]; rfl
theorem exprsOK_all (l : List Ex) : exprsOK l = l.all exprOK := by
 induction l with
 | nil => rfl
 | cons e l ih => show (exprOK e && exprsOK l) = _; rw [ih]; rfl
theorem stmtsOK_all (l : List St) : stmtsOK l = l.all stmtOK := by
 induction l with
 | nil => rfl
 | cons e l ih => show (stmtOK e && stmtsOK l) = _; rw [ih]; rfl
theorem exprT_eq (k op num : Int) (name : ByteArray) (args : List Ex) (a t pl : Int) (p : List UInt8) : exprT (.mk k op num name args a t pl) p = if wideB p then p else exprK k op num name args (args.map exprT) p := by
 rw [<- exprTs_map]; rfl
theorem stmtT_eq (k : Int) (name : ByteArray) (type : Int) (exprs : List Ex) (body els : List St) (a pl : Int) (lv : Nat) (p : List UInt8) : stmtT (.mk k name type exprs body els a pl) lv p = stmtK k name type (exprs.map exprT) els (body.map stmtT) (els.map stmtT) lv p := by
 rw [<- exprTs_map, <- stmtTs_map, <- stmtTs_map]; rfl
theorem exprOK_eq (k op num : Int) (name : ByteArray) (args : List Ex) (a t pl : Int) : exprOK (.mk k op num name args a t pl) = (shapeOK k op num name args.length && args.all exprOK) := by
 rw [<- exprsOK_all]; rfl
theorem stmtOK_eq (k : Int) (name : ByteArray) (type : Int) (exprs : List Ex) (body els : List St) (a pl : Int) : stmtOK (.mk k name type exprs body els a pl) = (stmtHead k name type exprs body.length els.length && exprs.all exprOK && blockOK body && blockOK els) := by
 unfold blockOK
 rw [<- exprsOK_all]; rfl
def flatB (d : UInt8) : Bool := decide (d.toNat <= 126) && d != 13 && d != 10
def linB : UInt8 -> List UInt8 -> Bool
 | _, [] => true
 | c, d :: l => decide (d.toNat <= 126) && d != 13 && (d != 10 || (c == 59 || c == 123 || c == 125)) && linB d l
def Ln (p : List UInt8) : Prop := linB 0 p = true
theorem inName_flat (d : UInt8) (h : inNameB (d.toNat : Nat) = true) : flatB d = true := by
 have hall : ∀ n : Nat, n < 256 -> inNameB (n : Int) = true -> flatB (UInt8.ofNat n) = true := by decide
 have := hall d.toNat (UInt8.toNat_lt d) h
 rwa [UInt8.ofNat_toNat] at this
theorem runN_flat (p : Int -> Bool) : ∀ (l : List UInt8), runN p l = l.length -> ∀ c ∈ l, p (c.toNat : Nat) = true
 | [], _, c, hc => by cases hc
 | d :: l, h, c, hc => by
  unfold runN at h
  split at h
  ·rename_i hd
   rcases List.mem_cons.1 hc with rfl | hc
   ·exact hd
   ·exact runN_flat p l (by rw [List.length_cons] at h; omega) c hc
  ·rw [List.length_cons] at h; omega
theorem name_flat (s : ByteArray) (h : nameB s = true) : (toL s).all flatB = true := by
 unfold nameB at h
 simp only [Bool.and_eq_true, beq_iff_eq] at h
 rw [List.all_eq_true]
 intro c hc
 exact inName_flat c (runN_flat inNameB (toL s) (by show runN inNameB s.data.toList = s.data.toList.length; rw [h.1.2, Array.length_toList]; rfl) c hc)
def Wl (p : List UInt8) : Prop := Ln p /\ (p = [] \/ p.getLast? = some 10)
def zVr : Vr := ⟨⟨#[]⟩, 0, 0, 0, 0⟩
def zPm : Pm := ⟨⟨#[]⟩, 0⟩
def zFc : Fc := ⟨⟨#[]⟩, [], 0, [], 0, []⟩
theorem kVr_open {w : World} {x : Vr} {cs : List Value} (h : kVr.K w x cs) : cs = [.string x.name, .int .i64 x.type, .int .i64 x.size, .int .i64 x.value, .int .i64 x.at_] := by
 obtain ⟨_, _, rfl, rfl, _, _, rfl, rfl, _, _, rfl, rfl, _, _, rfl, rfl, rfl⟩ := h
 rfl
theorem kPm_open {w : World} {x : Pm} {cs : List Value} (h : kPm.K w x cs) : cs = [.string x.name, .int .i64 x.type] := by
 obtain ⟨_, _, rfl, rfl, rfl⟩ := h
 rfl
theorem kFc_openK {w : World} {x : Fc} {cs : List Value} (h : kFc.K w x cs) : ∃ A c A1 c1 A2 c2, cs = [.string x.name, .slice A x.params.length c, .int .i64 x.type, .slice A1 x.body.length c1, .int .i64 x.at_, .slice A2 x.locals.length c2] /\ kPm.C w A x.params.length x.params /\ kSt.C w A1 x.body.length x.body := by
 obtain ⟨_, _, rfl, rfl, _, _, rfl, ⟨A, c, rfl, hl, hc⟩, _, _, rfl, rfl, _, _, rfl, ⟨A1, c1, rfl, hl1, hc1⟩, _, _, rfl, rfl, ⟨A2, c2, rfl, _, _⟩⟩ := h
 exact ⟨A, c, A1, c1, A2, c2, rfl, hc, hc1⟩
theorem kEx_len {w : World} {x : Ex} {cs : List Value} (h : kEx.K w x cs) : ∃ k o n s A l c a t p, cs = [.int .i64 k, .int .i64 o, .int .i64 n, .string s, .slice A l c, .int .i64 a, .int .i64 t, .int .i64 p] := by
 obtain ⟨k, o, n, s, l, a, t, p⟩ := x
 obtain ⟨A, c, rfl, _, _⟩ := kEx_open h
 exact ⟨_, _, _, _, _, _, _, _, _, _, rfl⟩
theorem kSt_len {w : World} {x : St} {cs : List Value} (h : kSt.K w x cs) : ∃ k s t A n c A1 n1 c1 A2 n2 c2 a p, cs = [.int .i64 k, .string s, .int .i64 t, .slice A n c, .slice A1 n1 c1, .slice A2 n2 c2, .int .i64 a, .int .i64 p] := by
 obtain ⟨k, s, t, l, b, e, a, p⟩ := x
 obtain ⟨A, c, A1, c1, A2, c2, rfl, _⟩ := kSt_open h
 exact ⟨_, _, _, _, _, _, _, _, _, _, _, _, _, _, rfl⟩
theorem kVr_len {w : World} {x : Vr} {cs : List Value} (h : kVr.K w x cs) : ∃ s a b c d, cs = [.string s, .int .i64 a, .int .i64 b, .int .i64 c, .int .i64 d] := ⟨_, _, _, _, _, kVr_open h⟩
theorem kPm_len {w : World} {x : Pm} {cs : List Value} (h : kPm.K w x cs) : ∃ s a, cs = [.string s, .int .i64 a] := ⟨_, _, kPm_open h⟩
theorem kFc_len {w : World} {x : Fc} {cs : List Value} (h : kFc.K w x cs) : ∃ s A n c t A1 n1 c1 a A2 n2 c2, cs = [.string s, .slice A n c, .int .i64 t, .slice A1 n1 c1, .int .i64 a, .slice A2 n2 c2] := by
 obtain ⟨A, c, A1, c1, A2, c2, rfl, _⟩ := kFc_openK h
 exact ⟨_, _, _, _, _, _, _, _, _, _, _, _, rfl⟩
theorem at_Ex {w : World} {A : Option Addr} {n : Nat} {xs : List Ex} (h : kEx.C w A n xs) (i : Nat) (hi : i < n) : ∃ ad k o n s A1 l1 c1 a t p, A = some ad /\ Hid (kEx.K w (xs.getD i zEx) [.int .i64 k, .int .i64 o, .int .i64 n, .string s, .slice A1 l1 c1, .int .i64 a, .int .i64 t, .int .i64 p]) /\ w.cell? (ad.add (i * 8)) = some (.int .i64 k) /\ w.cell? ⟨(ad.add (i * 8)).block, (ad.add (i * 8)).off + 1, none⟩ = some (.int .i64 o) /\ w.cell? ⟨(ad.add (i * 8)).block, (ad.add (i * 8)).off + 2, none⟩ = some (.int .i64 n) /\ w.cell? ⟨(ad.add (i * 8)).block, (ad.add (i * 8)).off + 3, none⟩ = some (.string s) /\ w.cell? ⟨(ad.add (i * 8)).block, (ad.add (i * 8)).off + 4, none⟩ = some (.slice A1 l1 c1) /\ w.cell? ⟨(ad.add (i * 8)).block, (ad.add (i * 8)).off + 5, none⟩ = some (.int .i64 a) /\ w.cell? ⟨(ad.add (i * 8)).block, (ad.add (i * 8)).off + 6, none⟩ = some (.int .i64 t) /\ w.cell? ⟨(ad.add (i * 8)).block, (ad.add (i * 8)).off + 7, none⟩ = some (.int .i64 p) := by
 obtain ⟨ad, c, e, _, hK, hc0⟩ := Kd.C_get h zEx (i : Int) (by omega) (by omega)
 have hc : ∀ j u, c[j]? = some u -> w.cell? (ad.add (i * 8 + j)) = some u := hc0
 have hK2 : kEx.K w (xs.getD i zEx) c := hK
 obtain ⟨k, o, n, s, A1, l1, c1, a, t, p, rfl⟩ := kEx_len hK2
 exact ⟨ad, k, o, n, s, A1, l1, c1, a, t, p, e, hK2, hc 0 _ rfl, by rw [<- add_field _ _ 1 (by omega)]; exact hc 1 _ rfl, by rw [<- add_field _ _ 2 (by omega)]; exact hc 2 _ rfl, by rw [<- add_field _ _ 3 (by omega)]; exact hc 3 _ rfl, by rw [<- add_field _ _ 4 (by omega)]; exact hc 4 _ rfl, by rw [<- add_field _ _ 5 (by omega)]; exact hc 5 _ rfl, by rw [<- add_field _ _ 6 (by omega)]; exact hc 6 _ rfl, by rw [<- add_field _ _ 7 (by omega)]; exact hc 7 _ rfl⟩
theorem at_St {w : World} {A : Option Addr} {n : Nat} {xs : List St} (h : kSt.C w A n xs) (i : Nat) (hi : i < n) : ∃ ad k s t A1 n1 c1 A2 n2 c2 A3 n3 c3 a p, A = some ad /\ Hid (kSt.K w (xs.getD i zSt) [.int .i64 k, .string s, .int .i64 t, .slice A1 n1 c1, .slice A2 n2 c2, .slice A3 n3 c3, .int .i64 a, .int .i64 p]) /\ w.cell? (ad.add (i * 8)) = some (.int .i64 k) /\ w.cell? ⟨(ad.add (i * 8)).block, (ad.add (i * 8)).off + 1, none⟩ = some (.string s) /\ w.cell? ⟨(ad.add (i * 8)).block, (ad.add (i * 8)).off + 2, none⟩ = some (.int .i64 t) /\ w.cell? ⟨(ad.add (i * 8)).block, (ad.add (i * 8)).off + 3, none⟩ = some (.slice A1 n1 c1) /\ w.cell? ⟨(ad.add (i * 8)).block, (ad.add (i * 8)).off + 4, none⟩ = some (.slice A2 n2 c2) /\ w.cell? ⟨(ad.add (i * 8)).block, (ad.add (i * 8)).off + 5, none⟩ = some (.slice A3 n3 c3) /\ w.cell? ⟨(ad.add (i * 8)).block, (ad.add (i * 8)).off + 6, none⟩ = some (.int .i64 a) /\ w.cell? ⟨(ad.add (i * 8)).block, (ad.add (i * 8)).off + 7, none⟩ = some (.int .i64 p) := by
 obtain ⟨ad, c, e, _, hK, hc0⟩ := Kd.C_get h zSt (i : Int) (by omega) (by omega)
 have hc : ∀ j u, c[j]? = some u -> w.cell? (ad.add (i * 8 + j)) = some u := hc0
 have hK2 : kSt.K w (xs.getD i zSt) c := hK
 obtain ⟨k, s, t, A1, n1, c1, A2, n2, c2, A3, n3, c3, a, p, rfl⟩ := kSt_len hK2
 exact ⟨ad, k, s, t, A1, n1, c1, A2, n2, c2, A3, n3, c3, a, p, e, hK2, hc 0 _ rfl, by rw [<- add_field _ _ 1 (by omega)]; exact hc 1 _ rfl, by rw [<- add_field _ _ 2 (by omega)]; exact hc 2 _ rfl, by rw [<- add_field _ _ 3 (by omega)]; exact hc 3 _ rfl, by rw [<- add_field _ _ 4 (by omega)]; exact hc 4 _ rfl, by rw [<- add_field _ _ 5 (by omega)]; exact hc 5 _ rfl, by rw [<- add_field _ _ 6 (by omega)]; exact hc 6 _ rfl, by rw [<- add_field _ _ 7 (by omega)]; exact hc 7 _ rfl⟩
theorem at_Vr {w : World} {A : Option Addr} {n : Nat} {xs : List Vr} (h : kVr.C w A n xs) (i : Nat) (hi : i < n) : ∃ ad s a b cc d, A = some ad /\ Hid (kVr.K w (xs.getD i zVr) [.string s, .int .i64 a, .int .i64 b, .int .i64 cc, .int .i64 d]) /\ w.cell? (ad.add (i * 5)) = some (.string s) /\ w.cell? ⟨(ad.add (i * 5)).block, (ad.add (i * 5)).off + 1, none⟩ = some (.int .i64 a) /\ w.cell? ⟨(ad.add (i * 5)).block, (ad.add (i * 5)).off + 2, none⟩ = some (.int .i64 b) /\ w.cell? ⟨(ad.add (i * 5)).block, (ad.add (i * 5)).off + 3, none⟩ = some (.int .i64 cc) /\ w.cell? ⟨(ad.add (i * 5)).block, (ad.add (i * 5)).off + 4, none⟩ = some (.int .i64 d) := by
 obtain ⟨ad, c, e, _, hK, hc0⟩ := Kd.C_get h zVr (i : Int) (by omega) (by omega)
 have hc : ∀ j u, c[j]? = some u -> w.cell? (ad.add (i * 5 + j)) = some u := hc0
 have hK2 : kVr.K w (xs.getD i zVr) c := hK
 obtain ⟨s, a, b, cc, d, rfl⟩ := kVr_len hK2
 exact ⟨ad, s, a, b, cc, d, e, hK2, hc 0 _ rfl, by rw [<- add_field _ _ 1 (by omega)]; exact hc 1 _ rfl, by rw [<- add_field _ _ 2 (by omega)]; exact hc 2 _ rfl, by rw [<- add_field _ _ 3 (by omega)]; exact hc 3 _ rfl, by rw [<- add_field _ _ 4 (by omega)]; exact hc 4 _ rfl⟩
theorem at_Pm {w : World} {A : Option Addr} {n : Nat} {xs : List Pm} (h : kPm.C w A n xs) (i : Nat) (hi : i < n) : ∃ ad s a, A = some ad /\ Hid (kPm.K w (xs.getD i zPm) [.string s, .int .i64 a]) /\ w.cell? (ad.add (i * 2)) = some (.string s) /\ w.cell? ⟨(ad.add (i * 2)).block, (ad.add (i * 2)).off + 1, none⟩ = some (.int .i64 a) := by
 obtain ⟨ad, c, e, _, hK, hc0⟩ := Kd.C_get h zPm (i : Int) (by omega) (by omega)
 have hc : ∀ j u, c[j]? = some u -> w.cell? (ad.add (i * 2 + j)) = some u := hc0
 have hK2 : kPm.K w (xs.getD i zPm) c := hK
 obtain ⟨s, a, rfl⟩ := kPm_len hK2
 exact ⟨ad, s, a, e, hK2, hc 0 _ rfl, by rw [<- add_field _ _ 1 (by omega)]; exact hc 1 _ rfl⟩
theorem at_Fc {w : World} {A : Option Addr} {n : Nat} {xs : List Fc} (h : kFc.C w A n xs) (i : Nat) (hi : i < n) : ∃ ad s A1 n1 c1 t A2 n2 c2 a A3 n3 c3, A = some ad /\ Hid (kFc.K w (xs.getD i zFc) [.string s, .slice A1 n1 c1, .int .i64 t, .slice A2 n2 c2, .int .i64 a, .slice A3 n3 c3]) /\ w.cell? (ad.add (i * 6)) = some (.string s) /\ w.cell? ⟨(ad.add (i * 6)).block, (ad.add (i * 6)).off + 1, none⟩ = some (.slice A1 n1 c1) /\ w.cell? ⟨(ad.add (i * 6)).block, (ad.add (i * 6)).off + 2, none⟩ = some (.int .i64 t) /\ w.cell? ⟨(ad.add (i * 6)).block, (ad.add (i * 6)).off + 3, none⟩ = some (.slice A2 n2 c2) /\ w.cell? ⟨(ad.add (i * 6)).block, (ad.add (i * 6)).off + 4, none⟩ = some (.int .i64 a) /\ w.cell? ⟨(ad.add (i * 6)).block, (ad.add (i * 6)).off + 5, none⟩ = some (.slice A3 n3 c3) := by
 obtain ⟨ad, c, e, _, hK, hc0⟩ := Kd.C_get h zFc (i : Int) (by omega) (by omega)
 have hc : ∀ j u, c[j]? = some u -> w.cell? (ad.add (i * 6 + j)) = some u := hc0
 have hK2 : kFc.K w (xs.getD i zFc) c := hK
 obtain ⟨s, A1, n1, c1, t, A2, n2, c2, a, A3, n3, c3, rfl⟩ := kFc_len hK2
 exact ⟨ad, s, A1, n1, c1, t, A2, n2, c2, a, A3, n3, c3, e, hK2, hc 0 _ rfl, by rw [<- add_field _ _ 1 (by omega)]; exact hc 1 _ rfl, by rw [<- add_field _ _ 2 (by omega)]; exact hc 2 _ rfl, by rw [<- add_field _ _ 3 (by omega)]; exact hc 3 _ rfl, by rw [<- add_field _ _ 4 (by omega)]; exact hc 4 _ rfl, by rw [<- add_field _ _ 5 (by omega)]; exact hc 5 _ rfl⟩
theorem idxExpr_any (K : Nat) (pd : Ex -> Bool) (A : Option Addr) (c : Nat) (l : List Ex) (w : World) (he : Enters K)
  (hp : ∀ x cs w', x ∈ l -> Below w.heap.size w w' -> kEx.K w' x cs -> PCalls K #[] (.agg cs.toArray) w' (pd x)) (hr : kEx.C w A l.length l) (hl : l.length <= 9223372036854775806) :
  Calls Tryz.prog 198 #[.slice A l.length c, .func (.func K) #[] #[]] w fun e w' => ∃ r : Int, e = .returned (.int .i64 r) /\ (r = -1 /\ l.any pd = false \/ 0 <= r /\ l.any pd = true) /\ Below w.heap.size w w' := by
 have HP := Lib.hid hp; clear hp
 have HR := Lib.hid hr; clear hr
 unfold Enters at he
 go_enter Tryz.func198, Tryz.ntmps198
 go_wp2
 go_loopw [8] (fun i w' => ∃ k : Nat, k <= l.length /\ i = .int .i64 k /\ Hid (∀ j, j < k -> pd (l.getD j zEx) = false) /\ Hid (Below w.heap.size w w')) (fun i _ => l.length - (intOf i).toNat)
 case atStart => exact ⟨0, by omega, rfl, fun j hj => by omega, Below.refl _ _⟩
 case round =>
  obtain ⟨i, hk, rfl, HJ, HB⟩ := hrel
  by_cases hlt : i < l.length
  ·obtain ⟨ad, k, o, n, s, A1, l1, c1, a, t, p, rfl, HK, h0, h1, h2, h3, h4, h5, h6, h7⟩ := at_Ex (Kd.C_below HR.out HB.out) i hlt
   obtain ⟨x, hx⟩ : ∃ x, x = l.getD i zEx := ⟨_, rfl⟩
   rw [<- hx] at HK
   have HX := Lib.hid hx
   clear hx
   go_wp2_with fail
   refine (HP.out x _ _ (getD_mem l zEx i hlt x HX.out) HB.out HK.out).mono ?_
   rintro e w1 ⟨rfl, hb⟩
   have HB1 := Lib.hid hb; clear hb
   by_cases hpk : pd x = true
   ·have HY := Lib.hid (any_some pd zEx l i hlt (HX.out ▸ hpk))
    rw [hpk]
    clear hpk
    go_wp2_with fail
    go_ret
    exact ⟨i, rfl, .inr ⟨by omega, HY.out⟩, below_next HB.out HB1.out⟩
   ·have hpk' := Bool.eq_false_iff.2 hpk
    have HY := Lib.hid (any_snoc pd zEx l i HJ.out (HX.out ▸ hpk'))
    rw [hpk']
    clear hpk hpk'
    go_wp2_with fail
    go_roundw
    case rel => exact ⟨i + 1, by omega, by go_num, HY.out, below_next HB.out HB1.out⟩
    case measure => simp [intOf]; omega
  ·obtain rfl : i = l.length := by omega
   have HY := Lib.hid (any_none pd zEx l HJ.out)
   go_wp2
   go_ret
   exact ⟨-1, rfl, .inl ⟨rfl, HY.out⟩, HB.out⟩
theorem conExpr_any (K : Nat) (pd : Ex -> Bool) (A : Option Addr) (c : Nat) (l : List Ex) (w : World) (he : Enters K)
  (hp : ∀ x cs w', x ∈ l -> Below w.heap.size w w' -> kEx.K w' x cs -> PCalls K #[] (.agg cs.toArray) w' (pd x)) (hr : kEx.C w A l.length l) (hl : l.length <= 9223372036854775806) :
  Calls Tryz.prog 159 #[.slice A l.length c, .func (.func K) #[] #[]] w fun e w' => e = .returned (.bool (l.any pd)) /\ Below w.heap.size w w' := by
 have HC := Lib.hid (idxExpr_any K pd A c l w he hp hr hl); clear hp hr he
 go_enter Tryz.func159, Tryz.ntmps159
 go_wp2_with fail
 refine HC.out.mono ?_
 rintro e w1 ⟨r, rfl, hr, hb⟩
 have HB := Lib.hid hb; clear hb HC
 have HR := Lib.hid hr; clear hr
 by_cases h0 : 0 <= r
 ·have HY : Hid (l.any pd = true) := by have := HR.out; rcases this with h | h; omega; exact h.2
  go_wp2_with fail
  go_ret
  exact ⟨by rw [HY.out]; first | rfl | (simp; omega), HB.out⟩
 ·have HY : Hid (l.any pd = false) := by have := HR.out; rcases this with h | h; exact h.2; omega
  go_wp2_with fail
  go_ret
  exact ⟨by rw [HY.out]; first | rfl | (simp; omega), HB.out⟩
theorem idxStmt_any (K : Nat) (pd : St -> Bool) (A : Option Addr) (c : Nat) (l : List St) (w : World) (he : Enters K)
  (hp : ∀ x cs w', x ∈ l -> Below w.heap.size w w' -> kSt.K w' x cs -> PCalls K #[] (.agg cs.toArray) w' (pd x)) (hr : kSt.C w A l.length l) (hl : l.length <= 9223372036854775806) :
  Calls Tryz.prog 158 #[.slice A l.length c, .func (.func K) #[] #[]] w fun e w' => ∃ r : Int, e = .returned (.int .i64 r) /\ (r = -1 /\ l.any pd = false \/ 0 <= r /\ l.any pd = true) /\ Below w.heap.size w w' := by
 have HP := Lib.hid hp; clear hp
 have HR := Lib.hid hr; clear hr
 unfold Enters at he
 go_enter Tryz.func158, Tryz.ntmps158
 go_wp2
 go_loopw [8] (fun i w' => ∃ k : Nat, k <= l.length /\ i = .int .i64 k /\ Hid (∀ j, j < k -> pd (l.getD j zSt) = false) /\ Hid (Below w.heap.size w w')) (fun i _ => l.length - (intOf i).toNat)
 case atStart => exact ⟨0, by omega, rfl, fun j hj => by omega, Below.refl _ _⟩
 case round =>
  obtain ⟨i, hk, rfl, HJ, HB⟩ := hrel
  by_cases hlt : i < l.length
  ·obtain ⟨ad, k, s, t, A1, n1, c1, A2, n2, c2, A3, n3, c3, a, p, rfl, HK, h0, h1, h2, h3, h4, h5, h6, h7⟩ := at_St (Kd.C_below HR.out HB.out) i hlt
   obtain ⟨x, hx⟩ : ∃ x, x = l.getD i zSt := ⟨_, rfl⟩
   rw [<- hx] at HK
   have HX := Lib.hid hx
   clear hx
   go_wp2_with fail
   refine (HP.out x _ _ (getD_mem l zSt i hlt x HX.out) HB.out HK.out).mono ?_
   rintro e w1 ⟨rfl, hb⟩
   have HB1 := Lib.hid hb; clear hb
   by_cases hpk : pd x = true
   ·have HY := Lib.hid (any_some pd zSt l i hlt (HX.out ▸ hpk))
    rw [hpk]
    clear hpk
    go_wp2_with fail
    go_ret
    exact ⟨i, rfl, .inr ⟨by omega, HY.out⟩, below_next HB.out HB1.out⟩
   ·have hpk' := Bool.eq_false_iff.2 hpk
    have HY := Lib.hid (any_snoc pd zSt l i HJ.out (HX.out ▸ hpk'))
    rw [hpk']
    clear hpk hpk'
    go_wp2_with fail
    go_roundw
    case rel => exact ⟨i + 1, by omega, by go_num, HY.out, below_next HB.out HB1.out⟩
    case measure => simp [intOf]; omega
  ·obtain rfl : i = l.length := by omega
   have HY := Lib.hid (any_none pd zSt l HJ.out)
   go_wp2
   go_ret
   exact ⟨-1, rfl, .inl ⟨rfl, HY.out⟩, HB.out⟩
theorem conStmt_any (K : Nat) (pd : St -> Bool) (A : Option Addr) (c : Nat) (l : List St) (w : World) (he : Enters K)
  (hp : ∀ x cs w', x ∈ l -> Below w.heap.size w w' -> kSt.K w' x cs -> PCalls K #[] (.agg cs.toArray) w' (pd x)) (hr : kSt.C w A l.length l) (hl : l.length <= 9223372036854775806) :
  Calls Tryz.prog 121 #[.slice A l.length c, .func (.func K) #[] #[]] w fun e w' => e = .returned (.bool (l.any pd)) /\ Below w.heap.size w w' := by
 have HC := Lib.hid (idxStmt_any K pd A c l w he hp hr hl); clear hp hr he
 go_enter Tryz.func121, Tryz.ntmps121
 go_wp2_with fail
 refine HC.out.mono ?_
 rintro e w1 ⟨r, rfl, hr, hb⟩
 have HB := Lib.hid hb; clear hb HC
 have HR := Lib.hid hr; clear hr
 by_cases h0 : 0 <= r
 ·have HY : Hid (l.any pd = true) := by have := HR.out; rcases this with h | h; omega; exact h.2
  go_wp2_with fail
  go_ret
  exact ⟨by rw [HY.out]; first | rfl | (simp; omega), HB.out⟩
 ·have HY : Hid (l.any pd = false) := by have := HR.out; rcases this with h | h; exact h.2; omega
  go_wp2_with fail
  go_ret
  exact ⟨by rw [HY.out]; first | rfl | (simp; omega), HB.out⟩
theorem idxVar_any (K : Nat) (pd : Vr -> Bool) (A : Option Addr) (c : Nat) (l : List Vr) (w : World) (he : Enters K)
  (hp : ∀ x cs w', x ∈ l -> Below w.heap.size w w' -> kVr.K w' x cs -> PCalls K #[] (.agg cs.toArray) w' (pd x)) (hr : kVr.C w A l.length l) (hl : l.length <= 9223372036854775806) :
  Calls Tryz.prog 76 #[.slice A l.length c, .func (.func K) #[] #[]] w fun e w' => ∃ r : Int, e = .returned (.int .i64 r) /\ (r = -1 /\ l.any pd = false \/ 0 <= r /\ l.any pd = true) /\ Below w.heap.size w w' := by
 have HP := Lib.hid hp; clear hp
 have HR := Lib.hid hr; clear hr
 unfold Enters at he
 go_enter Tryz.func76, Tryz.ntmps76
 go_wp2
 go_loopw [8] (fun i w' => ∃ k : Nat, k <= l.length /\ i = .int .i64 k /\ Hid (∀ j, j < k -> pd (l.getD j zVr) = false) /\ Hid (Below w.heap.size w w')) (fun i _ => l.length - (intOf i).toNat)
 case atStart => exact ⟨0, by omega, rfl, fun j hj => by omega, Below.refl _ _⟩
 case round =>
  obtain ⟨i, hk, rfl, HJ, HB⟩ := hrel
  by_cases hlt : i < l.length
  ·obtain ⟨ad, s, a, b, cc, d, rfl, HK, h0, h1, h2, h3, h4⟩ := at_Vr (Kd.C_below HR.out HB.out) i hlt
   obtain ⟨x, hx⟩ : ∃ x, x = l.getD i zVr := ⟨_, rfl⟩
   rw [<- hx] at HK
   have HX := Lib.hid hx
   clear hx
   go_wp2_with fail
   refine (HP.out x _ _ (getD_mem l zVr i hlt x HX.out) HB.out HK.out).mono ?_
   rintro e w1 ⟨rfl, hb⟩
   have HB1 := Lib.hid hb; clear hb
   by_cases hpk : pd x = true
   ·have HY := Lib.hid (any_some pd zVr l i hlt (HX.out ▸ hpk))
    rw [hpk]
    clear hpk
    go_wp2_with fail
    go_ret
    exact ⟨i, rfl, .inr ⟨by omega, HY.out⟩, below_next HB.out HB1.out⟩
   ·have hpk' := Bool.eq_false_iff.2 hpk
    have HY := Lib.hid (any_snoc pd zVr l i HJ.out (HX.out ▸ hpk'))
    rw [hpk']
    clear hpk hpk'
    go_wp2_with fail
    go_roundw
    case rel => exact ⟨i + 1, by omega, by go_num, HY.out, below_next HB.out HB1.out⟩
    case measure => simp [intOf]; omega
  ·obtain rfl : i = l.length := by omega
   have HY := Lib.hid (any_none pd zVr l HJ.out)
   go_wp2
   go_ret
   exact ⟨-1, rfl, .inl ⟨rfl, HY.out⟩, HB.out⟩
theorem conVar_any (K : Nat) (pd : Vr -> Bool) (A : Option Addr) (c : Nat) (l : List Vr) (w : World) (he : Enters K)
  (hp : ∀ x cs w', x ∈ l -> Below w.heap.size w w' -> kVr.K w' x cs -> PCalls K #[] (.agg cs.toArray) w' (pd x)) (hr : kVr.C w A l.length l) (hl : l.length <= 9223372036854775806) :
  Calls Tryz.prog 34 #[.slice A l.length c, .func (.func K) #[] #[]] w fun e w' => e = .returned (.bool (l.any pd)) /\ Below w.heap.size w w' := by
 have HC := Lib.hid (idxVar_any K pd A c l w he hp hr hl); clear hp hr he
 go_enter Tryz.func34, Tryz.ntmps34
 go_wp2_with fail
 refine HC.out.mono ?_
 rintro e w1 ⟨r, rfl, hr, hb⟩
 have HB := Lib.hid hb; clear hb HC
 have HR := Lib.hid hr; clear hr
 by_cases h0 : 0 <= r
 ·have HY : Hid (l.any pd = true) := by have := HR.out; rcases this with h | h; omega; exact h.2
  go_wp2_with fail
  go_ret
  exact ⟨by rw [HY.out]; first | rfl | (simp; omega), HB.out⟩
 ·have HY : Hid (l.any pd = false) := by have := HR.out; rcases this with h | h; exact h.2; omega
  go_wp2_with fail
  go_ret
  exact ⟨by rw [HY.out]; first | rfl | (simp; omega), HB.out⟩
theorem idxFunc_any (K : Nat) (pd : Fc -> Bool) (A : Option Addr) (c : Nat) (l : List Fc) (w : World) (he : Enters K)
  (hp : ∀ x cs w', x ∈ l -> Below w.heap.size w w' -> kFc.K w' x cs -> PCalls K #[] (.agg cs.toArray) w' (pd x)) (hr : kFc.C w A l.length l) (hl : l.length <= 9223372036854775806) :
  Calls Tryz.prog 79 #[.slice A l.length c, .func (.func K) #[] #[]] w fun e w' => ∃ r : Int, e = .returned (.int .i64 r) /\ (r = -1 /\ l.any pd = false \/ 0 <= r /\ l.any pd = true) /\ Below w.heap.size w w' := by
 have HP := Lib.hid hp; clear hp
 have HR := Lib.hid hr; clear hr
 unfold Enters at he
 go_enter Tryz.func79, Tryz.ntmps79
 go_wp2
 go_loopw [8] (fun i w' => ∃ k : Nat, k <= l.length /\ i = .int .i64 k /\ Hid (∀ j, j < k -> pd (l.getD j zFc) = false) /\ Hid (Below w.heap.size w w')) (fun i _ => l.length - (intOf i).toNat)
 case atStart => exact ⟨0, by omega, rfl, fun j hj => by omega, Below.refl _ _⟩
 case round =>
  obtain ⟨i, hk, rfl, HJ, HB⟩ := hrel
  by_cases hlt : i < l.length
  ·obtain ⟨ad, s, A1, n1, c1, t, A2, n2, c2, a, A3, n3, c3, rfl, HK, h0, h1, h2, h3, h4, h5⟩ := at_Fc (Kd.C_below HR.out HB.out) i hlt
   obtain ⟨x, hx⟩ : ∃ x, x = l.getD i zFc := ⟨_, rfl⟩
   rw [<- hx] at HK
   have HX := Lib.hid hx
   clear hx
   go_wp2_with fail
   refine (HP.out x _ _ (getD_mem l zFc i hlt x HX.out) HB.out HK.out).mono ?_
   rintro e w1 ⟨rfl, hb⟩
   have HB1 := Lib.hid hb; clear hb
   by_cases hpk : pd x = true
   ·have HY := Lib.hid (any_some pd zFc l i hlt (HX.out ▸ hpk))
    rw [hpk]
    clear hpk
    go_wp2_with fail
    go_ret
    exact ⟨i, rfl, .inr ⟨by omega, HY.out⟩, below_next HB.out HB1.out⟩
   ·have hpk' := Bool.eq_false_iff.2 hpk
    have HY := Lib.hid (any_snoc pd zFc l i HJ.out (HX.out ▸ hpk'))
    rw [hpk']
    clear hpk hpk'
    go_wp2_with fail
    go_roundw
    case rel => exact ⟨i + 1, by omega, by go_num, HY.out, below_next HB.out HB1.out⟩
    case measure => simp [intOf]; omega
  ·obtain rfl : i = l.length := by omega
   have HY := Lib.hid (any_none pd zFc l HJ.out)
   go_wp2
   go_ret
   exact ⟨-1, rfl, .inl ⟨rfl, HY.out⟩, HB.out⟩
theorem conFunc_any (K : Nat) (pd : Fc -> Bool) (A : Option Addr) (c : Nat) (l : List Fc) (w : World) (he : Enters K)
  (hp : ∀ x cs w', x ∈ l -> Below w.heap.size w w' -> kFc.K w' x cs -> PCalls K #[] (.agg cs.toArray) w' (pd x)) (hr : kFc.C w A l.length l) (hl : l.length <= 9223372036854775806) :
  Calls Tryz.prog 37 #[.slice A l.length c, .func (.func K) #[] #[]] w fun e w' => e = .returned (.bool (l.any pd)) /\ Below w.heap.size w w' := by
 have HC := Lib.hid (idxFunc_any K pd A c l w he hp hr hl); clear hp hr he
 go_enter Tryz.func37, Tryz.ntmps37
 go_wp2_with fail
 refine HC.out.mono ?_
 rintro e w1 ⟨r, rfl, hr, hb⟩
 have HB := Lib.hid hb; clear hb HC
 have HR := Lib.hid hr; clear hr
 by_cases h0 : 0 <= r
 ·have HY : Hid (l.any pd = true) := by have := HR.out; rcases this with h | h; omega; exact h.2
  go_wp2_with fail
  go_ret
  exact ⟨by rw [HY.out]; first | rfl | (simp; omega), HB.out⟩
 ·have HY : Hid (l.any pd = false) := by have := HR.out; rcases this with h | h; exact h.2; omega
  go_wp2_with fail
  go_ret
  exact ⟨by rw [HY.out]; first | rfl | (simp; omega), HB.out⟩
end Go.Proofs.YtpfdhihbecpbeaaGreatDoor.E
