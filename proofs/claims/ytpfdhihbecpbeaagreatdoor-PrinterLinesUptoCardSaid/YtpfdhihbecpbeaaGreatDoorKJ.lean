import Derived.Test.YtpfdhihbecpbeaaGreatDoorKI
import Derived.Test.YtpfdhihbecpbeaaGreatDoorKF
/- Contracts of the program's functions, and lemmas: no statement of its own. -/
namespace Go.Proofs.YtpfdhihbecpbeaaGreatDoor.E
open Go Go.RowKit Go.Proofs.YtpfdhihbecpbeaaGreatDoorW.PrintWords Go.Proofs.YtpfdhihbecpbeaaGreatDoorW.PrintLast Go.Proofs.YtpfdhihbecpbeaaGreatDoorW.PrintMore
set_option linter.unusedVariables false
set_option linter.unusedSimpArgs false
set_option maxRecDepth 100000
set_option maxHeartbeats 4000000
/-! ### PrinterLines -/
theorem lin_at : ∀ (t : List UInt8) (c : UInt8), linB c t = true → ∀ k (hk : k < t.length), (t[k].toNat ≤ 126 ∧ t[k] ≠ 13) ∧ (t[k] = 10 → ((if h : 0 < k then t[k - 1]'(by omega) else c) = 59 ∨ (if h : 0 < k then t[k - 1]'(by omega) else c) = 123 ∨ (if h : 0 < k then t[k - 1]'(by omega) else c) = 125))
 | [], _, _, k, hk => absurd hk (by simp)
 | d :: l, c, h, k, hk => by
  have h1 : (decide (d.toNat ≤ 126) && d != 13 && (d != 10 || (c == 59 || c == 123 || c == 125)) && linB d l) = true := h
  simp only [Bool.and_eq_true, decide_eq_true_eq, bne_iff_ne, ne_eq, Bool.or_eq_true, beq_iff_eq] at h1
  obtain ⟨⟨⟨h2, h3⟩, h4⟩, h5⟩ := h1
  cases k with
  | zero =>
   refine ⟨⟨h2, h3⟩, fun h10 => ?_⟩
   have h6 : d = 10 := h10
   rcases h4 with h4 | h4
   ·exact absurd h6 h4
   ·simp only [Nat.lt_irrefl, dif_neg, not_false_eq_true]
    rcases h4 with (h4 | h4) | h4
    ·exact .inl h4
    ·exact .inr (.inl h4)
    ·exact .inr (.inr h4)
  | succ k =>
   have hk2 : k < l.length := by simpa using hk
   have ih := lin_at l d h5 k hk2
   refine ⟨ih.1, fun h10 => ?_⟩
   have h7 := ih.2 h10
   rw [dif_pos (Nat.succ_pos k)]
   cases k with
   | zero => simpa using h7
   | succ k =>
    rw [dif_pos (Nat.succ_pos k)] at h7
    exact h7
/-- what the loop asks of a text -/
structure LineOK (s : ByteArray) : Prop where
 le : ∀ k (hk : k < s.size), (s[k]'hk).toNat ≤ 126 ∧ (s[k]'hk) ≠ 13
 nl : ∀ k (hk : k < s.size), (s[k]'hk) = 10 → 0 < k ∧ ((s[k - 1]'(by omega)) = 59 ∨ (s[k - 1]'(by omega)) = 123 ∨ (s[k - 1]'(by omega)) = 125)
 en : 0 < s.size → s[s.size - 1]! = 10
theorem lineOK_of {t : List UInt8} (h : Wl t) : LineOK ⟨t.toArray⟩ := by
 have hsz : (⟨t.toArray⟩ : ByteArray).size = t.length := List.size_toArray
 have hg : ∀ k (hk : k < (⟨t.toArray⟩ : ByteArray).size), (⟨t.toArray⟩ : ByteArray)[k]'hk = t[k]'(by rw [← hsz]; exact hk) := fun k hk => rfl
 refine ⟨fun k hk => ?_, fun k hk h10 => ?_, fun h0 => ?_⟩
 ·exact (lin_at t 0 h.1 k (by rw [← hsz]; exact hk)).1
 ·have h5 := (lin_at t 0 h.1 k (by rw [← hsz]; exact hk)).2 h10
  by_cases hk0 : 0 < k
  ·rw [dif_pos hk0] at h5
   exact ⟨hk0, h5⟩
  ·rw [dif_neg hk0] at h5
   exact absurd h5 (by decide)
 ·rcases h.2 with rfl | hl
  ·exact absurd h0 (by decide)
  ·have hne : t ≠ [] := fun e => by rw [e] at hl; cases hl
   rw [List.getLast?_eq_some_getLast hne] at hl
   injection hl with hl
   have hlt : t.length - 1 < t.length := by have := List.length_pos_iff.2 hne; omega
   rw [List.getLast_eq_getElem] at hl
   rw [getElem!_pos _ _ (by rw [hsz]; exact hlt)]
   show t[(⟨t.toArray⟩ : ByteArray).size - 1]'_ = 10
   simp only [hsz]
   exact hl
theorem b2i (c : UInt8) (n : Nat) (hn : n < 256) (h : ¬ c = UInt8.ofNat n) : (((c.toNat : Nat) : Int) == (n : Int)) = false := by
 rw [beq_eq_false_iff_ne]
 intro e
 exact h (by rw [← show c.toNat = n by omega, UInt8.ofNat_toNat])
theorem lines_any (m : Md) (hsm : SmM m) (hln : lnM m) (A A1 : Option Addr) (c c1 : Nat) (w : World) (hV : kVr.C w A m.vars.length m.vars) (hF : kFc.C w A1 m.funcs.length m.funcs) (hg : GW w) :
  Calls Tryz.prog 6 #[.agg #[.slice A m.vars.length c, .slice A1 m.funcs.length c1]] w fun e w' => e = .returned (.bool true) ∧ Below w.heap.size w w' := by
 obtain ⟨W, hW⟩ : ∃ W, W = w.alloc (.cells #[.slice A m.vars.length c, .slice A1 m.funcs.length c1] 25) := ⟨_, rfl⟩
 obtain ⟨bk, hb⟩ : ∃ b, b = w.heap.size := ⟨_, rfl⟩
 have hm : W.heap[bk]? = some (.cells #[.slice A m.vars.length c, .slice A1 m.funcs.length c1] 25 (0, 0)) := by rw [hW, hb]; exact heap_alloc_new _ _
 have hbw : Below w.heap.size w W := by rw [hW]; exact below_alloc (Below.refl _ _) _
 have HV := Lib.hid (Kd.C_below hV hbw)
 have HF := Lib.hid (Kd.C_below hF hbw)
 have HG := Lib.hid (hg.below hbw)
 have HBW := Lib.hid hbw
 have HM := Lib.hid hm
 have HW := Lib.hid hW
 have HBK := Lib.hid hb
 have HSM := Lib.hid hsm
 have HLN := Lib.hid hln
 clear hV hF hg hbw hm hW hb hsm hln
 go_enter Tryz.func6, Tryz.ntmps6
 go_upto_region 1 with fail
 rw [← HW.out, ← HBK.out]
 go_wp2_with fail
 refine (awake_any W HG.out).mono ?_
 rintro e w1 ⟨rfl, hb1⟩
 have HB1 := Lib.hid (below_next HBW.out hb1)
 have HD1 := Lib.hid hb1
 have HG1 := Lib.hid (HG.out.below hb1)
 have hm1 := (hb1.block bk (blk_lt HM.out)).trans HM.out
 have HM1 := Lib.hid hm1
 have z0 : w1.cell? ⟨bk, 0, none⟩ = some (.slice A m.vars.length c) := (blk_cell hm1 0).trans rfl
 have z1 : w1.cell? ⟨bk, 1, none⟩ = some (.slice A1 m.funcs.length c1) := (blk_cell hm1 1).trans rfl
 have lz := blk_lt hm1
 clear hb1 hm1
 go_wp2_with fail
 clear z0 z1 lz
 refine (Flat_any m HLN.out A A1 _ c c1 w1 (Kd.C_below HF.out HD1.out)).mono ?_
 rintro e w2 ⟨r, rfl, hb2⟩
 have HB2 := Lib.hid (below_next HB1.out hb2)
 have HD2 := Lib.hid (below_next HD1.out hb2)
 have HG2 := Lib.hid (HG1.out.below hb2)
 have hm2 := (hb2.block bk (blk_lt HM1.out)).trans HM1.out
 have z0 : w2.cell? ⟨bk, 0, none⟩ = some (.slice A m.vars.length c) := (blk_cell hm2 0).trans rfl
 have z1 : w2.cell? ⟨bk, 1, none⟩ = some (.slice A1 m.funcs.length c1) := (blk_cell hm2 1).trans rfl
 have lz := blk_lt hm2
 clear hb2 hm2
 cases r with
 | false =>
  go_wp2_with fail
  go_ret
  exact ⟨rfl, HB2.out⟩
 | true =>
  go_wp2_with fail
  clear z0 z1 lz
  refine (print_any m HSM.out A A1 c c1 w2 (Kd.C_below HV.out HD2.out) (Kd.C_below HF.out HD2.out) HG2.out).mono ?_
  rintro e w3 ⟨hb3, rfl⟩
  have HB3 := Lib.hid (below_next HB2.out hb3)
  clear hb3
  obtain ⟨rc, hrc⟩ : ∃ x, x = (printS AGAIN m).2 := ⟨_, rfl⟩
  obtain ⟨s, hs⟩ : ∃ s : ByteArray, s = ⟨(printS AGAIN m).1.toArray⟩ := ⟨_, rfl⟩
  have HPS : Hid ((rc ≠ 0 ∧ s = ⟨#[]⟩) ∨ (rc = 0 ∧ LineOK s ∧ s.size ≤ 16384)) := by
   show (rc ≠ 0 ∧ s = ⟨#[]⟩) ∨ (rc = 0 ∧ LineOK s ∧ s.size ≤ 16384)
   rw [hrc, hs]
   unfold printS
   by_cases hk : modOK m = true
   ·rw [hk]
    simp only [Bool.not_true, Bool.false_eq_true, if_false]
    by_cases hw : wideB (modT m) = true
    ·rw [if_pos hw]; exact .inl ⟨by decide, rfl⟩
    ·rw [if_neg hw]
     by_cases ha : AGAIN (modT m) ≠ 0
     ·rw [if_pos ha]; exact .inl ⟨by decide, rfl⟩
     ·rw [if_neg ha]
      refine .inr ⟨rfl, lineOK_of (mod_lines hk), ?_⟩
      show (modT m).toArray.size ≤ 16384
      rw [List.size_toArray]
      unfold wideB at hw
      simpa using hw
   ·rw [Bool.eq_false_iff.2 hk]
    simp only [Bool.not_false, if_true]
    exact .inl ⟨by decide, trivial⟩
  rw [← hrc, ← hs]
  clear hrc hs
  rcases HPS.out with ⟨h0, rfl⟩ | ⟨rfl, hline, hsz⟩
  ·have y : (rc != 0) = true := by simpa using h0
   clear h0 HPS
   go_wp2_with fail
   go_ret
   exact ⟨rfl, HB3.out⟩
  ·have HLI := Lib.hid hline
   clear HPS hline
   go_wp2_with fail
   go_loopw [7] (fun i wr => ∃ k : Nat, k ≤ s.size ∧ i = .int .i64 k ∧ w3 = wr) (fun i _ => s.size - (intOf i).toNat)
   case atStart => exact ⟨0, by omega, rfl, rfl⟩
   case round =>
    obtain ⟨k, hk, rfl, rfl⟩ := hrel
    by_cases hlt : k < s.size
    ·have HLE := Lib.hid (HLI.out.le k hlt)
     have h126 : (((s[k]'hlt).toNat : Nat) : Int) ≤ 126 := by have := HLE.out.1; omega
     have m13 : ((((s[k]'hlt).toNat : Nat) : Int) == 13) = false := b2i _ 13 (by decide) HLE.out.2
     by_cases x10 : s[k]'hlt = 10
     ·have HNL := Lib.hid (HLI.out.nl k hlt x10)
      obtain ⟨j, hj⟩ : ∃ j, j = k - 1 := ⟨_, rfl⟩
      have hkp : 0 < k := HNL.out.1
      have hk1 : (k : Int) - 1 = (j : Int) := by omega
      have hk0 : ((k : Int) == 0) = false := by rw [beq_eq_false_iff_ne]; omega
      have hjs : j < s.size := by omega
      have hns : (s[j]'hjs) = 59 ∨ (s[j]'hjs) = 123 ∨ (s[j]'hjs) = 125 := by
       have h5 := HNL.out.2
       simp only [← hj] at h5
       exact h5
      clear hj m13 h126
      rcases hns with h | h | h
      ·go_wp2_with fail
       go_roundw
       case rel => exact ⟨k + 1, by omega, by go_num, trivial⟩
       case measure => simp [intOf]; omega
      ·go_wp2_with fail
       go_roundw
       case rel => exact ⟨k + 1, by omega, by go_num, trivial⟩
       case measure => simp [intOf]; omega
      ·go_wp2_with fail
       go_roundw
       case rel => exact ⟨k + 1, by omega, by go_num, trivial⟩
       case measure => simp [intOf]; omega
     ·have m10 : ((((s[k]'hlt).toNat : Nat) : Int) == 10) = false := b2i _ 10 (by decide) x10
      clear x10
      go_wp2_with fail
      go_roundw
      case rel => exact ⟨k + 1, by omega, by go_num, trivial⟩
      case measure => simp [intOf]; omega
    ·have hke : k = s.size := by omega
     by_cases hz : s.size = 0
     ·obtain rfl := size0_eq hz
      clear hz hke
      go_wp2_with fail
      go_ret
      exact ⟨rfl, HB3.out⟩
     ·obtain ⟨n, hn⟩ : ∃ n, n = s.size - 1 := ⟨_, rfl⟩
      have hn1 : (s.size : Int) - 1 = (n : Int) := by omega
      have hns : n < s.size := by omega
      have he : s[n]'hns = 10 := by
       have h5 := HLI.out.en (by omega)
       rw [← hn, getElem!_pos s n hns] at h5
       exact h5
      have hne := size_pos_ne s (by omega)
      have hne1 := hne.1
      have hne2 := hne.2
      clear hz hn hke hne
      go_wp2_with fail
      go_ret
      exact ⟨rfl, HB3.out⟩
end Go.Proofs.YtpfdhihbecpbeaaGreatDoor.E
