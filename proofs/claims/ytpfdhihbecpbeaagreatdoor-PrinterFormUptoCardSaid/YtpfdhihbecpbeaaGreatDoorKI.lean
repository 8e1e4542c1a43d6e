import Derived.Test.YtpfdhihbecpbeaaGreatDoorKH
import Derived.Maps.Own
import Derived.Test.YtpfdhihbecpbeaaGreatDoorKF
import Derived.Test.YtpfdhihbecpbeaaGreatDoorKA
import Derived.Lib.ItoaLen
import Derived.DataReads
import Derived.Test.YtpfdhihbecpbeaaGreatDoorRows
import Derived.Deep.Slices
import Derived.ChangeArms
import Derived.ChangeSame
/- Contracts of the program's functions, and lemmas: no statement of its own. -/
namespace Go.Proofs.YtpfdhihbecpbeaaGreatDoor.E
open Go Go.RowKit Go.Proofs.YtpfdhihbecpbeaaGreatDoorW.PrintWords Go.Proofs.YtpfdhihbecpbeaaGreatDoorW.PrintLast Go.Proofs.YtpfdhihbecpbeaaGreatDoorW.PrintMore
set_option linter.unusedVariables false
set_option linter.unusedSimpArgs false
set_option maxRecDepth 100000
set_option maxHeartbeats 4000000
theorem j0t {w : World} {x : St} {k : Int} {s : ByteArray} {t : Int} {A A1 A2 : Option Addr} {n c n1 c1 n2 c2 : Nat} {a p : Int} (h : kSt.K w x [.int .i64 k, .string s, .int .i64 t, .slice A n c, .slice A1 n1 c1, .slice A2 n2 c2, .int .i64 a, .int .i64 p]) : k = x.kind := by
 obtain ⟨k', s', t', l', b', e', a', p'⟩ := x
 obtain ⟨_, _, _, _, _, _, h5, _⟩ := q3y h
 cases h5
 rfl
theorem x6o (l : List St) (h : 0 < l.length) : (l.map q1f).headD (fun _ p => p) = q1f (l.getD 0 zSt) /\ l.headD (.mk 0 ⟨#[]⟩ 0 [] [] [] 0 0) = l.getD 0 zSt := by cases l with | nil => simp at h | cons e l => exact ⟨rfl, rfl⟩
theorem j6m (s : ByteArray) (ty : Int) (l : List Ex) (bd el : List St) (a pl : Int) (hl1 : l.length = 1) (hty0 : 1 <= ty /\ ty <= 4) (ih : ∀ x ∈ l, q9d x) (ihb : ∀ x ∈ bd, z0w x) (ihe : ∀ x ∈ el, z0w x) : z0w (.mk 1 s ty l bd el a pl) := by
 intro w0 cs B b lv p w hK hg h0 hb hp hl
 obtain ⟨A, c, A1, c1, A2, c2, rfl, hC, hC1, hC2⟩ := q3y hK
 obtain ⟨r, hr⟩ : ∃ r, r = q1f (.mk 1 s ty l bd el a pl) lv p := ⟨_, rfl⟩
 rw [<- hr] at hl ⊢
 rw [q4i] at hr
 obtain ⟨W, hW⟩ : ∃ W, W = w.alloc (.cells #[.int .i64 1, .string s, .int .i64 ty, .slice A l.length c, .slice A1 bd.length c1, .slice A2 el.length c2, .int .i64 a, .int .i64 pl] 67) := ⟨_, rfl⟩
 obtain ⟨bk, hbk⟩ : ∃ x, x = w.heap.size := ⟨_, rfl⟩
 have hba : Below w.heap.size w W := by rw [hW]; exact q0d (Below.refl _ _) _
 have hm : W.heap[bk]? = some (.cells #[.int .i64 1, .string s, .int .i64 ty, .slice A l.length c, .slice A1 bd.length c1, .slice A2 el.length c2, .int .i64 a, .int .i64 pl] 67 (0, 0)) := by rw [hW, hbk]; exact heap_alloc_new _ _
 have HPW := q0h (hp.below hba)
 have HFW := q0h (PF.of_below (b := b) hba hp.bw)
 have HE0 := q0h (PF.refl B b W)
 have HBW := q0h (hb.trans (hba.mono hb.size))
 have HM := q0h hm
 have HBB := q0h (show bk ≠ b from by have := hp.lt; omega)
 have HW := q0h hW
 have HBK := q0h hbk
 have HL := q0h hl
 have H0 := q0h h0
 have HG := q0h hg
 have HC := q0h hC
 have HC1 := q0h hC1
 have HC2 := q0h hC2
 have HI := q0h ih
 have HIB := q0h ihb
 have HIE := q0h ihe
 have HK1 := q0h hr
 have z0 : W.cell? ⟨bk, 0, none⟩ = some (.int .i64 1) := (q0a hm 0).trans rfl
 have z1 : W.cell? ⟨bk, 1, none⟩ = some (.string s) := (q0a hm 1).trans rfl
 have z2 : W.cell? ⟨bk, 2, none⟩ = some (.int .i64 ty) := (q0a hm 2).trans rfl
 have z3 : W.cell? ⟨bk, 3, none⟩ = some (.slice A l.length c) := (q0a hm 3).trans rfl
 have z4 : W.cell? ⟨bk, 4, none⟩ = some (.slice A1 bd.length c1) := (q0a hm 4).trans rfl
 have z5 : W.cell? ⟨bk, 5, none⟩ = some (.slice A2 el.length c2) := (q0a hm 5).trans rfl
 have z6 : W.cell? ⟨bk, 6, none⟩ = some (.int .i64 a) := (q0a hm 6).trans rfl
 have z7 : W.cell? ⟨bk, 7, none⟩ = some (.int .i64 pl) := (q0a hm 7).trans rfl
 have lb := q0c hm
 clear hba hm hW hbk hp hb hl h0 hg hK hC hC1 hC2 ih ihb ihe hr
 have HN := q0h hl1
 clear hl1
 go_enter Tryz.func89, Tryz.ntmps89
 go_upto_region 1 with fail
 rw [<- HW.out, <- HBK.out]
 obtain ⟨ad, q0, q1, q2, q3, qA, qn, qc, q5, q6, q7, rfl, HKy, y0, y1, y2, y3, y4, y5, y6, y7⟩ := q6y HC.out 0 (by have := HN.out; omega)
 rw [Nat.zero_mul, q8t] at y0 y1 y2 y3 y4 y5 y6 y7
 obtain ⟨x0, hx0⟩ : ∃ x, x = l.getD 0 zEx := ⟨_, rfl⟩
 have HMy := q0h (q1a l zEx 0 (by have := HN.out; omega) x0 hx0)
 rw [<- hx0] at HKy
 have Yy0 := q0h y0
 have Yy1 := q0h y1
 have Yy2 := q0h y2
 have Yy3 := q0h y3
 have Yy4 := q0h y4
 have Yy5 := q0h y5
 have Yy6 := q0h y6
 have Yy7 := q0h y7
 clear y0 y1 y2 y3 y4 y5 y6 y7
 have HX := q0h (show r = q0q x0 (p ++ ([108, 101, 116, 32] ++ toL s ++ [58, 32] ++ tyT ty ++ [32, 61, 32])) ++ [59] by
  rw [HK1.out, show q8m 1 s ty (l.map q0q) el (bd.map q1f) (el.map q1f) lv p = (l.map q0q).headD id (p ++ [108, 101, 116, 32] ++ toL s ++ [58, 32] ++ tyT ty ++ [32, 61, 32]) ++ [59] from rfl, q4w l (by have := HN.out; omega), <- hx0]
  simp only [List.append_assoc])
 have HL1 := q0h (show (q0q x0 (p ++ ([108, 101, 116, 32] ++ toL s ++ [58, 32] ++ tyT ty ++ [32, 61, 32]))).length <= LIM from q3f (by rw [<- HX.out]; exact HL.out))
 have HL2 := q0h (show (p ++ ([108, 101, 116, 32] ++ toL s ++ [58, 32] ++ tyT ty ++ [32, 61, 32])).length <= LIM from Nat.le_trans (q3p x0 _) HL1.out)
 have bt0 : (0 : Int) <= ty := by omega
 have bt1 : ty < 5 := by omega
 have hty := z1q (HG.out.at HBW.out) ty (by omega) (by omega)
 have HTY := q0h hty
 clear hx0
 go_wp2_with fail
 have hsx : Below W.heap.size W W.drew := q1n (Below.refl _ _)
 have HSX := q0h hsx
 clear hsx
 go_region_held3 (fun w' => w'.cell? ⟨bk, 1, none⟩ = some (.string s) /\ w'.cell? ⟨bk, 2, none⟩ = some (.int .i64 ty) /\ w'.cell? ⟨0, ty.toNat, none⟩ = some (.string ⟨(tyT ty).toArray⟩)) (go_keep)
  (first
   | (go_at_call 42; ((refine (z5l (HPW.out.below HSX.out) [⟨#[108, 101, 116, 32]⟩, s, ⟨#[58, 32]⟩, ⟨(tyT ty).toArray⟩, ⟨#[32, 61, 32]⟩] 5 rfl (by simp) ([108, 101, 116, 32] ++ toL s ++ [58, 32] ++ tyT ty ++ [32, 61, 32]) (by simp [q7k, toL]) HL2.out rfl rfl).mono ?_); rintro e' w1 ⟨rfl, hp', hf'⟩; have HP1 := q0h hp'; have HE1 := q0h ((HE0.out.trans (PF.of_below (b := b) HSX.out HPW.out.bw)).trans hf'); have hm' := (HE1.out.nb bk (q0c HM.out) HBB.out (q0n HM.out (by decide))).trans HM.out; have HBx := q0h (HBW.out.trans (HE1.out.be.mono H0.out)); have z1 : w1.cell? ⟨bk, 1, none⟩ = some (.string s) := (q0a hm' 1).trans rfl; have z2 : w1.cell? ⟨bk, 2, none⟩ = some (.int .i64 ty) := (q0a hm' 2).trans rfl; have hty := z1q (HG.out.at HBx.out) ty (by omega) (by omega); clear hm'; clear hp' hf')))
 clear hty
 clear z0 z1 z2 z3 z4 z5 z6 z7 lb
 have hm' := (HE1.out.nb bk (q0c HM.out) HBB.out (q0n HM.out (by decide))).trans HM.out
 have z0 : w1.cell? ⟨bk, 0, none⟩ = some (.int .i64 1) := (q0a hm' 0).trans rfl
 have z1 : w1.cell? ⟨bk, 1, none⟩ = some (.string s) := (q0a hm' 1).trans rfl
 have z2 : w1.cell? ⟨bk, 2, none⟩ = some (.int .i64 ty) := (q0a hm' 2).trans rfl
 have z3 : w1.cell? ⟨bk, 3, none⟩ = some (.slice (some ad) l.length c) := (q0a hm' 3).trans rfl
 have z4 : w1.cell? ⟨bk, 4, none⟩ = some (.slice A1 bd.length c1) := (q0a hm' 4).trans rfl
 have z5 : w1.cell? ⟨bk, 5, none⟩ = some (.slice A2 el.length c2) := (q0a hm' 5).trans rfl
 have z6 : w1.cell? ⟨bk, 6, none⟩ = some (.int .i64 a) := (q0a hm' 6).trans rfl
 have z7 : w1.cell? ⟨bk, 7, none⟩ = some (.int .i64 pl) := (q0a hm' 7).trans rfl
 have lb := q0c hm'
 clear hm'
 have HB1 := q0h (HBW.out.trans (HE1.out.be.mono H0.out))
 have hln : 0 < l.length := by have := HN.out; omega
 have hli : (0 : Int) < (l.length : Int) := by omega
 have y0 := q0b HB1.out Yy0.out
 have y1 := q0b HB1.out Yy1.out
 have y2 := q0b HB1.out Yy2.out
 have y3 := q0b HB1.out Yy3.out
 have y4 := q0b HB1.out Yy4.out
 have y5 := q0b HB1.out Yy5.out
 have y6 := q0b HB1.out Yy6.out
 have y7 := q0b HB1.out Yy7.out
 go_wp2_with fail
 clear z0 z1 z2 z3 z4 z5 z6 z7 lb
 clear y0 y1 y2 y3 y4 y5 y6 y7 hln hli
 refine (HI.out x0 HMy.out w0 _ B b lv _ _ HKy.out HG.out H0.out HB1.out HP1.out HL1.out).mono ?_
 rintro e' w2 ⟨rfl, hp', hf'⟩
 have HP2 := q0h hp'
 have HE2 := q0h (HE1.out.trans hf')
 clear hp' hf'
 go_wp2_with fail
 refine (q0j HP2.out [⟨#[59]⟩] 1 rfl (by simp) [59] rfl (by rw [<- HX.out]; exact HL.out)).mono ?_
 rintro e' w3 ⟨rfl, hp', hf'⟩
 have HP3 := q0h hp'
 have HE3 := q0h (HE2.out.trans hf')
 clear hp' hf'
 go_wp2_with fail
 go_end0
 exact ⟨rfl, by rw [HX.out]; exact HP3.out, HFW.out.trans HE3.out⟩
theorem j8c (s : ByteArray) (ty : Int) (l : List Ex) (bd el : List St) (a pl : Int) (hl1 : l.length = 1) (hbd : bd.length <= 400) (hel : el.length <= 400) (ih : ∀ x ∈ l, q9d x) (ihb : ∀ x ∈ bd, z0w x) (ihe : ∀ x ∈ el, z0w x) : z0w (.mk 4 s ty l bd el a pl) := by
 intro w0 cs B b lv p w hK hg h0 hb hp hl
 obtain ⟨A, c, A1, c1, A2, c2, rfl, hC, hC1, hC2⟩ := q3y hK
 obtain ⟨r, hr⟩ : ∃ r, r = q1f (.mk 4 s ty l bd el a pl) lv p := ⟨_, rfl⟩
 rw [<- hr] at hl ⊢
 rw [q4i] at hr
 obtain ⟨W, hW⟩ : ∃ W, W = w.alloc (.cells #[.int .i64 4, .string s, .int .i64 ty, .slice A l.length c, .slice A1 bd.length c1, .slice A2 el.length c2, .int .i64 a, .int .i64 pl] 67) := ⟨_, rfl⟩
 obtain ⟨bk, hbk⟩ : ∃ x, x = w.heap.size := ⟨_, rfl⟩
 have hba : Below w.heap.size w W := by rw [hW]; exact q0d (Below.refl _ _) _
 have hm : W.heap[bk]? = some (.cells #[.int .i64 4, .string s, .int .i64 ty, .slice A l.length c, .slice A1 bd.length c1, .slice A2 el.length c2, .int .i64 a, .int .i64 pl] 67 (0, 0)) := by rw [hW, hbk]; exact heap_alloc_new _ _
 have HPW := q0h (hp.below hba)
 have HFW := q0h (PF.of_below (b := b) hba hp.bw)
 have HE0 := q0h (PF.refl B b W)
 have HBW := q0h (hb.trans (hba.mono hb.size))
 have HM := q0h hm
 have HBB := q0h (show bk ≠ b from by have := hp.lt; omega)
 have HW := q0h hW
 have HBK := q0h hbk
 have HL := q0h hl
 have H0 := q0h h0
 have HG := q0h hg
 have HC := q0h hC
 have HC1 := q0h hC1
 have HC2 := q0h hC2
 have HI := q0h ih
 have HIB := q0h ihb
 have HIE := q0h ihe
 have HK1 := q0h hr
 have z0 : W.cell? ⟨bk, 0, none⟩ = some (.int .i64 4) := (q0a hm 0).trans rfl
 have z1 : W.cell? ⟨bk, 1, none⟩ = some (.string s) := (q0a hm 1).trans rfl
 have z2 : W.cell? ⟨bk, 2, none⟩ = some (.int .i64 ty) := (q0a hm 2).trans rfl
 have z3 : W.cell? ⟨bk, 3, none⟩ = some (.slice A l.length c) := (q0a hm 3).trans rfl
 have z4 : W.cell? ⟨bk, 4, none⟩ = some (.slice A1 bd.length c1) := (q0a hm 4).trans rfl
 have z5 : W.cell? ⟨bk, 5, none⟩ = some (.slice A2 el.length c2) := (q0a hm 5).trans rfl
 have z6 : W.cell? ⟨bk, 6, none⟩ = some (.int .i64 a) := (q0a hm 6).trans rfl
 have z7 : W.cell? ⟨bk, 7, none⟩ = some (.int .i64 pl) := (q0a hm 7).trans rfl
 have lb := q0c hm
 clear hba hm hW hbk hp hb hl h0 hg hK hC hC1 hC2 ih ihb ihe hr
 have HN := q0h hl1
 clear hl1
 go_enter Tryz.func89, Tryz.ntmps89
 go_upto_region 1 with fail
 rw [<- HW.out, <- HBK.out]
 obtain ⟨ad, q0, q1, q2, q3, qA, qn, qc, q5, q6, q7, rfl, HKy, y0, y1, y2, y3, y4, y5, y6, y7⟩ := q6y HC.out 0 (by have := HN.out; omega)
 rw [Nat.zero_mul, q8t] at y0 y1 y2 y3 y4 y5 y6 y7
 obtain ⟨x0, hx0⟩ : ∃ x, x = l.getD 0 zEx := ⟨_, rfl⟩
 have HMy := q0h (q1a l zEx 0 (by have := HN.out; omega) x0 hx0)
 rw [<- hx0] at HKy
 have Yy0 := q0h y0
 have Yy1 := q0h y1
 have Yy2 := q0h y2
 have Yy3 := q0h y3
 have Yy4 := q0h y4
 have Yy5 := q0h y5
 have Yy6 := q0h y6
 have Yy7 := q0h y7
 clear y0 y1 y2 y3 y4 y5 y6 y7
 obtain ⟨qq, hqq⟩ : ∃ x, x = (q3w (bd.map q1f) lv (q0q x0 (p ++ [105, 102, 32]))) := ⟨_, rfl⟩
 have HXX := q0h (show r = if el.length = 1 /\ (el.headD (.mk 0 ⟨#[]⟩ 0 [] [] [] 0 0)).kind = 4 then (el.map q1f).headD (fun _ p => p) lv (qq ++ [32, 101, 108, 115, 101, 32]) else if 0 < el.length then q3w (el.map q1f) lv (qq ++ [32, 101, 108, 115, 101]) else qq by
  rw [HK1.out, hqq, hx0, <- q4w l (by have := HN.out; omega)]; rfl)
 have HLQ := q0h (show qq.length <= LIM by
  refine Nat.le_trans ?_ HL.out
  rw [HXX.out]
  split
  ·rename_i hc
   rw [(x6o el (by omega)).1]
   exact q3f (z5k _ _ (Nat.le_refl _) lv _)
  ·split
   ·exact q3f (q5z (q4x el) lv _).2
   ·exact Nat.le_refl _)
 have HL1 := q0h (show (q0q x0 (p ++ [105, 102, 32])).length <= LIM from Nat.le_trans (q5z (q4x bd) lv _).2 (by rw [<- hqq]; exact HLQ.out))
 have HL2 := q0h (show (p ++ [105, 102, 32]).length <= LIM from Nat.le_trans (q3p x0 _) HL1.out)
 have HQQ := q0h hqq
 clear hx0 hqq
 go_wp2_with fail
 clear z0 z1 z2 z3 z4 z5 z6 z7 lb
 refine (q0j HPW.out [⟨#[105, 102, 32]⟩] 1 rfl (by simp) [105, 102, 32] rfl HL2.out).mono ?_
 rintro e' w1 ⟨rfl, hp', hf'⟩
 have HP1 := q0h hp'
 have HE1 := q0h (HE0.out.trans hf')
 clear hp' hf'
 have hm' := (HE1.out.nb bk (q0c HM.out) HBB.out (q0n HM.out (by decide))).trans HM.out
 have z0 : w1.cell? ⟨bk, 0, none⟩ = some (.int .i64 4) := (q0a hm' 0).trans rfl
 have z1 : w1.cell? ⟨bk, 1, none⟩ = some (.string s) := (q0a hm' 1).trans rfl
 have z2 : w1.cell? ⟨bk, 2, none⟩ = some (.int .i64 ty) := (q0a hm' 2).trans rfl
 have z3 : w1.cell? ⟨bk, 3, none⟩ = some (.slice (some ad) l.length c) := (q0a hm' 3).trans rfl
 have z4 : w1.cell? ⟨bk, 4, none⟩ = some (.slice A1 bd.length c1) := (q0a hm' 4).trans rfl
 have z5 : w1.cell? ⟨bk, 5, none⟩ = some (.slice A2 el.length c2) := (q0a hm' 5).trans rfl
 have z6 : w1.cell? ⟨bk, 6, none⟩ = some (.int .i64 a) := (q0a hm' 6).trans rfl
 have z7 : w1.cell? ⟨bk, 7, none⟩ = some (.int .i64 pl) := (q0a hm' 7).trans rfl
 have lb := q0c hm'
 clear hm'
 have HB1 := q0h (HBW.out.trans (HE1.out.be.mono H0.out))
 have hln : 0 < l.length := by have := HN.out; omega
 have hli : (0 : Int) < (l.length : Int) := by omega
 have y0 := q0b HB1.out Yy0.out
 have y1 := q0b HB1.out Yy1.out
 have y2 := q0b HB1.out Yy2.out
 have y3 := q0b HB1.out Yy3.out
 have y4 := q0b HB1.out Yy4.out
 have y5 := q0b HB1.out Yy5.out
 have y6 := q0b HB1.out Yy6.out
 have y7 := q0b HB1.out Yy7.out
 go_wp2_with fail
 clear z0 z1 z2 z3 z4 z5 z6 z7 lb
 clear y0 y1 y2 y3 y4 y5 y6 y7 hln hli
 refine (HI.out x0 HMy.out w0 _ B b lv _ _ HKy.out HG.out H0.out HB1.out HP1.out HL1.out).mono ?_
 rintro e' w2 ⟨rfl, hp', hf'⟩
 have HP2 := q0h hp'
 have HE2 := q0h (HE1.out.trans hf')
 clear hp' hf'
 have hm' := (HE2.out.nb bk (q0c HM.out) HBB.out (q0n HM.out (by decide))).trans HM.out
 have z0 : w2.cell? ⟨bk, 0, none⟩ = some (.int .i64 4) := (q0a hm' 0).trans rfl
 have z1 : w2.cell? ⟨bk, 1, none⟩ = some (.string s) := (q0a hm' 1).trans rfl
 have z2 : w2.cell? ⟨bk, 2, none⟩ = some (.int .i64 ty) := (q0a hm' 2).trans rfl
 have z3 : w2.cell? ⟨bk, 3, none⟩ = some (.slice (some ad) l.length c) := (q0a hm' 3).trans rfl
 have z4 : w2.cell? ⟨bk, 4, none⟩ = some (.slice A1 bd.length c1) := (q0a hm' 4).trans rfl
 have z5 : w2.cell? ⟨bk, 5, none⟩ = some (.slice A2 el.length c2) := (q0a hm' 5).trans rfl
 have z6 : w2.cell? ⟨bk, 6, none⟩ = some (.int .i64 a) := (q0a hm' 6).trans rfl
 have z7 : w2.cell? ⟨bk, 7, none⟩ = some (.int .i64 pl) := (q0a hm' 7).trans rfl
 have lb := q0c hm'
 clear hm'
 have HB2 := q0h (HBW.out.trans (HE2.out.be.mono H0.out))
 go_wp2_with fail
 clear z0 z1 z2 z3 z4 z5 z6 z7 lb
 refine (q8i bd hbd HIB.out w0 A1 c1 B b lv _ w2 HC1.out HG.out H0.out HB2.out HP2.out (by rw [<- HQQ.out]; exact HLQ.out)).mono ?_
 rintro e' w3 ⟨rfl, hp', hf'⟩
 have HP3 := q0h hp'
 have HE3 := q0h (HE2.out.trans hf')
 clear hp' hf'
 rw [<- HQQ.out] at HP3
 have HB3 := q0h (HBW.out.trans (HE3.out.be.mono H0.out))
 by_cases he0 : el.length = 0
 ·have HX := q0h (show r = qq by rw [HXX.out, if_neg (fun h => by omega), if_neg (by omega)])
  have HZ := q0h he0
  clear he0
  have hm' := (HE3.out.nb bk (q0c HM.out) HBB.out (q0n HM.out (by decide))).trans HM.out
  have z0 : w3.cell? ⟨bk, 0, none⟩ = some (.int .i64 4) := (q0a hm' 0).trans rfl
  have z1 : w3.cell? ⟨bk, 1, none⟩ = some (.string s) := (q0a hm' 1).trans rfl
  have z2 : w3.cell? ⟨bk, 2, none⟩ = some (.int .i64 ty) := (q0a hm' 2).trans rfl
  have z3 : w3.cell? ⟨bk, 3, none⟩ = some (.slice (some ad) l.length c) := (q0a hm' 3).trans rfl
  have z4 : w3.cell? ⟨bk, 4, none⟩ = some (.slice A1 bd.length c1) := (q0a hm' 4).trans rfl
  have z5 : w3.cell? ⟨bk, 5, none⟩ = some (.slice A2 el.length c2) := (q0a hm' 5).trans rfl
  have z6 : w3.cell? ⟨bk, 6, none⟩ = some (.int .i64 a) := (q0a hm' 6).trans rfl
  have z7 : w3.cell? ⟨bk, 7, none⟩ = some (.int .i64 pl) := (q0a hm' 7).trans rfl
  have lb := q0c hm'
  clear hm'
  have y0 : ((el.length : Int) == 1) = false := by have := HZ.out; rw [beq_eq_false_iff_ne]; omega
  have y1 : (el.length : Int) <= 0 := by have := HZ.out; omega
  go_wp2_with fail
  try simp only [Exit.inBlock, Exit.then]
  refine bodyPost_ret (results_none rfl _ _ _) rfl ?_
  exact ⟨rfl, by rw [HX.out]; exact HP3.out, HFW.out.trans HE3.out⟩
 by_cases he1 : el.length = 1
 ·obtain ⟨ae, r0, r1, r2, rA, rn, rc, rB, rm, rd, rC, rl, re, r6, r7, hA2, HKs, v0, v1, v2, v3, v4, v5, v6, v7⟩ := x6d HC2.out 0 (by omega)
  subst hA2
  rw [Nat.zero_mul, q8t] at v0 v1 v2 v3 v4 v5 v6 v7
  obtain ⟨s0, hs0⟩ : ∃ x, x = el.getD 0 zSt := ⟨_, rfl⟩
  have HMs := q0h (q1a el zSt 0 (by omega) s0 hs0)
  rw [<- hs0] at HKs
  have Yv0 := q0h v0
  have Yv1 := q0h v1
  have Yv2 := q0h v2
  have Yv3 := q0h v3
  have Yv4 := q0h v4
  have Yv5 := q0h v5
  have Yv6 := q0h v6
  have Yv7 := q0h v7
  have HKD := q0h (j0t HKs.out)
  have HH := q0h (x6o el (by omega))
  have HS0 := q0h hs0
  have HN1 := q0h he1
  clear hs0 he1 he0 v0 v1 v2 v3 v4 v5 v6 v7
  by_cases hk : r0 = 4
  ·have HX := q0h (show r = q1f s0 lv (qq ++ [32, 101, 108, 115, 101, 32]) by rw [HXX.out, if_pos ⟨HN1.out, by rw [HH.out.2, <- HS0.out, <- HKD.out]; exact hk⟩, HH.out.1, <- HS0.out])
   have HLE := q0h (show (qq ++ [32, 101, 108, 115, 101, 32]).length <= LIM from Nat.le_trans (z5k _ s0 (Nat.le_refl _) lv _) (by rw [<- HX.out]; exact HL.out))
   subst hk
   have hm' := (HE3.out.nb bk (q0c HM.out) HBB.out (q0n HM.out (by decide))).trans HM.out
   have z0 : w3.cell? ⟨bk, 0, none⟩ = some (.int .i64 4) := (q0a hm' 0).trans rfl
   have z1 : w3.cell? ⟨bk, 1, none⟩ = some (.string s) := (q0a hm' 1).trans rfl
   have z2 : w3.cell? ⟨bk, 2, none⟩ = some (.int .i64 ty) := (q0a hm' 2).trans rfl
   have z3 : w3.cell? ⟨bk, 3, none⟩ = some (.slice (some ad) l.length c) := (q0a hm' 3).trans rfl
   have z4 : w3.cell? ⟨bk, 4, none⟩ = some (.slice A1 bd.length c1) := (q0a hm' 4).trans rfl
   have z5 : w3.cell? ⟨bk, 5, none⟩ = some (.slice (some ae) el.length c2) := (q0a hm' 5).trans rfl
   have z6 : w3.cell? ⟨bk, 6, none⟩ = some (.int .i64 a) := (q0a hm' 6).trans rfl
   have z7 : w3.cell? ⟨bk, 7, none⟩ = some (.int .i64 pl) := (q0a hm' 7).trans rfl
   have lb := q0c hm'
   clear hm'
   have v0 := q0b HB3.out Yv0.out
   have v1 := q0b HB3.out Yv1.out
   have v2 := q0b HB3.out Yv2.out
   have v3 := q0b HB3.out Yv3.out
   have v4 := q0b HB3.out Yv4.out
   have v5 := q0b HB3.out Yv5.out
   have v6 := q0b HB3.out Yv6.out
   have v7 := q0b HB3.out Yv7.out
   have y0 : ((el.length : Int) == 1) = true := by have := HN1.out; rw [beq_iff_eq]; omega
   have y1 : 0 < el.length := by have := HN1.out; omega
   have y2 : (0 : Int) < (el.length : Int) := by omega
   go_wp2_with fail
   clear z0 z1 z2 z3 z4 z5 z6 z7 lb
   clear v0 v1 v2 v3 v4 v5 v6 v7 y0 y1 y2
   refine (q0j HP3.out [⟨#[32, 101, 108, 115, 101, 32]⟩] 1 rfl (by simp) [32, 101, 108, 115, 101, 32] rfl HLE.out).mono ?_
   rintro e' w4 ⟨rfl, hp', hf'⟩
   have HP4 := q0h hp'
   have HE4 := q0h (HE3.out.trans hf')
   clear hp' hf'
   have hm' := (HE4.out.nb bk (q0c HM.out) HBB.out (q0n HM.out (by decide))).trans HM.out
   have z0 : w4.cell? ⟨bk, 0, none⟩ = some (.int .i64 4) := (q0a hm' 0).trans rfl
   have z1 : w4.cell? ⟨bk, 1, none⟩ = some (.string s) := (q0a hm' 1).trans rfl
   have z2 : w4.cell? ⟨bk, 2, none⟩ = some (.int .i64 ty) := (q0a hm' 2).trans rfl
   have z3 : w4.cell? ⟨bk, 3, none⟩ = some (.slice (some ad) l.length c) := (q0a hm' 3).trans rfl
   have z4 : w4.cell? ⟨bk, 4, none⟩ = some (.slice A1 bd.length c1) := (q0a hm' 4).trans rfl
   have z5 : w4.cell? ⟨bk, 5, none⟩ = some (.slice (some ae) el.length c2) := (q0a hm' 5).trans rfl
   have z6 : w4.cell? ⟨bk, 6, none⟩ = some (.int .i64 a) := (q0a hm' 6).trans rfl
   have z7 : w4.cell? ⟨bk, 7, none⟩ = some (.int .i64 pl) := (q0a hm' 7).trans rfl
   have lb := q0c hm'
   clear hm'
   have HB4 := q0h (HBW.out.trans (HE4.out.be.mono H0.out))
   have v0 := q0b HB4.out Yv0.out
   have v1 := q0b HB4.out Yv1.out
   have v2 := q0b HB4.out Yv2.out
   have v3 := q0b HB4.out Yv3.out
   have v4 := q0b HB4.out Yv4.out
   have v5 := q0b HB4.out Yv5.out
   have v6 := q0b HB4.out Yv6.out
   have v7 := q0b HB4.out Yv7.out
   have y1 : 0 < el.length := by have := HN1.out; omega
   have y2 : (0 : Int) < (el.length : Int) := by omega
   go_wp2_with fail
   clear z0 z1 z2 z3 z4 z5 z6 z7 lb
   clear v0 v1 v2 v3 v4 v5 v6 v7 y1 y2
   refine (HIE.out s0 HMs.out w0 _ B b lv _ w4 HKs.out HG.out H0.out HB4.out HP4.out (by rw [<- HX.out]; exact HL.out)).mono ?_
   rintro e' w5 ⟨rfl, hp', hf'⟩
   have HP5 := q0h hp'
   have HE5 := q0h (HE4.out.trans hf')
   clear hp' hf'
   go_wp2_with fail
   try simp only [Exit.inBlock, Exit.then]
   refine bodyPost_ret (results_none rfl _ _ _) rfl ?_
   exact ⟨rfl, by rw [HX.out]; exact HP5.out, HFW.out.trans HE5.out⟩
  ·have HX := q0h (show r = q3w (el.map q1f) lv (qq ++ [32, 101, 108, 115, 101]) by rw [HXX.out, if_neg (fun h => by rw [HH.out.2, <- HS0.out, <- HKD.out] at h; exact hk h.2), if_pos (by have := HN1.out; omega)])
   have HLE := q0h (show (qq ++ [32, 101, 108, 115, 101]).length <= LIM from Nat.le_trans (q5z (q4x el) lv _).2 (by rw [<- HX.out]; exact HL.out))
   have yk : (r0 == 4) = false := by simpa using hk
   have hm' := (HE3.out.nb bk (q0c HM.out) HBB.out (q0n HM.out (by decide))).trans HM.out
   have z0 : w3.cell? ⟨bk, 0, none⟩ = some (.int .i64 4) := (q0a hm' 0).trans rfl
   have z1 : w3.cell? ⟨bk, 1, none⟩ = some (.string s) := (q0a hm' 1).trans rfl
   have z2 : w3.cell? ⟨bk, 2, none⟩ = some (.int .i64 ty) := (q0a hm' 2).trans rfl
   have z3 : w3.cell? ⟨bk, 3, none⟩ = some (.slice (some ad) l.length c) := (q0a hm' 3).trans rfl
   have z4 : w3.cell? ⟨bk, 4, none⟩ = some (.slice A1 bd.length c1) := (q0a hm' 4).trans rfl
   have z5 : w3.cell? ⟨bk, 5, none⟩ = some (.slice (some ae) el.length c2) := (q0a hm' 5).trans rfl
   have z6 : w3.cell? ⟨bk, 6, none⟩ = some (.int .i64 a) := (q0a hm' 6).trans rfl
   have z7 : w3.cell? ⟨bk, 7, none⟩ = some (.int .i64 pl) := (q0a hm' 7).trans rfl
   have lb := q0c hm'
   clear hm'
   have v0 := q0b HB3.out Yv0.out
   have v1 := q0b HB3.out Yv1.out
   have v2 := q0b HB3.out Yv2.out
   have v3 := q0b HB3.out Yv3.out
   have v4 := q0b HB3.out Yv4.out
   have v5 := q0b HB3.out Yv5.out
   have v6 := q0b HB3.out Yv6.out
   have v7 := q0b HB3.out Yv7.out
   have y0 : ((el.length : Int) == 1) = true := by have := HN1.out; rw [beq_iff_eq]; omega
   have y1 : 0 < el.length := by have := HN1.out; omega
   have y2 : (0 : Int) < (el.length : Int) := by omega
   go_wp2_with fail
   clear z0 z1 z2 z3 z4 z5 z6 z7 lb
   clear v0 v1 v2 v3 v4 v5 v6 v7 y0 y1 y2
   refine (q0j HP3.out [⟨#[32, 101, 108, 115, 101]⟩] 1 rfl (by simp) [32, 101, 108, 115, 101] rfl HLE.out).mono ?_
   rintro e' w4 ⟨rfl, hp', hf'⟩
   have HP4 := q0h hp'
   have HE4 := q0h (HE3.out.trans hf')
   clear hp' hf'
   have hm' := (HE4.out.nb bk (q0c HM.out) HBB.out (q0n HM.out (by decide))).trans HM.out
   have z0 : w4.cell? ⟨bk, 0, none⟩ = some (.int .i64 4) := (q0a hm' 0).trans rfl
   have z1 : w4.cell? ⟨bk, 1, none⟩ = some (.string s) := (q0a hm' 1).trans rfl
   have z2 : w4.cell? ⟨bk, 2, none⟩ = some (.int .i64 ty) := (q0a hm' 2).trans rfl
   have z3 : w4.cell? ⟨bk, 3, none⟩ = some (.slice (some ad) l.length c) := (q0a hm' 3).trans rfl
   have z4 : w4.cell? ⟨bk, 4, none⟩ = some (.slice A1 bd.length c1) := (q0a hm' 4).trans rfl
   have z5 : w4.cell? ⟨bk, 5, none⟩ = some (.slice (some ae) el.length c2) := (q0a hm' 5).trans rfl
   have z6 : w4.cell? ⟨bk, 6, none⟩ = some (.int .i64 a) := (q0a hm' 6).trans rfl
   have z7 : w4.cell? ⟨bk, 7, none⟩ = some (.int .i64 pl) := (q0a hm' 7).trans rfl
   have lb := q0c hm'
   clear hm'
   have HB4 := q0h (HBW.out.trans (HE4.out.be.mono H0.out))
   go_wp2_with fail
   clear z0 z1 z2 z3 z4 z5 z6 z7 lb
   refine (q8i el hel HIE.out w0 (some ae) c2 B b lv _ w4 HC2.out HG.out H0.out HB4.out HP4.out (by rw [<- HX.out]; exact HL.out)).mono ?_
   rintro e' w5 ⟨rfl, hp', hf'⟩
   have HP5 := q0h hp'
   have HE5 := q0h (HE4.out.trans hf')
   clear hp' hf'
   go_wp2_with fail
   try simp only [Exit.inBlock, Exit.then]
   refine bodyPost_ret (results_none rfl _ _ _) rfl ?_
   exact ⟨rfl, by rw [HX.out]; exact HP5.out, HFW.out.trans HE5.out⟩
 ·have HX := q0h (show r = q3w (el.map q1f) lv (qq ++ [32, 101, 108, 115, 101]) by rw [HXX.out, if_neg (fun h => he1 h.1), if_pos (by omega)])
  have HLE := q0h (show (qq ++ [32, 101, 108, 115, 101]).length <= LIM from Nat.le_trans (q5z (q4x el) lv _).2 (by rw [<- HX.out]; exact HL.out))
  have y0 : ((el.length : Int) == 1) = false := by rw [beq_eq_false_iff_ne]; omega
  have y2 : (0 : Int) < (el.length : Int) := by omega
  have hm' := (HE3.out.nb bk (q0c HM.out) HBB.out (q0n HM.out (by decide))).trans HM.out
  have z0 : w3.cell? ⟨bk, 0, none⟩ = some (.int .i64 4) := (q0a hm' 0).trans rfl
  have z1 : w3.cell? ⟨bk, 1, none⟩ = some (.string s) := (q0a hm' 1).trans rfl
  have z2 : w3.cell? ⟨bk, 2, none⟩ = some (.int .i64 ty) := (q0a hm' 2).trans rfl
  have z3 : w3.cell? ⟨bk, 3, none⟩ = some (.slice (some ad) l.length c) := (q0a hm' 3).trans rfl
  have z4 : w3.cell? ⟨bk, 4, none⟩ = some (.slice A1 bd.length c1) := (q0a hm' 4).trans rfl
  have z5 : w3.cell? ⟨bk, 5, none⟩ = some (.slice A2 el.length c2) := (q0a hm' 5).trans rfl
  have z6 : w3.cell? ⟨bk, 6, none⟩ = some (.int .i64 a) := (q0a hm' 6).trans rfl
  have z7 : w3.cell? ⟨bk, 7, none⟩ = some (.int .i64 pl) := (q0a hm' 7).trans rfl
  have lb := q0c hm'
  clear hm'
  go_wp2_with fail
  clear z0 z1 z2 z3 z4 z5 z6 z7 lb
  clear y0 y2
  refine (q0j HP3.out [⟨#[32, 101, 108, 115, 101]⟩] 1 rfl (by simp) [32, 101, 108, 115, 101] rfl HLE.out).mono ?_
  rintro e' w4 ⟨rfl, hp', hf'⟩
  have HP4 := q0h hp'
  have HE4 := q0h (HE3.out.trans hf')
  clear hp' hf'
  have hm' := (HE4.out.nb bk (q0c HM.out) HBB.out (q0n HM.out (by decide))).trans HM.out
  have z0 : w4.cell? ⟨bk, 0, none⟩ = some (.int .i64 4) := (q0a hm' 0).trans rfl
  have z1 : w4.cell? ⟨bk, 1, none⟩ = some (.string s) := (q0a hm' 1).trans rfl
  have z2 : w4.cell? ⟨bk, 2, none⟩ = some (.int .i64 ty) := (q0a hm' 2).trans rfl
  have z3 : w4.cell? ⟨bk, 3, none⟩ = some (.slice (some ad) l.length c) := (q0a hm' 3).trans rfl
  have z4 : w4.cell? ⟨bk, 4, none⟩ = some (.slice A1 bd.length c1) := (q0a hm' 4).trans rfl
  have z5 : w4.cell? ⟨bk, 5, none⟩ = some (.slice A2 el.length c2) := (q0a hm' 5).trans rfl
  have z6 : w4.cell? ⟨bk, 6, none⟩ = some (.int .i64 a) := (q0a hm' 6).trans rfl
  have z7 : w4.cell? ⟨bk, 7, none⟩ = some (.int .i64 pl) := (q0a hm' 7).trans rfl
  have lb := q0c hm'
  clear hm'
  have HB4 := q0h (HBW.out.trans (HE4.out.be.mono H0.out))
  go_wp2_with fail
  clear z0 z1 z2 z3 z4 z5 z6 z7 lb
  refine (q8i el hel HIE.out w0 A2 c2 B b lv _ w4 HC2.out HG.out H0.out HB4.out HP4.out (by rw [<- HX.out]; exact HL.out)).mono ?_
  rintro e' w5 ⟨rfl, hp', hf'⟩
  have HP5 := q0h hp'
  have HE5 := q0h (HE4.out.trans hf')
  clear hp' hf'
  go_wp2_with fail
  try simp only [Exit.inBlock, Exit.then]
  refine bodyPost_ret (results_none rfl _ _ _) rfl ?_
  exact ⟨rfl, by rw [HX.out]; exact HP5.out, HFW.out.trans HE5.out⟩
theorem j0u (n : Nat) : ∀ s : St, SizeOf.sizeOf s <= n -> q4n s = true -> smS s -> z0w s := by
 induction n with
 | zero => intro e h; cases e; simp at h
 | succ n ih =>
  intro x h hk hs
  obtain ⟨k, s, ty, l, bd, el, a, pl⟩ := x
  simp only [St.mk.sizeOf_spec] at h
  rw [q9x] at hk
  simp only [Bool.and_eq_true] at hk
  obtain ⟨⟨⟨h1, h2⟩, h3⟩, h4⟩ := hk
  unfold q0t at h3 h4
  rw [Bool.and_eq_true, q3k, decide_eq_true_eq] at h3 h4
  have ix : ∀ x ∈ l, q9d x := fun x hx => j4p (List.all_eq_true.1 h2 x hx) (z0a hs.2.1 x hx)
  have ib : ∀ x ∈ bd, z0w x := fun x hx => ih x (by have := List.sizeOf_lt_of_mem hx; omega) (List.all_eq_true.1 h3.2 x hx) (q6e hs.2.2.1 x hx)
  have ie : ∀ x ∈ el, z0w x := fun x hx => ih x (by have := List.sizeOf_lt_of_mem hx; omega) (List.all_eq_true.1 h4.2 x hx) (q6e hs.2.2.2 x hx)
  unfold q4h at h1
  obtain ⟨ek, hek⟩ : ∃ x, x = (l.head?.map Ex.kind |>.getD 0) := ⟨_, rfl⟩
  rw [<- hek] at h1
  cases hsh : q1u k l.length bd.length el.length ek with
  | none => rw [hsh] at h1; cases h1
  | some q =>
   obtain ⟨nm, t, le, mo, bare⟩ := q
   rw [hsh] at h1
   simp only [Bool.and_eq_true, decide_eq_true_eq] at h1
   obtain ⟨⟨⟨⟨hb, hle⟩, hmo⟩, _⟩, hty⟩ := h1
   unfold q1u at hsh
   by_cases k1 : k = 1
   ·subst k1
    rw [if_pos rfl] at hsh
    injection hsh with hsh; injection hsh with _ hsh; injection hsh with e2 hsh; injection hsh with e3 hsh; injection hsh with e4 _
    subst e2 e3 e4
    have h5 : q1c ty = true := hty
    unfold q1c at h5
    exact j6m s ty l bd el a pl (by omega) (by simpa using h5) ix ib ie
   rw [if_neg k1] at hsh
   by_cases k2 : k = 2
   ·subst k2
    rw [if_pos rfl] at hsh
    injection hsh with hsh; injection hsh with _ hsh; injection hsh with _ hsh; injection hsh with e3 hsh; injection hsh with e4 _
    subst e3 e4
    exact j6k s ty l bd el a pl (by omega) ix ib ie
   rw [if_neg k2] at hsh
   by_cases k3 : k = 3
   ·subst k3
    rw [if_pos rfl] at hsh
    injection hsh with hsh; injection hsh with _ hsh; injection hsh with _ hsh; injection hsh with e3 hsh; injection hsh with e4 _
    subst e3 e4
    exact j6l s ty l bd el a pl (by omega) ix ib ie
   rw [if_neg k3] at hsh
   by_cases k4 : k = 4
   ·subst k4
    rw [if_pos rfl] at hsh
    injection hsh with hsh; injection hsh with _ hsh; injection hsh with _ hsh; injection hsh with e3 hsh; injection hsh with e4 _
    subst e3 e4
    exact j8c s ty l bd el a pl (by omega) h3.1 h4.1 ix ib ie
   rw [if_neg k4] at hsh
   by_cases k5 : k = 5
   ·subst k5
    rw [if_pos rfl] at hsh
    injection hsh with hsh; injection hsh with _ hsh; injection hsh with _ hsh; injection hsh with e3 hsh; injection hsh with e4 _
    subst e3 e4
    exact j0s s ty l bd el a pl (by omega) h3.1 ix ib ie
   rw [if_neg k5] at hsh
   by_cases k6 : k = 6
   ·subst k6
    rw [if_pos rfl] at hsh
    injection hsh with hsh; injection hsh with _ hsh; injection hsh with _ hsh; injection hsh with e3 hsh; injection hsh with e4 _
    subst e3 e4
    exact x6n s ty l bd el a pl (by omega) ix ib ie
   rw [if_neg k6] at hsh
   by_cases k7 : k = 7
   ·subst k7
    rw [if_pos rfl] at hsh
    injection hsh with hsh; injection hsh with _ hsh; injection hsh with _ hsh; injection hsh with e3 hsh; injection hsh with e4 _
    subst e3 e4
    exact j4q s ty l bd el a pl (by omega) ix ib ie
   rw [if_neg k7] at hsh
   cases hsh
theorem j4r {s : St} (hk : q4n s = true) (hs : smS s) : z0w s := j0u _ s (Nat.le_refl _) hk hs
def MM {κ υ : Type} (ek : κ -> Value) (ev : υ -> Value) (w : World) (b : Nat) (l : List (κ × υ)) : Prop :=
 ∃ es clock, w.heap[b]? = some (.map es clock) /\ es.toList.map (fun e => (e.key, e.val)) = l.map (fun p => (ek p.1, ev p.2))
theorem q7u {κ υ : Type} [BEq κ] (kind : TypeDesc) (ek : κ -> Value) (ev : υ -> Value) (hs : ∀ a b, Instr.sameNow kind (ek a) (ek b) = some (a == b)) (k : κ) :
  ∀ (es : List MapEntry) (l : List (κ × υ)) (i : Nat), es.map (fun e => (e.key, e.val)) = l.map (fun p => (ek p.1, ev p.2)) ->
   ∃ r, Instr.findNow kind (ek k) es i = some r /\ r.map (·.2) = (l.lookup k).map ev
 | [], [], i, _ => ⟨none, rfl, rfl⟩
 | [], _ :: _, _, h => by simp at h
 | _ :: _, [], _, h => by simp at h
 | e :: es, p :: l, i, h => by
  obtain ⟨h1, h2⟩ := List.cons.inj h
  have hk : e.key = ek p.1 := congrArg Prod.fst h1
  have hv : e.val = ev p.2 := congrArg Prod.snd h1
  unfold Instr.findNow
  rw [hk, hs]
  by_cases hkp : (k == p.1) = true
  ·rw [hkp]
   exact ⟨some (i, e.val), rfl, by simp [List.lookup, hkp, hv]⟩
  ·have hkp' := Bool.eq_false_iff.2 hkp
   rw [hkp']
   obtain ⟨r, hr, hr2⟩ := q7u kind ek ev hs k es l (i + 1) h2
   exact ⟨r, hr, by obtain ⟨p1, p2⟩ := p; simp only [List.lookup, hkp', hr2]⟩
def ekI : Int -> Value := Value.int .i64
abbrev Clo := Nat × List Value
def evF : Clo -> Value := fun p => .func (.func p.1) #[] p.2.toArray
theorem j6n (a b : Int) : Instr.sameNow (.int .i64) (ekI a) (ekI b) = some (a == b) := by simp [Instr.sameNow, ekI]
theorem j2m (w : World) (b : Bool) (k : Int) : (Instr.checkKey b 10000 3 (.int .i64 k)).run Tryz.prog w = .ok () w := by
 kernel_rfl
def j4s (w : World) (b : Nat) (o : Obj) : World := { w with heap := w.heap.setIfInBounds b o }
def j6o (b : Nat) (w w' : World) : Prop := w'.os = w.os /\ w'.tape = w.tape /\ w'.output = w.output /\ w'.heap.size = w.heap.size /\ ∀ k, k ≠ b -> w'.heap[k]? = w.heap[k]?
theorem j0v (w : World) (b : Nat) (o : Obj) : j6o b w (j4s w b o) :=
 ⟨rfl, rfl, rfl, by simp [j4s], fun k hk => by simp [j4s, Array.getElem?_setIfInBounds, Ne.symm hk]⟩
theorem MM.push {κ υ : Type} {ek : κ -> Value} {ev : υ -> Value} {w : World} {b : Nat} {l : List (κ × υ)} {es : Array MapEntry} {clock : Nat} (hb : w.heap[b]? = some (.map es clock)) (he : es.toList.map (fun e => (e.key, e.val)) = l.map (fun p => (ek p.1, ev p.2))) (k : κ) (v : υ) :
  MM ek ev (j4s w b (.map (es.push { key := ek k, val := ev v, born := clock }) (clock + 1))) b (l ++ [(k, v)]) := by
 refine ⟨es.push { key := ek k, val := ev v, born := clock }, clock + 1, ?_, ?_⟩
 ·have hlt := (Array.getElem?_eq_some_iff.1 hb).1
  simp [j4s, Array.getElem?_setIfInBounds, hlt]
 ·simp [he]
theorem q7b {w : World} {b : Nat} {l : List (Int × Clo)} (h : MM ekI evF w b l) (k : Int) (hk : l.lookup k = none) (s : Clo) :
  ∃ w', (Instr.mapUpdate 112 (.map (some b)) (.int .i64 k) (evF s)).run Tryz.prog w = .ok () w' /\ MM ekI evF w' b (l ++ [(k, s)]) /\ j6o b w w' := by
 obtain ⟨es, c, hb, he⟩ := h
 obtain ⟨r, hr, hr2⟩ := q7u (.int .i64) ekI evF j6n k es.toList l 0 he
 have hu := run_underlying (Tryz.underlying112) (w := w)
 have hi := run_underlying (Tryz.underlying3) (w := w)
 rw [hk] at hr2
 obtain rfl : r = none := by cases r <;> simp_all
 have hfk : (Instr.findKey 3 (.int .i64 k) es.toList).run Tryz.prog w = .ok none w := by
  simp [Instr.findKey, hi]
  have hr' : Instr.findNow (TypeDesc.int IntKind.i64) (.int .i64 k) es.toList 0 = some none := hr
  rw [hr']; rfl
 refine ⟨j4s w b _, ?_, MM.push hb he k s, j0v _ _ _⟩
 simp [Instr.mapUpdate, hu, MapKept.run_getObj_map hb, j2m, hfk, MapKept.run_setObj_map _ hb, Result.andThen, j4s, ekI]
theorem z9s {w : World} {b : Nat} {l : List (Int × Clo)} (h : MM ekI evF w b l) (k : Int) {v : Clo} (hlk : l.lookup k = some v) :
  (Instr.lookup 112 (.map (some b)) (.int .i64 k) false).run Tryz.prog w = .ok (evF v) w := by
 obtain ⟨es, c, hb, he⟩ := h
 obtain ⟨r, hr, hr2⟩ := q7u (.int .i64) ekI evF j6n k es.toList l 0 he
 have hu := run_underlying (Tryz.underlying112) (w := w)
 have hi := run_underlying (Tryz.underlying3) (w := w)
 have hfk : (Instr.findKey 3 (.int .i64 k) es.toList).run Tryz.prog w = .ok r w := by
  simp [Instr.findKey, hi]
  have hr' : Instr.findNow (TypeDesc.int IntKind.i64) (.int .i64 k) es.toList 0 = some r := hr
  rw [hr']; rfl
 rw [hlk] at hr2
 obtain ⟨j, rfl⟩ : ∃ j, r = some (j, evF v) := by
  cases r with
  | none => simp at hr2
  | some q => obtain ⟨j, u⟩ := q; simp at hr2; exact ⟨j, by rw [hr2]⟩
 simp [Instr.lookup, hu, MapKept.run_getObj_map hb, j2m, hfk, Result.andThen]
theorem x3j (vb : Nat) (vl : Int) (h0 : -9223372036854775808 <= vl) (h1 : vl <= 9223372036854775807) (w : World) (hp : P10 w) (hv : w.cell? ⟨vb, 3, none⟩ = some (.int .i64 vl)) (lb : vb < w.heap.size) : Calls Tryz.prog 82 #[.pointer (some ⟨vb, 0, none⟩)] w fun e w' => e = .returned (.string ⟨(Lib.itoa vl).toArray⟩) /\ Below w.heap.size w w' := by
 have HC := q0h (z5g vl h0 h1 w hp)
 clear hp
 go_enter Tryz.func82, Tryz.ntmps82
 go_wp2_with fail
 refine HC.out.mono ?_
 rintro e w1 ⟨rfl, hb⟩
 have HB := q0h hb
 clear hb
 go_wp2_with fail
 go_ret
 exact ⟨rfl, HB.out⟩
theorem x3k (vb : Nat) (vl : Int) (h0 : -9223372036854775808 <= vl) (h1 : vl <= 9223372036854775807) (w : World) (hp : P10 w) (hv : w.cell? ⟨vb, 3, none⟩ = some (.int .i64 vl)) (lb : vb < w.heap.size) : Calls Tryz.prog 83 #[.pointer (some ⟨vb, 0, none⟩)] w fun e w' => e = .returned (.string ⟨(q4o vl).toArray⟩) /\ Below w.heap.size w w' := by
 have HC := q0h (z1k vl h0 h1 w hp)
 clear hp
 go_enter Tryz.func83, Tryz.ntmps83
 go_wp2_with fail
 refine HC.out.mono ?_
 rintro e w1 ⟨rfl, hb⟩
 have HB := q0h hb
 clear hb
 go_wp2_with fail
 go_ret
 exact ⟨rfl, HB.out⟩
theorem x3l (w : World) : Calls Tryz.prog 85 #[] w fun e w' => e = .returned (.string ⟨#[116, 114, 117, 101]⟩) /\ Below w.heap.size w w' := by
 go_enter Tryz.func85, Tryz.ntmps85
 go_wp2_with fail
 all_goals go_ret
 all_goals exact ⟨rfl, Below.refl _ _⟩
theorem x6p : q1k 82 := fun args w => by kernel_rfl
theorem x6q : q1k 83 := fun args w => by kernel_rfl
theorem x6r : q1k 85 := fun args w => by kernel_rfl
theorem z0x {w w1 w2 w3 : World} {o : Obj} (h1 : j6o w.heap.size (w.alloc o) w1) (h2 : j6o w.heap.size w1 w2) (h3 : j6o w.heap.size w2 w3) : Below w.heap.size w w3 := by
 obtain ⟨a1, a2, a3, a4, a5⟩ := h1
 obtain ⟨b1, b2, b3, b4, b5⟩ := h2
 obtain ⟨c1, c2, c3, c4, c5⟩ := h3
 have hs : (w.alloc o).heap.size = w.heap.size + 1 := by simp
 exact ⟨c1.trans (b1.trans (a1.trans rfl)), c2.trans (b2.trans (a2.trans rfl)), c3.trans (b3.trans (a3.trans rfl)), by omega, fun k hk => (c5 k (by omega)).trans ((b5 k (by omega)).trans ((a5 k (by omega)).trans (Below.heap_alloc _ _ _ hk)))⟩
theorem x6s (v : Vr) (p : List UInt8) : z0n v p = p ++ ([118, 97, 114, 32] ++ toL v.name ++ [58, 32]) ++ (if 0 < v.size then [91] ++ Lib.itoa v.size ++ [93, 32] else []) ++ tyT v.type ++ (if v.value = 0 then [] else [32, 61, 32] ++ (if v.type = 1 then Lib.itoa v.value else if v.type = 2 then q4o v.value else [116, 114, 117, 101])) ++ [59, 10] := by
 unfold z0n
 simp only [List.append_assoc]
theorem x6t (v : Vr) (hk : q6x v = true) (hv : -9223372036854775808 <= v.value /\ v.value <= 9223372036854775807) (w0 : World) (B b lv : Nat) (p : List UInt8) (w : World) (hg : GW w0) (h0 : w0.heap.size <= B) (hb : Below w0.heap.size w0 w) (hp : Pg B b p lv w) (hl : (z0n v p).length <= LIM) :
  Calls Tryz.prog 40 #[.pointer (some ⟨b, 0, none⟩), .agg #[.string v.name, .int .i64 v.type, .int .i64 v.size, .int .i64 v.value, .int .i64 v.at_]] w fun e' w' => e' = .returned (.tuple #[]) /\ Pg B b (z0n v p) lv w' /\ PF B b w w' := by
 obtain ⟨r, hr⟩ : ∃ r, r = z0n v p := ⟨_, rfl⟩
 rw [<- hr] at hl ⊢
 rw [x6s] at hr
 rw [j2l] at hk
 obtain ⟨s, ty, sz, vl, a⟩ := v
 simp only at hr hk hv ⊢
 have hty : 1 <= ty /\ ty <= 4 := by
  have h5 : q1c ty = true := by
   split at hk
   ·simp only [Bool.and_eq_true] at hk; exact hk.1.1.1.2
   ·split at hk
    ·simp only [Bool.and_eq_true] at hk; exact hk.1.1.1.2
    ·simp only [Bool.and_eq_true] at hk; exact hk.1.1.1.2
  unfold q1c at h5
  simpa using h5
 have hsz : 0 <= sz /\ sz <= 256 := by
  split at hk
  ·simp only [Bool.and_eq_true, decide_eq_true_eq] at hk; exact ⟨hk.1.1.2, hk.1.2⟩
  ·split at hk
   ·simp only [Bool.and_eq_true, decide_eq_true_eq] at hk; exact ⟨hk.1.1.2, hk.1.2⟩
   ·simp only [Bool.and_eq_true, decide_eq_true_eq] at hk; exact ⟨hk.1.1.2, hk.1.2⟩
 have hz : (sz > 0 \/ ty = 4) -> vl = 0 := fun h => by
  rw [if_pos h] at hk
  simp only [Bool.and_eq_true, beq_iff_eq] at hk
  exact hk.2
 obtain ⟨W, hW⟩ : ∃ W, W = w.alloc (.cells #[.string s, .int .i64 ty, .int .i64 sz, .int .i64 vl, .int .i64 a] 40) := ⟨_, rfl⟩
 obtain ⟨bk, hbk⟩ : ∃ x, x = w.heap.size := ⟨_, rfl⟩
 have hba : Below w.heap.size w W := by rw [hW]; exact q0d (Below.refl _ _) _
 have hm : W.heap[bk]? = some (.cells #[.string s, .int .i64 ty, .int .i64 sz, .int .i64 vl, .int .i64 a] 40 (0, 0)) := by rw [hW, hbk]; exact heap_alloc_new _ _
 have HPW := q0h (hp.below hba)
 have HFW := q0h (PF.of_below (b := b) hba hp.bw)
 have HE0 := q0h (PF.refl B b W)
 have HBW := q0h (hb.trans (hba.mono hb.size))
 have HM := q0h hm
 have HBB := q0h (show bk ≠ b from by have := hp.lt; omega)
 have HW := q0h hW
 have HBK := q0h hbk
 have HL := q0h hl
 have H0 := q0h h0
 have HG := q0h hg
 have HR := q0h hr
 have z0 : W.cell? ⟨bk, 0, none⟩ = some (.string s) := (q0a hm 0).trans rfl
 have z1 : W.cell? ⟨bk, 1, none⟩ = some (.int .i64 ty) := (q0a hm 1).trans rfl
 have z2 : W.cell? ⟨bk, 2, none⟩ = some (.int .i64 sz) := (q0a hm 2).trans rfl
 have z3 : W.cell? ⟨bk, 3, none⟩ = some (.int .i64 vl) := (q0a hm 3).trans rfl
 have z4 : W.cell? ⟨bk, 4, none⟩ = some (.int .i64 a) := (q0a hm 4).trans rfl
 have lb := q0c hm
 clear hba hm hW hbk hp hb hl h0 hg hr hk
 by_cases x1 : 0 < sz
 ·have x2 : vl = 0 := hz (Or.inl x1)
  clear hz
  have HX := q0h (show r = p ++ ([118, 97, 114, 32] ++ toL s ++ [58, 32]) ++ ([91] ++ Lib.itoa sz ++ [93, 32]) ++ tyT ty ++ [59, 10] by rw [HR.out]; simp only [if_pos x1, if_pos x2, List.append_nil])
  have HLX := q0h (show (p ++ ([118, 97, 114, 32] ++ toL s ++ [58, 32]) ++ ([91] ++ Lib.itoa sz ++ [93, 32]) ++ tyT ty ++ [59, 10]).length <= LIM by rw [<- HX.out]; exact HL.out)
  have X2 := q0h x2
  clear x2
  clear HR HL
  go_enter Tryz.func40, Tryz.ntmps40
  go_upto_region 1 with fail
  rw [<- HW.out, <- HBK.out]
  have hx2 : (vl != 0) = false := by simpa using X2.out
  go_wp2_with fail
  clear z0 z1 z2 z3 z4 lb
  refine (q0j HPW.out [⟨#[118, 97, 114, 32]⟩, s, ⟨#[58, 32]⟩] 3 rfl (by simp) ([118, 97, 114, 32] ++ toL s ++ [58, 32]) (by simp [q7k, toL]) (by have h5 := HLX.out; simp only [List.length_append] at h5 ⊢; omega)).mono ?_
  rintro e' w1 ⟨rfl, hp', hf'⟩
  have HP1 := q0h hp'
  have HE1 := q0h (HE0.out.trans hf')
  clear hp' hf'
  have hm' := (HE1.out.nb bk (q0c HM.out) HBB.out (q0n HM.out (by decide))).trans HM.out
  have z0 : w1.cell? ⟨bk, 0, none⟩ = some (.string s) := (q0a hm' 0).trans rfl
  have z1 : w1.cell? ⟨bk, 1, none⟩ = some (.int .i64 ty) := (q0a hm' 1).trans rfl
  have z2 : w1.cell? ⟨bk, 2, none⟩ = some (.int .i64 sz) := (q0a hm' 2).trans rfl
  have z3 : w1.cell? ⟨bk, 3, none⟩ = some (.int .i64 vl) := (q0a hm' 3).trans rfl
  have z4 : w1.cell? ⟨bk, 4, none⟩ = some (.int .i64 a) := (q0a hm' 4).trans rfl
  have lb := q0c hm'
  clear hm'
  have HBa := q0h (HBW.out.trans (HE1.out.be.mono H0.out))
  go_wp2_with fail
  refine (z5g sz (by omega) (by omega) w1 (HG.out.at HBa.out).p10).mono ?_
  rintro e' wi ⟨rfl, hbi⟩
  have HPi := q0h (HP1.out.below hbi)
  have HEi := q0h (HE1.out.trans (PF.of_below (b := b) hbi HP1.out.bw))
  clear hbi
  clear z0 z1 z2 z3 z4 lb
  go_wp2_with fail
  refine (q0j HPi.out [⟨#[91]⟩, ⟨(Lib.itoa sz).toArray⟩, ⟨#[93, 32]⟩] 3 rfl (by simp) ([91] ++ Lib.itoa sz ++ [93, 32]) (by simp [q7k, toL]) (by have h5 := HLX.out; simp only [List.length_append] at h5 ⊢; omega)).mono ?_
  rintro e' w2 ⟨rfl, hp', hf'⟩
  have HP2 := q0h hp'
  have HE2 := q0h (HEi.out.trans hf')
  clear hp' hf'
  have hm' := (HE2.out.nb bk (q0c HM.out) HBB.out (q0n HM.out (by decide))).trans HM.out
  have z0 : w2.cell? ⟨bk, 0, none⟩ = some (.string s) := (q0a hm' 0).trans rfl
  have z1 : w2.cell? ⟨bk, 1, none⟩ = some (.int .i64 ty) := (q0a hm' 1).trans rfl
  have z2 : w2.cell? ⟨bk, 2, none⟩ = some (.int .i64 sz) := (q0a hm' 2).trans rfl
  have z3 : w2.cell? ⟨bk, 3, none⟩ = some (.int .i64 vl) := (q0a hm' 3).trans rfl
  have z4 : w2.cell? ⟨bk, 4, none⟩ = some (.int .i64 a) := (q0a hm' 4).trans rfl
  have lb := q0c hm'
  clear hm'
  have HBb := q0h (HBW.out.trans (HE2.out.be.mono H0.out))
  have hty := z1q (HG.out.at HBb.out) ty (by omega) (by omega)
  go_wp2_with fail
  clear hty
  clear z0 z1 z2 z3 z4 lb
  refine (q0j HP2.out [⟨(tyT ty).toArray⟩] 1 rfl (by simp) (tyT ty) (List.append_nil _) (by have h5 := HLX.out; simp only [List.length_append] at h5 ⊢; omega)).mono ?_
  rintro e' w3 ⟨rfl, hp', hf'⟩
  have HP3 := q0h hp'
  have HE3 := q0h (HE2.out.trans hf')
  clear hp' hf'
  have hm' := (HE3.out.nb bk (q0c HM.out) HBB.out (q0n HM.out (by decide))).trans HM.out
  have z0 : w3.cell? ⟨bk, 0, none⟩ = some (.string s) := (q0a hm' 0).trans rfl
  have z1 : w3.cell? ⟨bk, 1, none⟩ = some (.int .i64 ty) := (q0a hm' 1).trans rfl
  have z2 : w3.cell? ⟨bk, 2, none⟩ = some (.int .i64 sz) := (q0a hm' 2).trans rfl
  have z3 : w3.cell? ⟨bk, 3, none⟩ = some (.int .i64 vl) := (q0a hm' 3).trans rfl
  have z4 : w3.cell? ⟨bk, 4, none⟩ = some (.int .i64 a) := (q0a hm' 4).trans rfl
  have lb := q0c hm'
  clear hm'
  go_wp2_with fail
  clear z0 z1 z2 z3 z4 lb
  refine (q0j HP3.out [⟨#[59, 10]⟩] 1 rfl (by simp) [59, 10] rfl HLX.out).mono ?_
  rintro e' w5 ⟨rfl, hp', hf'⟩
  have HP5 := q0h hp'
  have HE5 := q0h (HE3.out.trans hf')
  clear hp' hf'
  go_wp2_with fail
  go_end0
  exact ⟨rfl, by rw [HX.out]; exact HP5.out, HFW.out.trans HE5.out⟩
 by_cases x2 : vl = 0
 ·clear hz
  have HX := q0h (show r = p ++ ([118, 97, 114, 32] ++ toL s ++ [58, 32]) ++ tyT ty ++ [59, 10] by rw [HR.out]; simp only [if_neg x1, if_pos x2, List.append_nil])
  have HLX := q0h (show (p ++ ([118, 97, 114, 32] ++ toL s ++ [58, 32]) ++ tyT ty ++ [59, 10]).length <= LIM by rw [<- HX.out]; exact HL.out)
  have X2 := q0h x2
  clear x2
  clear HR HL
  go_enter Tryz.func40, Tryz.ntmps40
  go_upto_region 1 with fail
  rw [<- HW.out, <- HBK.out]
  have hx1 : sz <= 0 := by omega
  have hx2 : (vl != 0) = false := by simpa using X2.out
  go_wp2_with fail
  clear z0 z1 z2 z3 z4 lb
  refine (q0j HPW.out [⟨#[118, 97, 114, 32]⟩, s, ⟨#[58, 32]⟩] 3 rfl (by simp) ([118, 97, 114, 32] ++ toL s ++ [58, 32]) (by simp [q7k, toL]) (by have h5 := HLX.out; simp only [List.length_append] at h5 ⊢; omega)).mono ?_
  rintro e' w1 ⟨rfl, hp', hf'⟩
  have HP1 := q0h hp'
  have HE1 := q0h (HE0.out.trans hf')
  clear hp' hf'
  have hm' := (HE1.out.nb bk (q0c HM.out) HBB.out (q0n HM.out (by decide))).trans HM.out
  have z0 : w1.cell? ⟨bk, 0, none⟩ = some (.string s) := (q0a hm' 0).trans rfl
  have z1 : w1.cell? ⟨bk, 1, none⟩ = some (.int .i64 ty) := (q0a hm' 1).trans rfl
  have z2 : w1.cell? ⟨bk, 2, none⟩ = some (.int .i64 sz) := (q0a hm' 2).trans rfl
  have z3 : w1.cell? ⟨bk, 3, none⟩ = some (.int .i64 vl) := (q0a hm' 3).trans rfl
  have z4 : w1.cell? ⟨bk, 4, none⟩ = some (.int .i64 a) := (q0a hm' 4).trans rfl
  have lb := q0c hm'
  clear hm'
  have HBb := q0h (HBW.out.trans (HE1.out.be.mono H0.out))
  have hty := z1q (HG.out.at HBb.out) ty (by omega) (by omega)
  go_wp2_with fail
  clear hty
  clear z0 z1 z2 z3 z4 lb
  refine (q0j HP1.out [⟨(tyT ty).toArray⟩] 1 rfl (by simp) (tyT ty) (List.append_nil _) (by have h5 := HLX.out; simp only [List.length_append] at h5 ⊢; omega)).mono ?_
  rintro e' w3 ⟨rfl, hp', hf'⟩
  have HP3 := q0h hp'
  have HE3 := q0h (HE1.out.trans hf')
  clear hp' hf'
  have hm' := (HE3.out.nb bk (q0c HM.out) HBB.out (q0n HM.out (by decide))).trans HM.out
  have z0 : w3.cell? ⟨bk, 0, none⟩ = some (.string s) := (q0a hm' 0).trans rfl
  have z1 : w3.cell? ⟨bk, 1, none⟩ = some (.int .i64 ty) := (q0a hm' 1).trans rfl
  have z2 : w3.cell? ⟨bk, 2, none⟩ = some (.int .i64 sz) := (q0a hm' 2).trans rfl
  have z3 : w3.cell? ⟨bk, 3, none⟩ = some (.int .i64 vl) := (q0a hm' 3).trans rfl
  have z4 : w3.cell? ⟨bk, 4, none⟩ = some (.int .i64 a) := (q0a hm' 4).trans rfl
  have lb := q0c hm'
  clear hm'
  go_wp2_with fail
  clear z0 z1 z2 z3 z4 lb
  refine (q0j HP3.out [⟨#[59, 10]⟩] 1 rfl (by simp) [59, 10] rfl HLX.out).mono ?_
  rintro e' w5 ⟨rfl, hp', hf'⟩
  have HP5 := q0h hp'
  have HE5 := q0h (HE3.out.trans hf')
  clear hp' hf'
  go_wp2_with fail
  go_end0
  exact ⟨rfl, by rw [HX.out]; exact HP5.out, HFW.out.trans HE5.out⟩
 have x6 : ty ≠ 4 := fun h => x2 (hz (Or.inr h))
 clear hz
 by_cases x3 : ty = 1
 ·have HX := q0h (show r = p ++ ([118, 97, 114, 32] ++ toL s ++ [58, 32]) ++ tyT ty ++ ([32, 61, 32] ++ (Lib.itoa vl)) ++ [59, 10] by rw [HR.out]; simp only [if_neg x1, if_neg x2, List.append_nil, if_pos x3])
  have HLX := q0h (show (p ++ ([118, 97, 114, 32] ++ toL s ++ [58, 32]) ++ tyT ty ++ ([32, 61, 32] ++ (Lib.itoa vl)) ++ [59, 10]).length <= LIM by rw [<- HX.out]; exact HL.out)
  have X2 := q0h x2
  have X3 : Hid (ty = 1) := x3
  clear x2 x6 x3
  clear HR HL
  go_enter Tryz.func40, Tryz.ntmps40
  go_upto_region 1 with fail
  rw [<- HW.out, <- HBK.out]
  have hx1 : sz <= 0 := by omega
  have hx2 : (vl != 0) = true := by simpa using X2.out
  obtain rfl : ty = 1 := X3.out
  go_wp2_with fail
  clear z0 z1 z2 z3 z4 lb
  refine (q0j HPW.out [⟨#[118, 97, 114, 32]⟩, s, ⟨#[58, 32]⟩] 3 rfl (by simp) ([118, 97, 114, 32] ++ toL s ++ [58, 32]) (by simp [q7k, toL]) (by have h5 := HLX.out; simp only [List.length_append] at h5 ⊢; omega)).mono ?_
  rintro e' w1 ⟨rfl, hp', hf'⟩
  have HP1 := q0h hp'
  have HE1 := q0h (HE0.out.trans hf')
  clear hp' hf'
  have hm' := (HE1.out.nb bk (q0c HM.out) HBB.out (q0n HM.out (by decide))).trans HM.out
  have z0 : w1.cell? ⟨bk, 0, none⟩ = some (.string s) := (q0a hm' 0).trans rfl
  have z1 : w1.cell? ⟨bk, 1, none⟩ = some (.int .i64 1) := (q0a hm' 1).trans rfl
  have z2 : w1.cell? ⟨bk, 2, none⟩ = some (.int .i64 sz) := (q0a hm' 2).trans rfl
  have z3 : w1.cell? ⟨bk, 3, none⟩ = some (.int .i64 vl) := (q0a hm' 3).trans rfl
  have z4 : w1.cell? ⟨bk, 4, none⟩ = some (.int .i64 a) := (q0a hm' 4).trans rfl
  have lb := q0c hm'
  clear hm'
  have HBb := q0h (HBW.out.trans (HE1.out.be.mono H0.out))
  have hty : w1.cell? ⟨0, 1, none⟩ = some (.string ⟨(tyT 1).toArray⟩) := z1q (HG.out.at HBb.out) 1 (by omega) (by omega)
  go_wp2_with fail
  clear hty
  clear z0 z1 z2 z3 z4 lb
  refine (q0j HP1.out [⟨(tyT 1).toArray⟩] 1 rfl (by simp) (tyT 1) (List.append_nil _) (by have h5 := HLX.out; simp only [List.length_append] at h5 ⊢; omega)).mono ?_
  rintro e' w3 ⟨rfl, hp', hf'⟩
  have HP3 := q0h hp'
  have HE3 := q0h (HE1.out.trans hf')
  clear hp' hf'
  have hm' := (HE3.out.nb bk (q0c HM.out) HBB.out (q0n HM.out (by decide))).trans HM.out
  have z0 : w3.cell? ⟨bk, 0, none⟩ = some (.string s) := (q0a hm' 0).trans rfl
  have z1 : w3.cell? ⟨bk, 1, none⟩ = some (.int .i64 1) := (q0a hm' 1).trans rfl
  have z2 : w3.cell? ⟨bk, 2, none⟩ = some (.int .i64 sz) := (q0a hm' 2).trans rfl
  have z3 : w3.cell? ⟨bk, 3, none⟩ = some (.int .i64 vl) := (q0a hm' 3).trans rfl
  have z4 : w3.cell? ⟨bk, 4, none⟩ = some (.int .i64 a) := (q0a hm' 4).trans rfl
  have lb := q0c hm'
  clear hm'
  have HBc := q0h (HBW.out.trans (HE3.out.be.mono H0.out))
  have hmf : ∀ (fn : Fn) (first cap : Array Value) (w : World), (Instr.makeFunc fn first cap).run Tryz.prog w = .ok (.func fn first cap) w := fun _ _ _ _ => rfl
  have hmm := @run_makeMap Tryz.prog
  have hM0 : MM ekI evF (w3.alloc (.map #[] 0)) w3.heap.size [] := ⟨#[], 0, heap_alloc_new _ _, rfl⟩
  obtain ⟨m1, hp1, hM1, hO1⟩ := q7b hM0 1 rfl (82, [.pointer (some ⟨bk, 0, none⟩)])
  obtain ⟨m2, hp2, hM2, hO2⟩ := q7b hM1 2 rfl (83, [.pointer (some ⟨bk, 0, none⟩)])
  obtain ⟨m3, hp3, hM3, hO3⟩ := q7b hM2 3 rfl (85, [])
  have q1 : (Instr.mapUpdate 112 (.map (some w3.heap.size)) (.int .i64 1) (.func (.func 82) #[] #[.pointer (some ⟨bk, 0, none⟩)])).run Tryz.prog (w3.alloc (.map #[] 0)) = .ok () m1 := hp1
  have q2 : (Instr.mapUpdate 112 (.map (some w3.heap.size)) (.int .i64 2) (.func (.func 83) #[] #[.pointer (some ⟨bk, 0, none⟩)])).run Tryz.prog m1 = .ok () m2 := hp2
  have q3 : (Instr.mapUpdate 112 (.map (some w3.heap.size)) (.int .i64 3) (.func (.func 85) #[] #[])).run Tryz.prog m2 = .ok () m3 := hp3
  have hbm := z0x hO1 hO2 hO3
  have HPm := q0h (HP3.out.below hbm)
  have HEm := q0h (HE3.out.trans (PF.of_below (b := b) hbm HP3.out.bw))
  have HBM := q0h hbm
  have gt := z9s hM3 1 (v := (82, [.pointer (some ⟨bk, 0, none⟩)])) rfl
  have gt' : (Instr.lookup 112 (.map (some w3.heap.size)) (.int .i64 1) false).run Tryz.prog m3 = .ok (.func (.func 82) #[] #[.pointer (some ⟨bk, 0, none⟩)]) m3 := gt
  have zz1 := (HBM.out.cell (p := ⟨bk, 1, none⟩) lb).trans z1
  have zz3 := (HBM.out.cell (p := ⟨bk, 3, none⟩) lb).trans z3
  have lbm : bk < m3.heap.size := Nat.lt_of_lt_of_le lb HBM.out.size
  have e1 := x6p
  unfold q1k at e1
  clear hp1 hp2 hp3 hM0 hM1 hM2 hM3 hO1 hO2 hO3 hbm gt
  have HBd := q0h (HBW.out.trans (HEm.out.be.mono H0.out))
  go_wp2_with fail
  refine (x3j bk vl hv.1 hv.2 m3 (HG.out.at HBd.out).p10 zz3 lbm).mono ?_
  rintro e' wi ⟨rfl, hbi⟩
  have HPi := q0h (HPm.out.below hbi)
  have HEi := q0h (HEm.out.trans (PF.of_below (b := b) hbi HPm.out.bw))
  clear hbi zz1 zz3 lbm q1 q2 q3 gt' e1 hmm hmf
  clear z0 z1 z2 z3 z4 lb
  go_wp2_with fail
  refine (q0j HPi.out [⟨#[32, 61, 32]⟩, ⟨(Lib.itoa vl).toArray⟩] 2 rfl (by simp) ([32, 61, 32] ++ (Lib.itoa vl)) (by simp [q7k, toL]) (by have h5 := HLX.out; simp only [List.length_append] at h5 ⊢; omega)).mono ?_
  rintro e' w4 ⟨rfl, hp', hf'⟩
  have HP4 := q0h hp'
  have HE4 := q0h (HEi.out.trans hf')
  clear hp' hf'
  go_wp2_with fail
  refine (q0j HP4.out [⟨#[59, 10]⟩] 1 rfl (by simp) [59, 10] rfl (by have h5 := HLX.out; exact h5)).mono ?_
  rintro e' w5 ⟨rfl, hp', hf'⟩
  have HP5 := q0h hp'
  have HE5 := q0h (HE4.out.trans hf')
  clear hp' hf'
  go_wp2_with fail
  go_end0
  exact ⟨rfl, by rw [HX.out]; exact HP5.out, HFW.out.trans HE5.out⟩
 by_cases x4 : ty = 2
 ·have HX := q0h (show r = p ++ ([118, 97, 114, 32] ++ toL s ++ [58, 32]) ++ tyT ty ++ ([32, 61, 32] ++ (q4o vl)) ++ [59, 10] by rw [HR.out]; simp only [if_neg x1, if_neg x2, List.append_nil, if_neg x3, if_pos x4])
  have HLX := q0h (show (p ++ ([118, 97, 114, 32] ++ toL s ++ [58, 32]) ++ tyT ty ++ ([32, 61, 32] ++ (q4o vl)) ++ [59, 10]).length <= LIM by rw [<- HX.out]; exact HL.out)
  have X2 := q0h x2
  have X3 : Hid (ty = 2) := x4
  clear x2 x6 x3 x4
  clear HR HL
  go_enter Tryz.func40, Tryz.ntmps40
  go_upto_region 1 with fail
  rw [<- HW.out, <- HBK.out]
  have hx1 : sz <= 0 := by omega
  have hx2 : (vl != 0) = true := by simpa using X2.out
  obtain rfl : ty = 2 := X3.out
  go_wp2_with fail
  clear z0 z1 z2 z3 z4 lb
  refine (q0j HPW.out [⟨#[118, 97, 114, 32]⟩, s, ⟨#[58, 32]⟩] 3 rfl (by simp) ([118, 97, 114, 32] ++ toL s ++ [58, 32]) (by simp [q7k, toL]) (by have h5 := HLX.out; simp only [List.length_append] at h5 ⊢; omega)).mono ?_
  rintro e' w1 ⟨rfl, hp', hf'⟩
  have HP1 := q0h hp'
  have HE1 := q0h (HE0.out.trans hf')
  clear hp' hf'
  have hm' := (HE1.out.nb bk (q0c HM.out) HBB.out (q0n HM.out (by decide))).trans HM.out
  have z0 : w1.cell? ⟨bk, 0, none⟩ = some (.string s) := (q0a hm' 0).trans rfl
  have z1 : w1.cell? ⟨bk, 1, none⟩ = some (.int .i64 2) := (q0a hm' 1).trans rfl
  have z2 : w1.cell? ⟨bk, 2, none⟩ = some (.int .i64 sz) := (q0a hm' 2).trans rfl
  have z3 : w1.cell? ⟨bk, 3, none⟩ = some (.int .i64 vl) := (q0a hm' 3).trans rfl
  have z4 : w1.cell? ⟨bk, 4, none⟩ = some (.int .i64 a) := (q0a hm' 4).trans rfl
  have lb := q0c hm'
  clear hm'
  have HBb := q0h (HBW.out.trans (HE1.out.be.mono H0.out))
  have hty : w1.cell? ⟨0, 2, none⟩ = some (.string ⟨(tyT 2).toArray⟩) := z1q (HG.out.at HBb.out) 2 (by omega) (by omega)
  go_wp2_with fail
  clear hty
  clear z0 z1 z2 z3 z4 lb
  refine (q0j HP1.out [⟨(tyT 2).toArray⟩] 1 rfl (by simp) (tyT 2) (List.append_nil _) (by have h5 := HLX.out; simp only [List.length_append] at h5 ⊢; omega)).mono ?_
  rintro e' w3 ⟨rfl, hp', hf'⟩
  have HP3 := q0h hp'
  have HE3 := q0h (HE1.out.trans hf')
  clear hp' hf'
  have hm' := (HE3.out.nb bk (q0c HM.out) HBB.out (q0n HM.out (by decide))).trans HM.out
  have z0 : w3.cell? ⟨bk, 0, none⟩ = some (.string s) := (q0a hm' 0).trans rfl
  have z1 : w3.cell? ⟨bk, 1, none⟩ = some (.int .i64 2) := (q0a hm' 1).trans rfl
  have z2 : w3.cell? ⟨bk, 2, none⟩ = some (.int .i64 sz) := (q0a hm' 2).trans rfl
  have z3 : w3.cell? ⟨bk, 3, none⟩ = some (.int .i64 vl) := (q0a hm' 3).trans rfl
  have z4 : w3.cell? ⟨bk, 4, none⟩ = some (.int .i64 a) := (q0a hm' 4).trans rfl
  have lb := q0c hm'
  clear hm'
  have HBc := q0h (HBW.out.trans (HE3.out.be.mono H0.out))
  have hmf : ∀ (fn : Fn) (first cap : Array Value) (w : World), (Instr.makeFunc fn first cap).run Tryz.prog w = .ok (.func fn first cap) w := fun _ _ _ _ => rfl
  have hmm := @run_makeMap Tryz.prog
  have hM0 : MM ekI evF (w3.alloc (.map #[] 0)) w3.heap.size [] := ⟨#[], 0, heap_alloc_new _ _, rfl⟩
  obtain ⟨m1, hp1, hM1, hO1⟩ := q7b hM0 1 rfl (82, [.pointer (some ⟨bk, 0, none⟩)])
  obtain ⟨m2, hp2, hM2, hO2⟩ := q7b hM1 2 rfl (83, [.pointer (some ⟨bk, 0, none⟩)])
  obtain ⟨m3, hp3, hM3, hO3⟩ := q7b hM2 3 rfl (85, [])
  have q1 : (Instr.mapUpdate 112 (.map (some w3.heap.size)) (.int .i64 1) (.func (.func 82) #[] #[.pointer (some ⟨bk, 0, none⟩)])).run Tryz.prog (w3.alloc (.map #[] 0)) = .ok () m1 := hp1
  have q2 : (Instr.mapUpdate 112 (.map (some w3.heap.size)) (.int .i64 2) (.func (.func 83) #[] #[.pointer (some ⟨bk, 0, none⟩)])).run Tryz.prog m1 = .ok () m2 := hp2
  have q3 : (Instr.mapUpdate 112 (.map (some w3.heap.size)) (.int .i64 3) (.func (.func 85) #[] #[])).run Tryz.prog m2 = .ok () m3 := hp3
  have hbm := z0x hO1 hO2 hO3
  have HPm := q0h (HP3.out.below hbm)
  have HEm := q0h (HE3.out.trans (PF.of_below (b := b) hbm HP3.out.bw))
  have HBM := q0h hbm
  have gt := z9s hM3 2 (v := (83, [.pointer (some ⟨bk, 0, none⟩)])) rfl
  have gt' : (Instr.lookup 112 (.map (some w3.heap.size)) (.int .i64 2) false).run Tryz.prog m3 = .ok (.func (.func 83) #[] #[.pointer (some ⟨bk, 0, none⟩)]) m3 := gt
  have zz1 := (HBM.out.cell (p := ⟨bk, 1, none⟩) lb).trans z1
  have zz3 := (HBM.out.cell (p := ⟨bk, 3, none⟩) lb).trans z3
  have lbm : bk < m3.heap.size := Nat.lt_of_lt_of_le lb HBM.out.size
  have e1 := x6q
  unfold q1k at e1
  clear hp1 hp2 hp3 hM0 hM1 hM2 hM3 hO1 hO2 hO3 hbm gt
  have HBd := q0h (HBW.out.trans (HEm.out.be.mono H0.out))
  go_wp2_with fail
  refine (x3k bk vl hv.1 hv.2 m3 (HG.out.at HBd.out).p10 zz3 lbm).mono ?_
  rintro e' wi ⟨rfl, hbi⟩
  have HPi := q0h (HPm.out.below hbi)
  have HEi := q0h (HEm.out.trans (PF.of_below (b := b) hbi HPm.out.bw))
  clear hbi zz1 zz3 lbm q1 q2 q3 gt' e1 hmm hmf
  clear z0 z1 z2 z3 z4 lb
  go_wp2_with fail
  refine (q0j HPi.out [⟨#[32, 61, 32]⟩, ⟨(q4o vl).toArray⟩] 2 rfl (by simp) ([32, 61, 32] ++ (q4o vl)) (by simp [q7k, toL]) (by have h5 := HLX.out; simp only [List.length_append] at h5 ⊢; omega)).mono ?_
  rintro e' w4 ⟨rfl, hp', hf'⟩
  have HP4 := q0h hp'
  have HE4 := q0h (HEi.out.trans hf')
  clear hp' hf'
  go_wp2_with fail
  refine (q0j HP4.out [⟨#[59, 10]⟩] 1 rfl (by simp) [59, 10] rfl (by have h5 := HLX.out; exact h5)).mono ?_
  rintro e' w5 ⟨rfl, hp', hf'⟩
  have HP5 := q0h hp'
  have HE5 := q0h (HE4.out.trans hf')
  clear hp' hf'
  go_wp2_with fail
  go_end0
  exact ⟨rfl, by rw [HX.out]; exact HP5.out, HFW.out.trans HE5.out⟩
 have x5 : ty = 3 := by omega
 have HX := q0h (show r = p ++ ([118, 97, 114, 32] ++ toL s ++ [58, 32]) ++ tyT ty ++ ([32, 61, 32] ++ [116, 114, 117, 101]) ++ [59, 10] by rw [HR.out]; simp only [if_neg x1, if_neg x2, List.append_nil, if_neg x3, if_neg x4])
 have HLX := q0h (show (p ++ ([118, 97, 114, 32] ++ toL s ++ [58, 32]) ++ tyT ty ++ ([32, 61, 32] ++ [116, 114, 117, 101]) ++ [59, 10]).length <= LIM by rw [<- HX.out]; exact HL.out)
 have X2 := q0h x2
 have X3 : Hid (ty = 3) := x5
 clear x2 x6 x3 x4 x5
 clear HR HL
 go_enter Tryz.func40, Tryz.ntmps40
 go_upto_region 1 with fail
 rw [<- HW.out, <- HBK.out]
 have hx1 : sz <= 0 := by omega
 have hx2 : (vl != 0) = true := by simpa using X2.out
 obtain rfl : ty = 3 := X3.out
 go_wp2_with fail
 clear z0 z1 z2 z3 z4 lb
 refine (q0j HPW.out [⟨#[118, 97, 114, 32]⟩, s, ⟨#[58, 32]⟩] 3 rfl (by simp) ([118, 97, 114, 32] ++ toL s ++ [58, 32]) (by simp [q7k, toL]) (by have h5 := HLX.out; simp only [List.length_append] at h5 ⊢; omega)).mono ?_
 rintro e' w1 ⟨rfl, hp', hf'⟩
 have HP1 := q0h hp'
 have HE1 := q0h (HE0.out.trans hf')
 clear hp' hf'
 have hm' := (HE1.out.nb bk (q0c HM.out) HBB.out (q0n HM.out (by decide))).trans HM.out
 have z0 : w1.cell? ⟨bk, 0, none⟩ = some (.string s) := (q0a hm' 0).trans rfl
 have z1 : w1.cell? ⟨bk, 1, none⟩ = some (.int .i64 3) := (q0a hm' 1).trans rfl
 have z2 : w1.cell? ⟨bk, 2, none⟩ = some (.int .i64 sz) := (q0a hm' 2).trans rfl
 have z3 : w1.cell? ⟨bk, 3, none⟩ = some (.int .i64 vl) := (q0a hm' 3).trans rfl
 have z4 : w1.cell? ⟨bk, 4, none⟩ = some (.int .i64 a) := (q0a hm' 4).trans rfl
 have lb := q0c hm'
 clear hm'
 have HBb := q0h (HBW.out.trans (HE1.out.be.mono H0.out))
 have hty : w1.cell? ⟨0, 3, none⟩ = some (.string ⟨(tyT 3).toArray⟩) := z1q (HG.out.at HBb.out) 3 (by omega) (by omega)
 go_wp2_with fail
 clear hty
 clear z0 z1 z2 z3 z4 lb
 refine (q0j HP1.out [⟨(tyT 3).toArray⟩] 1 rfl (by simp) (tyT 3) (List.append_nil _) (by have h5 := HLX.out; simp only [List.length_append] at h5 ⊢; omega)).mono ?_
 rintro e' w3 ⟨rfl, hp', hf'⟩
 have HP3 := q0h hp'
 have HE3 := q0h (HE1.out.trans hf')
 clear hp' hf'
 have hm' := (HE3.out.nb bk (q0c HM.out) HBB.out (q0n HM.out (by decide))).trans HM.out
 have z0 : w3.cell? ⟨bk, 0, none⟩ = some (.string s) := (q0a hm' 0).trans rfl
 have z1 : w3.cell? ⟨bk, 1, none⟩ = some (.int .i64 3) := (q0a hm' 1).trans rfl
 have z2 : w3.cell? ⟨bk, 2, none⟩ = some (.int .i64 sz) := (q0a hm' 2).trans rfl
 have z3 : w3.cell? ⟨bk, 3, none⟩ = some (.int .i64 vl) := (q0a hm' 3).trans rfl
 have z4 : w3.cell? ⟨bk, 4, none⟩ = some (.int .i64 a) := (q0a hm' 4).trans rfl
 have lb := q0c hm'
 clear hm'
 have HBc := q0h (HBW.out.trans (HE3.out.be.mono H0.out))
 have hmf : ∀ (fn : Fn) (first cap : Array Value) (w : World), (Instr.makeFunc fn first cap).run Tryz.prog w = .ok (.func fn first cap) w := fun _ _ _ _ => rfl
 have hmm := @run_makeMap Tryz.prog
 have hM0 : MM ekI evF (w3.alloc (.map #[] 0)) w3.heap.size [] := ⟨#[], 0, heap_alloc_new _ _, rfl⟩
 obtain ⟨m1, hp1, hM1, hO1⟩ := q7b hM0 1 rfl (82, [.pointer (some ⟨bk, 0, none⟩)])
 obtain ⟨m2, hp2, hM2, hO2⟩ := q7b hM1 2 rfl (83, [.pointer (some ⟨bk, 0, none⟩)])
 obtain ⟨m3, hp3, hM3, hO3⟩ := q7b hM2 3 rfl (85, [])
 have q1 : (Instr.mapUpdate 112 (.map (some w3.heap.size)) (.int .i64 1) (.func (.func 82) #[] #[.pointer (some ⟨bk, 0, none⟩)])).run Tryz.prog (w3.alloc (.map #[] 0)) = .ok () m1 := hp1
 have q2 : (Instr.mapUpdate 112 (.map (some w3.heap.size)) (.int .i64 2) (.func (.func 83) #[] #[.pointer (some ⟨bk, 0, none⟩)])).run Tryz.prog m1 = .ok () m2 := hp2
 have q3 : (Instr.mapUpdate 112 (.map (some w3.heap.size)) (.int .i64 3) (.func (.func 85) #[] #[])).run Tryz.prog m2 = .ok () m3 := hp3
 have hbm := z0x hO1 hO2 hO3
 have HPm := q0h (HP3.out.below hbm)
 have HEm := q0h (HE3.out.trans (PF.of_below (b := b) hbm HP3.out.bw))
 have HBM := q0h hbm
 have gt := z9s hM3 3 (v := (85, [])) rfl
 have gt' : (Instr.lookup 112 (.map (some w3.heap.size)) (.int .i64 3) false).run Tryz.prog m3 = .ok (.func (.func 85) #[] #[]) m3 := gt
 have zz1 := (HBM.out.cell (p := ⟨bk, 1, none⟩) lb).trans z1
 have zz3 := (HBM.out.cell (p := ⟨bk, 3, none⟩) lb).trans z3
 have lbm : bk < m3.heap.size := Nat.lt_of_lt_of_le lb HBM.out.size
 have e1 := x6r
 unfold q1k at e1
 clear hp1 hp2 hp3 hM0 hM1 hM2 hM3 hO1 hO2 hO3 hbm gt
 have HBd := q0h (HBW.out.trans (HEm.out.be.mono H0.out))
 go_wp2_with fail
 refine (x3l m3).mono ?_
 rintro e' wi ⟨rfl, hbi⟩
 have HPi := q0h (HPm.out.below hbi)
 have HEi := q0h (HEm.out.trans (PF.of_below (b := b) hbi HPm.out.bw))
 clear hbi zz1 zz3 lbm q1 q2 q3 gt' e1 hmm hmf
 clear z0 z1 z2 z3 z4 lb
 go_wp2_with fail
 refine (q0j HPi.out [⟨#[32, 61, 32]⟩, ⟨#[116, 114, 117, 101]⟩] 2 rfl (by simp) ([32, 61, 32] ++ [116, 114, 117, 101]) (by simp [q7k, toL]) (by have h5 := HLX.out; simp only [List.length_append] at h5 ⊢; omega)).mono ?_
 rintro e' w4 ⟨rfl, hp', hf'⟩
 have HP4 := q0h hp'
 have HE4 := q0h (HEi.out.trans hf')
 clear hp' hf'
 go_wp2_with fail
 refine (q0j HP4.out [⟨#[59, 10]⟩] 1 rfl (by simp) [59, 10] rfl (by have h5 := HLX.out; exact h5)).mono ?_
 rintro e' w5 ⟨rfl, hp', hf'⟩
 have HP5 := q0h hp'
 have HE5 := q0h (HE4.out.trans hf')
 clear hp' hf'
 go_wp2_with fail
 go_end0
 exact ⟨rfl, by rw [HX.out]; exact HP5.out, HFW.out.trans HE5.out⟩
theorem j6p (v : Vr) (p : List UInt8) : p.length <= (z0n v p).length := by
 rw [x6s]
 simp only [List.length_append]
 omega
theorem x6u : ∀ (l : List Vr) (p : List UInt8), p.length <= (l.foldl (fun p v => z0n v p) p).length
 | [], _ => Nat.le_refl _
 | v :: l, p => Nat.le_trans (j6p v p) (x6u l _)
theorem z0d : ∀ (l : List Pm) (b : Bool) (p : List UInt8), p.length <= (q2e l b p).length
 | [], _, _ => Nat.le_refl _
 | x :: l, b, p => by
  unfold q2e
  refine Nat.le_trans ?_ (z0d l true _)
  split <;> simp only [List.length_append] <;> omega
theorem j4t (f : Fc) (p : List UInt8) : p.length <= (q6i f p).length := by
 unfold q6i
 dsimp only
 rw [q4r, List.length_append]
 have h1 := z0d f.params false (p ++ [102, 110, 32] ++ toL f.name ++ [40])
 have h2 := (q5z (q4x f.body) 0 (if f.type = 0 then q2e f.params false (p ++ [102, 110, 32] ++ toL f.name ++ [40]) ++ [41] else q2e f.params false (p ++ [102, 110, 32] ++ toL f.name ++ [40]) ++ [41] ++ [58, 32] ++ tyT f.type)).2
 have h3 : (q2e f.params false (p ++ [102, 110, 32] ++ toL f.name ++ [40])).length <= (if f.type = 0 then q2e f.params false (p ++ [102, 110, 32] ++ toL f.name ++ [40]) ++ [41] else q2e f.params false (p ++ [102, 110, 32] ++ toL f.name ++ [40]) ++ [41] ++ [58, 32] ++ tyT f.type).length := by
  split <;> simp only [List.length_append] <;> omega
 simp only [List.length_append] at h1
 omega
theorem z5m : ∀ (l : List Fc) (p : List UInt8), p.length <= (q5w l p).length
 | [], _ => Nat.le_refl _
 | f :: l, p => by
  unfold q5w
  split
  ·exact Nat.le_refl _
  ·exact Nat.le_trans (j4t f p) (z5m l _)
theorem z9t (x : Pm) (l : List Pm) (b : Bool) (p : List UInt8) : q2e (x :: l) b p = q2e l true ((if b then p ++ [44, 32] else p) ++ (toL x.name ++ [58, 32] ++ tyT x.type)) := by
 rw [q2e]
 simp only [List.append_assoc]
theorem j0w (nm : ByteArray) (ps : List Pm) (ty : Int) (bd : List St) (at_ : Int) (lc : List Int) (p : List UInt8) : q6i ⟨nm, ps, ty, bd, at_, lc⟩ p = q3w (bd.map q1f) 0 (if ty = 0 then q2e ps false (p ++ ([102, 110, 32] ++ toL nm ++ [40])) ++ [41] else q2e ps false (p ++ ([102, 110, 32] ++ toL nm ++ [40])) ++ [41] ++ ([58, 32] ++ tyT ty)) ++ [10] := by
 unfold q6i
 dsimp only
 rw [q4r]
 simp only [List.append_assoc]
theorem z5n {α : Type} (l : List α) (z : α) (k : Nat) (h : k < l.length) : l.drop k = l.getD k z :: l.drop (k + 1) := by
 rw [List.drop_eq_getElem_cons h, List.getD_eq_getElem?_getD, List.getElem?_eq_getElem h]
 rfl
structure SmM (m : Md) : Prop where
 v : ∀ v ∈ m.vars, v.name.size <= 1000000000 /\ -9223372036854775808 <= v.value /\ v.value <= 9223372036854775807
 f : ∀ f ∈ m.funcs, smF f
 t : q8l m = true -> (q5l m).length <= LIM
theorem j0x (m : Md) (hk : q8l m = true) (hsm : SmM m) (A A1 : Option Addr) (c c1 : Nat) (w : World) (hV : kVr.C w A m.vars.length m.vars) (hF : kFc.C w A1 m.funcs.length m.funcs) (hg : GW w) :
  Calls Tryz.prog 20 #[.agg #[.slice A m.vars.length c, .slice A1 m.funcs.length c1]] w fun e w' => Below w.heap.size w w' /\ e = .returned (.tuple #[.string ⟨(if q1w (q5l m) then [] else q5l m).toArray⟩, .int .i64 (if q1w (q5l m) then 2 else 0)]) := by
 obtain ⟨T2, hT2⟩ : ∃ t, t = q5l m := ⟨_, rfl⟩
 have HLT := q0h (show T2.length <= LIM by rw [hT2]; exact hsm.t hk)
 have hsv := hsm.v
 have hsf := hsm.f
 rw [<- hT2]
 unfold q5l at hT2
 unfold q8l at hk
 simp only [Bool.and_eq_true, decide_eq_true_eq] at hk
 obtain ⟨⟨⟨hn1, hn2⟩, hav⟩, haf⟩ := hk
 obtain ⟨vs, fs⟩ := m
 simp only at hT2 hn1 hn2 hav haf hsv hsf hV hF ⊢
 obtain ⟨T1, hT1⟩ : ∃ t, t = vs.foldl (fun p v => z0n v p) [] := ⟨_, rfl⟩
 rw [<- hT1] at hT2
 have HLT1 := q0h (show T1.length <= LIM by have := z5m fs T1; rw [<- hT2] at this; exact Nat.le_trans this HLT.out)
 have HT1 := q0h hT1
 have HT2 := q0h hT2
 have HAV := q0h hav
 have HAF := q0h haf
 have HSV := q0h hsv
 have HSF := q0h hsf
 have HV := q0h hV
 have HF := q0h hF
 have HG := q0h hg
 obtain ⟨W, hW⟩ : ∃ W, W = (w.alloc (.cells #[.slice A vs.length c, .slice A1 fs.length c1] 25)).alloc (.cells #[.pointer none, .slice none 0 0, .int .i64 0] 78) := ⟨_, rfl⟩
 obtain ⟨mb, hmb⟩ : ∃ x, x = w.heap.size := ⟨_, rfl⟩
 obtain ⟨pb, hpb⟩ : ∃ x, x = w.heap.size + 1 := ⟨_, rfl⟩
 have hba : Below w.heap.size w W := by rw [hW]; exact q0d (q0d (Below.refl _ _) _) _
 have hm : W.heap[mb]? = some (.cells #[.slice A vs.length c, .slice A1 fs.length c1] 25 (0, 0)) := by rw [hW, hmb]; exact (Below.heap_alloc _ _ _ (by simp)).trans (heap_alloc_new _ _)
 have hpm : W.heap[pb]? = some (.cells #[.pointer none, .slice none 0 0, .int .i64 0] 78 (0, 0)) := by
  have h := heap_alloc_new (w.alloc (.cells #[.slice A vs.length c, .slice A1 fs.length c1] 25)) (.cells #[.pointer none, .slice none 0 0, .int .i64 0] 78)
  rw [show (w.alloc (.cells #[.slice A vs.length c, .slice A1 fs.length c1] 25)).heap.size = pb by rw [hpb]; simp] at h
  rw [hW]; exact h
 have HPW := q0h (show Pg w.heap.size pb [] 0 W from ⟨j4d, by omega, hba.size, .pointer none, .slice none 0 0, hpm, .inl rfl, World.ownsRow_nil _ _ _ _⟩)
 have HE0 := q0h (PF.refl w.heap.size pb W)
 have HBW := q0h hba
 have HM := q0h hm
 have HMP := q0h (show mb ≠ pb by omega)
 have HW := q0h hW
 have HMB := q0h hmb
 have HPB := q0h hpb
 have H0 := q0h (Nat.le_refl w.heap.size)
 have z0 : W.cell? ⟨mb, 0, none⟩ = some (.slice A vs.length c) := (q0a hm 0).trans rfl
 have z1 : W.cell? ⟨mb, 1, none⟩ = some (.slice A1 fs.length c1) := (q0a hm 1).trans rfl
 have lz := q0c hm
 clear hba hm hpm hW hmb hpb hg hV hF hsv hsf hav haf hT1 hT2 hsm
 go_enter Tryz.func20, Tryz.ntmps20
 go_upto_region 2 with fail
 rw [<- HW.out, <- HPB.out, <- HMB.out]
 go_wp2_with fail
 clear z0 z1 lz
 go_loopg [14] (vs.length + 1) (fun g vi wr => ∃ (k : Nat) (bs : List UInt8), k + g = vs.length + 1 /\ k <= vs.length /\ vi = .int .i64 k /\ Hid (Pg w.heap.size pb bs 0 wr) /\ Hid (PF w.heap.size pb W wr) /\ Hid ((vs.drop k).foldl (fun p v => z0n v p) bs = T1))
 case atStart => exact ⟨0, [], by omega, by omega, rfl, HPW, HE0, HT1.out.symm⟩
 case round =>
  obtain ⟨k, bs, hkg, hk, rfl, HPr, HEr, HT⟩ := hrel
  cases gk with
  | zero => exfalso; omega
  | succ g =>
   by_cases hlt : k < vs.length
   ·obtain ⟨ad, s, a, b0, cc, d, hA, HKx, y0, y1, y2, y3, y4⟩ := x9q HV.out k hlt
    subst hA
    obtain ⟨x, hx⟩ : ∃ x, x = vs.getD k zVr := ⟨_, rfl⟩
    have hmx := q1a vs zVr k hlt x hx
    rw [<- hx] at HKx
    have hcx := q9z HKx.out
    have HCX := q0h hcx
    have HST := q0h (show (vs.drop (k + 1)).foldl (fun p v => z0n v p) (z0n x bs) = T1 by
     rw [<- HT.out, z5n vs zVr k hlt, List.foldl_cons, hx])
    have HLX := q0h (show (z0n x bs).length <= LIM by have h5 := x6u (vs.drop (k + 1)) (z0n x bs); rw [HST.out] at h5; exact Nat.le_trans h5 HLT1.out)
    have HVX := q0h (show q6x x = true /\ -9223372036854775808 <= x.value /\ x.value <= 9223372036854775807 from ⟨List.all_eq_true.1 HAV.out x hmx, (HSV.out x hmx).2⟩)
    have HBr := q0h (HBW.out.trans HEr.out.be)
    have u0 := q0b HBr.out y0
    have u1 := q0b HBr.out y1
    have u2 := q0b HBr.out y2
    have u3 := q0b HBr.out y3
    have u4 := q0b HBr.out y4
    obtain ⟨eb, heb⟩ : ∃ x, x = wr.heap.size := ⟨_, rfl⟩
    obtain ⟨W3, hW3⟩ : ∃ x, x = wr.alloc (.cells #[.string s, .int .i64 a, .int .i64 b0, .int .i64 cc, .int .i64 d] 40) := ⟨_, rfl⟩
    have hm3 : W3.heap[eb]? = some (.cells #[.string s, .int .i64 a, .int .i64 b0, .int .i64 cc, .int .i64 d] 40 (0, 0)) := by rw [hW3, heb]; exact heap_alloc_new _ _
    have hb3 : Below wr.heap.size wr W3 := by rw [hW3]; exact q0d (Below.refl _ _) _
    have HM3 := q0h hm3
    have HP3 := q0h (HPr.out.below hb3)
    have HE3 := q0h (HEr.out.trans (PF.of_below (b := pb) hb3 HPr.out.bw))
    have HB3 := q0h (HBr.out.trans (hb3.mono HBr.out.size))
    have HNE := q0h (show eb ≠ pb from by have := HPr.out.lt; omega)
    have HW3 := q0h hW3
    have HEB := q0h heb
    clear hm3 hb3 hW3 heb
    clear hx hmx hcx y0 y1 y2 y3 y4
    go_upto_region 5 with fail
    rw [<- HW3.out, <- HEB.out]
    have e0 : W3.cell? ⟨eb, 0, none⟩ = some (.string s) := (q0a HM3.out 0).trans rfl
    have e1 : W3.cell? ⟨eb, 1, none⟩ = some (.int .i64 a) := (q0a HM3.out 1).trans rfl
    have e2 : W3.cell? ⟨eb, 2, none⟩ = some (.int .i64 b0) := (q0a HM3.out 2).trans rfl
    have e3 : W3.cell? ⟨eb, 3, none⟩ = some (.int .i64 cc) := (q0a HM3.out 3).trans rfl
    have e4 : W3.cell? ⟨eb, 4, none⟩ = some (.int .i64 d) := (q0a HM3.out 4).trans rfl
    have le := q0c HM3.out
    go_wp2_with fail
    clear e0 e1 e2 e3 e4 le
    have HAG := q0h (show (Value.agg #[.string s, .int .i64 a, .int .i64 b0, .int .i64 cc, .int .i64 d]) = .agg #[.string x.name, .int .i64 x.type, .int .i64 x.size, .int .i64 x.value, .int .i64 x.at_] from congrArg (fun l : List Value => Value.agg l.toArray) HCX.out)
    rw [HAG.out]
    refine (x6t x HVX.out.1 HVX.out.2 w w.heap.size pb 0 bs W3 HG.out H0.out HB3.out HP3.out HLX.out).mono ?_
    rintro e' w4 ⟨rfl, hp', hf'⟩
    have HP4 := q0h hp'
    have HE4 := q0h (HE3.out.trans hf')
    clear hp' hf'
    go_wp2_with fail
    go_roundg g
    case measure => omega
    case rel => exact ⟨k + 1, z0n x bs, by omega, by omega, by go_num, HP4, HE4, HST⟩
   ·have HTE := q0h (show bs = T1 by
     obtain rfl : k = vs.length := by omega
     rw [<- HT.out, List.drop_length]; rfl)
    rw [HTE.out] at HPr
    have hke : k = vs.length := by omega
    have hm' := (HEr.out.nb _ (q0c HM.out) HMP.out (q0n HM.out (by decide))).trans HM.out
    have z0 : wr.cell? ⟨mb, 0, none⟩ = some (.slice A vs.length c) := (q0a hm' 0).trans rfl
    have z1 : wr.cell? ⟨mb, 1, none⟩ = some (.slice A1 fs.length c1) := (q0a hm' 1).trans rfl
    have lz := q0c hm'
    clear hm'
    go_wp2_with fail
    clear z0 z1 lz hke HT
    have HPv := q0h HPr.out
    have HEv := q0h HEr.out
    go_loopg [24] (fs.length + 1) (fun g vi wr => ∃ (k : Nat) (bs : List UInt8), k + g = fs.length + 1 /\ k <= fs.length /\ vi = .int .i64 k /\ Hid (Pg w.heap.size pb bs 0 wr) /\ Hid (PF w.heap.size pb W wr) /\ Hid (q5w (fs.drop k) bs = T2))
    case atStart => exact ⟨0, T1, by omega, by omega, rfl, HPv, HEv, HT2.out.symm⟩
    case round =>
     clear HPr HEr HTE HPv HEv
     obtain ⟨k, bs, hkg, hk, rfl, HPr, HEr, HT⟩ := hrel
     cases gk with
     | zero => exfalso; omega
     | succ g =>
      by_cases hlt : k < fs.length
      ·obtain ⟨ad, s, P1, n1, d1, ty, P2, n2, d2, at_, P3, n3, d3, hA, HKf, y0, y1, y2, y3, y4, y5⟩ := x9s HF.out k hlt
       subst hA
       obtain ⟨x, hx⟩ : ∃ x, x = fs.getD k zFc := ⟨_, rfl⟩
       have hmx := q1a fs zFc k hlt x hx
       have hokx := List.all_eq_true.1 HAF.out x hmx
       have hsfx := HSF.out x hmx
       rw [<- hx] at HKf
       have hdr := z5n fs zFc k hlt
       rw [<- hx] at hdr
       clear hmx hx
       obtain ⟨nm, ps, fty, bd, fat, lc⟩ := x
       obtain ⟨Q1, e1, Q2, e2, Q3, e3, hce, hPc, hBc⟩ := q7t HKf.out
       cases hce
       unfold q6q at hokx
       simp only [Bool.and_eq_true, decide_eq_true_eq, List.all_eq_true] at hokx
       obtain ⟨⟨⟨⟨hok1, hok2⟩, hok3⟩, hok4⟩, hok5⟩ := hokx
       simp only at hok1 hok2 hok3 hok4 hok5 hPc hBc
       unfold q0t at hok5
       rw [Bool.and_eq_true, q3k, decide_eq_true_eq] at hok5
       have HPC := q0h hPc
       have HBC := q0h hBc
       have HOKP := q0h hok1
       have hbl := hok5.1
       have hfty : 0 <= fty /\ fty <= 4 := by
        rcases Bool.or_eq_true _ _ ▸ hok3 with h | h
        ·have : fty = 0 := by simpa using h
         omega
        ·unfold q1c at h
         have : 1 <= fty /\ fty <= 4 := by simpa using h
         omega
       have HST_ := q0h (show ∀ x ∈ bd, z0w x from fun x hx => j4r (List.all_eq_true.1 hok5.2 x hx) (q6e hsfx.2.2.2 x hx))
       have HS2 := q0h (show (if q1w bs then bs else q5w (fs.drop (k + 1)) (q6i ⟨nm, ps, fty, bd, fat, lc⟩ bs)) = T2 by rw [<- HT.out, hdr]; rfl)
       have HBr := q0h (HBW.out.trans HEr.out.be)
       have u0 := q0b HBr.out y0
       have u1 := q0b HBr.out y1
       have u2 := q0b HBr.out y2
       have u3 := q0b HBr.out y3
       have u4 := q0b HBr.out y4
       have u5 := q0b HBr.out y5
       clear hdr hok1 hok2 hok3 hok5 hsfx hPc hBc y0 y1 y2 y3 y4 y5
       obtain ⟨fb, hfb⟩ : ∃ x, x = wr.heap.size := ⟨_, rfl⟩
       obtain ⟨WF, hWF⟩ : ∃ x, x = wr.alloc (.cells #[.string nm, .slice P1 ps.length d1, .int .i64 fty, .slice P2 bd.length d2, .int .i64 fat, .slice P3 lc.length d3] 46) := ⟨_, rfl⟩
       have hm3 : WF.heap[fb]? = some (.cells #[.string nm, .slice P1 ps.length d1, .int .i64 fty, .slice P2 bd.length d2, .int .i64 fat, .slice P3 lc.length d3] 46 (0, 0)) := by rw [hWF, hfb]; exact heap_alloc_new _ _
       have hb3 : Below wr.heap.size wr WF := by rw [hWF]; exact q0d (Below.refl _ _) _
       have HMF := q0h hm3
       have HPF := q0h (HPr.out.below hb3)
       have HEF3 := q0h (HEr.out.trans (PF.of_below (b := pb) hb3 HPr.out.bw))
       have HBF := q0h (HBr.out.trans (hb3.mono HBr.out.size))
       have HNF := q0h (show fb ≠ pb from by have := HPr.out.lt; omega)
       have HWF := q0h hWF
       have HFB := q0h hfb
       clear hm3 hb3 hWF hfb
       have HEF0 := q0h (PF.refl w.heap.size pb WF)
       go_upto_region 10 with fail
       rw [<- HWF.out, <- HFB.out]
       have hm' := HMF.out
       have f0 : WF.cell? ⟨fb, 0, none⟩ = some (.string nm) := (q0a hm' 0).trans rfl
       have f1 : WF.cell? ⟨fb, 1, none⟩ = some (.slice P1 ps.length d1) := (q0a hm' 1).trans rfl
       have f2 : WF.cell? ⟨fb, 2, none⟩ = some (.int .i64 fty) := (q0a hm' 2).trans rfl
       have f3 : WF.cell? ⟨fb, 3, none⟩ = some (.slice P2 bd.length d2) := (q0a hm' 3).trans rfl
       have f4 : WF.cell? ⟨fb, 4, none⟩ = some (.int .i64 fat) := (q0a hm' 4).trans rfl
       have f5 : WF.cell? ⟨fb, 5, none⟩ = some (.slice P3 lc.length d3) := (q0a hm' 5).trans rfl
       have lf := q0c hm'
       clear hm'
       go_wp2_with fail
       refine (q3o HPF.out).mono ?_
       rintro e' w' ⟨rfl, rfl⟩
       cases hwd : q1w bs with
       | true =>
        have HTE := q0h (show bs = T2 by rw [<- HS2.out, hwd]; rfl)
        rw [HTE.out] at HPF
        clear hwd
        go_wp2_with fail
        refine (q3o HPF.out).mono ?_
        rintro e' w' ⟨rfl, rfl⟩
        cases hwz : q1w T2 with
        | true =>
         go_wp2_with fail
         go_ret2
         exact ⟨HBW.out.trans HEF3.out.be, rfl⟩
        | false =>
         go_wp2_with fail
         refine (q6z HPF.out).mono ?_
         rintro e' wz ⟨rfl, hbz⟩
         have HBZ := q0h ((HBW.out.trans HEF3.out.be).trans hbz)
         clear hbz
         go_wp2_with fail
         all_goals go_ret2
         all_goals exact ⟨HBZ.out, rfl⟩
       | false =>
        have HS3 := q0h (show q5w (fs.drop (k + 1)) (q6i ⟨nm, ps, fty, bd, fat, lc⟩ bs) = T2 by rw [<- HS2.out, hwd]; rfl)
        have HLF := q0h (show (q6i ⟨nm, ps, fty, bd, fat, lc⟩ bs).length <= LIM by have h5 := z5m (fs.drop (k + 1)) (q6i ⟨nm, ps, fty, bd, fat, lc⟩ bs); rw [HS3.out] at h5; exact Nat.le_trans h5 HLT.out)
        obtain ⟨T3, hT3⟩ : ∃ t, t = q2e ps false (bs ++ ([102, 110, 32] ++ toL nm ++ [40])) := ⟨_, rfl⟩
        obtain ⟨q4, hq4⟩ : ∃ t, t = (if fty = 0 then T3 ++ [41] else T3 ++ [41] ++ ([58, 32] ++ tyT fty)) := ⟨_, rfl⟩
        have HFE := q0h (show q6i ⟨nm, ps, fty, bd, fat, lc⟩ bs = q3w (bd.map q1f) 0 q4 ++ [10] by rw [j0w, hq4, hT3])
        have HLB := q0h (show (q3w (bd.map q1f) 0 q4 ++ [10]).length <= LIM by rw [<- HFE.out]; exact HLF.out)
        have HLB2 := q0h (q3f HLB.out)
        have HL4 := q0h (show q4.length <= LIM from Nat.le_trans (q5z (q4x bd) 0 q4).2 HLB2.out)
        have HL3 := q0h (show (T3 ++ [41]).length <= LIM by have h5 := HL4.out; rw [hq4] at h5; split at h5; exact h5; exact q3f h5)
        have HL2 := q0h (show ((bs ++ ([102, 110, 32] ++ toL nm ++ [40]))).length <= LIM by have h5 := z0d ps false (bs ++ ([102, 110, 32] ++ toL nm ++ [40])); rw [<- hT3] at h5; exact Nat.le_trans h5 (q3f HL3.out))
        have HT3 := q0h hT3
        have HQ4 := q0h hq4
        clear hwd hT3 hq4
        go_wp2_with fail
        clear f0 f1 f2 f3 f4 f5 lf
        refine (q0j HPF.out [⟨#[102, 110, 32]⟩, nm, ⟨#[40]⟩] 3 rfl (by simp) ([102, 110, 32] ++ toL nm ++ [40]) (by simp [q7k, toL]) HL2.out).mono ?_
        rintro e' wa ⟨rfl, hp', hf'⟩
        have HPa := q0h hp'
        have HEa := q0h (HEF0.out.trans hf')
        clear hp' hf'
        have hm' := (HEa.out.nb fb (q0c HMF.out) HNF.out (q0n HMF.out (by decide))).trans HMF.out
        have f0 : wa.cell? ⟨fb, 0, none⟩ = some (.string nm) := (q0a hm' 0).trans rfl
        have f1 : wa.cell? ⟨fb, 1, none⟩ = some (.slice P1 ps.length d1) := (q0a hm' 1).trans rfl
        have f2 : wa.cell? ⟨fb, 2, none⟩ = some (.int .i64 fty) := (q0a hm' 2).trans rfl
        have f3 : wa.cell? ⟨fb, 3, none⟩ = some (.slice P2 bd.length d2) := (q0a hm' 3).trans rfl
        have f4 : wa.cell? ⟨fb, 4, none⟩ = some (.int .i64 fat) := (q0a hm' 4).trans rfl
        have f5 : wa.cell? ⟨fb, 5, none⟩ = some (.slice P3 lc.length d3) := (q0a hm' 5).trans rfl
        have lf := q0c hm'
        clear hm'
        go_wp2_with fail
        clear f0 f1 f2 f3 f4 f5 lf
        go_loopg [36] (ps.length + 1) (fun g3 vi wr => ∃ (j : Nat) (bq : List UInt8), j + g3 = ps.length + 1 /\ j <= ps.length /\ vi = .int .i64 j /\ Hid (Pg w.heap.size pb bq 0 wr) /\ Hid (PF w.heap.size pb WF wr) /\ Hid (q2e (ps.drop j) (decide (0 < j)) bq = T3))
        case atStart => exact ⟨0, _, by omega, by omega, rfl, HPa, HEa, HT3.out.symm⟩
        case round =>
         clear HPa HEa
         obtain ⟨j, bq, hjg, hj, rfl, HPq, HEq, HTq⟩ := hrel
         cases gk with
         | zero => exfalso; omega
         | succ g3 =>
          by_cases hjl : j < ps.length
          ·obtain ⟨ap, qs, qt, hA, HKp, y0, y1⟩ := x9r HPC.out j hjl
           subst hA
           have hxp := x1f HKp.out
           have hgp := HOKP.out _ (q1a ps zPm j hjl _ rfl)
           have hdr := z5n ps zPm j hjl
           rw [hxp] at hgp hdr
           have hqt : 1 <= qt /\ qt <= 4 := by
            have h5 := hgp.2
            unfold q1c at h5
            simpa using h5
           have HS5 := q0h (show q2e (ps.drop (j + 1)) true ((if decide (0 < j) then bq ++ [44, 32] else bq) ++ (toL qs ++ [58, 32] ++ tyT qt)) = T3 by rw [<- HTq.out, hdr, z9t])
           have HLQ0 := q0h (show ((if decide (0 < j) then bq ++ [44, 32] else bq) ++ (toL qs ++ [58, 32] ++ tyT qt)).length <= LIM by have h5 := z0d (ps.drop (j + 1)) true ((if decide (0 < j) then bq ++ [44, 32] else bq) ++ (toL qs ++ [58, 32] ++ tyT qt)); rw [HS5.out] at h5; exact Nat.le_trans h5 (q3f HL3.out))
           have HBq := q0h ((HBW.out.trans HEF3.out.be).trans HEq.out.be)
           have u0 := q0b HBq.out y0
           have u1 := q0b HBq.out y1
           clear hxp hgp hdr y0 y1
           obtain ⟨qb, hqb⟩ : ∃ x, x = wr.heap.size := ⟨_, rfl⟩
           obtain ⟨WQ, hWQ⟩ : ∃ x, x = wr.alloc (.cells #[.string qs, .int .i64 qt] 49) := ⟨_, rfl⟩
           have hm3 : WQ.heap[qb]? = some (.cells #[.string qs, .int .i64 qt] 49 (0, 0)) := by rw [hWQ, hqb]; exact heap_alloc_new _ _
           have hb3 : Below wr.heap.size wr WQ := by rw [hWQ]; exact q0d (Below.refl _ _) _
           have HMQ := q0h hm3
           have HPQ := q0h (HPq.out.below hb3)
           have HEQ3 := q0h (HEq.out.trans (PF.of_below (b := pb) hb3 HPq.out.bw))
           have HBQ3 := q0h (HBq.out.trans (hb3.mono HBq.out.size))
           have HNQ := q0h (show qb ≠ pb from by have := HPq.out.lt; omega)
           have HWQ := q0h hWQ
           have HQB := q0h hqb
           clear hm3 hb3 hWQ hqb
           by_cases hj0 : j = 0
           ·have hd : decide (0 < j) = false := decide_eq_false (by omega)
            rw [hd] at HS5 HLQ0
            simp only [Bool.false_eq_true, if_false] at HS5 HLQ0
            have HLQ := q0h HLQ0.out
            have hjj : Hid (j = 0) := hj0
            clear hd hj0
            go_upto_region 15 with fail
            rw [<- HWQ.out, <- HQB.out]
            obtain rfl : j = 0 := hjj.out
            have q0 : WQ.cell? ⟨qb, 0, none⟩ = some (.string qs) := (q0a HMQ.out 0).trans rfl
            have q1 : WQ.cell? ⟨qb, 1, none⟩ = some (.int .i64 qt) := (q0a HMQ.out 1).trans rfl
            have lq := q0c HMQ.out
            have HMQX := q0h HMQ.out
            go_wp2_with fail
            have bt0 : (0 : Int) <= qt := by omega
            have bt1 : qt < 5 := by omega
            have hty := z1q (HG.out.at HBQ3.out) qt (by omega) (by omega)
            have hsx : Below WQ.heap.size WQ WQ.drew := q1n (Below.refl _ _)
            have HSX := q0h hsx
            clear hsx
            go_region_held3 (fun w' => w'.cell? ⟨qb, 0, none⟩ = some (.string qs) /\ w'.cell? ⟨qb, 1, none⟩ = some (.int .i64 qt) /\ w'.cell? ⟨0, qt.toNat, none⟩ = some (.string ⟨(tyT qt).toArray⟩)) (go_keep)
             (first
              | (go_at_call 42; ((refine (z5l (HPQ.out.below HSX.out) [qs, ⟨#[58, 32]⟩, ⟨(tyT qt).toArray⟩] 3 rfl (by simp) (toL qs ++ [58, 32] ++ tyT qt) (by simp [q7k, toL]) HLQ.out rfl rfl).mono ?_); rintro e' ws ⟨rfl, hp', hf'⟩; have HPs := q0h hp'; have HEs := q0h ((HEQ3.out.trans (PF.of_below (b := pb) HSX.out HPQ.out.bw)).trans hf'); have HSQ := q0h ((PF.of_below (b := pb) HSX.out HPQ.out.bw).trans hf'); have hm' := (HSQ.out.nb qb (q0c HMQX.out) HNQ.out (q0n HMQX.out (by decide))).trans HMQX.out; have HBx := q0h (HBQ3.out.trans HSQ.out.be); have q0 : ws.cell? ⟨qb, 0, none⟩ = some (.string qs) := (q0a hm' 0).trans rfl; have q1 : ws.cell? ⟨qb, 1, none⟩ = some (.int .i64 qt) := (q0a hm' 1).trans rfl; have hty := z1q (HG.out.at HBx.out) qt (by omega) (by omega); clear hp' hf' hm')))
            clear hty q0 q1 lq
            go_wp2_with fail
            go_roundg g3
            case measure => omega
            case rel => exact ⟨1, _, by omega, by omega, by go_num, HPs, HEs, HS5⟩
           ·have hd : decide (0 < j) = true := decide_eq_true (by omega)
            rw [hd] at HS5 HLQ0
            simp only [if_true] at HS5 HLQ0
            have HLQ := q0h HLQ0.out
            have hjp : (0 : Int) < (j : Int) := by omega
            clear hd
            go_upto_region 15 with fail
            rw [<- HWQ.out, <- HQB.out]
            go_wp2_with fail
            refine (q0j HPQ.out [⟨#[44, 32]⟩] 1 rfl (by simp) [44, 32] rfl (q3f HLQ.out)).mono ?_
            rintro e' wc ⟨rfl, hp', hf'⟩
            have HPc := q0h hp'
            have HEc := q0h (HEQ3.out.trans hf')
            have HF34 := q0h hf'
            clear hp' hf'
            have hmq := (HF34.out.nb qb (q0c HMQ.out) HNQ.out (q0n HMQ.out (by decide))).trans HMQ.out
            have HMQX := q0h hmq
            have HBc := q0h (HBQ3.out.trans HF34.out.be)
            clear hmq
            have q0 : wc.cell? ⟨qb, 0, none⟩ = some (.string qs) := (q0a HMQX.out 0).trans rfl
            have q1 : wc.cell? ⟨qb, 1, none⟩ = some (.int .i64 qt) := (q0a HMQX.out 1).trans rfl
            have lq := q0c HMQX.out
            go_wp2_with fail
            have bt0 : (0 : Int) <= qt := by omega
            have bt1 : qt < 5 := by omega
            have hty := z1q (HG.out.at HBc.out) qt (by omega) (by omega)
            have hsx : Below wc.heap.size wc wc.drew := q1n (Below.refl _ _)
            have HSX := q0h hsx
            clear hsx
            go_region_held3 (fun w' => w'.cell? ⟨qb, 0, none⟩ = some (.string qs) /\ w'.cell? ⟨qb, 1, none⟩ = some (.int .i64 qt) /\ w'.cell? ⟨0, qt.toNat, none⟩ = some (.string ⟨(tyT qt).toArray⟩)) (go_keep)
             (first
              | (go_at_call 42; ((refine (z5l (HPc.out.below HSX.out) [qs, ⟨#[58, 32]⟩, ⟨(tyT qt).toArray⟩] 3 rfl (by simp) (toL qs ++ [58, 32] ++ tyT qt) (by simp [q7k, toL]) HLQ.out rfl rfl).mono ?_); rintro e' ws ⟨rfl, hp', hf'⟩; have HPs := q0h hp'; have HEs := q0h ((HEc.out.trans (PF.of_below (b := pb) HSX.out HPc.out.bw)).trans hf'); have HSQ := q0h ((PF.of_below (b := pb) HSX.out HPc.out.bw).trans hf'); have hm' := (HSQ.out.nb qb (q0c HMQX.out) HNQ.out (q0n HMQX.out (by decide))).trans HMQX.out; have HBx := q0h (HBc.out.trans HSQ.out.be); have q0 : ws.cell? ⟨qb, 0, none⟩ = some (.string qs) := (q0a hm' 0).trans rfl; have q1 : ws.cell? ⟨qb, 1, none⟩ = some (.int .i64 qt) := (q0a hm' 1).trans rfl; have hty := z1q (HG.out.at HBx.out) qt (by omega) (by omega); clear hp' hf' hm')))
            clear hty q0 q1 lq
            go_wp2_with fail
            go_roundg g3
            case measure => omega
            case rel => exact ⟨j + 1, _, by omega, by omega, by go_num, HPs, HEs, by rw [decide_eq_true (show 0 < j + 1 by omega)]; exact HS5.out⟩
          ·have HTE := q0h (show bq = T3 by
            obtain rfl : j = ps.length := by omega
            rw [<- HTq.out, List.drop_length]; rfl)
           rw [HTE.out] at HPq
           have hje : j = ps.length := by omega
           go_wp2_with fail
           refine (q0j HPq.out [⟨#[41]⟩] 1 rfl (by simp) [41] rfl HL3.out).mono ?_
           rintro e' wd ⟨rfl, hp', hf'⟩
           have HPd := q0h hp'
           have HEd := q0h (HEq.out.trans hf')
           clear hp' hf'
           clear hje hjl
           by_cases hf0 : fty = 0
           ·have HQE := q0h (show T3 ++ [41] = q4 by rw [HQ4.out, if_pos hf0])
            have hff : (fty != 0) = false := by simpa using hf0
            have HF0 := q0h hf0
            clear hf0
            rw [HQE.out] at HPd
            have hm' := (HEd.out.nb fb (q0c HMF.out) HNF.out (q0n HMF.out (by decide))).trans HMF.out
            have f0 : wd.cell? ⟨fb, 0, none⟩ = some (.string nm) := (q0a hm' 0).trans rfl
            have f1 : wd.cell? ⟨fb, 1, none⟩ = some (.slice P1 ps.length d1) := (q0a hm' 1).trans rfl
            have f2 : wd.cell? ⟨fb, 2, none⟩ = some (.int .i64 fty) := (q0a hm' 2).trans rfl
            have f3 : wd.cell? ⟨fb, 3, none⟩ = some (.slice P2 bd.length d2) := (q0a hm' 3).trans rfl
            have f4 : wd.cell? ⟨fb, 4, none⟩ = some (.int .i64 fat) := (q0a hm' 4).trans rfl
            have f5 : wd.cell? ⟨fb, 5, none⟩ = some (.slice P3 lc.length d3) := (q0a hm' 5).trans rfl
            have lf := q0c hm'
            clear hm'
            have HBy := q0h ((HBW.out.trans HEF3.out.be).trans HEd.out.be)
            go_wp2_with fail
            clear f0 f1 f2 f3 f4 f5 lf
            clear hff
            refine (q8i bd hbl HST_.out w P2 d2 w.heap.size pb 0 q4 wd HBC.out HG.out H0.out HBy.out HPd.out HLB2.out).mono ?_
            rintro e' wy ⟨rfl, hp', hf'⟩
            have HPy := q0h hp'
            have HEy := q0h (HEd.out.trans hf')
            clear hp' hf'
            go_wp2_with fail
            refine (q0j HPy.out [⟨#[10]⟩] 1 rfl (by simp) [10] rfl HLB.out).mono ?_
            rintro e' wx ⟨rfl, hp', hf'⟩
            have HPx := q0h hp'
            have HEx := q0h (HEy.out.trans hf')
            clear hp' hf'
            go_wp2_with fail
            go_roundg g
            case measure => omega
            case rel => exact ⟨k + 1, _, by omega, by omega, by go_num, HPx, HEF3.out.trans HEx.out, by rw [<- HFE.out]; exact HS3.out⟩
           ·have HQE := q0h (show T3 ++ [41] ++ ([58, 32] ++ tyT fty) = q4 by rw [HQ4.out, if_neg hf0])
            have hff : (fty != 0) = true := by simpa using hf0
            clear hf0
            have hm' := (HEd.out.nb fb (q0c HMF.out) HNF.out (q0n HMF.out (by decide))).trans HMF.out
            have f0 : wd.cell? ⟨fb, 0, none⟩ = some (.string nm) := (q0a hm' 0).trans rfl
            have f1 : wd.cell? ⟨fb, 1, none⟩ = some (.slice P1 ps.length d1) := (q0a hm' 1).trans rfl
            have f2 : wd.cell? ⟨fb, 2, none⟩ = some (.int .i64 fty) := (q0a hm' 2).trans rfl
            have f3 : wd.cell? ⟨fb, 3, none⟩ = some (.slice P2 bd.length d2) := (q0a hm' 3).trans rfl
            have f4 : wd.cell? ⟨fb, 4, none⟩ = some (.int .i64 fat) := (q0a hm' 4).trans rfl
            have f5 : wd.cell? ⟨fb, 5, none⟩ = some (.slice P3 lc.length d3) := (q0a hm' 5).trans rfl
            have lf := q0c hm'
            clear hm'
            have HBt := q0h ((HBW.out.trans HEF3.out.be).trans HEd.out.be)
            have hty := z1q (HG.out.at HBt.out) fty (by omega) (by omega)
            go_wp2_with fail
            clear hty
            clear f0 f1 f2 f3 f4 f5 lf
            refine (q0j HPd.out [⟨#[58, 32]⟩, ⟨(tyT fty).toArray⟩] 2 rfl (by simp) ([58, 32] ++ tyT fty) (by simp [q7k, toL]) (by rw [HQE.out]; exact HL4.out)).mono ?_
            rintro e' wu ⟨rfl, hp', hf'⟩
            have HPu := q0h hp'
            have HEu := q0h (HEd.out.trans hf')
            clear hp' hf'
            rw [HQE.out] at HPu
            have hm' := (HEu.out.nb fb (q0c HMF.out) HNF.out (q0n HMF.out (by decide))).trans HMF.out
            have f0 : wu.cell? ⟨fb, 0, none⟩ = some (.string nm) := (q0a hm' 0).trans rfl
            have f1 : wu.cell? ⟨fb, 1, none⟩ = some (.slice P1 ps.length d1) := (q0a hm' 1).trans rfl
            have f2 : wu.cell? ⟨fb, 2, none⟩ = some (.int .i64 fty) := (q0a hm' 2).trans rfl
            have f3 : wu.cell? ⟨fb, 3, none⟩ = some (.slice P2 bd.length d2) := (q0a hm' 3).trans rfl
            have f4 : wu.cell? ⟨fb, 4, none⟩ = some (.int .i64 fat) := (q0a hm' 4).trans rfl
            have f5 : wu.cell? ⟨fb, 5, none⟩ = some (.slice P3 lc.length d3) := (q0a hm' 5).trans rfl
            have lf := q0c hm'
            clear hm'
            have HBy := q0h ((HBW.out.trans HEF3.out.be).trans HEu.out.be)
            go_wp2_with fail
            clear f0 f1 f2 f3 f4 f5 lf
            clear hff
            refine (q8i bd hbl HST_.out w P2 d2 w.heap.size pb 0 q4 wu HBC.out HG.out H0.out HBy.out HPu.out HLB2.out).mono ?_
            rintro e' wy ⟨rfl, hp', hf'⟩
            have HPy := q0h hp'
            have HEy := q0h (HEu.out.trans hf')
            clear hp' hf'
            go_wp2_with fail
            refine (q0j HPy.out [⟨#[10]⟩] 1 rfl (by simp) [10] rfl HLB.out).mono ?_
            rintro e' wx ⟨rfl, hp', hf'⟩
            have HPx := q0h hp'
            have HEx := q0h (HEy.out.trans hf')
            clear hp' hf'
            go_wp2_with fail
            go_roundg g
            case measure => omega
            case rel => exact ⟨k + 1, _, by omega, by omega, by go_num, HPx, HEF3.out.trans HEx.out, by rw [<- HFE.out]; exact HS3.out⟩
      ·have HTE := q0h (show bs = T2 by
        obtain rfl : k = fs.length := by omega
        rw [<- HT.out, List.drop_length]; rfl)
       rw [HTE.out] at HPr
       have hke : k = fs.length := by omega
       go_wp2_with fail
       refine (q3o HPr.out).mono ?_
       rintro e' w' ⟨rfl, rfl⟩
       cases hwz : q1w T2 with
       | true =>
        go_wp2_with fail
        go_ret2
        exact ⟨HBW.out.trans HEr.out.be, rfl⟩
       | false =>
        go_wp2_with fail
        refine (q6z HPr.out).mono ?_
        rintro e' wz ⟨rfl, hbz⟩
        have HBZ := q0h ((HBW.out.trans HEr.out.be).trans hbz)
        clear hbz
        go_wp2_with fail
        all_goals go_ret2
        all_goals exact ⟨HBZ.out, rfl⟩
def q7c (l : List UInt8) : Int := (q2p l).2.1
theorem q7v (m : Md) (hsm : SmM m) (A A1 : Option Addr) (c c1 : Nat) (w : World) (hV : kVr.C w A m.vars.length m.vars) (hF : kFc.C w A1 m.funcs.length m.funcs) (hg : GW w) :
  Calls Tryz.prog 12 #[.agg #[.slice A m.vars.length c, .slice A1 m.funcs.length c1]] w fun e w' => Below w.heap.size w w' /\ e = .returned (.tuple #[.string ⟨(q5x q7c m).1.toArray⟩, .int .i64 (q5x q7c m).2]) := by
 obtain ⟨r, hr⟩ : ∃ r, r = q5x q7c m := ⟨_, rfl⟩
 rw [<- hr]
 unfold q5x at hr
 obtain ⟨W, hW⟩ : ∃ W, W = w.alloc (.cells #[.slice A m.vars.length c, .slice A1 m.funcs.length c1] 25) := ⟨_, rfl⟩
 obtain ⟨bk, hb⟩ : ∃ b, b = w.heap.size := ⟨_, rfl⟩
 have hm : W.heap[bk]? = some (.cells #[.slice A m.vars.length c, .slice A1 m.funcs.length c1] 25 (0, 0)) := by rw [hW, hb]; exact heap_alloc_new _ _
 have hbw : Below w.heap.size w W := by rw [hW]; exact q0d (Below.refl _ _) _
 have HR := q0h hr
 have HV := q0h (Kd.C_below hV hbw)
 have HF := q0h (Kd.C_below hF hbw)
 have HG := q0h (hg.below hbw)
 have HBW := q0h hbw
 have HM := q0h hm
 have HW := q0h hW
 have HBK := q0h hb
 have HSM := q0h hsm
 have z0 : W.cell? ⟨bk, 0, none⟩ = some (.slice A m.vars.length c) := (q0a hm 0).trans rfl
 have z1 : W.cell? ⟨bk, 1, none⟩ = some (.slice A1 m.funcs.length c1) := (q0a hm 1).trans rfl
 have lz := q0c hm
 clear hr hV hF hg hbw hm hW hb hsm
 go_enter Tryz.func12, Tryz.ntmps12
 go_upto_region 1 with fail
 rw [<- HW.out, <- HBK.out]
 go_wp2_with fail
 refine (j4h m (fun v hv => (HSM.out.v v hv).1) HSM.out.f A A1 c c1 W HV.out HF.out).mono ?_
 rintro e w1 ⟨rfl, hb1⟩
 have HB1 := q0h (q0e HBW.out hb1)
 have HD1 := q0h hb1
 have hm1 := (hb1.block bk (q0c HM.out)).trans HM.out
 clear z0 z1 lz hb1
 have z0 : w1.cell? ⟨bk, 0, none⟩ = some (.slice A m.vars.length c) := (q0a hm1 0).trans rfl
 have z1 : w1.cell? ⟨bk, 1, none⟩ = some (.slice A1 m.funcs.length c1) := (q0a hm1 1).trans rfl
 have lz := q0c hm1
 clear hm1
 cases hok : q8l m with
 | false =>
  have HX := q0h (show r = ([], 100) by rw [HR.out, hok]; rfl)
  go_wp2_with fail
  go_ret2
  exact ⟨HB1.out, by rw [HX.out]; rfl⟩
 | true =>
  have HX := q0h (show r = if q1w (q5l m) then ([], 2) else if q7c (q5l m) ≠ 0 then ([], 100) else (q5l m, 0) by rw [HR.out, hok]; rfl)
  have HOK := q0h hok
  clear hok HR
  go_wp2_with fail
  clear z0 z1 lz
  refine (j0x m HOK.out HSM.out A A1 c c1 w1 (Kd.C_below HV.out HD1.out) (Kd.C_below HF.out HD1.out) (HG.out.below HD1.out)).mono ?_
  rintro e w2 ⟨hb2, rfl⟩
  have HB2 := q0h (q0e HB1.out hb2)
  have HG2 := q0h ((HG.out.below HD1.out).below hb2)
  clear hb2
  cases hwd : q1w (q5l m) with
  | true =>
   have HX2 := q0h (show r = ([], 2) by rw [HX.out, hwd]; rfl)
   simp only [if_true]
   go_wp2_with fail
   go_ret2
   exact ⟨HB2.out, by rw [HX2.out]; rfl⟩
  | false =>
   have HX2 := q0h (show r = if q7c (q5l m) ≠ 0 then ([], 100) else (q5l m, 0) by rw [HX.out, hwd]; rfl)
   simp only [Bool.false_eq_true, if_false]
   have hlen : (q5l m).length <= 16384 := by
    unfold q1w at hwd
    have := of_decide_eq_false hwd
    omega
   obtain ⟨tx, htx⟩ : ∃ t, t = q5l m := ⟨_, rfl⟩
   rw [<- htx] at HX2 hlen ⊢
   clear hwd HX
   have HP := q0h (q9t ⟨tx.toArray⟩ (by show tx.toArray.size <= _; rw [List.size_toArray]; omega) w2 HG2.out.ge)
   clear htx hlen
   go_wp2_with fail
   refine HP.out.mono ?_
   rintro e w3 ⟨hb3, v, rfl, hv⟩
   obtain ⟨cs, rfl, hM⟩ := hv
   obtain ⟨v1, v2, rfl⟩ : ∃ v1 v2, cs = [v1, v2] := by
    obtain ⟨_, _, rfl, ⟨a, rfl, _⟩, ⟨b, rfl, _⟩⟩ := hM
    exact ⟨_, _, rfl⟩
   obtain ⟨A4, n4, c4, A5, n5, c5, rfl, rfl⟩ : ∃ A4 n4 c4 A5 n5 c5, v1 = .slice A4 n4 c4 /\ v2 = .slice A5 n5 c5 := by
    obtain ⟨_, _, he, ⟨a, rfl, ha⟩, ⟨b, rfl, hb⟩⟩ := hM
    obtain ⟨B, d, rfl⟩ := Kd.R_slice ha
    obtain ⟨B2, d2, rfl⟩ := Kd.R_slice hb
    simp only [List.cons_append, List.nil_append, List.cons.injEq, and_true] at he
    exact ⟨_, _, _, _, _, _, he.1, he.2⟩
   have HB3 := q0h (q0e HB2.out hb3)
   obtain ⟨fc, hfc⟩ : ∃ f, f = (q2p (⟨tx.toArray⟩ : ByteArray).data.toList).2.1 := ⟨_, rfl⟩
   obtain ⟨fa, hfa⟩ : ∃ f, f = (q2p (⟨tx.toArray⟩ : ByteArray).data.toList).2.2 := ⟨_, rfl⟩
   have HFC := q0h (show q7c tx = fc from hfc.symm)
   rw [<- hfc, <- hfa]
   clear hb3 hM hfc hfa HP
   by_cases h0 : fc = 0
   ·have HX3 := q0h (show r = (tx, 0) by rw [HX2.out, HFC.out, if_neg (fun h => h h0)])
    have y : (fc != 0) = false := by simpa using h0
    clear h0
    go_wp2_with fail
    go_ret2
    exact ⟨q2g (q2g HB3.out _) _, by rw [HX3.out]; rfl⟩
   ·have HX3 := q0h (show r = ([], 100) by rw [HX2.out, HFC.out, if_pos h0])
    have y : (fc != 0) = true := by simpa using h0
    clear h0
    go_wp2_with fail
    go_ret2
    exact ⟨q2g (q2g HB3.out _) _, by rw [HX3.out]; rfl⟩
theorem x6v (m : Md) (hsm : SmM m) (A A1 : Option Addr) (c c1 : Nat) (w : World) (hV : kVr.C w A m.vars.length m.vars) (hF : kFc.C w A1 m.funcs.length m.funcs) (hg : GW w) :
  Calls Tryz.prog 11 #[.agg #[.slice A m.vars.length c, .slice A1 m.funcs.length c1]] w fun e w' => Below w.heap.size w w' /\ e = .returned (.int .i64 (q5x q7c m).2) := by
 have hba := q0d (Below.refl w.heap.size w) (.cells #[.slice A m.vars.length c, .slice A1 m.funcs.length c1] 25)
 have HP := q0h (q7v m hsm A A1 c c1 (w.alloc (.cells #[.slice A m.vars.length c, .slice A1 m.funcs.length c1] 25)) (Kd.C_below hV hba) (Kd.C_below hF hba) (hg.below hba))
 have HBA := q0h hba
 clear hV hF hg hba hsm
 go_enter Tryz.func11, Tryz.ntmps11
 go_wp2_with fail
 refine HP.out.mono ?_
 rintro e w1 ⟨hb, rfl⟩
 have HB := q0h (q0e HBA.out hb)
 clear hb
 go_wp2_with fail
 go_ret
 exact ⟨HB.out, rfl⟩
def j4u : List UInt8 := [102, 110, 32, 102, 40, 41, 123, 120, 61, 40, 97, 45, 40, 98, 45, 99, 41, 41, 42, 45, 40, 49, 43, 50, 41, 59, 125]
def j4v : List UInt8 := [118, 97, 114, 32, 98, 58, 102, 105, 120, 61, 48, 46, 53, 59, 102, 110, 32, 102, 40, 41, 123, 105, 102, 40, 97, 41, 123, 125, 101, 108, 115, 101, 123, 105, 102, 32, 98, 123, 125, 125, 125]
def j6q : List UInt8 := [102, 110, 32, 102, 40, 41, 32, 123, 10, 9, 120, 32, 61, 32, 40, 97, 32, 45, 32, 40, 98, 32, 45, 32, 99, 41, 41, 32, 42, 32, 45, 40, 49, 32, 43, 32, 50, 41, 59, 10, 125, 10]
def j6r : List UInt8 := [118, 97, 114, 32, 98, 58, 32, 102, 105, 120, 32, 61, 32, 48, 46, 53, 59, 10, 102, 110, 32, 102, 40, 41, 32, 123, 10, 9, 105, 102, 32, 97, 32, 123, 10, 9, 125, 32, 101, 108, 115, 101, 32, 105, 102, 32, 98, 32, 123, 10, 9, 125, 10, 125, 10]
theorem j9r : (q2p j4u).2 = (0, 0) := by kernel_rfl
theorem j9s : (q2p j4v).2 = (0, 0) := by kernel_rfl
theorem j9t : q8l (q2p j4u).1 = true := by kernel_rfl
theorem j9u : q8l (q2p j4v).1 = true := by kernel_rfl
theorem tx1 : q5l (q2p j4u).1 = j6q := by kernel_rfl
theorem tx2 : q5l (q2p j4v).1 = j6r := by kernel_rfl
def j9i (n : Int) : Bool := decide (-9223372036854775808 <= n) && decide (n <= 9223372036854775807)
mutual
def j8d : Ex -> Bool
 | .mk _ _ n s l _ _ _ => decide (s.size <= 1000000000) && decide (n <= 9223372036854775807) && z9u l
def z9u : List Ex -> Bool
 | [] => true
 | e :: l => j8d e && z9u l
end
mutual
theorem j6s : ∀ e : Ex, j8d e = true -> smE e
 | .mk _ _ n s l _ _ _, h => by
  have h1 : (decide (s.size <= 1000000000) && decide (n <= 9223372036854775807) && z9u l) = true := h
  simp only [Bool.and_eq_true, decide_eq_true_eq] at h1
  exact ⟨h1.1.1, h1.1.2, z9v l h1.2⟩
theorem z9v : ∀ l : List Ex, z9u l = true -> j5s l
 | [], _ => trivial
 | e :: l, h => by
  have h1 : (j8d e && z9u l) = true := h
  rw [Bool.and_eq_true] at h1
  exact ⟨j6s e h1.1, z9v l h1.2⟩
end
mutual
def j8e : St -> Bool
 | .mk _ s _ l b e _ _ => decide (s.size <= 1000000000) && z9u l && z7r b && z7r e
def z7r : List St -> Bool
 | [] => true
 | s :: l => j8e s && z7r l
end
mutual
theorem j6t : ∀ s : St, j8e s = true -> smS s
 | .mk _ s _ l b e _ _, h => by
  have h1 : (decide (s.size <= 1000000000) && z9u l && z7r b && z7r e) = true := h
  simp only [Bool.and_eq_true, decide_eq_true_eq] at h1
  exact ⟨h1.1.1.1, z9v l h1.1.1.2, z5o b h1.1.2, z5o e h1.2⟩
theorem z5o : ∀ l : List St, z7r l = true -> j4e l
 | [], _ => trivial
 | s :: l, h => by
  have h1 : (j8e s && z7r l) = true := h
  rw [Bool.and_eq_true] at h1
  exact ⟨j6t s h1.1, z5o l h1.2⟩
end
def j7v (m : Md) : Bool := m.vars.all (fun v => decide (v.name.size <= 1000000000) && j9i v.value) && m.funcs.all (fun f => decide (f.name.size <= 1000000000) && decide (f.params.length <= 1000000000) && f.params.all (fun p => decide (p.name.size <= 1000000000)) && z7r f.body)
theorem x6w {m : Md} (h : j7v m = true) (ht : q8l m = true -> (q5l m).length <= LIM) : SmM m := by
 unfold j7v at h
 simp only [Bool.and_eq_true, List.all_eq_true, decide_eq_true_eq] at h
 refine ⟨fun v hv => ⟨(h.1 v hv).1, ?_⟩, fun f hf => ⟨(h.2 f hf).1.1.1, (h.2 f hf).1.1.2, (h.2 f hf).1.2, z5o _ (h.2 f hf).2⟩, ht⟩
 have h5 := (h.1 v hv).2
 unfold j9i at h5
 simpa using h5
theorem sm1 : j7v (q2p j4u).1 = true := by kernel_rfl
theorem sm2 : j7v (q2p j4v).1 = true := by kernel_rfl
theorem j8f : q1w j6q = false := by kernel_rfl
theorem j8g : q1w j6r = false := by kernel_rfl
theorem j6u : q7c j6q = 0 := by kernel_rfl
theorem j6v : q7c j6r = 0 := by kernel_rfl
theorem z5p {base : Nat} {w : World} {m : Md} {v : Value} (h : mdV base w m v) : ∃ A c A1 c1, v = .agg #[.slice A m.vars.length c, .slice A1 m.funcs.length c1] /\ kVr.C w A m.vars.length m.vars /\ kFc.C w A1 m.funcs.length m.funcs := by
 obtain ⟨cs, rfl, _, _, rfl, ⟨a, rfl, ha⟩, ⟨b, rfl, hb⟩⟩ := h
 obtain ⟨A, c, rfl, _, hA⟩ := Kd.R_reads ha
 obtain ⟨A1, c1, rfl, _, hB⟩ := Kd.R_reads hb
 exact ⟨A, c, A1, c1, rfl, hA, hB⟩
theorem x1h (l : List UInt8) (s : ByteArray) (hs : s = ⟨l.toArray⟩) (hl : l.length <= 1000) (m : Md) (hp : q2p l = (m, (0, 0))) (w : World) (hg : z8h w) : Calls Tryz.prog 15 #[.string s] w fun e w' => Below w.heap.size w w' /\ ∃ A c A1 c1, e = .returned (.tuple #[.agg #[.slice A m.vars.length c, .slice A1 m.funcs.length c1], .agg #[.int .i64 0, .int .i64 0]]) /\ kVr.C w' A m.vars.length m.vars /\ kFc.C w' A1 m.funcs.length m.funcs := by
 subst hs
 refine (q9t ⟨l.toArray⟩ (by show l.toArray.size <= _; rw [List.size_toArray]; omega) w hg).mono ?_
 rintro e w' ⟨hb, v, rfl, hv⟩
 rw [show (⟨l.toArray⟩ : ByteArray).data.toList = l from rfl, hp] at hv
 obtain ⟨A, c, A1, c1, rfl, hA, hB⟩ := z5p hv
 refine ⟨hb, A, c, A1, c1, ?_, hA, hB⟩
 rw [show (⟨l.toArray⟩ : ByteArray).data.toList = l from rfl, hp]
theorem z2c {m : Md} {t : List UInt8} (hk : q8l m = true) (ht : q5l m = t) (hw : q1w t = false) (ha : q7c t = 0) : q5x q7c m = (t, 0) := by
 unfold q5x
 rw [hk, ht, hw, ha]
 rfl
def mZ : Md := ⟨[zVr], []⟩
theorem j8h : q5x q7c mZ = ([], 100) := by
 unfold q5x
 rw [show q8l mZ = false from by kernel_rfl]
 rfl
theorem j8i : SmM mZ := x6w (by kernel_rfl) (fun h => by rw [show q8l mZ = false from by kernel_rfl] at h; cases h)
theorem j8j {w : World} {b : Nat} {fz : Nat × Nat} (h : w.heap[b]? = some (.cells #[.string ⟨#[]⟩, .int .i64 0, .int .i64 0, .int .i64 0, .int .i64 0] 40 fz)) : kVr.C w (some ⟨b, 0, none⟩) 1 [zVr] := by
 refine ⟨rfl, by decide, fun _ => ⟨_, rfl, fun j q hj => ?_⟩⟩
 cases j with
 | succ j => cases hj
 | zero =>
  injection hj with hj
  subst hj
  refine ⟨[.string ⟨#[]⟩, .int .i64 0, .int .i64 0, .int .i64 0, .int .i64 0], rfl, ⟨[.string ⟨#[]⟩], _, rfl, rfl, [.int .i64 0], _, rfl, rfl, [.int .i64 0], _, rfl, rfl, [.int .i64 0], [.int .i64 0], rfl, rfl, rfl⟩, fun i u hu => ?_⟩
  rw [Nat.zero_mul, Nat.zero_add]
  have h1 : w.cell? ⟨b, 0 + i, none⟩ = some u := by rw [Nat.zero_add]; simp only [World.cell?, h]; simpa using hu
  have h2 : (⟨b, 0, none⟩ : Addr).add i = ⟨b, 0 + i, none⟩ := by
   cases i with
   | zero => rfl
   | succ i => rfl
  rw [h2]; exact h1
theorem x6x (w : World) (hg : GW w) : Calls Tryz.prog 8 #[] w fun e w' => e = .returned (.bool true) /\ Below w.heap.size w w' := by
 obtain ⟨m1, hm1⟩ : ∃ m, m = (q2p j4u).1 := ⟨_, rfl⟩
 obtain ⟨m2, hm2⟩ : ∃ m, m = (q2p j4v).1 := ⟨_, rfl⟩
 have HP1 := q0h (show q2p j4u = (m1, (0, 0)) from Prod.ext hm1.symm j9r)
 have HP2 := q0h (show q2p j4v = (m2, (0, 0)) from Prod.ext hm2.symm j9s)
 have HS1 := q0h (show SmM m1 by rw [hm1]; exact x6w sm1 (fun _ => by rw [tx1]; decide))
 have HS2 := q0h (show SmM m2 by rw [hm2]; exact x6w sm2 (fun _ => by rw [tx2]; decide))
 have HR1 := q0h (show q5x q7c m1 = (j6q, 0) by rw [hm1]; exact z2c j9t tx1 j8f j6u)
 have HR2 := q0h (show q5x q7c m2 = (j6r, 0) by rw [hm2]; exact z2c j9u tx2 j8g j6v)
 have HG := q0h hg
 have HB := q0h (Below.refl w.heap.size w)
 clear hm1 hm2 hg
 go_enter Tryz.func8, Tryz.ntmps8
 go_wp2_with fail
 refine (x1h j4u ⟨#[102, 110, 32, 102, 40, 41, 123, 120, 61, 40, 97, 45, 40, 98, 45, 99, 41, 41, 42, 45, 40, 49, 43, 50, 41, 59, 125]⟩ rfl (by decide) m1 HP1.out w HG.out.ge).mono ?_
 rintro e wa ⟨hb, A, c, A1, c1, rfl, hV, hF⟩
 obtain ⟨va, hva⟩ : ∃ n, n = m1.vars.length := ⟨_, rfl⟩
 obtain ⟨fa, hfa⟩ : ∃ n, n = m1.funcs.length := ⟨_, rfl⟩
 obtain ⟨W1, hW1⟩ : ∃ x, x = (wa.alloc (.cells #[.slice A m1.vars.length c, .slice A1 m1.funcs.length c1] 25)).alloc (.cells #[.int .i64 0, .int .i64 0] 35) := ⟨_, rfl⟩
 obtain ⟨mb1, hmb1⟩ : ∃ x, x = wa.heap.size := ⟨_, rfl⟩
 obtain ⟨fb1, hfb1⟩ : ∃ x, x = wa.heap.size + 1 := ⟨_, rfl⟩
 have hb2 : Below wa.heap.size wa W1 := by rw [hW1]; exact q0d (q0d (Below.refl _ _) _) _
 have hm : W1.heap[mb1]? = some (.cells #[.slice A m1.vars.length c, .slice A1 m1.funcs.length c1] 25 (0, 0)) := by rw [hW1, hmb1]; exact (Below.heap_alloc _ _ _ (by simp)).trans (heap_alloc_new _ _)
 have hf : W1.heap[fb1]? = some (.cells #[.int .i64 0, .int .i64 0] 35 (0, 0)) := by
  have h := heap_alloc_new (wa.alloc (.cells #[.slice A m1.vars.length c, .slice A1 m1.funcs.length c1] 25)) (.cells #[.int .i64 0, .int .i64 0] 35)
  rw [show (wa.alloc (.cells #[.slice A m1.vars.length c, .slice A1 m1.funcs.length c1] 25)).heap.size = fb1 by rw [hfb1]; simp] at h
  rw [hW1]; exact h
 have HM1 := q0h hm
 have HFT1 := q0h hf
 have HVV1 := q0h (Kd.C_below hV hb2)
 have HFF1 := q0h (Kd.C_below hF hb2)
 have HBW1 := q0h (q0e HB.out (q0e hb hb2))
 have HGW1 := q0h ((HG.out.below hb).below hb2)
 have HW1 := q0h hW1
 have HMB1 := q0h hmb1
 have HFB1 := q0h hfb1
 clear hb hb2 hV hF hm hf hW1 hmb1 hfb1 hva hfa
 go_upto_region 2 with fail
 rw [<- HW1.out, <- HFB1.out, <- HMB1.out]
 have z0 : W1.cell? ⟨mb1, 0, none⟩ = some (.slice A m1.vars.length c) := (q0a HM1.out 0).trans rfl
 have z1 : W1.cell? ⟨mb1, 1, none⟩ = some (.slice A1 m1.funcs.length c1) := (q0a HM1.out 1).trans rfl
 have lz := q0c HM1.out
 go_wp2_with fail
 clear z0 z1 lz
 refine (q7v m1 HS1.out A A1 c c1 W1 HVV1.out HFF1.out HGW1.out).mono ?_
 rintro e w2 ⟨hb, rfl⟩
 rw [HR1.out, show (⟨(j6q, (0 : Int)).1.toArray⟩ : ByteArray) = ⟨#[102, 110, 32, 102, 40, 41, 32, 123, 10, 9, 120, 32, 61, 32, 40, 97, 32, 45, 32, 40, 98, 32, 45, 32, 99, 41, 41, 32, 42, 32, 45, 40, 49, 32, 43, 32, 50, 41, 59, 10, 125, 10]⟩ from rfl]
 have HB2 := q0h (q0e HBW1.out hb)
 have HG2 := q0h (HGW1.out.below hb)
 have HFT1b := q0h ((hb.block fb1 (q0c HFT1.out)).trans HFT1.out)
 clear hb
 go_wp2_with fail
 refine (x1h j4v ⟨#[118, 97, 114, 32, 98, 58, 102, 105, 120, 61, 48, 46, 53, 59, 102, 110, 32, 102, 40, 41, 123, 105, 102, 40, 97, 41, 123, 125, 101, 108, 115, 101, 123, 105, 102, 32, 98, 123, 125, 125, 125]⟩ rfl (by decide) m2 HP2.out w2 HG2.out.ge).mono ?_
 rintro e wc ⟨hb, A', c', A1', c1', rfl, hV, hF⟩
 obtain ⟨va, hva⟩ : ∃ n, n = m2.vars.length := ⟨_, rfl⟩
 obtain ⟨fa, hfa⟩ : ∃ n, n = m2.funcs.length := ⟨_, rfl⟩
 obtain ⟨W2, hW2⟩ : ∃ x, x = (wc.alloc (.cells #[.slice A' m2.vars.length c', .slice A1' m2.funcs.length c1'] 25)).alloc (.cells #[.int .i64 0, .int .i64 0] 35) := ⟨_, rfl⟩
 obtain ⟨mb2, hmb2⟩ : ∃ x, x = wc.heap.size := ⟨_, rfl⟩
 obtain ⟨fb2, hfb2⟩ : ∃ x, x = wc.heap.size + 1 := ⟨_, rfl⟩
 have hb2 : Below wc.heap.size wc W2 := by rw [hW2]; exact q0d (q0d (Below.refl _ _) _) _
 have hm : W2.heap[mb2]? = some (.cells #[.slice A' m2.vars.length c', .slice A1' m2.funcs.length c1'] 25 (0, 0)) := by rw [hW2, hmb2]; exact (Below.heap_alloc _ _ _ (by simp)).trans (heap_alloc_new _ _)
 have hf : W2.heap[fb2]? = some (.cells #[.int .i64 0, .int .i64 0] 35 (0, 0)) := by
  have h := heap_alloc_new (wc.alloc (.cells #[.slice A' m2.vars.length c', .slice A1' m2.funcs.length c1'] 25)) (.cells #[.int .i64 0, .int .i64 0] 35)
  rw [show (wc.alloc (.cells #[.slice A' m2.vars.length c', .slice A1' m2.funcs.length c1'] 25)).heap.size = fb2 by rw [hfb2]; simp] at h
  rw [hW2]; exact h
 have HM2 := q0h hm
 have HFT2 := q0h hf
 have HVV2 := q0h (Kd.C_below hV hb2)
 have HFF2 := q0h (Kd.C_below hF hb2)
 have HBW2 := q0h (q0e HB2.out (q0e hb hb2))
 have HGW2 := q0h ((HG2.out.below hb).below hb2)
 have HW2 := q0h hW2
 have HMB2 := q0h hmb2
 have HFB2 := q0h hfb2
 have HFT1c := q0h ((hb2.block fb1 (Nat.lt_of_lt_of_le (q0c HFT1b.out) hb.size)).trans ((hb.block fb1 (q0c HFT1b.out)).trans HFT1b.out))
 clear hb hb2 hV hF hm hf hW2 hmb2 hfb2 hva hfa
 go_upto_region 4 with fail
 rw [<- HW2.out, <- HFB2.out, <- HMB2.out]
 have z0 : W2.cell? ⟨mb2, 0, none⟩ = some (.slice A' m2.vars.length c') := (q0a HM2.out 0).trans rfl
 have z1 : W2.cell? ⟨mb2, 1, none⟩ = some (.slice A1' m2.funcs.length c1') := (q0a HM2.out 1).trans rfl
 have lz := q0c HM2.out
 go_wp2_with fail
 clear z0 z1 lz
 refine (q7v m2 HS2.out A' A1' c' c1' W2 HVV2.out HFF2.out HGW2.out).mono ?_
 rintro e w4 ⟨hb, rfl⟩
 rw [HR2.out, show (⟨(j6r, (0 : Int)).1.toArray⟩ : ByteArray) = ⟨#[118, 97, 114, 32, 98, 58, 32, 102, 105, 120, 32, 61, 32, 48, 46, 53, 59, 10, 102, 110, 32, 102, 40, 41, 32, 123, 10, 9, 105, 102, 32, 97, 32, 123, 10, 9, 125, 32, 101, 108, 115, 101, 32, 105, 102, 32, 98, 32, 123, 10, 9, 125, 10, 125, 10]⟩ from rfl]
 have HB4 := q0h (q0e HBW2.out hb)
 have HG4 := q0h (HGW2.out.below hb)
 have y1 : w4.cell? ⟨fb1, 0, none⟩ = some (.int .i64 0) := (q0a ((hb.block fb1 (q0c HFT1c.out)).trans HFT1c.out) 0).trans rfl
 have y2 : w4.cell? ⟨fb2, 0, none⟩ = some (.int .i64 0) := (q0a ((hb.block fb2 (q0c HFT2.out)).trans HFT2.out) 0).trans rfl
 have l1 : fb1 < w4.heap.size := Nat.lt_of_lt_of_le (q0c HFT1c.out) hb.size
 have l2 : fb2 < w4.heap.size := Nat.lt_of_lt_of_le (q0c HFT2.out) hb.size
 clear hb
 go_wp2_with fail
 have hba := q0d (Below.refl w4.heap.size w4) (.cells #[.string ⟨#[]⟩, .int .i64 0, .int .i64 0, .int .i64 0, .int .i64 0] 40)
 refine (x6v mZ j8i (some ⟨w4.heap.size, 0, none⟩) none 1 0 (w4.alloc (.cells #[.string ⟨#[]⟩, .int .i64 0, .int .i64 0, .int .i64 0, .int .i64 0] 40)) (j8j (heap_alloc_new _ _)) (Kd.C_nil _ _) (HG4.out.below hba)).mono ?_
 rintro e w5 ⟨hb, rfl⟩
 rw [j8h]
 have HB5 := q0h (q0e HB4.out (q0e hba hb))
 clear hb hba
 go_wp2_with fail
 go_ret
 exact ⟨rfl, HB5.out⟩
def RW : List (List UInt8 -> List UInt8) -> Nat -> Prop
 | [], _ => True
 | f :: fs, w => ∃ a b, a + b + 2 <= w /\ (∀ p, (f p).length <= p.length + a) /\ RW fs b
theorem RW.two {fs : List (List UInt8 -> List UInt8)} {w : Nat} (h : RW fs w) : ∃ a b, a + b <= w /\ (∀ p, (fs.headD id p).length <= p.length + a) /\ ∀ p, (fs.tail.headD id p).length <= p.length + b := by
 match fs, h with
 | [], _ => exact ⟨0, 0, by omega, fun p => by simp, fun p => by simp⟩
 | [f], ⟨a, b, h1, h2, _⟩ => exact ⟨a, 0, by omega, h2, fun p => by simp⟩
 | f :: g :: fs, ⟨a, b, h1, h2, c, d, h3, h4, _⟩ => exact ⟨a, c, by omega, h2, h4⟩
theorem RW.row : ∀ {fs : List (List UInt8 -> List UInt8)} {w : Nat} (m : Bool) (p : List UInt8), RW fs w -> (z9d fs m p).length <= p.length + w
 | [], w, m, p, _ => by show p.length <= _; omega
 | f :: fs, w, m, p, ⟨a, b, h1, h2, h3⟩ => by
  show (z9d fs true (f (if m then p ++ [44, 32] else p))).length <= _
  have h4 := RW.row (fs := fs) true (f (if m then p ++ [44, 32] else p)) h3
  have h5 := h2 (if m then p ++ [44, 32] else p)
  have h6 : (if m then p ++ [44, 32] else p).length <= p.length + 2 := by split <;> simp
  omega
theorem j2n (o : Int) : (sgT o).length <= 2 := by
 unfold sgT
 rw [List.getD_eq_getElem?_getD]
 by_cases h : o.toNat < sgL.length
 ·rw [List.getElem?_eq_getElem h]
  have : ∀ x ∈ sgL, x.length <= 2 := by decide
  exact this _ (List.getElem_mem h)
 ·rw [List.getElem?_eq_none (by omega)]; decide
theorem x1i (t : Int) : (tyT t).length <= 4 := by
 unfold tyT
 split; · decide
 split; · decide
 split; · decide
 split <;> decide
theorem z3f (s : ByteArray) : (toL s).length = s.size := by unfold toL; exact Array.length_toList
theorem z5q (f : List UInt8 -> List UInt8) (a : Nat) (h : ∀ p, (f p).length <= p.length + a) (b : Bool) (p : List UInt8) : (q4k f b p).length <= p.length + a + 2 := by
 unfold q4k
 have h1 := h (p ++ [40])
 have h2 := h p
 cases b
 ·simp; omega
 ·simp at h1 ⊢; omega
mutual
def wtE : Ex -> Nat
 | .mk _ _ n s l _ _ _ => 20 + s.size + (Lib.itoa n).length + (q4o n).length + x1j l
def x1j : List Ex -> Nat
 | [] => 0
 | e :: l => 2 + wtE e + x1j l
end
theorem x6y (k o n : Int) (s : ByteArray) (args : List Ex) (fs : List (List UInt8 -> List UInt8)) (w : Nat) (h : RW fs w) (p : List UInt8) : (q5f k o n s args fs p).length <= p.length + (20 + s.size + (Lib.itoa n).length + (q4o n).length + w) := by
 obtain ⟨a, b, hab, h1, h2⟩ := h.two
 have hs := z3f s
 unfold q5f
 split; · simp only [List.length_append]; omega
 split; · simp only [List.length_append]; omega
 split
 ·have : (if n = 1 then ([116, 114, 117, 101] : List UInt8) else [102, 97, 108, 115, 101]).length <= 5 := by split <;> decide
  simp only [List.length_append]; omega
 split; · simp only [List.length_append, List.length_cons, List.length_nil]; omega
 split; · simp only [List.length_append]; omega
 split
 ·have := h1 (p ++ toL s ++ [91])
  simp only [List.length_append, List.length_cons, List.length_nil] at this ⊢; omega
 split
 ·have := RW.row (fs := fs) false (p ++ toL s ++ [40]) h
  simp only [List.length_append, List.length_cons, List.length_nil] at this ⊢; omega
 split
 ·have h3 := z5q (fs.headD id) a h1 ((args.headD (.mk 0 0 0 ⟨#[]⟩ [] 0 0 0)).kind == 9) (p ++ sgT o)
  have h4 := j2n o
  simp only [List.length_append] at h3; omega
 split
 ·have key : ∀ b1 b2, (q4k (fs.tail.headD id) b1 (q4k (fs.headD id) b2 p ++ [32] ++ sgT o ++ [32])).length <= p.length + (20 + s.size + (Lib.itoa n).length + (q4o n).length + w) := by
   intro b1 b2
   have h3 := z5q (fs.headD id) a h1 b2 p
   have h4 := z5q (fs.tail.headD id) b h2 b1 (q4k (fs.headD id) b2 p ++ [32] ++ sgT o ++ [32])
   have h5 := j2n o
   simp only [List.length_append, List.length_cons, List.length_nil] at h4
   omega
  exact key _ _
 ·omega
mutual
theorem j4w : ∀ (e : Ex) (p : List UInt8), (q0q e p).length <= p.length + wtE e
 | .mk k o n s l a t pl, p => by
  have h := z5r l
  have h2 := x6y k o n s l (q9u l) (x1j l) h p
  have e1 : q0q (.mk k o n s l a t pl) p = if q1w p then p else q5f k o n s l (q9u l) p := rfl
  have e2 : wtE (.mk k o n s l a t pl) = 20 + s.size + (Lib.itoa n).length + (q4o n).length + x1j l := rfl
  rw [e1, e2]
  split
  ·omega
  ·exact h2
theorem z5r : ∀ (l : List Ex), RW (q9u l) (x1j l)
 | [] => trivial
 | e :: l => ⟨wtE e, x1j l, by show wtE e + x1j l + 2 <= 2 + wtE e + x1j l; omega, j4w e, z5r l⟩
end
def RL (lv : Nat) : List (Nat -> List UInt8 -> List UInt8) -> Nat -> Prop
 | [], _ => True
 | f :: fs, w => ∃ a b, a + b + (lv + 2) <= w /\ (∀ lv' p, lv' <= lv -> (f lv' p).length <= p.length + a) /\ RL lv fs b
theorem RL.head {lv : Nat} {fs : List (Nat -> List UInt8 -> List UInt8)} {w : Nat} (h : RL lv fs w) (lv' : Nat) (p : List UInt8) (hl : lv' <= lv) : (fs.headD (fun _ p => p) lv' p).length <= p.length + w := by
 match fs, h with
 | [], _ => show p.length <= _; omega
 | f :: fs, ⟨a, b, h1, h2, _⟩ => have := h2 lv' p hl; show (f lv' p).length <= _; omega
theorem RL.lines : ∀ {lv : Nat} {fs : List (Nat -> List UInt8 -> List UInt8)} {w : Nat} (lv' : Nat) (p : List UInt8), lv' <= lv -> RL lv fs w -> (q5k lv' fs p).length <= p.length + w
 | lv, [], w, lv', p, _, _ => by show p.length <= _; omega
 | lv, f :: fs, w, lv', p, hl, ⟨a, b, h1, h2, h3⟩ => by
  have e1 : q5k lv' (f :: fs) p = if q1w p then p else q5k lv' fs (f lv' (p ++ q2y lv') ++ [10]) := rfl
  rw [e1]
  split
  ·omega
  ·have h4 := RL.lines (fs := fs) lv' (f lv' (p ++ q2y lv') ++ [10]) hl h3
   have h5 := h2 lv' (p ++ q2y lv') hl
   have h6 : (q2y lv').length = lv' := List.length_replicate
   simp only [List.length_append, List.length_cons, List.length_nil] at h4 h5
   omega
theorem RL.body {lv : Nat} {fs : List (Nat -> List UInt8 -> List UInt8)} {w : Nat} (h : RL (lv + 1) fs w) (lv' : Nat) (p : List UInt8) (hl : lv' <= lv) : (q3w fs lv' p).length <= p.length + w + lv + 4 := by
 have h4 := RL.lines (fs := fs) (lv' + 1) (p ++ [32, 123, 10]) (by omega) h
 have h6 : (q2y lv').length = lv' := List.length_replicate
 unfold q3w
 simp only [List.length_append, List.length_cons, List.length_nil] at h4 ⊢
 omega
mutual
def wtS : St -> Nat -> Nat
 | .mk _ s _ l b e _ _, lv => 40 + s.size + 2 * lv + x1j l + z9w b (lv + 1) + z9w e (lv + 1)
def z9w : List St -> Nat -> Nat
 | [], _ => 0
 | s :: l, lv => lv + 2 + wtS s lv + z9w l lv
end
theorem x6z (k : Int) (s : ByteArray) (t : Int) (es : List (List UInt8 -> List UInt8)) (els : List St) (fb fl : List (Nat -> List UInt8 -> List UInt8)) (lv w wb wl : Nat) (h : RW es w) (hb : RL (lv + 1) fb wb) (hl : RL (lv + 1) fl wl) (lv' : Nat) (hlv : lv' <= lv) (p : List UInt8) :
  (q8m k s t es els fb fl lv' p).length <= p.length + (40 + s.size + 2 * lv + w + wb + wl) := by
 obtain ⟨a, b, hab, h1, h2⟩ := h.two
 have hs := z3f s
 have ht := x1i t
 unfold q8m
 split
 ·have := h1 (p ++ [108, 101, 116, 32] ++ toL s ++ [58, 32] ++ tyT t ++ [32, 61, 32])
  simp only [List.length_append, List.length_cons, List.length_nil] at this ⊢; omega
 split
 ·have := h1 (p ++ toL s ++ [32, 61, 32])
  simp only [List.length_append, List.length_cons, List.length_nil] at this ⊢; omega
 split
 ·have := h1 (p ++ toL s ++ [91])
  have := h2 (es.headD id (p ++ toL s ++ [91]) ++ [93, 32, 61, 32])
  simp only [List.length_append, List.length_cons, List.length_nil] at *; omega
 split
 ·have h3 := h1 (p ++ [105, 102, 32])
  have h4 := hb.body lv' (es.headD id (p ++ [105, 102, 32])) hlv
  dsimp only
  generalize q3w fb lv' (es.headD id (p ++ [105, 102, 32])) = q at h4 ⊢
  simp only [List.length_append, List.length_cons, List.length_nil] at h3
  split
  ·have h5 := hl.head lv' (q ++ [32, 101, 108, 115, 101, 32]) (by omega)
   simp only [List.length_append, List.length_cons, List.length_nil] at h5
   omega
  split
  ·have h5 := hl.body lv' (q ++ [32, 101, 108, 115, 101]) hlv
   simp only [List.length_append, List.length_cons, List.length_nil] at h5
   omega
  ·omega
 split
 ·have h3 := h1 (p ++ [119, 104, 105, 108, 101, 32])
  have h4 := hb.body lv' (es.headD id (p ++ [119, 104, 105, 108, 101, 32])) hlv
  simp only [List.length_append, List.length_cons, List.length_nil] at h3
  omega
 split
 ·have h3 := h1 (p ++ [114, 101, 116, 117, 114, 110] ++ [32])
  simp only [List.length_append, List.length_cons, List.length_nil] at h3
  split
  ·simp only [List.length_append, List.length_cons, List.length_nil]; omega
  ·simp only [List.length_append, List.length_cons, List.length_nil]; omega
 split
 ·have h3 := h1 p
  simp only [List.length_append, List.length_cons, List.length_nil]; omega
 ·simp only [List.length_append, List.length_cons, List.length_nil]; omega
mutual
theorem j4x : ∀ (s : St) (lv lv' : Nat) (p : List UInt8), lv' <= lv -> (q1f s lv' p).length <= p.length + wtS s lv
 | .mk k s t l b e a pl, lv, lv', p, hl => x6z k s t (q9u l) e (q9v b) (q9v e) lv (x1j l) (z9w b (lv + 1)) (z9w e (lv + 1)) (z5r l) (z2d b (lv + 1)) (z2d e (lv + 1)) lv' hl p
theorem z2d : ∀ (l : List St) (lv : Nat), RL lv (q9v l) (z9w l lv)
 | [], _ => trivial
 | s :: l, lv => ⟨wtS s lv, z9w l lv, by show wtS s lv + z9w l lv + (lv + 2) <= lv + 2 + wtS s lv + z9w l lv; omega, fun lv' p h => j4x s lv lv' p h, z2d l lv⟩
end
def wtV (v : Vr) : Nat := 40 + v.name.size + (Lib.itoa v.size).length + (Lib.itoa v.value).length + (q4o v.value).length
theorem j6w (v : Vr) (p : List UInt8) : (z0n v p).length <= p.length + wtV v := by
 have h1 := z3f v.name
 have h2 := x1i v.type
 unfold z0n wtV
 have h3 : (if 0 < v.size then [91] ++ Lib.itoa v.size ++ [93, 32] else []).length <= 3 + (Lib.itoa v.size).length := by
  split
  ·simp only [List.length_append, List.length_cons, List.length_nil]; omega
  ·simp
 have h4 : (if v.value = 0 then [] else [32, 61, 32] ++ (if v.type = 1 then Lib.itoa v.value else if v.type = 2 then q4o v.value else [116, 114, 117, 101])).length <= 7 + (Lib.itoa v.value).length + (q4o v.value).length := by
  split
  ·simp
  ·split
   ·simp only [List.length_append, List.length_cons, List.length_nil]; omega
   split
   ·simp only [List.length_append, List.length_cons, List.length_nil]; omega
   ·simp only [List.length_append, List.length_cons, List.length_nil]; omega
 simp only [List.length_append, List.length_cons, List.length_nil] at *
 omega
def j2o : List Pm -> Nat
 | [] => 0
 | x :: l => 8 + x.name.size + j2o l
theorem z7s : ∀ (l : List Pm) (m : Bool) (p : List UInt8), (q2e l m p).length <= p.length + j2o l
 | [], m, p => by show p.length <= _; omega
 | x :: l, m, p => by
  have h1 := z3f x.name
  have h2 := x1i x.type
  have h3 := z7s l true ((if m then p ++ [44, 32] else p) ++ toL x.name ++ [58, 32] ++ tyT x.type)
  have h6 : (if m then p ++ [44, 32] else p).length <= p.length + 2 := by split <;> simp
  show (q2e l true ((if m then p ++ [44, 32] else p) ++ toL x.name ++ [58, 32] ++ tyT x.type)).length <= p.length + (8 + x.name.size + j2o l)
  simp only [List.length_append, List.length_cons, List.length_nil] at h3
  omega
def wtF (f : Fc) : Nat := 40 + f.name.size + j2o f.params + z9w f.body 1
theorem j4y (f : Fc) (p : List UInt8) : (q6i f p).length <= p.length + wtF f := by
 have h1 := z3f f.name
 have h2 := x1i f.type
 have h3 := z7s f.params false (p ++ [102, 110, 32] ++ toL f.name ++ [40])
 unfold q6i wtF
 dsimp only
 have h5 : (q2e f.params false (p ++ [102, 110, 32] ++ toL f.name ++ [40]) ++ [41]).length <= p.length + f.name.size + j2o f.params + 6 := by
  simp only [List.length_append, List.length_cons, List.length_nil] at h3 ⊢
  omega
 generalize q2e f.params false (p ++ [102, 110, 32] ++ toL f.name ++ [40]) ++ [41] = q at h5 ⊢
 have h4 := (z2d f.body 1).body (lv := 0) 0 (if f.type = 0 then q else q ++ [58, 32] ++ tyT f.type) (Nat.le_refl 0)
 have h6 : (if f.type = 0 then q else q ++ [58, 32] ++ tyT f.type).length <= q.length + 6 := by
  split
  ·omega
  ·simp only [List.length_append, List.length_cons, List.length_nil]; omega
 simp only [List.length_append, List.length_cons, List.length_nil]
 omega
def q7j {α : Type} (f : α -> Nat) : List α -> Nat
 | [] => 0
 | x :: l => f x + q7j f l
theorem x7a : ∀ (l : List Vr) (p : List UInt8), (l.foldl (fun p v => z0n v p) p).length <= p.length + q7j wtV l
 | [], p => by show p.length <= _; omega
 | v :: l, p => by
  have h1 := x7a l (z0n v p)
  have h2 := j6w v p
  show (l.foldl (fun p v => z0n v p) (z0n v p)).length <= p.length + (wtV v + q7j wtV l)
  omega
theorem x1k : ∀ (l : List Fc) (p : List UInt8), (q5w l p).length <= p.length + q7j wtF l
 | [], p => by show p.length <= _; omega
 | f :: l, p => by
  have h1 := x1k l (q6i f p)
  have h2 := j4y f p
  have e1 : q5w (f :: l) p = if q1w p then p else q5w l (q6i f p) := rfl
  have e2 : q7j wtF (f :: l) = wtF f + q7j wtF l := rfl
  rw [e1, e2]
  split
  ·omega
  ·omega
theorem j6x (m : Md) : (q5l m).length <= q7j wtV m.vars + q7j wtF m.funcs := by
 have h1 := x7a m.vars []
 have h2 := x1k m.funcs (m.vars.foldl (fun p v => z0n v p) [])
 unfold q5l
 simp only [List.length_nil] at h1
 omega
theorem x1l : ∀ k u, (q3m k u).length <= k
 | 0, _ => by show ([] : List UInt8).length <= 0; simp
 | k + 1, u => by
  unfold q3m
  split
  ·simp
  ·have := x1l k (u * 10 % 4294967296); simp only [List.length_cons]; omega
open Go.Proofs Go.Deep Go.ChangeShapes Go.WideShapes
def I64 (v : Int) : Prop := -9223372036854775808 <= v /\ v <= 9223372036854775807
theorem z5s {n : Int} (h : I64 n) : (Lib.itoa n).length <= 21 := Lib.itoa_length_le n h.1 h.2
theorem x1m {n : Int} (h : I64 n) : (q4o n).length <= 62 := by
 unfold q4o
 have h1 : (if n < 0 then ([45] : List UInt8) else []).length <= 1 := by split <;> decide
 have h2 : (Lib.decDigits (n.natAbs / 4294967296)).length <= 20 := by
  rw [Lib.decDigits_length]
  refine Lib.nDigits_le20 _ ?_
  have := h.1
  have := h.2
  omega
 have h3 := x1l 40 (n.natAbs % 4294967296)
 simp only [List.length_append, List.length_cons, List.length_nil]
 omega
theorem z7t : Tryz.prog.cellsOf 9 = 1 := by kernel_rfl
end Go.Proofs.YtpfdhihbecpbeaaGreatDoor.E
