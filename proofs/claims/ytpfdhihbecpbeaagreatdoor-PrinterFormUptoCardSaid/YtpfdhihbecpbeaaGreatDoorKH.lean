import Derived.Test.YtpfdhihbecpbeaaGreatDoorKG
import Derived.Test.YtpfdhihbecpbeaaGreatDoorKB
/- Contracts of the program's functions, and lemmas: no statement of its own. -/
namespace Go.Proofs.YtpfdhihbecpbeaaGreatDoor.E
open Go Go.RowKit Go.Proofs.YtpfdhihbecpbeaaGreatDoorW.PrintWords Go.Proofs.YtpfdhihbecpbeaaGreatDoorW.PrintLast Go.Proofs.YtpfdhihbecpbeaaGreatDoorW.PrintMore
set_option linter.unusedVariables false
set_option linter.unusedSimpArgs false
set_option maxRecDepth 100000
set_option maxHeartbeats 4000000
theorem GW.at {w0 w : World} (h : GW w0) (hb : Below w0.heap.size w0 w) : GW w := h.below hb
theorem j0m {w : World} (h : GW w) (o : Int) (h0 : 0 <= o) (h1 : o < 16) : w.cell? ⟨1, o.toNat, none⟩ = some (.string ⟨(sgT o).toArray⟩) := by
 have := h.sg o.toNat (by omega)
 rw [this, show ((o.toNat : Nat) : Int) = o by omega]
theorem z1q {w : World} (h : GW w) (o : Int) (h0 : 0 <= o) (h1 : o < 5) : w.cell? ⟨0, o.toNat, none⟩ = some (.string ⟨(tyT o).toArray⟩) := by
 have := h.ty o.toNat (by omega)
 rw [this]
 rw [show ((o.toNat : Nat) : Int) = o by omega]
theorem q0n {w : World} {bk : Nat} {cs : Array Value} {T : TypeId} (h : w.heap[bk]? = some (.cells cs T (0, 0))) (hT : T ≠ 5) : ¬ j8a w.heap[bk]? := by
 rintro ⟨cur, fz, e⟩
 rw [h] at e
 injection e with e
 injection e with _ e _
 exact hT e
theorem j4j (o n : Int) (s : ByteArray) (l : List Ex) (a t pl : Int) (ih : ∀ x ∈ l, q9d x) : q9d (.mk 4 o n s l a t pl) := by
 intro w0 cs B b lv p w hK hg h0 hb hp hl
 obtain ⟨A, c, rfl, hlc, hC⟩ := q2x hK
 obtain ⟨r, hr⟩ : ∃ r, r = q0q (.mk 4 o n s l a t pl) p := ⟨_, rfl⟩
 rw [<- hr] at hl ⊢
 rw [q3n] at hr
 obtain ⟨W, hW⟩ : ∃ W, W = w.alloc (.cells #[.int .i64 4, .int .i64 o, .int .i64 n, .string s, .slice A l.length c, .int .i64 a, .int .i64 t, .int .i64 pl] 86) := ⟨_, rfl⟩
 obtain ⟨bk, hbk⟩ : ∃ x, x = w.heap.size := ⟨_, rfl⟩
 have hba : Below w.heap.size w W := by rw [hW]; exact q0d (Below.refl _ _) _
 have hm : W.heap[bk]? = some (.cells #[.int .i64 4, .int .i64 o, .int .i64 n, .string s, .slice A l.length c, .int .i64 a, .int .i64 t, .int .i64 pl] 86 (0, 0)) := by rw [hW, hbk]; exact heap_alloc_new _ _
 have HPW := q0h (hp.below hba)
 have HFW := q0h (PF.of_below (b := b) hba hp.bw)
 have HE0 := q0h (PF.refl B b W)
 have HBW := q0h (hb.trans (hba.mono hb.size))
 have HM := q0h hm
 have HBB := q0h (show bk ≠ b from by have := hp.lt; omega)
 have HW := q0h hW
 have HBK := q0h hbk
 have HL := q0h hl
 have H0 := q0h h0
 have HG := q0h hg
 have HC := q0h hC
 have HI := q0h ih
 have HR := q0h hr
 have z0 : W.cell? ⟨bk, 0, none⟩ = some (.int .i64 4) := (q0a hm 0).trans rfl
 have z1 : W.cell? ⟨bk, 1, none⟩ = some (.int .i64 o) := (q0a hm 1).trans rfl
 have z2 : W.cell? ⟨bk, 2, none⟩ = some (.int .i64 n) := (q0a hm 2).trans rfl
 have z3 : W.cell? ⟨bk, 3, none⟩ = some (.string s) := (q0a hm 3).trans rfl
 have z4 : W.cell? ⟨bk, 4, none⟩ = some (.slice A l.length c) := (q0a hm 4).trans rfl
 have z5 : W.cell? ⟨bk, 5, none⟩ = some (.int .i64 a) := (q0a hm 5).trans rfl
 have z6 : W.cell? ⟨bk, 6, none⟩ = some (.int .i64 t) := (q0a hm 6).trans rfl
 have z7 : W.cell? ⟨bk, 7, none⟩ = some (.int .i64 pl) := (q0a hm 7).trans rfl
 have lb := q0c hm
 clear hba hm hW hbk hp hb hl h0 hg hK hC ih hr
 go_enter Tryz.func130, Tryz.ntmps130
 go_upto_region 1 with fail
 rw [<- HW.out, <- HBK.out]
 go_wp2_with fail
 refine (q3o HPW.out).mono ?_
 rintro e' w' ⟨rfl, rfl⟩
 cases hwd : q1w p with
 | true =>
  have HX := q0h (show r = p by rw [HR.out, if_pos hwd])
  go_wp2_with fail
  try simp only [Exit.inBlock, Exit.then]
  refine bodyPost_ret (results_none rfl _ _ _) rfl ?_
  exact ⟨rfl, by rw [HX.out]; exact HPW.out, HFW.out⟩
 | false =>
  have HK1 := q0h (show r = q5f 4 o n s l (l.map q0q) p by rw [HR.out, hwd]; rfl)
  clear hwd HR
  have HX := q0h (show r = p ++ [110, 117, 108, 108] from HK1.out)
  go_wp2_with fail
  refine (q0j HPW.out [⟨#[110, 117, 108, 108]⟩] 1 rfl (by simp) [110, 117, 108, 108] rfl (by rw [<- HX.out]; exact HL.out)).mono ?_
  rintro e' w1 ⟨rfl, hp', hf'⟩
  have HP1 := q0h hp'
  have HF1 := q0h (HE0.out.trans hf')
  clear hp' hf'
  go_wp2_with fail
  go_end0
  exact ⟨rfl, by rw [HX.out]; exact HP1.out, HFW.out.trans HF1.out⟩
theorem j4k (o n : Int) (s : ByteArray) (l : List Ex) (a t pl : Int) (ih : ∀ x ∈ l, q9d x) : q9d (.mk 5 o n s l a t pl) := by
 intro w0 cs B b lv p w hK hg h0 hb hp hl
 obtain ⟨A, c, rfl, hlc, hC⟩ := q2x hK
 obtain ⟨r, hr⟩ : ∃ r, r = q0q (.mk 5 o n s l a t pl) p := ⟨_, rfl⟩
 rw [<- hr] at hl ⊢
 rw [q3n] at hr
 obtain ⟨W, hW⟩ : ∃ W, W = w.alloc (.cells #[.int .i64 5, .int .i64 o, .int .i64 n, .string s, .slice A l.length c, .int .i64 a, .int .i64 t, .int .i64 pl] 86) := ⟨_, rfl⟩
 obtain ⟨bk, hbk⟩ : ∃ x, x = w.heap.size := ⟨_, rfl⟩
 have hba : Below w.heap.size w W := by rw [hW]; exact q0d (Below.refl _ _) _
 have hm : W.heap[bk]? = some (.cells #[.int .i64 5, .int .i64 o, .int .i64 n, .string s, .slice A l.length c, .int .i64 a, .int .i64 t, .int .i64 pl] 86 (0, 0)) := by rw [hW, hbk]; exact heap_alloc_new _ _
 have HPW := q0h (hp.below hba)
 have HFW := q0h (PF.of_below (b := b) hba hp.bw)
 have HE0 := q0h (PF.refl B b W)
 have HBW := q0h (hb.trans (hba.mono hb.size))
 have HM := q0h hm
 have HBB := q0h (show bk ≠ b from by have := hp.lt; omega)
 have HW := q0h hW
 have HBK := q0h hbk
 have HL := q0h hl
 have H0 := q0h h0
 have HG := q0h hg
 have HC := q0h hC
 have HI := q0h ih
 have HR := q0h hr
 have z0 : W.cell? ⟨bk, 0, none⟩ = some (.int .i64 5) := (q0a hm 0).trans rfl
 have z1 : W.cell? ⟨bk, 1, none⟩ = some (.int .i64 o) := (q0a hm 1).trans rfl
 have z2 : W.cell? ⟨bk, 2, none⟩ = some (.int .i64 n) := (q0a hm 2).trans rfl
 have z3 : W.cell? ⟨bk, 3, none⟩ = some (.string s) := (q0a hm 3).trans rfl
 have z4 : W.cell? ⟨bk, 4, none⟩ = some (.slice A l.length c) := (q0a hm 4).trans rfl
 have z5 : W.cell? ⟨bk, 5, none⟩ = some (.int .i64 a) := (q0a hm 5).trans rfl
 have z6 : W.cell? ⟨bk, 6, none⟩ = some (.int .i64 t) := (q0a hm 6).trans rfl
 have z7 : W.cell? ⟨bk, 7, none⟩ = some (.int .i64 pl) := (q0a hm 7).trans rfl
 have lb := q0c hm
 clear hba hm hW hbk hp hb hl h0 hg hK hC ih hr
 go_enter Tryz.func130, Tryz.ntmps130
 go_upto_region 1 with fail
 rw [<- HW.out, <- HBK.out]
 go_wp2_with fail
 refine (q3o HPW.out).mono ?_
 rintro e' w' ⟨rfl, rfl⟩
 cases hwd : q1w p with
 | true =>
  have HX := q0h (show r = p by rw [HR.out, if_pos hwd])
  go_wp2_with fail
  try simp only [Exit.inBlock, Exit.then]
  refine bodyPost_ret (results_none rfl _ _ _) rfl ?_
  exact ⟨rfl, by rw [HX.out]; exact HPW.out, HFW.out⟩
 | false =>
  have HK1 := q0h (show r = q5f 5 o n s l (l.map q0q) p by rw [HR.out, hwd]; rfl)
  clear hwd HR
  have HX := q0h (show r = p ++ toL s from HK1.out)
  go_wp2_with fail
  refine (q0j HPW.out [s] 1 rfl (by simp) (toL s) (List.append_nil _) (by rw [<- HX.out]; exact HL.out)).mono ?_
  rintro e' w1 ⟨rfl, hp', hf'⟩
  have HP1 := q0h hp'
  have HF1 := q0h (HE0.out.trans hf')
  clear hp' hf'
  go_wp2_with fail
  go_end0
  exact ⟨rfl, by rw [HX.out]; exact HP1.out, HFW.out.trans HF1.out⟩
theorem j6h (o n : Int) (s : ByteArray) (l : List Ex) (a t pl : Int) (hn : 0 <= n /\ n <= 9223372036854775807) (ih : ∀ x ∈ l, q9d x) : q9d (.mk 1 o n s l a t pl) := by
 intro w0 cs B b lv p w hK hg h0 hb hp hl
 obtain ⟨A, c, rfl, hlc, hC⟩ := q2x hK
 obtain ⟨r, hr⟩ : ∃ r, r = q0q (.mk 1 o n s l a t pl) p := ⟨_, rfl⟩
 rw [<- hr] at hl ⊢
 rw [q3n] at hr
 obtain ⟨W, hW⟩ : ∃ W, W = w.alloc (.cells #[.int .i64 1, .int .i64 o, .int .i64 n, .string s, .slice A l.length c, .int .i64 a, .int .i64 t, .int .i64 pl] 86) := ⟨_, rfl⟩
 obtain ⟨bk, hbk⟩ : ∃ x, x = w.heap.size := ⟨_, rfl⟩
 have hba : Below w.heap.size w W := by rw [hW]; exact q0d (Below.refl _ _) _
 have hm : W.heap[bk]? = some (.cells #[.int .i64 1, .int .i64 o, .int .i64 n, .string s, .slice A l.length c, .int .i64 a, .int .i64 t, .int .i64 pl] 86 (0, 0)) := by rw [hW, hbk]; exact heap_alloc_new _ _
 have HPW := q0h (hp.below hba)
 have HFW := q0h (PF.of_below (b := b) hba hp.bw)
 have HE0 := q0h (PF.refl B b W)
 have HBW := q0h (hb.trans (hba.mono hb.size))
 have HM := q0h hm
 have HBB := q0h (show bk ≠ b from by have := hp.lt; omega)
 have HW := q0h hW
 have HBK := q0h hbk
 have HL := q0h hl
 have H0 := q0h h0
 have HG := q0h hg
 have HC := q0h hC
 have HI := q0h ih
 have HR := q0h hr
 have z0 : W.cell? ⟨bk, 0, none⟩ = some (.int .i64 1) := (q0a hm 0).trans rfl
 have z1 : W.cell? ⟨bk, 1, none⟩ = some (.int .i64 o) := (q0a hm 1).trans rfl
 have z2 : W.cell? ⟨bk, 2, none⟩ = some (.int .i64 n) := (q0a hm 2).trans rfl
 have z3 : W.cell? ⟨bk, 3, none⟩ = some (.string s) := (q0a hm 3).trans rfl
 have z4 : W.cell? ⟨bk, 4, none⟩ = some (.slice A l.length c) := (q0a hm 4).trans rfl
 have z5 : W.cell? ⟨bk, 5, none⟩ = some (.int .i64 a) := (q0a hm 5).trans rfl
 have z6 : W.cell? ⟨bk, 6, none⟩ = some (.int .i64 t) := (q0a hm 6).trans rfl
 have z7 : W.cell? ⟨bk, 7, none⟩ = some (.int .i64 pl) := (q0a hm 7).trans rfl
 have lb := q0c hm
 clear hba hm hW hbk hp hb hl h0 hg hK hC ih hr
 go_enter Tryz.func130, Tryz.ntmps130
 go_upto_region 1 with fail
 rw [<- HW.out, <- HBK.out]
 go_wp2_with fail
 refine (q3o HPW.out).mono ?_
 rintro e' w' ⟨rfl, rfl⟩
 cases hwd : q1w p with
 | true =>
  have HX := q0h (show r = p by rw [HR.out, if_pos hwd])
  go_wp2_with fail
  try simp only [Exit.inBlock, Exit.then]
  refine bodyPost_ret (results_none rfl _ _ _) rfl ?_
  exact ⟨rfl, by rw [HX.out]; exact HPW.out, HFW.out⟩
 | false =>
  have HK1 := q0h (show r = q5f 1 o n s l (l.map q0q) p by rw [HR.out, hwd]; rfl)
  clear hwd HR
  have HX := q0h (show r = p ++ (Lib.itoa n) from HK1.out)
  go_wp2_with fail
  refine (z5g n (by omega) hn.2 W (HG.out.at HBW.out).p10).mono ?_
  rintro e' w1 ⟨rfl, hb1⟩
  have HP1 := q0h (HPW.out.below hb1)
  have HF1 := q0h (PF.of_below (b := b) hb1 HPW.out.bw)
  clear hb1 z0 z1 z2 z3 z4 z5 z6 z7 lb
  go_wp2_with fail
  refine (q0j HP1.out [⟨(Lib.itoa n).toArray⟩] 1 rfl (by simp) (Lib.itoa n) (List.append_nil _) (by rw [<- HX.out]; exact HL.out)).mono ?_
  rintro e' w2 ⟨rfl, hp', hf'⟩
  have HP2 := q0h hp'
  have HF2 := q0h (HF1.out.trans hf')
  clear hp' hf'
  go_wp2_with fail
  go_end0
  exact ⟨rfl, by rw [HX.out]; exact HP2.out, HFW.out.trans HF2.out⟩
theorem j6i (o n : Int) (s : ByteArray) (l : List Ex) (a t pl : Int) (hn : 0 <= n /\ n <= 9223372036854775807) (ih : ∀ x ∈ l, q9d x) : q9d (.mk 2 o n s l a t pl) := by
 intro w0 cs B b lv p w hK hg h0 hb hp hl
 obtain ⟨A, c, rfl, hlc, hC⟩ := q2x hK
 obtain ⟨r, hr⟩ : ∃ r, r = q0q (.mk 2 o n s l a t pl) p := ⟨_, rfl⟩
 rw [<- hr] at hl ⊢
 rw [q3n] at hr
 obtain ⟨W, hW⟩ : ∃ W, W = w.alloc (.cells #[.int .i64 2, .int .i64 o, .int .i64 n, .string s, .slice A l.length c, .int .i64 a, .int .i64 t, .int .i64 pl] 86) := ⟨_, rfl⟩
 obtain ⟨bk, hbk⟩ : ∃ x, x = w.heap.size := ⟨_, rfl⟩
 have hba : Below w.heap.size w W := by rw [hW]; exact q0d (Below.refl _ _) _
 have hm : W.heap[bk]? = some (.cells #[.int .i64 2, .int .i64 o, .int .i64 n, .string s, .slice A l.length c, .int .i64 a, .int .i64 t, .int .i64 pl] 86 (0, 0)) := by rw [hW, hbk]; exact heap_alloc_new _ _
 have HPW := q0h (hp.below hba)
 have HFW := q0h (PF.of_below (b := b) hba hp.bw)
 have HE0 := q0h (PF.refl B b W)
 have HBW := q0h (hb.trans (hba.mono hb.size))
 have HM := q0h hm
 have HBB := q0h (show bk ≠ b from by have := hp.lt; omega)
 have HW := q0h hW
 have HBK := q0h hbk
 have HL := q0h hl
 have H0 := q0h h0
 have HG := q0h hg
 have HC := q0h hC
 have HI := q0h ih
 have HR := q0h hr
 have z0 : W.cell? ⟨bk, 0, none⟩ = some (.int .i64 2) := (q0a hm 0).trans rfl
 have z1 : W.cell? ⟨bk, 1, none⟩ = some (.int .i64 o) := (q0a hm 1).trans rfl
 have z2 : W.cell? ⟨bk, 2, none⟩ = some (.int .i64 n) := (q0a hm 2).trans rfl
 have z3 : W.cell? ⟨bk, 3, none⟩ = some (.string s) := (q0a hm 3).trans rfl
 have z4 : W.cell? ⟨bk, 4, none⟩ = some (.slice A l.length c) := (q0a hm 4).trans rfl
 have z5 : W.cell? ⟨bk, 5, none⟩ = some (.int .i64 a) := (q0a hm 5).trans rfl
 have z6 : W.cell? ⟨bk, 6, none⟩ = some (.int .i64 t) := (q0a hm 6).trans rfl
 have z7 : W.cell? ⟨bk, 7, none⟩ = some (.int .i64 pl) := (q0a hm 7).trans rfl
 have lb := q0c hm
 clear hba hm hW hbk hp hb hl h0 hg hK hC ih hr
 go_enter Tryz.func130, Tryz.ntmps130
 go_upto_region 1 with fail
 rw [<- HW.out, <- HBK.out]
 go_wp2_with fail
 refine (q3o HPW.out).mono ?_
 rintro e' w' ⟨rfl, rfl⟩
 cases hwd : q1w p with
 | true =>
  have HX := q0h (show r = p by rw [HR.out, if_pos hwd])
  go_wp2_with fail
  try simp only [Exit.inBlock, Exit.then]
  refine bodyPost_ret (results_none rfl _ _ _) rfl ?_
  exact ⟨rfl, by rw [HX.out]; exact HPW.out, HFW.out⟩
 | false =>
  have HK1 := q0h (show r = q5f 2 o n s l (l.map q0q) p by rw [HR.out, hwd]; rfl)
  clear hwd HR
  have HX := q0h (show r = p ++ (q4o n) from HK1.out)
  go_wp2_with fail
  refine (z1k n (by omega) hn.2 W (HG.out.at HBW.out).p10).mono ?_
  rintro e' w1 ⟨rfl, hb1⟩
  have HP1 := q0h (HPW.out.below hb1)
  have HF1 := q0h (PF.of_below (b := b) hb1 HPW.out.bw)
  clear hb1 z0 z1 z2 z3 z4 z5 z6 z7 lb
  go_wp2_with fail
  refine (q0j HP1.out [⟨(q4o n).toArray⟩] 1 rfl (by simp) (q4o n) (List.append_nil _) (by rw [<- HX.out]; exact HL.out)).mono ?_
  rintro e' w2 ⟨rfl, hp', hf'⟩
  have HP2 := q0h hp'
  have HF2 := q0h (HF1.out.trans hf')
  clear hp' hf'
  go_wp2_with fail
  go_end0
  exact ⟨rfl, by rw [HX.out]; exact HP2.out, HFW.out.trans HF2.out⟩
theorem j4l (b : Bool) : Lib.formatBool b = if b = true then [116, 114, 117, 101] else [102, 97, 108, 115, 101] := by cases b <;> decide
theorem q4w (l : List Ex) (h : 0 < l.length) : (l.map q0q).headD id = q0q (l.getD 0 zEx) := by cases l with | nil => cases h | cons e l => rfl
theorem map_tail (l : List Ex) (h : 1 < l.length) : (l.map q0q).tail.headD id = q0q (l.getD 1 zEx) := by
 cases l with
 | nil => cases h
 | cons e l => cases l with
  | nil => simp at h
  | cons f l => rfl
theorem j4m (o n : Int) (s : ByteArray) (l : List Ex) (a t pl : Int) (ih : ∀ x ∈ l, q9d x) : q9d (.mk 3 o n s l a t pl) := by
 intro w0 cs B b lv p w hK hg h0 hb hp hl
 obtain ⟨A, c, rfl, hlc, hC⟩ := q2x hK
 obtain ⟨r, hr⟩ : ∃ r, r = q0q (.mk 3 o n s l a t pl) p := ⟨_, rfl⟩
 rw [<- hr] at hl ⊢
 rw [q3n] at hr
 obtain ⟨W, hW⟩ : ∃ W, W = w.alloc (.cells #[.int .i64 3, .int .i64 o, .int .i64 n, .string s, .slice A l.length c, .int .i64 a, .int .i64 t, .int .i64 pl] 86) := ⟨_, rfl⟩
 obtain ⟨bk, hbk⟩ : ∃ x, x = w.heap.size := ⟨_, rfl⟩
 have hba : Below w.heap.size w W := by rw [hW]; exact q0d (Below.refl _ _) _
 have hm : W.heap[bk]? = some (.cells #[.int .i64 3, .int .i64 o, .int .i64 n, .string s, .slice A l.length c, .int .i64 a, .int .i64 t, .int .i64 pl] 86 (0, 0)) := by rw [hW, hbk]; exact heap_alloc_new _ _
 have HPW := q0h (hp.below hba)
 have HFW := q0h (PF.of_below (b := b) hba hp.bw)
 have HE0 := q0h (PF.refl B b W)
 have HBW := q0h (hb.trans (hba.mono hb.size))
 have HM := q0h hm
 have HBB := q0h (show bk ≠ b from by have := hp.lt; omega)
 have HW := q0h hW
 have HBK := q0h hbk
 have HL := q0h hl
 have H0 := q0h h0
 have HG := q0h hg
 have HC := q0h hC
 have HI := q0h ih
 have HR := q0h hr
 have z0 : W.cell? ⟨bk, 0, none⟩ = some (.int .i64 3) := (q0a hm 0).trans rfl
 have z1 : W.cell? ⟨bk, 1, none⟩ = some (.int .i64 o) := (q0a hm 1).trans rfl
 have z2 : W.cell? ⟨bk, 2, none⟩ = some (.int .i64 n) := (q0a hm 2).trans rfl
 have z3 : W.cell? ⟨bk, 3, none⟩ = some (.string s) := (q0a hm 3).trans rfl
 have z4 : W.cell? ⟨bk, 4, none⟩ = some (.slice A l.length c) := (q0a hm 4).trans rfl
 have z5 : W.cell? ⟨bk, 5, none⟩ = some (.int .i64 a) := (q0a hm 5).trans rfl
 have z6 : W.cell? ⟨bk, 6, none⟩ = some (.int .i64 t) := (q0a hm 6).trans rfl
 have z7 : W.cell? ⟨bk, 7, none⟩ = some (.int .i64 pl) := (q0a hm 7).trans rfl
 have lb := q0c hm
 clear hba hm hW hbk hp hb hl h0 hg hK hC ih hr
 go_enter Tryz.func130, Tryz.ntmps130
 go_upto_region 1 with fail
 rw [<- HW.out, <- HBK.out]
 go_wp2_with fail
 refine (q3o HPW.out).mono ?_
 rintro e' w' ⟨rfl, rfl⟩
 cases hwd : q1w p with
 | true =>
  have HX := q0h (show r = p by rw [HR.out, if_pos hwd])
  go_wp2_with fail
  try simp only [Exit.inBlock, Exit.then]
  refine bodyPost_ret (results_none rfl _ _ _) rfl ?_
  exact ⟨rfl, by rw [HX.out]; exact HPW.out, HFW.out⟩
 | false =>
  have HK1 := q0h (show r = q5f 3 o n s l (l.map q0q) p by rw [HR.out, hwd]; rfl)
  clear hwd HR
  have HX := q0h (show r = p ++ Lib.formatBool (n == 1) by rw [HK1.out, j4l]; unfold q5f; by_cases h1 : n = 1 <;> simp [h1])
  go_wp2_with fail
  refine (Tryz.strconv_FormatBool (n == 1) W).mono ?_
  rintro e' w' ⟨rfl, rfl⟩
  go_wp2_with fail
  refine (q0j HPW.out [⟨(Lib.formatBool (n == 1)).toArray⟩] 1 rfl (by simp) (Lib.formatBool (n == 1)) (List.append_nil _) (by rw [<- HX.out]; exact HL.out)).mono ?_
  rintro e' w1 ⟨rfl, hp', hf'⟩
  have HP1 := q0h hp'
  have HF1 := q0h (HE0.out.trans hf')
  clear hp' hf'
  go_wp2_with fail
  go_end0
  exact ⟨rfl, by rw [HX.out]; exact HP1.out, HFW.out.trans HF1.out⟩
theorem j0n (o n : Int) (s : ByteArray) (l : List Ex) (a t pl : Int) (hl1 : l.length = 1) (ih : ∀ x ∈ l, q9d x) : q9d (.mk 6 o n s l a t pl) := by
 intro w0 cs B b lv p w hK hg h0 hb hp hl
 obtain ⟨A, c, rfl, hlc, hC⟩ := q2x hK
 obtain ⟨r, hr⟩ : ∃ r, r = q0q (.mk 6 o n s l a t pl) p := ⟨_, rfl⟩
 rw [<- hr] at hl ⊢
 rw [q3n] at hr
 obtain ⟨W, hW⟩ : ∃ W, W = w.alloc (.cells #[.int .i64 6, .int .i64 o, .int .i64 n, .string s, .slice A l.length c, .int .i64 a, .int .i64 t, .int .i64 pl] 86) := ⟨_, rfl⟩
 obtain ⟨bk, hbk⟩ : ∃ x, x = w.heap.size := ⟨_, rfl⟩
 have hba : Below w.heap.size w W := by rw [hW]; exact q0d (Below.refl _ _) _
 have hm : W.heap[bk]? = some (.cells #[.int .i64 6, .int .i64 o, .int .i64 n, .string s, .slice A l.length c, .int .i64 a, .int .i64 t, .int .i64 pl] 86 (0, 0)) := by rw [hW, hbk]; exact heap_alloc_new _ _
 have HPW := q0h (hp.below hba)
 have HFW := q0h (PF.of_below (b := b) hba hp.bw)
 have HE0 := q0h (PF.refl B b W)
 have HBW := q0h (hb.trans (hba.mono hb.size))
 have HM := q0h hm
 have HBB := q0h (show bk ≠ b from by have := hp.lt; omega)
 have HW := q0h hW
 have HBK := q0h hbk
 have HL := q0h hl
 have H0 := q0h h0
 have HG := q0h hg
 have HC := q0h hC
 have HI := q0h ih
 have HR := q0h hr
 have z0 : W.cell? ⟨bk, 0, none⟩ = some (.int .i64 6) := (q0a hm 0).trans rfl
 have z1 : W.cell? ⟨bk, 1, none⟩ = some (.int .i64 o) := (q0a hm 1).trans rfl
 have z2 : W.cell? ⟨bk, 2, none⟩ = some (.int .i64 n) := (q0a hm 2).trans rfl
 have z3 : W.cell? ⟨bk, 3, none⟩ = some (.string s) := (q0a hm 3).trans rfl
 have z4 : W.cell? ⟨bk, 4, none⟩ = some (.slice A l.length c) := (q0a hm 4).trans rfl
 have z5 : W.cell? ⟨bk, 5, none⟩ = some (.int .i64 a) := (q0a hm 5).trans rfl
 have z6 : W.cell? ⟨bk, 6, none⟩ = some (.int .i64 t) := (q0a hm 6).trans rfl
 have z7 : W.cell? ⟨bk, 7, none⟩ = some (.int .i64 pl) := (q0a hm 7).trans rfl
 have lb := q0c hm
 clear hba hm hW hbk hp hb hl h0 hg hK hC ih hr
 have HN := q0h hl1
 clear hl1
 go_enter Tryz.func130, Tryz.ntmps130
 go_upto_region 1 with fail
 rw [<- HW.out, <- HBK.out]
 go_wp2_with fail
 refine (q3o HPW.out).mono ?_
 rintro e' w' ⟨rfl, rfl⟩
 cases hwd : q1w p with
 | true =>
  have HX := q0h (show r = p by rw [HR.out, if_pos hwd])
  go_wp2_with fail
  try simp only [Exit.inBlock, Exit.then]
  refine bodyPost_ret (results_none rfl _ _ _) rfl ?_
  exact ⟨rfl, by rw [HX.out]; exact HPW.out, HFW.out⟩
 | false =>
  have HK1 := q0h (show r = q5f 6 o n s l (l.map q0q) p by rw [HR.out, hwd]; rfl)
  clear hwd HR
  obtain ⟨ad, q0, q1, q2, q3, qA, qn, qc, q5, q6, q7, rfl, HKy, y0, y1, y2, y3, y4, y5, y6, y7⟩ := q6y HC.out 0 (by have := HN.out; omega)
  rw [Nat.zero_mul, q8t] at y0 y1 y2 y3 y4 y5 y6 y7
  obtain ⟨x0, hx0⟩ : ∃ x, x = l.getD 0 zEx := ⟨_, rfl⟩
  have HMy := q0h (q1a l zEx 0 (by have := HN.out; omega) x0 hx0)
  rw [<- hx0] at HKy
  have Yy0 := q0h y0
  have Yy1 := q0h y1
  have Yy2 := q0h y2
  have Yy3 := q0h y3
  have Yy4 := q0h y4
  have Yy5 := q0h y5
  have Yy6 := q0h y6
  have Yy7 := q0h y7
  clear y0 y1 y2 y3 y4 y5 y6 y7
  have HX := q0h (show r = q0q x0 (p ++ (toL s ++ [91])) ++ [93] by
   rw [HK1.out, show q5f 6 o n s l (l.map q0q) p = (l.map q0q).headD id (p ++ toL s ++ [91]) ++ [93] from rfl, q4w l (by have := HN.out; omega), <- hx0, List.append_assoc])
  have HL1 := q0h (show (q0q x0 (p ++ (toL s ++ [91]))).length + 1 <= LIM by have h := HL.out; rw [HX.out, List.length_append] at h; exact h)
  have HL2 := q0h (show (p ++ (toL s ++ [91])).length <= LIM by have := q3p x0 (p ++ (toL s ++ [91])); have := HL1.out; omega)
  clear hx0
  go_wp2_with fail
  clear z0 z1 z2 z3 z4 z5 z6 z7 lb
  refine (q0j HPW.out [s, ⟨#[91]⟩] 2 rfl (by simp) (toL s ++ [91]) rfl HL2.out).mono ?_
  rintro e' w1 ⟨rfl, hp', hf'⟩
  have HP1 := q0h hp'
  have HE1 := q0h (HE0.out.trans hf')
  clear hp' hf'
  have hm' := (HE1.out.nb bk (q0c HM.out) HBB.out (q0n HM.out (by decide))).trans HM.out
  have z0 : w1.cell? ⟨bk, 0, none⟩ = some (.int .i64 6) := (q0a hm' 0).trans rfl
  have z1 : w1.cell? ⟨bk, 1, none⟩ = some (.int .i64 o) := (q0a hm' 1).trans rfl
  have z2 : w1.cell? ⟨bk, 2, none⟩ = some (.int .i64 n) := (q0a hm' 2).trans rfl
  have z3 : w1.cell? ⟨bk, 3, none⟩ = some (.string s) := (q0a hm' 3).trans rfl
  have z4 : w1.cell? ⟨bk, 4, none⟩ = some (.slice (some ad) l.length c) := (q0a hm' 4).trans rfl
  have z5 : w1.cell? ⟨bk, 5, none⟩ = some (.int .i64 a) := (q0a hm' 5).trans rfl
  have z6 : w1.cell? ⟨bk, 6, none⟩ = some (.int .i64 t) := (q0a hm' 6).trans rfl
  have z7 : w1.cell? ⟨bk, 7, none⟩ = some (.int .i64 pl) := (q0a hm' 7).trans rfl
  have lb := q0c hm'
  clear hm'
  have HB1 := q0h (HBW.out.trans (HE1.out.be.mono H0.out))
  have hln : 0 < l.length := by have := HN.out; omega
  have hli : (0 : Int) < (l.length : Int) := by omega
  have y0 := q0b HB1.out Yy0.out
  have y1 := q0b HB1.out Yy1.out
  have y2 := q0b HB1.out Yy2.out
  have y3 := q0b HB1.out Yy3.out
  have y4 := q0b HB1.out Yy4.out
  have y5 := q0b HB1.out Yy5.out
  have y6 := q0b HB1.out Yy6.out
  have y7 := q0b HB1.out Yy7.out
  go_wp2_with fail
  clear z0 z1 z2 z3 z4 z5 z6 z7 lb
  clear y0 y1 y2 y3 y4 y5 y6 y7 hln hli
  refine (HI.out x0 HMy.out w0 _ B b lv (p ++ (toL s ++ [91])) _ HKy.out HG.out H0.out HB1.out HP1.out (by have := HL1.out; omega)).mono ?_
  rintro e' w2 ⟨rfl, hp', hf'⟩
  have HP2 := q0h hp'
  have HE2 := q0h (HE1.out.trans hf')
  clear hp' hf'
  go_wp2_with fail
  refine (q0j HP2.out [⟨#[93]⟩] 1 rfl (by simp) [93] rfl (by rw [<- HX.out]; exact HL.out)).mono ?_
  rintro e' w3 ⟨rfl, hp', hf'⟩
  have HP3 := q0h hp'
  have HE3 := q0h (HE2.out.trans hf')
  clear hp' hf'
  go_wp2_with fail
  go_end0
  exact ⟨rfl, by rw [HX.out]; exact HP3.out, HFW.out.trans HE3.out⟩
theorem z5j {w : World} {x : Ex} {k o n : Int} {s : ByteArray} {A : Option Addr} {l c : Nat} {a t p : Int} (h : kEx.K w x [.int .i64 k, .int .i64 o, .int .i64 n, .string s, .slice A l c, .int .i64 a, .int .i64 t, .int .i64 p]) : k = x.kind /\ o = x.op := by
 obtain ⟨k', o', n', s', l', a', t', p'⟩ := x
 obtain ⟨_, _, h5, _⟩ := q2x h
 cases h5
 exact ⟨rfl, rfl⟩
theorem j6j {x : Ex} (h : q0x x = true) (hk : x.kind = 9) : 1 <= x.op /\ x.op <= 13 := by
 obtain ⟨k', o', n', s', l', a', t', p'⟩ := x
 have hk2 : k' = 9 := hk
 subst hk2
 rw [q9w, Bool.and_eq_true] at h
 have h1 := h.1
 have h2 : q2f 9 = some (false, 1, 13, 2, 2) := by decide
 unfold q5e at h1
 rw [h2] at h1
 simp only [Bool.and_eq_true, decide_eq_true_eq] at h1
 exact ⟨h1.1.1.1.1.1, h1.1.1.1.1.2⟩
theorem j9h (ad : Addr) : ad.add 8 = ⟨ad.block, ad.off + 8, none⟩ := by
 unfold Addr.add
 split
 ·rename_i h; exact absurd h (by decide)
 ·rfl
theorem q3f {p q : List UInt8} {n : Nat} (h : (p ++ q).length <= n) : p.length <= n := Nat.le_trans (by rw [List.length_append]; omega) h
theorem z7q (l : List Ex) (h : 0 < l.length) : l.headD (.mk 0 0 0 ⟨#[]⟩ [] 0 0 0) = l.getD 0 zEx := by cases l with | nil => simp at h | cons e l => rfl
theorem x6m (l : List Ex) (h : 1 < l.length) : l.tail.headD (.mk 0 0 0 ⟨#[]⟩ [] 0 0 0) = l.getD 1 zEx := by
 cases l with
 | nil => simp at h
 | cons e l => cases l with
  | nil => simp at h
  | cons f l => rfl
theorem j0o (o n : Int) (s : ByteArray) (l : List Ex) (a t pl : Int) (hl1 : l.length = 1) (ho : 0 <= o /\ o < 16) (ih : ∀ x ∈ l, q9d x) : q9d (.mk 8 o n s l a t pl) := by
 intro w0 cs B b lv p w hK hg h0 hb hp hl
 obtain ⟨A, c, rfl, hlc, hC⟩ := q2x hK
 obtain ⟨r, hr⟩ : ∃ r, r = q0q (.mk 8 o n s l a t pl) p := ⟨_, rfl⟩
 rw [<- hr] at hl ⊢
 rw [q3n] at hr
 obtain ⟨W, hW⟩ : ∃ W, W = w.alloc (.cells #[.int .i64 8, .int .i64 o, .int .i64 n, .string s, .slice A l.length c, .int .i64 a, .int .i64 t, .int .i64 pl] 86) := ⟨_, rfl⟩
 obtain ⟨bk, hbk⟩ : ∃ x, x = w.heap.size := ⟨_, rfl⟩
 have hba : Below w.heap.size w W := by rw [hW]; exact q0d (Below.refl _ _) _
 have hm : W.heap[bk]? = some (.cells #[.int .i64 8, .int .i64 o, .int .i64 n, .string s, .slice A l.length c, .int .i64 a, .int .i64 t, .int .i64 pl] 86 (0, 0)) := by rw [hW, hbk]; exact heap_alloc_new _ _
 have HPW := q0h (hp.below hba)
 have HFW := q0h (PF.of_below (b := b) hba hp.bw)
 have HE0 := q0h (PF.refl B b W)
 have HBW := q0h (hb.trans (hba.mono hb.size))
 have HM := q0h hm
 have HBB := q0h (show bk ≠ b from by have := hp.lt; omega)
 have HW := q0h hW
 have HBK := q0h hbk
 have HL := q0h hl
 have H0 := q0h h0
 have HG := q0h hg
 have HC := q0h hC
 have HI := q0h ih
 have HR := q0h hr
 have z0 : W.cell? ⟨bk, 0, none⟩ = some (.int .i64 8) := (q0a hm 0).trans rfl
 have z1 : W.cell? ⟨bk, 1, none⟩ = some (.int .i64 o) := (q0a hm 1).trans rfl
 have z2 : W.cell? ⟨bk, 2, none⟩ = some (.int .i64 n) := (q0a hm 2).trans rfl
 have z3 : W.cell? ⟨bk, 3, none⟩ = some (.string s) := (q0a hm 3).trans rfl
 have z4 : W.cell? ⟨bk, 4, none⟩ = some (.slice A l.length c) := (q0a hm 4).trans rfl
 have z5 : W.cell? ⟨bk, 5, none⟩ = some (.int .i64 a) := (q0a hm 5).trans rfl
 have z6 : W.cell? ⟨bk, 6, none⟩ = some (.int .i64 t) := (q0a hm 6).trans rfl
 have z7 : W.cell? ⟨bk, 7, none⟩ = some (.int .i64 pl) := (q0a hm 7).trans rfl
 have lb := q0c hm
 clear hba hm hW hbk hp hb hl h0 hg hK hC ih hr
 have HN := q0h hl1
 clear hl1
 go_enter Tryz.func130, Tryz.ntmps130
 go_upto_region 1 with fail
 rw [<- HW.out, <- HBK.out]
 go_wp2_with fail
 refine (q3o HPW.out).mono ?_
 rintro e' w' ⟨rfl, rfl⟩
 cases hwd : q1w p with
 | true =>
  have HX := q0h (show r = p by rw [HR.out, if_pos hwd])
  go_wp2_with fail
  try simp only [Exit.inBlock, Exit.then]
  refine bodyPost_ret (results_none rfl _ _ _) rfl ?_
  exact ⟨rfl, by rw [HX.out]; exact HPW.out, HFW.out⟩
 | false =>
  have HK1 := q0h (show r = q5f 8 o n s l (l.map q0q) p by rw [HR.out, hwd]; rfl)
  clear hwd HR
  obtain ⟨ad, q0, q1, q2, q3, qA, qn, qc, q5, q6, q7, rfl, HKy, y0, y1, y2, y3, y4, y5, y6, y7⟩ := q6y HC.out 0 (by have := HN.out; omega)
  rw [Nat.zero_mul, q8t] at y0 y1 y2 y3 y4 y5 y6 y7
  obtain ⟨x0, hx0⟩ : ∃ x, x = l.getD 0 zEx := ⟨_, rfl⟩
  have HMy := q0h (q1a l zEx 0 (by have := HN.out; omega) x0 hx0)
  rw [<- hx0] at HKy
  have Yy0 := q0h y0
  have Yy1 := q0h y1
  have Yy2 := q0h y2
  have Yy3 := q0h y3
  have Yy4 := q0h y4
  have Yy5 := q0h y5
  have Yy6 := q0h y6
  have Yy7 := q0h y7
  clear y0 y1 y2 y3 y4 y5 y6 y7
  have HKO := q0h (z5j HKy.out)
  have HX := q0h (show r = q4k (q0q x0) (q0 == 9) (p ++ sgT o) by
   rw [HK1.out, show q5f 8 o n s l (l.map q0q) p = q4k ((l.map q0q).headD id) ((l.headD (.mk 0 0 0 ⟨#[]⟩ [] 0 0 0)).kind == 9) (p ++ sgT o) from rfl, q4w l (by have := HN.out; omega), z7q l (by have := HN.out; omega), <- hx0, HKO.out.1])
  have HL1 := q0h (show (q4k (q0q x0) (q0 == 9) (p ++ sgT o)).length <= LIM by rw [<- HX.out]; exact HL.out)
  have HL2 := q0h (show (p ++ sgT o).length <= LIM by have := z3e (q3p x0) (q0 == 9) (p ++ sgT o); have := HL1.out; omega)
  have hsg := j0m (HG.out.at HBW.out) o ho.1 ho.2
  clear hx0
  go_wp2_with fail
  clear z0 z1 z2 z3 z4 z5 z6 z7 lb
  clear hsg
  refine (q0j HPW.out [⟨(sgT o).toArray⟩] 1 rfl (by simp) (sgT o) (List.append_nil _) HL2.out).mono ?_
  rintro e' w1 ⟨rfl, hp', hf'⟩
  have HP1 := q0h hp'
  have HE1 := q0h (HE0.out.trans hf')
  clear hp' hf'
  have HB1 := q0h (HBW.out.trans (HE1.out.be.mono H0.out))
  have hm' := (HE1.out.nb bk (q0c HM.out) HBB.out (q0n HM.out (by decide))).trans HM.out
  have z0 : w1.cell? ⟨bk, 0, none⟩ = some (.int .i64 8) := (q0a hm' 0).trans rfl
  have z1 : w1.cell? ⟨bk, 1, none⟩ = some (.int .i64 o) := (q0a hm' 1).trans rfl
  have z2 : w1.cell? ⟨bk, 2, none⟩ = some (.int .i64 n) := (q0a hm' 2).trans rfl
  have z3 : w1.cell? ⟨bk, 3, none⟩ = some (.string s) := (q0a hm' 3).trans rfl
  have z4 : w1.cell? ⟨bk, 4, none⟩ = some (.slice (some ad) l.length c) := (q0a hm' 4).trans rfl
  have z5 : w1.cell? ⟨bk, 5, none⟩ = some (.int .i64 a) := (q0a hm' 5).trans rfl
  have z6 : w1.cell? ⟨bk, 6, none⟩ = some (.int .i64 t) := (q0a hm' 6).trans rfl
  have z7 : w1.cell? ⟨bk, 7, none⟩ = some (.int .i64 pl) := (q0a hm' 7).trans rfl
  have lb := q0c hm'
  clear hm'
  have hln : 0 < l.length := by have := HN.out; omega
  have hli : (0 : Int) < (l.length : Int) := by omega
  have y0 := q0b HB1.out Yy0.out
  have y1 := q0b HB1.out Yy1.out
  have y2 := q0b HB1.out Yy2.out
  have y3 := q0b HB1.out Yy3.out
  have y4 := q0b HB1.out Yy4.out
  have y5 := q0b HB1.out Yy5.out
  have y6 := q0b HB1.out Yy6.out
  have y7 := q0b HB1.out Yy7.out
  go_wp2_with fail
  have hsx : Below w1.heap.size w1 w1.drew := q1n (Below.refl _ _)
  have HSX := q0h hsx
  clear hsx
  go_region_held3 (fun w' => w'.cell? ⟨bk, 4, none⟩ = some (.slice (some ad) l.length c) /\ w'.cell? ad = some (.int .i64 q0) /\ w'.cell? ⟨ad.block, ad.off + 1, none⟩ = some (.int .i64 q1) /\ w'.cell? ⟨ad.block, ad.off + 2, none⟩ = some (.int .i64 q2) /\ w'.cell? ⟨ad.block, ad.off + 3, none⟩ = some (.string q3) /\ w'.cell? ⟨ad.block, ad.off + 4, none⟩ = some (.slice qA qn qc) /\ w'.cell? ⟨ad.block, ad.off + 5, none⟩ = some (.int .i64 q5) /\ w'.cell? ⟨ad.block, ad.off + 6, none⟩ = some (.int .i64 q6) /\ w'.cell? ⟨ad.block, ad.off + 7, none⟩ = some (.int .i64 q7)) (go_keep)
   (first
    | (go_at_call 169; ((with_reducible refine (q7a (HI.out x0 HMy.out) (q0 == 9) w0 _ B b lv (p ++ sgT o) _ HKy.out HG.out H0.out (HB1.out.trans (HSX.out.mono HB1.out.size)) (HP1.out.below HSX.out) HL1.out).mono ?_); rintro e' w2 ⟨rfl, hp', hf'⟩; have HP2 := q0h hp'; have HE2 := q0h ((HE1.out.trans (PF.of_below (b := b) HSX.out HP1.out.bw)).trans hf'); have hm' := (HE2.out.nb bk (q0c HM.out) HBB.out (q0n HM.out (by decide))).trans HM.out; have HBx := q0h (HBW.out.trans (HE2.out.be.mono H0.out)); have z4 : w2.cell? ⟨bk, 4, none⟩ = some (.slice (some ad) l.length c) := (q0a hm' 4).trans rfl; have y0 := q0b HBx.out Yy0.out; have y1 := q0b HBx.out Yy1.out; have y2 := q0b HBx.out Yy2.out; have y3 := q0b HBx.out Yy3.out; have y4 := q0b HBx.out Yy4.out; have y5 := q0b HBx.out Yy5.out; have y6 := q0b HBx.out Yy6.out; have y7 := q0b HBx.out Yy7.out; clear hp' hf' hm')))
  clear z0 z1 z2 z3 z4 z5 z6 z7 lb
  clear y0 y1 y2 y3 y4 y5 y6 y7 hln hli
  go_wp2_with fail
  go_end0
  exact ⟨rfl, by rw [HX.out]; exact HP2.out, HFW.out.trans HE2.out⟩
theorem j4n (o n : Int) (s : ByteArray) (l : List Ex) (a t pl : Int) (hl1 : l.length = 2) (ho : 1 <= o /\ o <= 13) (hall : l.all q0x = true) (ih : ∀ x ∈ l, q9d x) : q9d (.mk 9 o n s l a t pl) := by
 intro w0 cs B b lv p w hK hg h0 hb hp hl
 obtain ⟨A, c, rfl, hlc, hC⟩ := q2x hK
 obtain ⟨r, hr⟩ : ∃ r, r = q0q (.mk 9 o n s l a t pl) p := ⟨_, rfl⟩
 rw [<- hr] at hl ⊢
 rw [q3n] at hr
 obtain ⟨W, hW⟩ : ∃ W, W = w.alloc (.cells #[.int .i64 9, .int .i64 o, .int .i64 n, .string s, .slice A l.length c, .int .i64 a, .int .i64 t, .int .i64 pl] 86) := ⟨_, rfl⟩
 obtain ⟨bk, hbk⟩ : ∃ x, x = w.heap.size := ⟨_, rfl⟩
 have hba : Below w.heap.size w W := by rw [hW]; exact q0d (Below.refl _ _) _
 have hm : W.heap[bk]? = some (.cells #[.int .i64 9, .int .i64 o, .int .i64 n, .string s, .slice A l.length c, .int .i64 a, .int .i64 t, .int .i64 pl] 86 (0, 0)) := by rw [hW, hbk]; exact heap_alloc_new _ _
 have HPW := q0h (hp.below hba)
 have HFW := q0h (PF.of_below (b := b) hba hp.bw)
 have HE0 := q0h (PF.refl B b W)
 have HBW := q0h (hb.trans (hba.mono hb.size))
 have HM := q0h hm
 have HBB := q0h (show bk ≠ b from by have := hp.lt; omega)
 have HW := q0h hW
 have HBK := q0h hbk
 have HL := q0h hl
 have H0 := q0h h0
 have HG := q0h hg
 have HC := q0h hC
 have HI := q0h ih
 have HR := q0h hr
 have z0 : W.cell? ⟨bk, 0, none⟩ = some (.int .i64 9) := (q0a hm 0).trans rfl
 have z1 : W.cell? ⟨bk, 1, none⟩ = some (.int .i64 o) := (q0a hm 1).trans rfl
 have z2 : W.cell? ⟨bk, 2, none⟩ = some (.int .i64 n) := (q0a hm 2).trans rfl
 have z3 : W.cell? ⟨bk, 3, none⟩ = some (.string s) := (q0a hm 3).trans rfl
 have z4 : W.cell? ⟨bk, 4, none⟩ = some (.slice A l.length c) := (q0a hm 4).trans rfl
 have z5 : W.cell? ⟨bk, 5, none⟩ = some (.int .i64 a) := (q0a hm 5).trans rfl
 have z6 : W.cell? ⟨bk, 6, none⟩ = some (.int .i64 t) := (q0a hm 6).trans rfl
 have z7 : W.cell? ⟨bk, 7, none⟩ = some (.int .i64 pl) := (q0a hm 7).trans rfl
 have lb := q0c hm
 clear hba hm hW hbk hp hb hl h0 hg hK hC ih hr
 have HN := q0h hl1
 clear hl1
 have HALL := q0h hall
 clear hall
 go_enter Tryz.func130, Tryz.ntmps130
 go_upto_region 1 with fail
 rw [<- HW.out, <- HBK.out]
 go_wp2_with fail
 refine (q3o HPW.out).mono ?_
 rintro e' w' ⟨rfl, rfl⟩
 cases hwd : q1w p with
 | true =>
  have HX := q0h (show r = p by rw [HR.out, if_pos hwd])
  go_wp2_with fail
  try simp only [Exit.inBlock, Exit.then]
  refine bodyPost_ret (results_none rfl _ _ _) rfl ?_
  exact ⟨rfl, by rw [HX.out]; exact HPW.out, HFW.out⟩
 | false =>
  have HK1 := q0h (show r = q5f 9 o n s l (l.map q0q) p by rw [HR.out, hwd]; rfl)
  clear hwd HR
  obtain ⟨ad, q0, q1, q2, q3, qA, qn, qc, q5, q6, q7, rfl, HKy, y0, y1, y2, y3, y4, y5, y6, y7⟩ := q6y HC.out 0 (by have := HN.out; omega)
  rw [Nat.zero_mul, q8t] at y0 y1 y2 y3 y4 y5 y6 y7
  obtain ⟨x0, hx0⟩ : ∃ x, x = l.getD 0 zEx := ⟨_, rfl⟩
  have HMy := q0h (q1a l zEx 0 (by have := HN.out; omega) x0 hx0)
  rw [<- hx0] at HKy
  have Yy0 := q0h y0
  have Yy1 := q0h y1
  have Yy2 := q0h y2
  have Yy3 := q0h y3
  have Yy4 := q0h y4
  have Yy5 := q0h y5
  have Yy6 := q0h y6
  have Yy7 := q0h y7
  clear y0 y1 y2 y3 y4 y5 y6 y7
  obtain ⟨ad2, r0, r1, r2, r3, rA, rn, rc, r5, r6, r7, he2, HKv, v0, v1, v2, v3, v4, v5, v6, v7⟩ := q6y HC.out 1 (by have := HN.out; omega)
  injection he2 with he2
  subst he2
  rw [Nat.one_mul, j9h] at v0 v1 v2 v3 v4 v5 v6 v7
  obtain ⟨x1, hx1⟩ : ∃ x, x = l.getD 1 zEx := ⟨_, rfl⟩
  have HMv := q0h (q1a l zEx 1 (by have := HN.out; omega) x1 hx1)
  rw [<- hx1] at HKv
  have Yv0 := q0h v0
  have Yv1 := q0h v1
  have Yv2 := q0h v2
  have Yv3 := q0h v3
  have Yv4 := q0h v4
  have Yv5 := q0h v5
  have Yv6 := q0h v6
  have Yv7 := q0h v7
  clear v0 v1 v2 v3 v4 v5 v6 v7
  have HKO := q0h (z5j HKy.out)
  have HKP := q0h (z5j HKv.out)
  have hq9 : q0 = 9 -> 1 <= q1 /\ q1 <= 13 := fun h => by have h5 := j6j (List.all_eq_true.1 HALL.out x0 HMy.out) (HKO.out.1 ▸ h); rw [HKO.out.2]; exact h5
  have hr9 : r0 = 9 -> 1 <= r1 /\ r1 <= 13 := fun h => by have h5 := j6j (List.all_eq_true.1 HALL.out x1 HMv.out) (HKP.out.1 ▸ h); rw [HKP.out.2]; exact h5
  have HQ9 := q0h hq9
  have HR9 := q0h hr9
  obtain ⟨L, hL⟩ : ∃ L, L = q0u q0 q1 := ⟨_, rfl⟩
  obtain ⟨R, hR⟩ : ∃ L, L = q0u r0 r1 := ⟨_, rfl⟩
  obtain ⟨S, hS⟩ : ∃ L, L = q0u 9 o := ⟨_, rfl⟩
  obtain ⟨b1, hb1⟩ : ∃ b, b = (decide (L < S) || (L == S && S == 3)) := ⟨_, rfl⟩
  have HX := q0h (show r = q4k (q0q x1) (decide (R <= S)) (q4k (q0q x0) b1 p ++ ([32] ++ sgT o ++ [32])) by
   rw [HK1.out, show q5f 9 o n s l (l.map q0q) p = q4k ((l.map q0q).tail.headD id) (decide (q0v (l.tail.headD (.mk 0 0 0 ⟨#[]⟩ [] 0 0 0)) <= q0u 9 o)) (q4k ((l.map q0q).headD id) (decide (q0v (l.headD (.mk 0 0 0 ⟨#[]⟩ [] 0 0 0)) < q0u 9 o) || (q0v (l.headD (.mk 0 0 0 ⟨#[]⟩ [] 0 0 0)) == q0u 9 o && q0u 9 o == 3)) p ++ [32] ++ sgT o ++ [32]) from rfl, map_tail l (by have := HN.out; omega), q4w l (by have := HN.out; omega), z7q l (by have := HN.out; omega), x6m l (by have := HN.out; omega), <- hx0, <- hx1, show q0v x0 = L by rw [hL, HKO.out.1, HKO.out.2]; rfl, show q0v x1 = R by rw [hR, HKP.out.1, HKP.out.2]; rfl, <- hS, <- hb1]
   simp only [List.append_assoc])
  have HL1 := q0h (show (q4k (q0q x1) (decide (R <= S)) (q4k (q0q x0) b1 p ++ ([32] ++ sgT o ++ [32]))).length <= LIM by rw [<- HX.out]; exact HL.out)
  have HL2 := q0h (show (q4k (q0q x0) b1 p ++ ([32] ++ sgT o ++ [32])).length <= LIM by have := z3e (q3p x1) (decide (R <= S)) (q4k (q0q x0) b1 p ++ ([32] ++ sgT o ++ [32])); have := HL1.out; omega)
  have HL3 := q0h (show (q4k (q0q x0) b1 p).length <= LIM from q3f HL2.out)
  have hln1 : 1 < l.length := by have := HN.out; omega
  have hli1 : (1 : Int) < (l.length : Int) := by omega
  have hln : 0 < l.length := by omega
  have hli : (0 : Int) < (l.length : Int) := by omega
  have y0 := q0b HBW.out Yy0.out
  have v0 := q0b HBW.out Yv0.out
  have y1 := q0b HBW.out Yy1.out
  have v1 := q0b HBW.out Yv1.out
  have y2 := q0b HBW.out Yy2.out
  have v2 := q0b HBW.out Yv2.out
  have y3 := q0b HBW.out Yy3.out
  have v3 := q0b HBW.out Yv3.out
  have y4 := q0b HBW.out Yy4.out
  have v4 := q0b HBW.out Yv4.out
  have y5 := q0b HBW.out Yy5.out
  have v5 := q0b HBW.out Yv5.out
  have y6 := q0b HBW.out Yy6.out
  have v6 := q0b HBW.out Yv6.out
  have y7 := q0b HBW.out Yy7.out
  have v7 := q0b HBW.out Yv7.out
  have HHS := q0h hS
  have HHL := q0h hL
  have HHR := q0h hR
  have HB1V := q0h hb1
  clear hx0 hx1 hq9 hr9 hS hL hR hb1
  go_wp2_with fail
  refine q5y (by kernel_rfl) (by kernel_rfl) ?_
  refine q8n (by rfl) (fun w' hC => by have uz0 := q0b hC z0; have uz1 := q0b hC z1; have uz2 := q0b hC z2; have uz3 := q0b hC z3; have uz4 := q0b hC z4; have uz5 := q0b hC z5; have uz6 := q0b hC z6; have uz7 := q0b hC z7; clear hC; go_simp; with_reducible rfl) ?_
  go_simp
  refine z7p #[.agg #[.int .i64 9, .int .i64 o, .int .i64 n, .string s, .slice (some ad) l.length c, .int .i64 a, .int .i64 t, .int .i64 pl]] (by rfl) Tryz.func170 (by kernel_rfl) rfl rfl (by simp only [List.map_toArray, List.map_cons, List.map_nil]; rfl) (fun w' hC => (q9a 9 o n s _ _ _ a t pl (fun _ => ho) w').mono (by rintro e w1 ⟨rfl, hb⟩; exact ⟨rfl, q0e hC hb⟩)) ?_
  go_simp
  refine q8n (by rfl) (fun w' hC => by have uz4 := q0b hC z4; have uy0 := q0b hC y0; have uy1 := q0b hC y1; have uy2 := q0b hC y2; have uy3 := q0b hC y3; have uy4 := q0b hC y4; have uy5 := q0b hC y5; have uy6 := q0b hC y6; have uy7 := q0b hC y7; clear hC; go_simp; with_reducible rfl) ?_
  go_simp
  refine q8n (by rfl) (fun w' hC => by have uz4 := q0b hC z4; have uy0 := q0b hC y0; have uy1 := q0b hC y1; have uy2 := q0b hC y2; have uy3 := q0b hC y3; have uy4 := q0b hC y4; have uy5 := q0b hC y5; have uy6 := q0b hC y6; have uy7 := q0b hC y7; clear hC; go_simp; with_reducible rfl) ?_
  go_simp
  refine q8n (by rfl) (fun w' hC => by have uz4 := q0b hC z4; have uy0 := q0b hC y0; have uy1 := q0b hC y1; have uy2 := q0b hC y2; have uy3 := q0b hC y3; have uy4 := q0b hC y4; have uy5 := q0b hC y5; have uy6 := q0b hC y6; have uy7 := q0b hC y7; clear hC; go_simp; with_reducible rfl) ?_
  go_simp
  refine q8n (by rfl) (fun w' hC => by have uz4 := q0b hC z4; have uy0 := q0b hC y0; have uy1 := q0b hC y1; have uy2 := q0b hC y2; have uy3 := q0b hC y3; have uy4 := q0b hC y4; have uy5 := q0b hC y5; have uy6 := q0b hC y6; have uy7 := q0b hC y7; clear hC; go_simp; with_reducible rfl) ?_
  go_simp
  refine z7p #[.agg #[.int .i64 q0, .int .i64 q1, .int .i64 q2, .string q3, .slice qA qn qc, .int .i64 q5, .int .i64 q6, .int .i64 q7]] (by rfl) Tryz.func170 (by kernel_rfl) rfl rfl (by simp only [List.map_toArray, List.map_cons, List.map_nil]; rfl) (fun w' hC => (q9a q0 q1 q2 q3 _ _ _ q5 q6 q7 HQ9.out w').mono (by rintro e w1 ⟨rfl, hb⟩; exact ⟨rfl, q0e hC hb⟩)) ?_
  go_simp
  refine q8n (by rfl) (fun w' hC => by have uz4 := q0b hC z4; have uv0 := q0b hC v0; have uv1 := q0b hC v1; have uv2 := q0b hC v2; have uv3 := q0b hC v3; have uv4 := q0b hC v4; have uv5 := q0b hC v5; have uv6 := q0b hC v6; have uv7 := q0b hC v7; clear hC; go_simp; with_reducible rfl) ?_
  go_simp
  refine q8n (by rfl) (fun w' hC => by have uz4 := q0b hC z4; have uv0 := q0b hC v0; have uv1 := q0b hC v1; have uv2 := q0b hC v2; have uv3 := q0b hC v3; have uv4 := q0b hC v4; have uv5 := q0b hC v5; have uv6 := q0b hC v6; have uv7 := q0b hC v7; clear hC; go_simp; with_reducible rfl) ?_
  go_simp
  refine q8n (by rfl) (fun w' hC => by have uz4 := q0b hC z4; have uv0 := q0b hC v0; have uv1 := q0b hC v1; have uv2 := q0b hC v2; have uv3 := q0b hC v3; have uv4 := q0b hC v4; have uv5 := q0b hC v5; have uv6 := q0b hC v6; have uv7 := q0b hC v7; clear hC; go_simp; with_reducible rfl) ?_
  go_simp
  refine q8n (by rfl) (fun w' hC => by have uz4 := q0b hC z4; have uv0 := q0b hC v0; have uv1 := q0b hC v1; have uv2 := q0b hC v2; have uv3 := q0b hC v3; have uv4 := q0b hC v4; have uv5 := q0b hC v5; have uv6 := q0b hC v6; have uv7 := q0b hC v7; clear hC; go_simp; with_reducible rfl) ?_
  go_simp
  refine z7p #[.agg #[.int .i64 r0, .int .i64 r1, .int .i64 r2, .string r3, .slice rA rn rc, .int .i64 r5, .int .i64 r6, .int .i64 r7]] (by rfl) Tryz.func170 (by kernel_rfl) rfl rfl (by simp only [List.map_toArray, List.map_cons, List.map_nil]; rfl) (fun w' hC => (q9a r0 r1 r2 r3 _ _ _ r5 r6 r7 HR9.out w').mono (by rintro e w1 ⟨rfl, hb⟩; exact ⟨rfl, q0e hC hb⟩)) ?_
  go_simp
  refine q8n (by rfl) (fun w' hC => by skip; clear hC; go_simp; with_reducible rfl) ?_
  go_simp
  refine q8n (by rfl) (fun w' hC => by skip; clear hC; go_simp; with_reducible rfl) ?_
  go_simp
  refine q8n (by rfl) (fun w' hC => by skip; clear hC; go_simp; with_reducible rfl) ?_
  go_simp
  refine wpQuiet_nil ?_
  intro w1 hw1
  have HP1 := q0h (HPW.out.below hw1)
  have HE1 := q0h (PF.of_below (b := b) hw1 HPW.out.bw)
  have HB1 := q0h (HBW.out.trans (hw1.mono HBW.out.size))
  rw [<- HHS.out, <- HHL.out, <- HHR.out]
  clear hw1 z0 z1 z2 z3 z4 z5 z6 z7 lb y0 y1 y2 y3 y4 y5 y6 y7 v0 v1 v2 v3 v4 v5 v6 v7
  have hm' := (HE1.out.nb bk (q0c HM.out) HBB.out (q0n HM.out (by decide))).trans HM.out
  have z0 : w1.cell? ⟨bk, 0, none⟩ = some (.int .i64 9) := (q0a hm' 0).trans rfl
  have z1 : w1.cell? ⟨bk, 1, none⟩ = some (.int .i64 o) := (q0a hm' 1).trans rfl
  have z2 : w1.cell? ⟨bk, 2, none⟩ = some (.int .i64 n) := (q0a hm' 2).trans rfl
  have z3 : w1.cell? ⟨bk, 3, none⟩ = some (.string s) := (q0a hm' 3).trans rfl
  have z4 : w1.cell? ⟨bk, 4, none⟩ = some (.slice (some ad) l.length c) := (q0a hm' 4).trans rfl
  have z5 : w1.cell? ⟨bk, 5, none⟩ = some (.int .i64 a) := (q0a hm' 5).trans rfl
  have z6 : w1.cell? ⟨bk, 6, none⟩ = some (.int .i64 t) := (q0a hm' 6).trans rfl
  have z7 : w1.cell? ⟨bk, 7, none⟩ = some (.int .i64 pl) := (q0a hm' 7).trans rfl
  have lb := q0c hm'
  clear hm'
  have y0 := q0b HB1.out Yy0.out
  have y1 := q0b HB1.out Yy1.out
  have y2 := q0b HB1.out Yy2.out
  have y3 := q0b HB1.out Yy3.out
  have y4 := q0b HB1.out Yy4.out
  have y5 := q0b HB1.out Yy5.out
  have y6 := q0b HB1.out Yy6.out
  have y7 := q0b HB1.out Yy7.out
  by_cases c1 : L < S
  ·obtain rfl : b1 = true := by rw [HB1V.out, decide_eq_true c1]; rfl
   go_wp2_with fail
   clear z0 z1 z2 z3 z4 z5 z6 z7 lb
   clear y0 y1 y2 y3 y4 y5 y6 y7
   refine (q7a (HI.out x0 HMy.out) true w0 _ B b lv p w1 HKy.out HG.out H0.out HB1.out HP1.out HL3.out).mono ?_
   rintro e' w2 ⟨rfl, hp', hf'⟩
   have HP2 := q0h hp'
   have HE2 := q0h (HE1.out.trans hf')
   have HB2 := q0h (HBW.out.trans ((HE1.out.trans hf').be.mono H0.out))
   clear hp' hf'
   have hsg := j0m (HG.out.at HB2.out) o (by omega) (by omega)
   have hm' := (HE2.out.nb bk (q0c HM.out) HBB.out (q0n HM.out (by decide))).trans HM.out
   have z0 : w2.cell? ⟨bk, 0, none⟩ = some (.int .i64 9) := (q0a hm' 0).trans rfl
   have z1 : w2.cell? ⟨bk, 1, none⟩ = some (.int .i64 o) := (q0a hm' 1).trans rfl
   have z2 : w2.cell? ⟨bk, 2, none⟩ = some (.int .i64 n) := (q0a hm' 2).trans rfl
   have z3 : w2.cell? ⟨bk, 3, none⟩ = some (.string s) := (q0a hm' 3).trans rfl
   have z4 : w2.cell? ⟨bk, 4, none⟩ = some (.slice (some ad) l.length c) := (q0a hm' 4).trans rfl
   have z5 : w2.cell? ⟨bk, 5, none⟩ = some (.int .i64 a) := (q0a hm' 5).trans rfl
   have z6 : w2.cell? ⟨bk, 6, none⟩ = some (.int .i64 t) := (q0a hm' 6).trans rfl
   have z7 : w2.cell? ⟨bk, 7, none⟩ = some (.int .i64 pl) := (q0a hm' 7).trans rfl
   have lb := q0c hm'
   clear hm'
   go_wp2_with fail
   clear hsg
   clear z0 z1 z2 z3 z4 z5 z6 z7 lb
   refine (q0j HP2.out [⟨#[32]⟩, ⟨(sgT o).toArray⟩, ⟨#[32]⟩] 3 rfl (by simp) ([32] ++ sgT o ++ [32]) (by simp [q7k, toL]) HL2.out).mono ?_
   rintro e' w3 ⟨rfl, hp', hf'⟩
   have HP3 := q0h hp'
   have HE3 := q0h (HE2.out.trans hf')
   clear hp' hf'
   have HB3 := q0h (HBW.out.trans (HE3.out.be.mono H0.out))
   have hm' := (HE3.out.nb bk (q0c HM.out) HBB.out (q0n HM.out (by decide))).trans HM.out
   have z0 : w3.cell? ⟨bk, 0, none⟩ = some (.int .i64 9) := (q0a hm' 0).trans rfl
   have z1 : w3.cell? ⟨bk, 1, none⟩ = some (.int .i64 o) := (q0a hm' 1).trans rfl
   have z2 : w3.cell? ⟨bk, 2, none⟩ = some (.int .i64 n) := (q0a hm' 2).trans rfl
   have z3 : w3.cell? ⟨bk, 3, none⟩ = some (.string s) := (q0a hm' 3).trans rfl
   have z4 : w3.cell? ⟨bk, 4, none⟩ = some (.slice (some ad) l.length c) := (q0a hm' 4).trans rfl
   have z5 : w3.cell? ⟨bk, 5, none⟩ = some (.int .i64 a) := (q0a hm' 5).trans rfl
   have z6 : w3.cell? ⟨bk, 6, none⟩ = some (.int .i64 t) := (q0a hm' 6).trans rfl
   have z7 : w3.cell? ⟨bk, 7, none⟩ = some (.int .i64 pl) := (q0a hm' 7).trans rfl
   have lb := q0c hm'
   clear hm'
   have v0 := q0b HB3.out Yv0.out
   have v1 := q0b HB3.out Yv1.out
   have v2 := q0b HB3.out Yv2.out
   have v3 := q0b HB3.out Yv3.out
   have v4 := q0b HB3.out Yv4.out
   have v5 := q0b HB3.out Yv5.out
   have v6 := q0b HB3.out Yv6.out
   have v7 := q0b HB3.out Yv7.out
   go_wp2_with fail
   clear z0 z1 z2 z3 z4 z5 z6 z7 lb
   clear v0 v1 v2 v3 v4 v5 v6 v7
   refine (q7a (HI.out x1 HMv.out) (decide (R <= S)) w0 _ B b lv _ w3 HKv.out HG.out H0.out HB3.out HP3.out HL1.out).mono ?_
   rintro e' w4 ⟨rfl, hp', hf'⟩
   have HP4 := q0h hp'
   have HE4 := q0h (HE3.out.trans hf')
   clear hp' hf'
   go_wp2_with fail
   go_end0
   exact ⟨rfl, by rw [HX.out]; exact HP4.out, HFW.out.trans HE4.out⟩
  ·by_cases c2 : L = S
   ·obtain rfl : b1 = (S == 3) := by rw [HB1V.out, decide_eq_false c1, c2]; simp
    have c3 : (L == S) = true := by simpa using c2
    clear c2
    go_wp2_with fail
    clear z0 z1 z2 z3 z4 z5 z6 z7 lb
    clear y0 y1 y2 y3 y4 y5 y6 y7
    refine (q7a (HI.out x0 HMy.out) (S == 3) w0 _ B b lv p w1 HKy.out HG.out H0.out HB1.out HP1.out HL3.out).mono ?_
    rintro e' w2 ⟨rfl, hp', hf'⟩
    have HP2 := q0h hp'
    have HE2 := q0h (HE1.out.trans hf')
    have HB2 := q0h (HBW.out.trans ((HE1.out.trans hf').be.mono H0.out))
    clear hp' hf'
    have hsg := j0m (HG.out.at HB2.out) o (by omega) (by omega)
    have hm' := (HE2.out.nb bk (q0c HM.out) HBB.out (q0n HM.out (by decide))).trans HM.out
    have z0 : w2.cell? ⟨bk, 0, none⟩ = some (.int .i64 9) := (q0a hm' 0).trans rfl
    have z1 : w2.cell? ⟨bk, 1, none⟩ = some (.int .i64 o) := (q0a hm' 1).trans rfl
    have z2 : w2.cell? ⟨bk, 2, none⟩ = some (.int .i64 n) := (q0a hm' 2).trans rfl
    have z3 : w2.cell? ⟨bk, 3, none⟩ = some (.string s) := (q0a hm' 3).trans rfl
    have z4 : w2.cell? ⟨bk, 4, none⟩ = some (.slice (some ad) l.length c) := (q0a hm' 4).trans rfl
    have z5 : w2.cell? ⟨bk, 5, none⟩ = some (.int .i64 a) := (q0a hm' 5).trans rfl
    have z6 : w2.cell? ⟨bk, 6, none⟩ = some (.int .i64 t) := (q0a hm' 6).trans rfl
    have z7 : w2.cell? ⟨bk, 7, none⟩ = some (.int .i64 pl) := (q0a hm' 7).trans rfl
    have lb := q0c hm'
    clear hm'
    go_wp2_with fail
    clear hsg
    clear z0 z1 z2 z3 z4 z5 z6 z7 lb
    refine (q0j HP2.out [⟨#[32]⟩, ⟨(sgT o).toArray⟩, ⟨#[32]⟩] 3 rfl (by simp) ([32] ++ sgT o ++ [32]) (by simp [q7k, toL]) HL2.out).mono ?_
    rintro e' w3 ⟨rfl, hp', hf'⟩
    have HP3 := q0h hp'
    have HE3 := q0h (HE2.out.trans hf')
    clear hp' hf'
    have HB3 := q0h (HBW.out.trans (HE3.out.be.mono H0.out))
    have hm' := (HE3.out.nb bk (q0c HM.out) HBB.out (q0n HM.out (by decide))).trans HM.out
    have z0 : w3.cell? ⟨bk, 0, none⟩ = some (.int .i64 9) := (q0a hm' 0).trans rfl
    have z1 : w3.cell? ⟨bk, 1, none⟩ = some (.int .i64 o) := (q0a hm' 1).trans rfl
    have z2 : w3.cell? ⟨bk, 2, none⟩ = some (.int .i64 n) := (q0a hm' 2).trans rfl
    have z3 : w3.cell? ⟨bk, 3, none⟩ = some (.string s) := (q0a hm' 3).trans rfl
    have z4 : w3.cell? ⟨bk, 4, none⟩ = some (.slice (some ad) l.length c) := (q0a hm' 4).trans rfl
    have z5 : w3.cell? ⟨bk, 5, none⟩ = some (.int .i64 a) := (q0a hm' 5).trans rfl
    have z6 : w3.cell? ⟨bk, 6, none⟩ = some (.int .i64 t) := (q0a hm' 6).trans rfl
    have z7 : w3.cell? ⟨bk, 7, none⟩ = some (.int .i64 pl) := (q0a hm' 7).trans rfl
    have lb := q0c hm'
    clear hm'
    have v0 := q0b HB3.out Yv0.out
    have v1 := q0b HB3.out Yv1.out
    have v2 := q0b HB3.out Yv2.out
    have v3 := q0b HB3.out Yv3.out
    have v4 := q0b HB3.out Yv4.out
    have v5 := q0b HB3.out Yv5.out
    have v6 := q0b HB3.out Yv6.out
    have v7 := q0b HB3.out Yv7.out
    go_wp2_with fail
    clear z0 z1 z2 z3 z4 z5 z6 z7 lb
    clear v0 v1 v2 v3 v4 v5 v6 v7
    refine (q7a (HI.out x1 HMv.out) (decide (R <= S)) w0 _ B b lv _ w3 HKv.out HG.out H0.out HB3.out HP3.out HL1.out).mono ?_
    rintro e' w4 ⟨rfl, hp', hf'⟩
    have HP4 := q0h hp'
    have HE4 := q0h (HE3.out.trans hf')
    clear hp' hf'
    go_wp2_with fail
    go_end0
    exact ⟨rfl, by rw [HX.out]; exact HP4.out, HFW.out.trans HE4.out⟩
   ·obtain rfl : b1 = false := by rw [HB1V.out, decide_eq_false c1]; simp [c2]
    have c3 : (L == S) = false := by simpa using c2
    go_wp2_with fail
    clear z0 z1 z2 z3 z4 z5 z6 z7 lb
    clear y0 y1 y2 y3 y4 y5 y6 y7
    refine (q7a (HI.out x0 HMy.out) false w0 _ B b lv p w1 HKy.out HG.out H0.out HB1.out HP1.out HL3.out).mono ?_
    rintro e' w2 ⟨rfl, hp', hf'⟩
    have HP2 := q0h hp'
    have HE2 := q0h (HE1.out.trans hf')
    have HB2 := q0h (HBW.out.trans ((HE1.out.trans hf').be.mono H0.out))
    clear hp' hf'
    have hsg := j0m (HG.out.at HB2.out) o (by omega) (by omega)
    have hm' := (HE2.out.nb bk (q0c HM.out) HBB.out (q0n HM.out (by decide))).trans HM.out
    have z0 : w2.cell? ⟨bk, 0, none⟩ = some (.int .i64 9) := (q0a hm' 0).trans rfl
    have z1 : w2.cell? ⟨bk, 1, none⟩ = some (.int .i64 o) := (q0a hm' 1).trans rfl
    have z2 : w2.cell? ⟨bk, 2, none⟩ = some (.int .i64 n) := (q0a hm' 2).trans rfl
    have z3 : w2.cell? ⟨bk, 3, none⟩ = some (.string s) := (q0a hm' 3).trans rfl
    have z4 : w2.cell? ⟨bk, 4, none⟩ = some (.slice (some ad) l.length c) := (q0a hm' 4).trans rfl
    have z5 : w2.cell? ⟨bk, 5, none⟩ = some (.int .i64 a) := (q0a hm' 5).trans rfl
    have z6 : w2.cell? ⟨bk, 6, none⟩ = some (.int .i64 t) := (q0a hm' 6).trans rfl
    have z7 : w2.cell? ⟨bk, 7, none⟩ = some (.int .i64 pl) := (q0a hm' 7).trans rfl
    have lb := q0c hm'
    clear hm'
    go_wp2_with fail
    clear hsg
    clear z0 z1 z2 z3 z4 z5 z6 z7 lb
    refine (q0j HP2.out [⟨#[32]⟩, ⟨(sgT o).toArray⟩, ⟨#[32]⟩] 3 rfl (by simp) ([32] ++ sgT o ++ [32]) (by simp [q7k, toL]) HL2.out).mono ?_
    rintro e' w3 ⟨rfl, hp', hf'⟩
    have HP3 := q0h hp'
    have HE3 := q0h (HE2.out.trans hf')
    clear hp' hf'
    have HB3 := q0h (HBW.out.trans (HE3.out.be.mono H0.out))
    have hm' := (HE3.out.nb bk (q0c HM.out) HBB.out (q0n HM.out (by decide))).trans HM.out
    have z0 : w3.cell? ⟨bk, 0, none⟩ = some (.int .i64 9) := (q0a hm' 0).trans rfl
    have z1 : w3.cell? ⟨bk, 1, none⟩ = some (.int .i64 o) := (q0a hm' 1).trans rfl
    have z2 : w3.cell? ⟨bk, 2, none⟩ = some (.int .i64 n) := (q0a hm' 2).trans rfl
    have z3 : w3.cell? ⟨bk, 3, none⟩ = some (.string s) := (q0a hm' 3).trans rfl
    have z4 : w3.cell? ⟨bk, 4, none⟩ = some (.slice (some ad) l.length c) := (q0a hm' 4).trans rfl
    have z5 : w3.cell? ⟨bk, 5, none⟩ = some (.int .i64 a) := (q0a hm' 5).trans rfl
    have z6 : w3.cell? ⟨bk, 6, none⟩ = some (.int .i64 t) := (q0a hm' 6).trans rfl
    have z7 : w3.cell? ⟨bk, 7, none⟩ = some (.int .i64 pl) := (q0a hm' 7).trans rfl
    have lb := q0c hm'
    clear hm'
    have v0 := q0b HB3.out Yv0.out
    have v1 := q0b HB3.out Yv1.out
    have v2 := q0b HB3.out Yv2.out
    have v3 := q0b HB3.out Yv3.out
    have v4 := q0b HB3.out Yv4.out
    have v5 := q0b HB3.out Yv5.out
    have v6 := q0b HB3.out Yv6.out
    have v7 := q0b HB3.out Yv7.out
    go_wp2_with fail
    clear z0 z1 z2 z3 z4 z5 z6 z7 lb
    clear v0 v1 v2 v3 v4 v5 v6 v7
    refine (q7a (HI.out x1 HMv.out) (decide (R <= S)) w0 _ B b lv _ w3 HKv.out HG.out H0.out HB3.out HP3.out HL1.out).mono ?_
    rintro e' w4 ⟨rfl, hp', hf'⟩
    have HP4 := q0h hp'
    have HE4 := q0h (HE3.out.trans hf')
    clear hp' hf'
    go_wp2_with fail
    go_end0
    exact ⟨rfl, by rw [HX.out]; exact HP4.out, HFW.out.trans HE4.out⟩
theorem j0p (f : List UInt8 -> List UInt8) (l : List (List UInt8 -> List UInt8)) (b : Bool) (p : List UInt8) : z9d (f :: l) b p = z9d l true (f (if b then p ++ [44, 32] else p)) := rfl
theorem j4o (o n : Int) (s : ByteArray) (l : List Ex) (a t pl : Int) (hln : l.length <= 16384) (ih : ∀ x ∈ l, q9d x) : q9d (.mk 7 o n s l a t pl) := by
 intro w0 cs B b lv p w hK hg h0 hb hp hl
 obtain ⟨A, c, rfl, hlc, hC⟩ := q2x hK
 obtain ⟨r, hr⟩ : ∃ r, r = q0q (.mk 7 o n s l a t pl) p := ⟨_, rfl⟩
 rw [<- hr] at hl ⊢
 rw [q3n] at hr
 obtain ⟨W, hW⟩ : ∃ W, W = w.alloc (.cells #[.int .i64 7, .int .i64 o, .int .i64 n, .string s, .slice A l.length c, .int .i64 a, .int .i64 t, .int .i64 pl] 86) := ⟨_, rfl⟩
 obtain ⟨bk, hbk⟩ : ∃ x, x = w.heap.size := ⟨_, rfl⟩
 have hba : Below w.heap.size w W := by rw [hW]; exact q0d (Below.refl _ _) _
 have hm : W.heap[bk]? = some (.cells #[.int .i64 7, .int .i64 o, .int .i64 n, .string s, .slice A l.length c, .int .i64 a, .int .i64 t, .int .i64 pl] 86 (0, 0)) := by rw [hW, hbk]; exact heap_alloc_new _ _
 have HPW := q0h (hp.below hba)
 have HFW := q0h (PF.of_below (b := b) hba hp.bw)
 have HE0 := q0h (PF.refl B b W)
 have HBW := q0h (hb.trans (hba.mono hb.size))
 have HM := q0h hm
 have HBB := q0h (show bk ≠ b from by have := hp.lt; omega)
 have HW := q0h hW
 have HBK := q0h hbk
 have HL := q0h hl
 have H0 := q0h h0
 have HG := q0h hg
 have HC := q0h hC
 have HI := q0h ih
 have HR := q0h hr
 have z0 : W.cell? ⟨bk, 0, none⟩ = some (.int .i64 7) := (q0a hm 0).trans rfl
 have z1 : W.cell? ⟨bk, 1, none⟩ = some (.int .i64 o) := (q0a hm 1).trans rfl
 have z2 : W.cell? ⟨bk, 2, none⟩ = some (.int .i64 n) := (q0a hm 2).trans rfl
 have z3 : W.cell? ⟨bk, 3, none⟩ = some (.string s) := (q0a hm 3).trans rfl
 have z4 : W.cell? ⟨bk, 4, none⟩ = some (.slice A l.length c) := (q0a hm 4).trans rfl
 have z5 : W.cell? ⟨bk, 5, none⟩ = some (.int .i64 a) := (q0a hm 5).trans rfl
 have z6 : W.cell? ⟨bk, 6, none⟩ = some (.int .i64 t) := (q0a hm 6).trans rfl
 have z7 : W.cell? ⟨bk, 7, none⟩ = some (.int .i64 pl) := (q0a hm 7).trans rfl
 have lb := q0c hm
 clear hba hm hW hbk hp hb hl h0 hg hK hC ih hr
 go_enter Tryz.func130, Tryz.ntmps130
 go_upto_region 1 with fail
 rw [<- HW.out, <- HBK.out]
 go_wp2_with fail
 refine (q3o HPW.out).mono ?_
 rintro e' w' ⟨rfl, rfl⟩
 cases hwd : q1w p with
 | true =>
  have HX := q0h (show r = p by rw [HR.out, if_pos hwd])
  go_wp2_with fail
  try simp only [Exit.inBlock, Exit.then]
  refine bodyPost_ret (results_none rfl _ _ _) rfl ?_
  exact ⟨rfl, by rw [HX.out]; exact HPW.out, HFW.out⟩
 | false =>
  have HK1 := q0h (show r = q5f 7 o n s l (l.map q0q) p by rw [HR.out, hwd]; rfl)
  clear hwd HR
  have HX := q0h (show r = z9d (l.map q0q) false (p ++ (toL s ++ [40])) ++ [41] by
   rw [HK1.out, show q5f 7 o n s l (l.map q0q) p = z9d (l.map q0q) false (p ++ toL s ++ [40]) ++ [41] from rfl, List.append_assoc])
  obtain ⟨tgt, htgt⟩ : ∃ t, t = z9d (l.map q0q) false (p ++ (toL s ++ [40])) := ⟨_, rfl⟩
  rw [<- htgt] at HX
  have HLT := q0h (show tgt.length <= LIM by have h := HL.out; rw [HX.out] at h; exact q3f h)
  have HL2 := q0h (show (p ++ (toL s ++ [40])).length <= LIM by have h5 := x1g (l.map q0q) false (z5i _) (p ++ (toL s ++ [40])); rw [<- htgt] at h5; exact Nat.le_trans h5 HLT.out)
  have HTG := q0h htgt
  clear htgt
  go_wp2_with fail
  clear z0 z1 z2 z3 z4 z5 z6 z7 lb
  refine (q0j HPW.out [s, ⟨#[40]⟩] 2 rfl (by simp) (toL s ++ [40]) rfl HL2.out).mono ?_
  rintro e' w1 ⟨rfl, hp', hf'⟩
  have HP1 := q0h hp'
  have HE1 := q0h (HE0.out.trans hf')
  clear hp' hf'
  have hm' := (HE1.out.nb bk (q0c HM.out) HBB.out (q0n HM.out (by decide))).trans HM.out
  have z0 : w1.cell? ⟨bk, 0, none⟩ = some (.int .i64 7) := (q0a hm' 0).trans rfl
  have z1 : w1.cell? ⟨bk, 1, none⟩ = some (.int .i64 o) := (q0a hm' 1).trans rfl
  have z2 : w1.cell? ⟨bk, 2, none⟩ = some (.int .i64 n) := (q0a hm' 2).trans rfl
  have z3 : w1.cell? ⟨bk, 3, none⟩ = some (.string s) := (q0a hm' 3).trans rfl
  have z4 : w1.cell? ⟨bk, 4, none⟩ = some (.slice A l.length c) := (q0a hm' 4).trans rfl
  have z5 : w1.cell? ⟨bk, 5, none⟩ = some (.int .i64 a) := (q0a hm' 5).trans rfl
  have z6 : w1.cell? ⟨bk, 6, none⟩ = some (.int .i64 t) := (q0a hm' 6).trans rfl
  have z7 : w1.cell? ⟨bk, 7, none⟩ = some (.int .i64 pl) := (q0a hm' 7).trans rfl
  have lb := q0c hm'
  clear hm'
  go_wp2_with fail
  clear z0 z1 z2 z3 z4 z5 z6 z7 lb
  go_loopw [76] (fun i wr => ∃ (k : Nat) (bs : List UInt8), k <= l.length /\ i = .int .i64 k /\ Hid (Pg B b bs lv wr) /\ Hid (PF B b W wr) /\ Hid (z9d ((l.drop k).map q0q) (decide (0 < k)) bs = tgt)) (fun i _ => l.length - (intOf i).toNat)
  case atStart => exact ⟨0, _, by omega, rfl, HP1, HE1, HTG.out.symm⟩
  case round =>
   obtain ⟨k, bs, hk, rfl, HPr, HEr, HT⟩ := hrel
   by_cases hlt : k < l.length
   ·obtain ⟨ad, q0, q1, q2, q3, qA, qn, qc, q5, q6, q7, hA, HKx, y0, y1, y2, y3, y4, y5, y6, y7⟩ := q6y HC.out k hlt
    subst hA
    obtain ⟨x, hx⟩ : ∃ x, x = l.getD k zEx := ⟨_, rfl⟩
    have HMx := q0h (q1a l zEx k hlt x hx)
    rw [<- hx] at HKx
    have hstep : z9d ((l.drop (k + 1)).map q0q) true (q0q x (if decide (0 < k) then bs ++ [44, 32] else bs)) = tgt := by
     rw [<- HT.out, List.drop_eq_getElem_cons hlt, List.map_cons, j0p, hx, List.getD_eq_getElem?_getD, List.getElem?_eq_getElem hlt]
     rfl
    have HST := q0h hstep
    have HLB := q0h (show (q0q x (if decide (0 < k) then bs ++ [44, 32] else bs)).length <= LIM by
     have h5 := x1g ((l.drop (k + 1)).map q0q) true (z5i _) (q0q x (if decide (0 < k) then bs ++ [44, 32] else bs))
     rw [hstep] at h5
     exact Nat.le_trans h5 HLT.out)
    have HBr := q0h (HBW.out.trans (HEr.out.be.mono H0.out))
    obtain ⟨eb, heb⟩ : ∃ x, x = wr.heap.size := ⟨_, rfl⟩
    obtain ⟨W3, hW3⟩ : ∃ x, x = wr.alloc (.cells #[.int .i64 q0, .int .i64 q1, .int .i64 q2, .string q3, .slice qA qn qc, .int .i64 q5, .int .i64 q6, .int .i64 q7] 86) := ⟨_, rfl⟩
    have hm3 : W3.heap[eb]? = some (.cells #[.int .i64 q0, .int .i64 q1, .int .i64 q2, .string q3, .slice qA qn qc, .int .i64 q5, .int .i64 q6, .int .i64 q7] 86 (0, 0)) := by rw [hW3, heb]; exact heap_alloc_new _ _
    have hb3 : Below wr.heap.size wr W3 := by rw [hW3]; exact q0d (Below.refl _ _) _
    have HM3 := q0h hm3
    have HP3 := q0h (HPr.out.below hb3)
    have HE3 := q0h (HEr.out.trans (PF.of_below (b := b) hb3 HPr.out.bw))
    have HB3 := q0h (HBr.out.trans (hb3.mono HBr.out.size))
    have HEB := q0h (show eb ≠ b from by have := HPr.out.lt; omega)
    have HW3 := q0h hW3
    have HEBB := q0h heb
    have u0 := q0b HBr.out y0
    have u1 := q0b HBr.out y1
    have u2 := q0b HBr.out y2
    have u3 := q0b HBr.out y3
    have u4 := q0b HBr.out y4
    have u5 := q0b HBr.out y5
    have u6 := q0b HBr.out y6
    have u7 := q0b HBr.out y7
    clear y0 y1 y2 y3 y4 y5 y6 y7
    clear hx hstep hm3 hb3 hW3 heb
    by_cases hk0 : k = 0
    ·have hd : decide (0 < k) = false := decide_eq_false (by omega)
     rw [hd] at HST HLB
     simp only [Bool.false_eq_true, if_false] at HST HLB
     have hkk : Hid (k = 0) := hk0
     clear hd hk0
     go_upto_region 22 with fail
     rw [<- HW3.out, <- HEBB.out]
     obtain rfl : k = 0 := hkk.out
     have e0 : W3.cell? ⟨eb, 0, none⟩ = some (.int .i64 q0) := (q0a HM3.out 0).trans rfl
     have e1 : W3.cell? ⟨eb, 1, none⟩ = some (.int .i64 q1) := (q0a HM3.out 1).trans rfl
     have e2 : W3.cell? ⟨eb, 2, none⟩ = some (.int .i64 q2) := (q0a HM3.out 2).trans rfl
     have e3 : W3.cell? ⟨eb, 3, none⟩ = some (.string q3) := (q0a HM3.out 3).trans rfl
     have e4 : W3.cell? ⟨eb, 4, none⟩ = some (.slice qA qn qc) := (q0a HM3.out 4).trans rfl
     have e5 : W3.cell? ⟨eb, 5, none⟩ = some (.int .i64 q5) := (q0a HM3.out 5).trans rfl
     have e6 : W3.cell? ⟨eb, 6, none⟩ = some (.int .i64 q6) := (q0a HM3.out 6).trans rfl
     have e7 : W3.cell? ⟨eb, 7, none⟩ = some (.int .i64 q7) := (q0a HM3.out 7).trans rfl
     have leb := q0c HM3.out
     go_wp2_with fail
     clear e0 e1 e2 e3 e4 e5 e6 e7 leb
     refine (HI.out x HMx.out w0 _ B b lv bs W3 HKx.out HG.out H0.out HB3.out HP3.out (show (q0q x bs).length <= LIM from HLB.out)).mono ?_
     rintro e' w4 ⟨rfl, hp', hf'⟩
     have HP4 := q0h hp'
     have HE4 := q0h (HE3.out.trans hf')
     clear hp' hf'
     go_wp2_with fail
     go_roundw
     case rel => exact ⟨1, q0q x bs, by omega, by go_num, HP4, HE4, HST.out⟩
     case measure => simp [intOf]; omega
    ·have hd : decide (0 < k) = true := decide_eq_true (by omega)
     rw [hd] at HST HLB
     simp only [if_true] at HST HLB
     have HL5 := q0h (show (bs ++ [44, 32]).length <= LIM from Nat.le_trans (q3p x _) HLB.out)
     have hkp : (0 : Int) < (k : Int) := by omega
     clear hd
     go_upto_region 22 with fail
     rw [<- HW3.out, <- HEBB.out]
     go_wp2_with fail
     refine (q0j HP3.out [⟨#[44, 32]⟩] 1 rfl (by simp) [44, 32] rfl HL5.out).mono ?_
     rintro e' w4 ⟨rfl, hp', hf'⟩
     have HP4 := q0h hp'
     have HE4 := q0h (HE3.out.trans hf')
     have HF34 := q0h hf'
     clear hp' hf'
     have hm4 := (HF34.out.nb eb (q0c HM3.out) HEB.out (q0n HM3.out (by decide))).trans HM3.out
     have HB4 := q0h (HBW.out.trans (HE4.out.be.mono H0.out))
     have e0 : w4.cell? ⟨eb, 0, none⟩ = some (.int .i64 q0) := (q0a hm4 0).trans rfl
     have e1 : w4.cell? ⟨eb, 1, none⟩ = some (.int .i64 q1) := (q0a hm4 1).trans rfl
     have e2 : w4.cell? ⟨eb, 2, none⟩ = some (.int .i64 q2) := (q0a hm4 2).trans rfl
     have e3 : w4.cell? ⟨eb, 3, none⟩ = some (.string q3) := (q0a hm4 3).trans rfl
     have e4 : w4.cell? ⟨eb, 4, none⟩ = some (.slice qA qn qc) := (q0a hm4 4).trans rfl
     have e5 : w4.cell? ⟨eb, 5, none⟩ = some (.int .i64 q5) := (q0a hm4 5).trans rfl
     have e6 : w4.cell? ⟨eb, 6, none⟩ = some (.int .i64 q6) := (q0a hm4 6).trans rfl
     have e7 : w4.cell? ⟨eb, 7, none⟩ = some (.int .i64 q7) := (q0a hm4 7).trans rfl
     have leb := q0c hm4
     clear hm4
     go_wp2_with fail
     clear e0 e1 e2 e3 e4 e5 e6 e7 leb
     refine (HI.out x HMx.out w0 _ B b lv (bs ++ [44, 32]) w4 HKx.out HG.out H0.out HB4.out HP4.out HLB.out).mono ?_
     rintro e' w6 ⟨rfl, hp', hf'⟩
     have HP6 := q0h hp'
     have HE6 := q0h (HE4.out.trans hf')
     clear hp' hf' hkp
     go_wp2_with fail
     go_roundw
     case rel => exact ⟨k + 1, _, by omega, by go_num, HP6, HE6, by rw [decide_eq_true (show 0 < k + 1 by omega)]; exact HST.out⟩
     case measure => simp [intOf]; omega
   ·have HTE := q0h (show bs = tgt by
     obtain rfl : k = l.length := by omega
     rw [<- HT.out, List.drop_length]
     rfl)
    rw [HTE.out] at HPr
    have hke : k = l.length := by omega
    go_wp2_with fail
    refine (q0j HPr.out [⟨#[41]⟩] 1 rfl (by simp) [41] rfl (by rw [<- HX.out]; exact HL.out)).mono ?_
    rintro e' w5 ⟨rfl, hp', hf'⟩
    have HP5 := q0h hp'
    have HE5 := q0h (HEr.out.trans hf')
    clear hp' hf'
    go_wp2_with fail
    go_end0
    exact ⟨rfl, by rw [HX.out]; exact HP5.out, HFW.out.trans HE5.out⟩
theorem j0q (n : Nat) : ∀ e : Ex, SizeOf.sizeOf e <= n -> q0x e = true -> smE e -> q9d e := by
 induction n with
 | zero => intro e h; cases e; simp at h
 | succ n ih =>
  intro e h hk hs
  obtain ⟨k, o, num, s, l, a, t, pl⟩ := e
  simp only [Ex.mk.sizeOf_spec] at h
  rw [q9w, Bool.and_eq_true] at hk
  have hih : ∀ x ∈ l, q9d x := fun x hx => by
   have h1 := List.sizeOf_lt_of_mem hx
   exact ih x (by omega) (List.all_eq_true.1 hk.2 x hx) (z0a hs.2.2 x hx)
  have hsh := hk.1
  unfold q5e at hsh
  by_cases k1 : k = 1
  ·subst k1
   rw [show q2f 1 = some (false, 0, 0, 0, 0) by decide] at hsh
   simp only [Bool.and_eq_true, decide_eq_true_eq] at hsh
   exact j6h o num s l a t pl ⟨by have := hsh.1.2; unfold z7i at this; simpa using this, hs.2.1⟩ hih
  by_cases k2 : k = 2
  ·subst k2
   rw [show q2f 2 = some (false, 0, 0, 0, 0) by decide] at hsh
   simp only [Bool.and_eq_true, decide_eq_true_eq] at hsh
   exact j6i o num s l a t pl ⟨by have := hsh.1.2; unfold z7i at this; simpa using this, hs.2.1⟩ hih
  by_cases k3 : k = 3
  ·subst k3; exact j4m o num s l a t pl hih
  by_cases k4 : k = 4
  ·subst k4; exact j4j o num s l a t pl hih
  by_cases k5 : k = 5
  ·subst k5; exact j4k o num s l a t pl hih
  by_cases k6 : k = 6
  ·subst k6
   rw [show q2f 6 = some (true, 0, 0, 1, 1) by decide] at hsh
   simp only [Bool.and_eq_true, decide_eq_true_eq] at hsh
   exact j0n o num s l a t pl (by omega) hih
  by_cases k7 : k = 7
  ·subst k7
   rw [show q2f 7 = some (true, 0, 0, 0, 16384) by decide] at hsh
   simp only [Bool.and_eq_true, decide_eq_true_eq] at hsh
   exact j4o o num s l a t pl (by omega) hih
  by_cases k8 : k = 8
  ·subst k8
   rw [show q2f 8 = some (false, 14, 15, 1, 1) by decide] at hsh
   simp only [Bool.and_eq_true, decide_eq_true_eq] at hsh
   exact j0o o num s l a t pl (by omega) (by omega) hih
  by_cases k9 : k = 9
  ·subst k9
   rw [show q2f 9 = some (false, 1, 13, 2, 2) by decide] at hsh
   simp only [Bool.and_eq_true, decide_eq_true_eq] at hsh
   exact j4n o num s l a t pl (by omega) (by omega) hk.2 hih
  ·exfalso
   have e : q2f k = none := by
    unfold q2f
    rw [if_neg (by omega), if_neg k5, if_neg k6, if_neg k7, if_neg k8, if_neg k9]
   rw [e] at hsh
   cases hsh
theorem j4p {e : Ex} (hk : q0x e = true) (hs : smE e) : q9d e := j0q _ e (Nat.le_refl _) hk hs
def Sn (f : Nat -> List UInt8 -> List UInt8) : Prop := ∀ lv, Mn (f lv)
theorem z2b (lv : Nat) : ∀ (l : List (Nat -> List UInt8 -> List UInt8)), (∀ f ∈ l, Sn f) -> Mn (q5k lv l)
 | [], _, p => Nat.le_refl _
 | f :: l, h, p => by
  unfold q5k
  split
  ·exact Nat.le_refl _
  ·refine Nat.le_trans ?_ (z2b lv l (fun f hf => h f (List.mem_cons_of_mem _ hf)) _)
   have := h f (by simp) lv (p ++ q2y lv)
   rw [List.length_append] at this ⊢
   omega
theorem q5z {l : List (Nat -> List UInt8 -> List UInt8)} (h : ∀ f ∈ l, Sn f) (lv : Nat) (p : List UInt8) : (q5k (lv + 1) l (p ++ [32, 123, 10])).length + lv + 1 = (q3w l lv p).length /\ p.length <= (q3w l lv p).length := by
 have h1 := z2b (lv + 1) l h (p ++ [32, 123, 10])
 have h2 : (q3w l lv p).length = (q5k (lv + 1) l (p ++ [32, 123, 10])).length + lv + 1 := by
  unfold q3w q2y
  rw [List.length_append, List.length_append, List.length_replicate]
  rfl
 rw [List.length_append] at h1
 exact ⟨h2.symm, by omega⟩
theorem j0r {k : Int} {name : ByteArray} {type : Int} {es : List (List UInt8 -> List UInt8)} {els : List St} {fb fl : List (Nat -> List UInt8 -> List UInt8)} (he : ∀ f ∈ es, Mn f) (hb : ∀ f ∈ fb, Sn f) (hl : ∀ f ∈ fl, Sn f) : Sn (q8m k name type es els fb fl) := fun lv p => by
 have hh : ∀ q : List UInt8, p.length <= q.length -> p.length <= (es.headD id q).length := fun q hq => Nat.le_trans hq (z0v he q)
 have ap : ∀ q r : List UInt8, p.length <= q.length -> p.length <= (q ++ r).length := fun q r hq => Nat.le_trans hq (by rw [List.length_append]; omega)
 have r0 := Nat.le_refl p.length
 unfold q8m
 split
 ·exact ap _ _ (hh _ (ap _ _ (ap _ _ (ap _ _ (ap _ _ (ap _ _ r0))))))
 split
 ·exact ap _ _ (hh _ (ap _ _ (ap _ _ r0)))
 split
 ·exact ap _ _ (Nat.le_trans (ap _ _ (hh _ (ap _ _ (ap _ _ r0)))) (z0v (x6l he) _))
 split
 ·dsimp only
  have h1 : p.length <= (q3w fb lv (es.headD id (p ++ [105, 102, 32]))).length := Nat.le_trans (hh _ (ap _ _ r0)) (q5z hb lv _).2
  split
  ·cases fl with
   | nil => exact ap _ _ h1
   | cons f l => exact Nat.le_trans (ap _ _ h1) (hl f (by simp) lv _)
  ·split
   ·exact Nat.le_trans (ap _ _ h1) (q5z hl lv _).2
   ·exact h1
 split
 ·exact Nat.le_trans (hh _ (ap _ _ r0)) (q5z hb lv _).2
 split
 ·split
  ·exact ap _ _ (ap _ _ r0)
  ·exact ap _ _ (hh _ (ap _ _ (ap _ _ r0)))
 split
 ·exact ap _ _ (hh _ r0)
 ·exact ap _ _ r0
theorem z5k (n : Nat) : ∀ s : St, SizeOf.sizeOf s <= n -> Sn (q1f s) := by
 induction n with
 | zero => intro s h; cases s; simp at h
 | succ n ih =>
  intro s h lv p
  obtain ⟨k, name, type, exprs, body, els, a, pl⟩ := s
  rw [q4i]
  simp only [St.mk.sizeOf_spec] at h
  refine j0r (z5i _) ?_ ?_ lv p
  ·intro f hf
   obtain ⟨x, hx, rfl⟩ := List.mem_map.1 hf
   have h5 := List.sizeOf_lt_of_mem hx
   exact ih x (by omega)
  ·intro f hf
   obtain ⟨x, hx, rfl⟩ := List.mem_map.1 hf
   have h5 := List.sizeOf_lt_of_mem hx
   exact ih x (by omega)
theorem q4x (l : List St) : ∀ f ∈ l.map q1f, Sn f := fun f hf => by
 obtain ⟨x, _, rfl⟩ := List.mem_map.1 hf
 exact z5k _ x (Nat.le_refl _)
theorem Pg.lvl {B b lv : Nat} {bs : List UInt8} {w : World} (h : Pg B b bs lv w) : w.cell? ⟨b, 2, none⟩ = some (.int .i64 (lv : Nat)) /\ w.frozen? ⟨b, 2, none⟩ = false := by
 obtain ⟨p, v, hm, _⟩ := h.mem
 exact ⟨(q0a hm 2).trans rfl, q0f hm 2⟩
theorem Pg.set {B b lv lv' : Nat} {bs : List UInt8} {w : World} (h : Pg B b bs lv w) (i : Int) (hi : i = (lv' : Nat)) : Pg B b bs lv' (w.setCell ⟨b, 2, none⟩ (.int .i64 i)) /\ PF B b w (w.setCell ⟨b, 2, none⟩ (.int .i64 i)) := by
 subst hi
 exact PG.setRest h 0 _ rfl
theorem z4n {B b lv : Nat} {bs : List UInt8} {w : World} (h : Pg B b bs lv w) (ss : List ByteArray) (n : Nat) (hn : n = ss.length) (hsl : ss.length <= 1000) (q : List UInt8) (hq : q7k ss = q) (hlv : lv <= LIM) (hlen : (bs ++ q2y lv ++ q).length <= LIM) :
  Calls Tryz.prog 88 #[.pointer (some ⟨b, 0, none⟩), .slice (some ⟨w.heap.size, 0, none⟩) n n] (w.alloc (.cells (ss.map Value.string).toArray 9)) fun e w' => e = .returned (.tuple #[]) /\ Pg B b (bs ++ q2y lv ++ q) lv w' /\ PF B b w w' := by
 have hba := q0d (Below.refl w.heap.size w) (.cells (ss.map Value.string).toArray 9)
 refine (z7k (h.below hba) (x3e.new ss h.lt n hn) hsl hlv (by rw [hq]; exact hlen)).mono ?_
 rintro e w' ⟨rfl, hp, hf⟩
 rw [hq] at hp
 exact ⟨rfl, hp, (PF.of_below hba h.bw).trans hf⟩
def z0w (s : St) : Prop := ∀ (w0 : World) (cs : List Value) (B b lv : Nat) (p : List UInt8) (w : World), kSt.K w0 s cs -> GW w0 -> w0.heap.size <= B -> Below w0.heap.size w0 w -> Pg B b p lv w -> (q1f s lv p).length <= LIM ->
 Calls Tryz.prog 89 #[.pointer (some ⟨b, 0, none⟩), .agg cs.toArray] w fun e' w' => e' = .returned (.tuple #[]) /\ Pg B b (q1f s lv p) lv w' /\ PF B b w w'
theorem x3i (lv : Nat) (f : Nat -> List UInt8 -> List UInt8) (l : List (Nat -> List UInt8 -> List UInt8)) (p : List UInt8) : q5k lv (f :: l) p = if q1w p then p else q5k lv l (f lv (p ++ q2y lv) ++ [10]) := rfl
theorem q8i (l : List St) (hln : l.length <= 400) (ih : ∀ x ∈ l, z0w x) (w0 : World) (A : Option Addr) (c B b lv : Nat) (p : List UInt8) (w : World) (hC : kSt.C w0 A l.length l) (hg : GW w0) (h0 : w0.heap.size <= B) (hb : Below w0.heap.size w0 w) (hp : Pg B b p lv w) (hl : (q3w (l.map q1f) lv p).length <= LIM) :
  Calls Tryz.prog 43 #[.pointer (some ⟨b, 0, none⟩), .slice A l.length c] w fun e' w' => e' = .returned (.tuple #[]) /\ Pg B b (q3w (l.map q1f) lv p) lv w' /\ PF B b w w' := by
 have hbm := q5z (q4x l) lv p
 obtain ⟨tgt, htgt⟩ : ∃ t, t = q5k (lv + 1) (l.map q1f) (p ++ [32, 123, 10]) := ⟨_, rfl⟩
 have HLV := q0h (show lv + 1 <= LIM by omega)
 have HLT := q0h (show tgt.length + lv + 1 <= LIM by rw [htgt, hbm.1]; exact hl)
 have HL2 := q0h (show (p ++ [32, 123, 10]).length <= LIM by have := z2b (lv + 1) (l.map q1f) (q4x l) (p ++ [32, 123, 10]); rw [<- htgt] at this; have := HLT.out; omega)
 have HBD := q0h (show tgt ++ q2y lv ++ [125] = q3w (l.map q1f) lv p by rw [htgt]; rfl)
 have HLQ := q0h (show (tgt ++ q2y lv ++ [125]).length <= LIM by rw [HBD.out]; exact hl)
 have HTG := q0h htgt
 have HC := q0h hC
 have HG := q0h hg
 have H0 := q0h h0
 have HBW := q0h hb
 have HP := q0h hp
 have HL := q0h hl
 have HI := q0h ih
 clear hbm htgt hC hg h0 hb hp hl ih
 go_enter Tryz.func43, Tryz.ntmps43
 go_wp2_with fail
 refine (q0j HP.out [⟨#[32, 123, 10]⟩] 1 rfl (by simp) [32, 123, 10] rfl HL2.out).mono ?_
 rintro e' w1 ⟨rfl, hp', hf'⟩
 have HP1 := q0h hp'
 have HE1 := q0h (hf')
 clear hp' hf'
 have hl2 := Pg.lvl HP1.out
 have c2 := hl2.1
 have f2 := hl2.2
 have hlv : (lv : Int) + 1 <= 140737488355328 := by have h5 : lv + 1 <= 140737488355328 := HLV.out; omega
 clear hl2
 go_wp2_with fail
 obtain ⟨w2, hw2⟩ : ∃ x, x = w1.setCell ⟨b, 2, none⟩ (.int .i64 ((lv : Int) + 1)) := ⟨_, rfl⟩
 have hst := Pg.set HP1.out (lv' := lv + 1) ((lv : Int) + 1) rfl
 rw [<- hw2] at hst ⊢
 have HP2 := q0h hst.1
 have HE2 := q0h (HE1.out.trans hst.2)
 clear hst hw2 c2 f2 hlv
 go_loopw [18] (fun i wr => ∃ (k : Nat) (bs : List UInt8), k <= l.length /\ i = .int .i64 k /\ Hid (Pg B b bs (lv + 1) wr) /\ Hid (PF B b w wr) /\ Hid (q5k (lv + 1) ((l.drop k).map q1f) bs = tgt)) (fun i _ => l.length - (intOf i).toNat)
 case atStart => exact ⟨0, _, by omega, rfl, HP2, HE2, HTG.out.symm⟩
 case round =>
  obtain ⟨k, bs, hk, rfl, HPr, HEr, HT⟩ := hrel
  by_cases hlt : k < l.length
  ·obtain ⟨ad, q0, q1, q2, qA, qn, qc, qB, qm, qd, qC, ql, qe, q6, q7, hA, HKx, y0, y1, y2, y3, y4, y5, y6, y7⟩ := x6d HC.out k hlt
   subst hA
   obtain ⟨x, hx⟩ : ∃ x, x = l.getD k zSt := ⟨_, rfl⟩
   have HMx := q0h (q1a l zSt k hlt x hx)
   rw [<- hx] at HKx
   have HST := q0h (show (if q1w bs then bs else q5k (lv + 1) ((l.drop (k + 1)).map q1f) (q1f x (lv + 1) (bs ++ q2y (lv + 1)) ++ [10])) = tgt by
    rw [<- HT.out, List.drop_eq_getElem_cons hlt, List.map_cons, x3i, hx, List.getD_eq_getElem?_getD, List.getElem?_eq_getElem hlt]
    rfl)
   have HBr := q0h (HBW.out.trans (HEr.out.be.mono H0.out))
   obtain ⟨eb, heb⟩ : ∃ x, x = wr.heap.size := ⟨_, rfl⟩
   obtain ⟨W3, hW3⟩ : ∃ x, x = wr.alloc (.cells #[.int .i64 q0, .string q1, .int .i64 q2, .slice qA qn qc, .slice qB qm qd, .slice qC ql qe, .int .i64 q6, .int .i64 q7] 67) := ⟨_, rfl⟩
   have hm3 : W3.heap[eb]? = some (.cells #[.int .i64 q0, .string q1, .int .i64 q2, .slice qA qn qc, .slice qB qm qd, .slice qC ql qe, .int .i64 q6, .int .i64 q7] 67 (0, 0)) := by rw [hW3, heb]; exact heap_alloc_new _ _
   have hb3 : Below wr.heap.size wr W3 := by rw [hW3]; exact q0d (Below.refl _ _) _
   have HM3 := q0h hm3
   have HP3 := q0h (HPr.out.below hb3)
   have HE3 := q0h (HEr.out.trans (PF.of_below (b := b) hb3 HPr.out.bw))
   have HB3 := q0h (HBr.out.trans (hb3.mono HBr.out.size))
   have HEB := q0h (show eb ≠ b from by have := HPr.out.lt; omega)
   have HW3 := q0h hW3
   have HEBB := q0h heb
   have u0 := q0b HBr.out y0
   have u1 := q0b HBr.out y1
   have u2 := q0b HBr.out y2
   have u3 := q0b HBr.out y3
   have u4 := q0b HBr.out y4
   have u5 := q0b HBr.out y5
   have u6 := q0b HBr.out y6
   have u7 := q0b HBr.out y7
   clear y0 y1 y2 y3 y4 y5 y6 y7
   clear hx hm3 hb3 hW3 heb
   go_upto_region 5 with fail
   rw [<- HW3.out, <- HEBB.out]
   go_wp2_with fail
   refine (q3o HP3.out).mono ?_
   rintro e' w' ⟨rfl, rfl⟩
   cases hwd : q1w bs with
   | true =>
    have HTE := q0h (show bs = tgt by rw [<- HST.out, hwd]; rfl)
    rw [HTE.out] at HP3
    clear hwd
    have hl2 := Pg.lvl HP3.out
    have c2 := hl2.1
    have f2 := hl2.2
    have hlv : lv + 1 <= 140737488355328 := HLV.out
    have hlv2 : (lv : Int) <= 140737488355327 := by omega
    clear hl2
    go_upto_region 11 with fail
    obtain ⟨wq, hwq⟩ : ∃ x, x = W3.setCell ⟨b, 2, none⟩ (.int .i64 (lv : Nat)) := ⟨_, rfl⟩
    have hst := Pg.set HP3.out (lv' := lv) ((lv : Nat) : Int) rfl
    rw [<- hwq] at hst ⊢
    have HPq := q0h hst.1
    have HEq := q0h (HE3.out.trans hst.2)
    clear hst hwq c2 f2 hlv hlv2
    go_wp2_with fail
    refine (z4n HPq.out [⟨#[125]⟩] 1 rfl (by simp) [125] rfl (by have := HLV.out; omega) HLQ.out).mono ?_
    rintro e' wz ⟨rfl, hp', hf'⟩
    rw [HBD.out] at hp'
    have HPz := q0h hp'
    have HEz := q0h (HEq.out.trans hf')
    clear hp' hf'
    go_wp2_with fail
    go_end0
    exact ⟨rfl, HPz.out, HEz.out⟩
   | false =>
    have HS2 := q0h (show q5k (lv + 1) ((l.drop (k + 1)).map q1f) (q1f x (lv + 1) (bs ++ q2y (lv + 1)) ++ [10]) = tgt by rw [<- HST.out, hwd]; rfl)
    have HQ1 := q0h (show (q1f x (lv + 1) (bs ++ q2y (lv + 1)) ++ [10]).length <= LIM by
     have h5 := z2b (lv + 1) ((l.drop (k + 1)).map q1f) (q4x _) (q1f x (lv + 1) (bs ++ q2y (lv + 1)) ++ [10])
     rw [HS2.out] at h5
     have := HLT.out
     omega)
    have HQ2 := q0h (q3f HQ1.out)
    have HQ3 := q0h (show (bs ++ q2y (lv + 1)).length <= LIM from Nat.le_trans (z5k _ x (Nat.le_refl _) (lv + 1) _) HQ2.out)
    clear hwd
    go_wp2_with fail
    refine (z7k (v := .slice none 0 0) (ss := []) HP3.out (.inl ⟨rfl, rfl⟩) (by simp) (by have := HLV.out; omega) (by rw [show q7k [] = [] from rfl, List.append_nil]; exact HQ3.out)).mono ?_
    rintro e' w4 ⟨rfl, hp', hf'⟩
    rw [show q7k [] = [] from rfl, List.append_nil] at hp'
    have HP4 := q0h hp'
    have HE4 := q0h (HE3.out.trans hf')
    have hm4 := (hf'.nb eb (q0c HM3.out) HEB.out (q0n HM3.out (by decide))).trans HM3.out
    have HB4 := q0h (HB3.out.trans (hf'.be.mono H0.out))
    clear hp' hf'
    have e0 : w4.cell? ⟨eb, 0, none⟩ = some (.int .i64 q0) := (q0a hm4 0).trans rfl
    have e1 : w4.cell? ⟨eb, 1, none⟩ = some (.string q1) := (q0a hm4 1).trans rfl
    have e2 : w4.cell? ⟨eb, 2, none⟩ = some (.int .i64 q2) := (q0a hm4 2).trans rfl
    have e3 : w4.cell? ⟨eb, 3, none⟩ = some (.slice qA qn qc) := (q0a hm4 3).trans rfl
    have e4 : w4.cell? ⟨eb, 4, none⟩ = some (.slice qB qm qd) := (q0a hm4 4).trans rfl
    have e5 : w4.cell? ⟨eb, 5, none⟩ = some (.slice qC ql qe) := (q0a hm4 5).trans rfl
    have e6 : w4.cell? ⟨eb, 6, none⟩ = some (.int .i64 q6) := (q0a hm4 6).trans rfl
    have e7 : w4.cell? ⟨eb, 7, none⟩ = some (.int .i64 q7) := (q0a hm4 7).trans rfl
    have leb := q0c hm4
    clear hm4
    go_wp2_with fail
    clear e0 e1 e2 e3 e4 e5 e6 e7 leb
    refine (HI.out x HMx.out w0 _ B b (lv + 1) (bs ++ q2y (lv + 1)) w4 HKx.out HG.out H0.out HB4.out HP4.out HQ2.out).mono ?_
    rintro e' w5 ⟨rfl, hp', hf'⟩
    have HP5 := q0h hp'
    have HE5 := q0h (HE4.out.trans hf')
    clear hp' hf'
    go_wp2_with fail
    refine (q0j HP5.out [⟨#[10]⟩] 1 rfl (by simp) [10] rfl HQ1.out).mono ?_
    rintro e' w6 ⟨rfl, hp', hf'⟩
    have HP6 := q0h hp'
    have HE6 := q0h (HE5.out.trans hf')
    clear hp' hf'
    go_wp2_with fail
    go_roundw
    case rel => exact ⟨k + 1, _, by omega, by go_num, HP6, HE6, HS2⟩
    case measure => simp [intOf]; omega
  ·have HTE := q0h (show bs = tgt by
    obtain rfl : k = l.length := by omega
    rw [<- HT.out, List.drop_length]
    rfl)
   rw [HTE.out] at HPr
   have hke : k = l.length := by omega
   have hl2 := Pg.lvl HPr.out
   have c2 := hl2.1
   have f2 := hl2.2
   have hlv : lv + 1 <= 140737488355328 := HLV.out
   have hlv2 : (lv : Int) <= 140737488355327 := by omega
   clear hl2
   go_upto_region 11 with fail
   obtain ⟨wq, hwq⟩ : ∃ x, x = wr.setCell ⟨b, 2, none⟩ (.int .i64 (lv : Nat)) := ⟨_, rfl⟩
   have hst := Pg.set HPr.out (lv' := lv) ((lv : Nat) : Int) rfl
   rw [<- hwq] at hst ⊢
   have HPq := q0h hst.1
   have HEq := q0h (HEr.out.trans hst.2)
   clear hst hwq c2 f2 hlv hlv2
   go_wp2_with fail
   refine (z4n HPq.out [⟨#[125]⟩] 1 rfl (by simp) [125] rfl (by have := HLV.out; omega) HLQ.out).mono ?_
   rintro e' wz ⟨rfl, hp', hf'⟩
   rw [HBD.out] at hp'
   have HPz := q0h hp'
   have HEz := q0h (HEq.out.trans hf')
   clear hp' hf'
   go_wp2_with fail
   go_end0
   exact ⟨rfl, HPz.out, HEz.out⟩
theorem z5l {B b lv : Nat} {bs : List UInt8} {w w1 : World} {v : Value} (h : Pg B b bs lv w) (ss : List ByteArray) (n : Nat) (hn : n = ss.length) (hsl : ss.length <= 1000) (q : List UInt8) (hq : q7k ss = q) (hlen : (bs ++ q).length <= LIM) (hv : v = .slice (some ⟨w.heap.size, 0, none⟩) n n) (hw : w1 = w.alloc (.cells (ss.map Value.string).toArray 9)) :
  Calls Tryz.prog 42 #[.pointer (some ⟨b, 0, none⟩), v] w1 fun e w' => e = .returned (.tuple #[]) /\ Pg B b (bs ++ q) lv w' /\ PF B b w w' := by
 subst hv hw
 exact q0j h ss n hn hsl q hq hlen
theorem j6k (s : ByteArray) (ty : Int) (l : List Ex) (bd el : List St) (a pl : Int) (hl1 : l.length = 1) (ih : ∀ x ∈ l, q9d x) (ihb : ∀ x ∈ bd, z0w x) (ihe : ∀ x ∈ el, z0w x) : z0w (.mk 2 s ty l bd el a pl) := by
 intro w0 cs B b lv p w hK hg h0 hb hp hl
 obtain ⟨A, c, A1, c1, A2, c2, rfl, hC, hC1, hC2⟩ := q3y hK
 obtain ⟨r, hr⟩ : ∃ r, r = q1f (.mk 2 s ty l bd el a pl) lv p := ⟨_, rfl⟩
 rw [<- hr] at hl ⊢
 rw [q4i] at hr
 obtain ⟨W, hW⟩ : ∃ W, W = w.alloc (.cells #[.int .i64 2, .string s, .int .i64 ty, .slice A l.length c, .slice A1 bd.length c1, .slice A2 el.length c2, .int .i64 a, .int .i64 pl] 67) := ⟨_, rfl⟩
 obtain ⟨bk, hbk⟩ : ∃ x, x = w.heap.size := ⟨_, rfl⟩
 have hba : Below w.heap.size w W := by rw [hW]; exact q0d (Below.refl _ _) _
 have hm : W.heap[bk]? = some (.cells #[.int .i64 2, .string s, .int .i64 ty, .slice A l.length c, .slice A1 bd.length c1, .slice A2 el.length c2, .int .i64 a, .int .i64 pl] 67 (0, 0)) := by rw [hW, hbk]; exact heap_alloc_new _ _
 have HPW := q0h (hp.below hba)
 have HFW := q0h (PF.of_below (b := b) hba hp.bw)
 have HE0 := q0h (PF.refl B b W)
 have HBW := q0h (hb.trans (hba.mono hb.size))
 have HM := q0h hm
 have HBB := q0h (show bk ≠ b from by have := hp.lt; omega)
 have HW := q0h hW
 have HBK := q0h hbk
 have HL := q0h hl
 have H0 := q0h h0
 have HG := q0h hg
 have HC := q0h hC
 have HC1 := q0h hC1
 have HC2 := q0h hC2
 have HI := q0h ih
 have HIB := q0h ihb
 have HIE := q0h ihe
 have HK1 := q0h hr
 have z0 : W.cell? ⟨bk, 0, none⟩ = some (.int .i64 2) := (q0a hm 0).trans rfl
 have z1 : W.cell? ⟨bk, 1, none⟩ = some (.string s) := (q0a hm 1).trans rfl
 have z2 : W.cell? ⟨bk, 2, none⟩ = some (.int .i64 ty) := (q0a hm 2).trans rfl
 have z3 : W.cell? ⟨bk, 3, none⟩ = some (.slice A l.length c) := (q0a hm 3).trans rfl
 have z4 : W.cell? ⟨bk, 4, none⟩ = some (.slice A1 bd.length c1) := (q0a hm 4).trans rfl
 have z5 : W.cell? ⟨bk, 5, none⟩ = some (.slice A2 el.length c2) := (q0a hm 5).trans rfl
 have z6 : W.cell? ⟨bk, 6, none⟩ = some (.int .i64 a) := (q0a hm 6).trans rfl
 have z7 : W.cell? ⟨bk, 7, none⟩ = some (.int .i64 pl) := (q0a hm 7).trans rfl
 have lb := q0c hm
 clear hba hm hW hbk hp hb hl h0 hg hK hC hC1 hC2 ih ihb ihe hr
 have HN := q0h hl1
 clear hl1
 go_enter Tryz.func89, Tryz.ntmps89
 go_upto_region 1 with fail
 rw [<- HW.out, <- HBK.out]
 obtain ⟨ad, q0, q1, q2, q3, qA, qn, qc, q5, q6, q7, rfl, HKy, y0, y1, y2, y3, y4, y5, y6, y7⟩ := q6y HC.out 0 (by have := HN.out; omega)
 rw [Nat.zero_mul, q8t] at y0 y1 y2 y3 y4 y5 y6 y7
 obtain ⟨x0, hx0⟩ : ∃ x, x = l.getD 0 zEx := ⟨_, rfl⟩
 have HMy := q0h (q1a l zEx 0 (by have := HN.out; omega) x0 hx0)
 rw [<- hx0] at HKy
 have Yy0 := q0h y0
 have Yy1 := q0h y1
 have Yy2 := q0h y2
 have Yy3 := q0h y3
 have Yy4 := q0h y4
 have Yy5 := q0h y5
 have Yy6 := q0h y6
 have Yy7 := q0h y7
 clear y0 y1 y2 y3 y4 y5 y6 y7
 have HX := q0h (show r = q0q x0 (p ++ (toL s ++ [32, 61, 32])) ++ [59] by
  rw [HK1.out, show q8m 2 s ty (l.map q0q) el (bd.map q1f) (el.map q1f) lv p = (l.map q0q).headD id (p ++ toL s ++ [32, 61, 32]) ++ [59] from rfl, q4w l (by have := HN.out; omega), <- hx0, List.append_assoc])
 have HL1 := q0h (show (q0q x0 (p ++ (toL s ++ [32, 61, 32]))).length <= LIM from q3f (by rw [<- HX.out]; exact HL.out))
 have HL2 := q0h (show (p ++ (toL s ++ [32, 61, 32])).length <= LIM from Nat.le_trans (q3p x0 _) HL1.out)
 clear hx0
 go_wp2_with fail
 clear z0 z1 z2 z3 z4 z5 z6 z7 lb
 refine (q0j HPW.out [s, ⟨#[32, 61, 32]⟩] 2 rfl (by simp) (toL s ++ [32, 61, 32]) rfl HL2.out).mono ?_
 rintro e' w1 ⟨rfl, hp', hf'⟩
 have HP1 := q0h hp'
 have HE1 := q0h (HE0.out.trans hf')
 clear hp' hf'
 have hm' := (HE1.out.nb bk (q0c HM.out) HBB.out (q0n HM.out (by decide))).trans HM.out
 have z0 : w1.cell? ⟨bk, 0, none⟩ = some (.int .i64 2) := (q0a hm' 0).trans rfl
 have z1 : w1.cell? ⟨bk, 1, none⟩ = some (.string s) := (q0a hm' 1).trans rfl
 have z2 : w1.cell? ⟨bk, 2, none⟩ = some (.int .i64 ty) := (q0a hm' 2).trans rfl
 have z3 : w1.cell? ⟨bk, 3, none⟩ = some (.slice (some ad) l.length c) := (q0a hm' 3).trans rfl
 have z4 : w1.cell? ⟨bk, 4, none⟩ = some (.slice A1 bd.length c1) := (q0a hm' 4).trans rfl
 have z5 : w1.cell? ⟨bk, 5, none⟩ = some (.slice A2 el.length c2) := (q0a hm' 5).trans rfl
 have z6 : w1.cell? ⟨bk, 6, none⟩ = some (.int .i64 a) := (q0a hm' 6).trans rfl
 have z7 : w1.cell? ⟨bk, 7, none⟩ = some (.int .i64 pl) := (q0a hm' 7).trans rfl
 have lb := q0c hm'
 clear hm'
 have HB1 := q0h (HBW.out.trans (HE1.out.be.mono H0.out))
 have hln : 0 < l.length := by have := HN.out; omega
 have hli : (0 : Int) < (l.length : Int) := by omega
 have y0 := q0b HB1.out Yy0.out
 have y1 := q0b HB1.out Yy1.out
 have y2 := q0b HB1.out Yy2.out
 have y3 := q0b HB1.out Yy3.out
 have y4 := q0b HB1.out Yy4.out
 have y5 := q0b HB1.out Yy5.out
 have y6 := q0b HB1.out Yy6.out
 have y7 := q0b HB1.out Yy7.out
 go_wp2_with fail
 clear z0 z1 z2 z3 z4 z5 z6 z7 lb
 clear y0 y1 y2 y3 y4 y5 y6 y7 hln hli
 refine (HI.out x0 HMy.out w0 _ B b lv _ _ HKy.out HG.out H0.out HB1.out HP1.out HL1.out).mono ?_
 rintro e' w2 ⟨rfl, hp', hf'⟩
 have HP2 := q0h hp'
 have HE2 := q0h (HE1.out.trans hf')
 clear hp' hf'
 go_wp2_with fail
 refine (q0j HP2.out [⟨#[59]⟩] 1 rfl (by simp) [59] rfl (by rw [<- HX.out]; exact HL.out)).mono ?_
 rintro e' w3 ⟨rfl, hp', hf'⟩
 have HP3 := q0h hp'
 have HE3 := q0h (HE2.out.trans hf')
 clear hp' hf'
 go_wp2_with fail
 go_end0
 exact ⟨rfl, by rw [HX.out]; exact HP3.out, HFW.out.trans HE3.out⟩
theorem j4q (s : ByteArray) (ty : Int) (l : List Ex) (bd el : List St) (a pl : Int) (hl1 : l.length = 1) (ih : ∀ x ∈ l, q9d x) (ihb : ∀ x ∈ bd, z0w x) (ihe : ∀ x ∈ el, z0w x) : z0w (.mk 7 s ty l bd el a pl) := by
 intro w0 cs B b lv p w hK hg h0 hb hp hl
 obtain ⟨A, c, A1, c1, A2, c2, rfl, hC, hC1, hC2⟩ := q3y hK
 obtain ⟨r, hr⟩ : ∃ r, r = q1f (.mk 7 s ty l bd el a pl) lv p := ⟨_, rfl⟩
 rw [<- hr] at hl ⊢
 rw [q4i] at hr
 obtain ⟨W, hW⟩ : ∃ W, W = w.alloc (.cells #[.int .i64 7, .string s, .int .i64 ty, .slice A l.length c, .slice A1 bd.length c1, .slice A2 el.length c2, .int .i64 a, .int .i64 pl] 67) := ⟨_, rfl⟩
 obtain ⟨bk, hbk⟩ : ∃ x, x = w.heap.size := ⟨_, rfl⟩
 have hba : Below w.heap.size w W := by rw [hW]; exact q0d (Below.refl _ _) _
 have hm : W.heap[bk]? = some (.cells #[.int .i64 7, .string s, .int .i64 ty, .slice A l.length c, .slice A1 bd.length c1, .slice A2 el.length c2, .int .i64 a, .int .i64 pl] 67 (0, 0)) := by rw [hW, hbk]; exact heap_alloc_new _ _
 have HPW := q0h (hp.below hba)
 have HFW := q0h (PF.of_below (b := b) hba hp.bw)
 have HE0 := q0h (PF.refl B b W)
 have HBW := q0h (hb.trans (hba.mono hb.size))
 have HM := q0h hm
 have HBB := q0h (show bk ≠ b from by have := hp.lt; omega)
 have HW := q0h hW
 have HBK := q0h hbk
 have HL := q0h hl
 have H0 := q0h h0
 have HG := q0h hg
 have HC := q0h hC
 have HC1 := q0h hC1
 have HC2 := q0h hC2
 have HI := q0h ih
 have HIB := q0h ihb
 have HIE := q0h ihe
 have HK1 := q0h hr
 have z0 : W.cell? ⟨bk, 0, none⟩ = some (.int .i64 7) := (q0a hm 0).trans rfl
 have z1 : W.cell? ⟨bk, 1, none⟩ = some (.string s) := (q0a hm 1).trans rfl
 have z2 : W.cell? ⟨bk, 2, none⟩ = some (.int .i64 ty) := (q0a hm 2).trans rfl
 have z3 : W.cell? ⟨bk, 3, none⟩ = some (.slice A l.length c) := (q0a hm 3).trans rfl
 have z4 : W.cell? ⟨bk, 4, none⟩ = some (.slice A1 bd.length c1) := (q0a hm 4).trans rfl
 have z5 : W.cell? ⟨bk, 5, none⟩ = some (.slice A2 el.length c2) := (q0a hm 5).trans rfl
 have z6 : W.cell? ⟨bk, 6, none⟩ = some (.int .i64 a) := (q0a hm 6).trans rfl
 have z7 : W.cell? ⟨bk, 7, none⟩ = some (.int .i64 pl) := (q0a hm 7).trans rfl
 have lb := q0c hm
 clear hba hm hW hbk hp hb hl h0 hg hK hC hC1 hC2 ih ihb ihe hr
 have HN := q0h hl1
 clear hl1
 go_enter Tryz.func89, Tryz.ntmps89
 go_upto_region 1 with fail
 rw [<- HW.out, <- HBK.out]
 obtain ⟨ad, q0, q1, q2, q3, qA, qn, qc, q5, q6, q7, rfl, HKy, y0, y1, y2, y3, y4, y5, y6, y7⟩ := q6y HC.out 0 (by have := HN.out; omega)
 rw [Nat.zero_mul, q8t] at y0 y1 y2 y3 y4 y5 y6 y7
 obtain ⟨x0, hx0⟩ : ∃ x, x = l.getD 0 zEx := ⟨_, rfl⟩
 have HMy := q0h (q1a l zEx 0 (by have := HN.out; omega) x0 hx0)
 rw [<- hx0] at HKy
 have Yy0 := q0h y0
 have Yy1 := q0h y1
 have Yy2 := q0h y2
 have Yy3 := q0h y3
 have Yy4 := q0h y4
 have Yy5 := q0h y5
 have Yy6 := q0h y6
 have Yy7 := q0h y7
 clear y0 y1 y2 y3 y4 y5 y6 y7
 have HX := q0h (show r = q0q x0 p ++ [59] by
  rw [HK1.out, show q8m 7 s ty (l.map q0q) el (bd.map q1f) (el.map q1f) lv p = (l.map q0q).headD id p ++ [59] from rfl, q4w l (by have := HN.out; omega), <- hx0])
 have HL1 := q0h (show (q0q x0 p).length <= LIM from q3f (by rw [<- HX.out]; exact HL.out))
 clear hx0
 have hln : 0 < l.length := by have := HN.out; omega
 have hli : (0 : Int) < (l.length : Int) := by omega
 have y0 := q0b HBW.out Yy0.out
 have y1 := q0b HBW.out Yy1.out
 have y2 := q0b HBW.out Yy2.out
 have y3 := q0b HBW.out Yy3.out
 have y4 := q0b HBW.out Yy4.out
 have y5 := q0b HBW.out Yy5.out
 have y6 := q0b HBW.out Yy6.out
 have y7 := q0b HBW.out Yy7.out
 go_wp2_with fail
 clear z0 z1 z2 z3 z4 z5 z6 z7 lb
 clear y0 y1 y2 y3 y4 y5 y6 y7 hln hli
 refine (HI.out x0 HMy.out w0 _ B b lv _ _ HKy.out HG.out H0.out HBW.out HPW.out HL1.out).mono ?_
 rintro e' w2 ⟨rfl, hp', hf'⟩
 have HP2 := q0h hp'
 have HE2 := q0h (HE0.out.trans hf')
 clear hp' hf'
 go_wp2_with fail
 refine (q0j HP2.out [⟨#[59]⟩] 1 rfl (by simp) [59] rfl (by rw [<- HX.out]; exact HL.out)).mono ?_
 rintro e' w3 ⟨rfl, hp', hf'⟩
 have HP3 := q0h hp'
 have HE3 := q0h (HE2.out.trans hf')
 clear hp' hf'
 go_wp2_with fail
 go_end0
 exact ⟨rfl, by rw [HX.out]; exact HP3.out, HFW.out.trans HE3.out⟩
theorem j6l (s : ByteArray) (ty : Int) (l : List Ex) (bd el : List St) (a pl : Int) (hl1 : l.length = 2) (ih : ∀ x ∈ l, q9d x) (ihb : ∀ x ∈ bd, z0w x) (ihe : ∀ x ∈ el, z0w x) : z0w (.mk 3 s ty l bd el a pl) := by
 intro w0 cs B b lv p w hK hg h0 hb hp hl
 obtain ⟨A, c, A1, c1, A2, c2, rfl, hC, hC1, hC2⟩ := q3y hK
 obtain ⟨r, hr⟩ : ∃ r, r = q1f (.mk 3 s ty l bd el a pl) lv p := ⟨_, rfl⟩
 rw [<- hr] at hl ⊢
 rw [q4i] at hr
 obtain ⟨W, hW⟩ : ∃ W, W = w.alloc (.cells #[.int .i64 3, .string s, .int .i64 ty, .slice A l.length c, .slice A1 bd.length c1, .slice A2 el.length c2, .int .i64 a, .int .i64 pl] 67) := ⟨_, rfl⟩
 obtain ⟨bk, hbk⟩ : ∃ x, x = w.heap.size := ⟨_, rfl⟩
 have hba : Below w.heap.size w W := by rw [hW]; exact q0d (Below.refl _ _) _
 have hm : W.heap[bk]? = some (.cells #[.int .i64 3, .string s, .int .i64 ty, .slice A l.length c, .slice A1 bd.length c1, .slice A2 el.length c2, .int .i64 a, .int .i64 pl] 67 (0, 0)) := by rw [hW, hbk]; exact heap_alloc_new _ _
 have HPW := q0h (hp.below hba)
 have HFW := q0h (PF.of_below (b := b) hba hp.bw)
 have HE0 := q0h (PF.refl B b W)
 have HBW := q0h (hb.trans (hba.mono hb.size))
 have HM := q0h hm
 have HBB := q0h (show bk ≠ b from by have := hp.lt; omega)
 have HW := q0h hW
 have HBK := q0h hbk
 have HL := q0h hl
 have H0 := q0h h0
 have HG := q0h hg
 have HC := q0h hC
 have HC1 := q0h hC1
 have HC2 := q0h hC2
 have HI := q0h ih
 have HIB := q0h ihb
 have HIE := q0h ihe
 have HK1 := q0h hr
 have z0 : W.cell? ⟨bk, 0, none⟩ = some (.int .i64 3) := (q0a hm 0).trans rfl
 have z1 : W.cell? ⟨bk, 1, none⟩ = some (.string s) := (q0a hm 1).trans rfl
 have z2 : W.cell? ⟨bk, 2, none⟩ = some (.int .i64 ty) := (q0a hm 2).trans rfl
 have z3 : W.cell? ⟨bk, 3, none⟩ = some (.slice A l.length c) := (q0a hm 3).trans rfl
 have z4 : W.cell? ⟨bk, 4, none⟩ = some (.slice A1 bd.length c1) := (q0a hm 4).trans rfl
 have z5 : W.cell? ⟨bk, 5, none⟩ = some (.slice A2 el.length c2) := (q0a hm 5).trans rfl
 have z6 : W.cell? ⟨bk, 6, none⟩ = some (.int .i64 a) := (q0a hm 6).trans rfl
 have z7 : W.cell? ⟨bk, 7, none⟩ = some (.int .i64 pl) := (q0a hm 7).trans rfl
 have lb := q0c hm
 clear hba hm hW hbk hp hb hl h0 hg hK hC hC1 hC2 ih ihb ihe hr
 have HN := q0h hl1
 clear hl1
 go_enter Tryz.func89, Tryz.ntmps89
 go_upto_region 1 with fail
 rw [<- HW.out, <- HBK.out]
 obtain ⟨ad, q0, q1, q2, q3, qA, qn, qc, q5, q6, q7, rfl, HKy, y0, y1, y2, y3, y4, y5, y6, y7⟩ := q6y HC.out 0 (by have := HN.out; omega)
 rw [Nat.zero_mul, q8t] at y0 y1 y2 y3 y4 y5 y6 y7
 obtain ⟨x0, hx0⟩ : ∃ x, x = l.getD 0 zEx := ⟨_, rfl⟩
 have HMy := q0h (q1a l zEx 0 (by have := HN.out; omega) x0 hx0)
 rw [<- hx0] at HKy
 have Yy0 := q0h y0
 have Yy1 := q0h y1
 have Yy2 := q0h y2
 have Yy3 := q0h y3
 have Yy4 := q0h y4
 have Yy5 := q0h y5
 have Yy6 := q0h y6
 have Yy7 := q0h y7
 clear y0 y1 y2 y3 y4 y5 y6 y7
 obtain ⟨ad2, r0, r1, r2, r3, rA, rn, rc, r5, r6, r7, he2, HKv, v0, v1, v2, v3, v4, v5, v6, v7⟩ := q6y HC.out 1 (by have := HN.out; omega)
 injection he2 with he2
 subst he2
 rw [Nat.one_mul, j9h] at v0 v1 v2 v3 v4 v5 v6 v7
 obtain ⟨x1, hx1⟩ : ∃ x, x = l.getD 1 zEx := ⟨_, rfl⟩
 have HMv := q0h (q1a l zEx 1 (by have := HN.out; omega) x1 hx1)
 rw [<- hx1] at HKv
 have Yv0 := q0h v0
 have Yv1 := q0h v1
 have Yv2 := q0h v2
 have Yv3 := q0h v3
 have Yv4 := q0h v4
 have Yv5 := q0h v5
 have Yv6 := q0h v6
 have Yv7 := q0h v7
 clear v0 v1 v2 v3 v4 v5 v6 v7
 have HX := q0h (show r = q0q x1 (q0q x0 (p ++ (toL s ++ [91])) ++ [93, 32, 61, 32]) ++ [59] by
  rw [HK1.out, show q8m 3 s ty (l.map q0q) el (bd.map q1f) (el.map q1f) lv p = (l.map q0q).tail.headD id ((l.map q0q).headD id (p ++ toL s ++ [91]) ++ [93, 32, 61, 32]) ++ [59] from rfl, map_tail l (by have := HN.out; omega), q4w l (by have := HN.out; omega), <- hx0, <- hx1, List.append_assoc])
 have HL0 := q0h (show (q0q x1 (q0q x0 (p ++ (toL s ++ [91])) ++ [93, 32, 61, 32])).length <= LIM from q3f (by rw [<- HX.out]; exact HL.out))
 have HLA := q0h (show (q0q x0 (p ++ (toL s ++ [91])) ++ [93, 32, 61, 32]).length <= LIM from Nat.le_trans (q3p x1 _) HL0.out)
 have HL1 := q0h (show (q0q x0 (p ++ (toL s ++ [91]))).length <= LIM from q3f HLA.out)
 have HL2 := q0h (show (p ++ (toL s ++ [91])).length <= LIM from Nat.le_trans (q3p x0 _) HL1.out)
 clear hx0 hx1
 go_wp2_with fail
 clear z0 z1 z2 z3 z4 z5 z6 z7 lb
 refine (q0j HPW.out [s, ⟨#[91]⟩] 2 rfl (by simp) (toL s ++ [91]) rfl HL2.out).mono ?_
 rintro e' w1 ⟨rfl, hp', hf'⟩
 have HP1 := q0h hp'
 have HE1 := q0h (HE0.out.trans hf')
 clear hp' hf'
 have hm' := (HE1.out.nb bk (q0c HM.out) HBB.out (q0n HM.out (by decide))).trans HM.out
 have z0 : w1.cell? ⟨bk, 0, none⟩ = some (.int .i64 3) := (q0a hm' 0).trans rfl
 have z1 : w1.cell? ⟨bk, 1, none⟩ = some (.string s) := (q0a hm' 1).trans rfl
 have z2 : w1.cell? ⟨bk, 2, none⟩ = some (.int .i64 ty) := (q0a hm' 2).trans rfl
 have z3 : w1.cell? ⟨bk, 3, none⟩ = some (.slice (some ad) l.length c) := (q0a hm' 3).trans rfl
 have z4 : w1.cell? ⟨bk, 4, none⟩ = some (.slice A1 bd.length c1) := (q0a hm' 4).trans rfl
 have z5 : w1.cell? ⟨bk, 5, none⟩ = some (.slice A2 el.length c2) := (q0a hm' 5).trans rfl
 have z6 : w1.cell? ⟨bk, 6, none⟩ = some (.int .i64 a) := (q0a hm' 6).trans rfl
 have z7 : w1.cell? ⟨bk, 7, none⟩ = some (.int .i64 pl) := (q0a hm' 7).trans rfl
 have lb := q0c hm'
 clear hm'
 have HB1 := q0h (HBW.out.trans (HE1.out.be.mono H0.out))
 have hln : 0 < l.length := by have := HN.out; omega
 have hli : (0 : Int) < (l.length : Int) := by omega
 have y0 := q0b HB1.out Yy0.out
 have y1 := q0b HB1.out Yy1.out
 have y2 := q0b HB1.out Yy2.out
 have y3 := q0b HB1.out Yy3.out
 have y4 := q0b HB1.out Yy4.out
 have y5 := q0b HB1.out Yy5.out
 have y6 := q0b HB1.out Yy6.out
 have y7 := q0b HB1.out Yy7.out
 go_wp2_with fail
 clear z0 z1 z2 z3 z4 z5 z6 z7 lb
 clear y0 y1 y2 y3 y4 y5 y6 y7 hln hli
 refine (HI.out x0 HMy.out w0 _ B b lv _ _ HKy.out HG.out H0.out HB1.out HP1.out HL1.out).mono ?_
 rintro e' w2 ⟨rfl, hp', hf'⟩
 have HP2 := q0h hp'
 have HE2 := q0h (HE1.out.trans hf')
 clear hp' hf'
 go_wp2_with fail
 refine (q0j HP2.out [⟨#[93, 32, 61, 32]⟩] 1 rfl (by simp) [93, 32, 61, 32] rfl HLA.out).mono ?_
 rintro e' w3 ⟨rfl, hp', hf'⟩
 have HP3 := q0h hp'
 have HE3 := q0h (HE2.out.trans hf')
 clear hp' hf'
 have hm' := (HE3.out.nb bk (q0c HM.out) HBB.out (q0n HM.out (by decide))).trans HM.out
 have z0 : w3.cell? ⟨bk, 0, none⟩ = some (.int .i64 3) := (q0a hm' 0).trans rfl
 have z1 : w3.cell? ⟨bk, 1, none⟩ = some (.string s) := (q0a hm' 1).trans rfl
 have z2 : w3.cell? ⟨bk, 2, none⟩ = some (.int .i64 ty) := (q0a hm' 2).trans rfl
 have z3 : w3.cell? ⟨bk, 3, none⟩ = some (.slice (some ad) l.length c) := (q0a hm' 3).trans rfl
 have z4 : w3.cell? ⟨bk, 4, none⟩ = some (.slice A1 bd.length c1) := (q0a hm' 4).trans rfl
 have z5 : w3.cell? ⟨bk, 5, none⟩ = some (.slice A2 el.length c2) := (q0a hm' 5).trans rfl
 have z6 : w3.cell? ⟨bk, 6, none⟩ = some (.int .i64 a) := (q0a hm' 6).trans rfl
 have z7 : w3.cell? ⟨bk, 7, none⟩ = some (.int .i64 pl) := (q0a hm' 7).trans rfl
 have lb := q0c hm'
 clear hm'
 have HB3 := q0h (HBW.out.trans (HE3.out.be.mono H0.out))
 have hln1 : 1 < l.length := by have := HN.out; omega
 have hli1 : (1 : Int) < (l.length : Int) := by omega
 have v0 := q0b HB3.out Yv0.out
 have v1 := q0b HB3.out Yv1.out
 have v2 := q0b HB3.out Yv2.out
 have v3 := q0b HB3.out Yv3.out
 have v4 := q0b HB3.out Yv4.out
 have v5 := q0b HB3.out Yv5.out
 have v6 := q0b HB3.out Yv6.out
 have v7 := q0b HB3.out Yv7.out
 go_wp2_with fail
 clear z0 z1 z2 z3 z4 z5 z6 z7 lb
 clear v0 v1 v2 v3 v4 v5 v6 v7 hln1 hli1
 refine (HI.out x1 HMv.out w0 _ B b lv _ _ HKv.out HG.out H0.out HB3.out HP3.out HL0.out).mono ?_
 rintro e' w4 ⟨rfl, hp', hf'⟩
 have HP4 := q0h hp'
 have HE4 := q0h (HE3.out.trans hf')
 clear hp' hf'
 go_wp2_with fail
 refine (q0j HP4.out [⟨#[59]⟩] 1 rfl (by simp) [59] rfl (by rw [<- HX.out]; exact HL.out)).mono ?_
 rintro e' w5 ⟨rfl, hp', hf'⟩
 have HP5 := q0h hp'
 have HE5 := q0h (HE4.out.trans hf')
 clear hp' hf'
 go_wp2_with fail
 go_end0
 exact ⟨rfl, by rw [HX.out]; exact HP5.out, HFW.out.trans HE5.out⟩
theorem j0s (s : ByteArray) (ty : Int) (l : List Ex) (bd el : List St) (a pl : Int) (hl1 : l.length = 1) (hbd : bd.length <= 400) (ih : ∀ x ∈ l, q9d x) (ihb : ∀ x ∈ bd, z0w x) (ihe : ∀ x ∈ el, z0w x) : z0w (.mk 5 s ty l bd el a pl) := by
 intro w0 cs B b lv p w hK hg h0 hb hp hl
 obtain ⟨A, c, A1, c1, A2, c2, rfl, hC, hC1, hC2⟩ := q3y hK
 obtain ⟨r, hr⟩ : ∃ r, r = q1f (.mk 5 s ty l bd el a pl) lv p := ⟨_, rfl⟩
 rw [<- hr] at hl ⊢
 rw [q4i] at hr
 obtain ⟨W, hW⟩ : ∃ W, W = w.alloc (.cells #[.int .i64 5, .string s, .int .i64 ty, .slice A l.length c, .slice A1 bd.length c1, .slice A2 el.length c2, .int .i64 a, .int .i64 pl] 67) := ⟨_, rfl⟩
 obtain ⟨bk, hbk⟩ : ∃ x, x = w.heap.size := ⟨_, rfl⟩
 have hba : Below w.heap.size w W := by rw [hW]; exact q0d (Below.refl _ _) _
 have hm : W.heap[bk]? = some (.cells #[.int .i64 5, .string s, .int .i64 ty, .slice A l.length c, .slice A1 bd.length c1, .slice A2 el.length c2, .int .i64 a, .int .i64 pl] 67 (0, 0)) := by rw [hW, hbk]; exact heap_alloc_new _ _
 have HPW := q0h (hp.below hba)
 have HFW := q0h (PF.of_below (b := b) hba hp.bw)
 have HE0 := q0h (PF.refl B b W)
 have HBW := q0h (hb.trans (hba.mono hb.size))
 have HM := q0h hm
 have HBB := q0h (show bk ≠ b from by have := hp.lt; omega)
 have HW := q0h hW
 have HBK := q0h hbk
 have HL := q0h hl
 have H0 := q0h h0
 have HG := q0h hg
 have HC := q0h hC
 have HC1 := q0h hC1
 have HC2 := q0h hC2
 have HI := q0h ih
 have HIB := q0h ihb
 have HIE := q0h ihe
 have HK1 := q0h hr
 have z0 : W.cell? ⟨bk, 0, none⟩ = some (.int .i64 5) := (q0a hm 0).trans rfl
 have z1 : W.cell? ⟨bk, 1, none⟩ = some (.string s) := (q0a hm 1).trans rfl
 have z2 : W.cell? ⟨bk, 2, none⟩ = some (.int .i64 ty) := (q0a hm 2).trans rfl
 have z3 : W.cell? ⟨bk, 3, none⟩ = some (.slice A l.length c) := (q0a hm 3).trans rfl
 have z4 : W.cell? ⟨bk, 4, none⟩ = some (.slice A1 bd.length c1) := (q0a hm 4).trans rfl
 have z5 : W.cell? ⟨bk, 5, none⟩ = some (.slice A2 el.length c2) := (q0a hm 5).trans rfl
 have z6 : W.cell? ⟨bk, 6, none⟩ = some (.int .i64 a) := (q0a hm 6).trans rfl
 have z7 : W.cell? ⟨bk, 7, none⟩ = some (.int .i64 pl) := (q0a hm 7).trans rfl
 have lb := q0c hm
 clear hba hm hW hbk hp hb hl h0 hg hK hC hC1 hC2 ih ihb ihe hr
 have HN := q0h hl1
 clear hl1
 go_enter Tryz.func89, Tryz.ntmps89
 go_upto_region 1 with fail
 rw [<- HW.out, <- HBK.out]
 obtain ⟨ad, q0, q1, q2, q3, qA, qn, qc, q5, q6, q7, rfl, HKy, y0, y1, y2, y3, y4, y5, y6, y7⟩ := q6y HC.out 0 (by have := HN.out; omega)
 rw [Nat.zero_mul, q8t] at y0 y1 y2 y3 y4 y5 y6 y7
 obtain ⟨x0, hx0⟩ : ∃ x, x = l.getD 0 zEx := ⟨_, rfl⟩
 have HMy := q0h (q1a l zEx 0 (by have := HN.out; omega) x0 hx0)
 rw [<- hx0] at HKy
 have Yy0 := q0h y0
 have Yy1 := q0h y1
 have Yy2 := q0h y2
 have Yy3 := q0h y3
 have Yy4 := q0h y4
 have Yy5 := q0h y5
 have Yy6 := q0h y6
 have Yy7 := q0h y7
 clear y0 y1 y2 y3 y4 y5 y6 y7
 have HX := q0h (show r = q3w (bd.map q1f) lv (q0q x0 (p ++ [119, 104, 105, 108, 101, 32])) by
  rw [HK1.out, show q8m 5 s ty (l.map q0q) el (bd.map q1f) (el.map q1f) lv p = q3w (bd.map q1f) lv ((l.map q0q).headD id (p ++ [119, 104, 105, 108, 101, 32])) from rfl, q4w l (by have := HN.out; omega), <- hx0])
 have HL0 := q0h (show (q3w (bd.map q1f) lv (q0q x0 (p ++ [119, 104, 105, 108, 101, 32]))).length <= LIM by rw [<- HX.out]; exact HL.out)
 have HL1 := q0h (show (q0q x0 (p ++ [119, 104, 105, 108, 101, 32])).length <= LIM from Nat.le_trans (q5z (q4x bd) lv _).2 HL0.out)
 have HL2 := q0h (show (p ++ [119, 104, 105, 108, 101, 32]).length <= LIM from Nat.le_trans (q3p x0 _) HL1.out)
 clear hx0
 go_wp2_with fail
 clear z0 z1 z2 z3 z4 z5 z6 z7 lb
 refine (q0j HPW.out [⟨#[119, 104, 105, 108, 101, 32]⟩] 1 rfl (by simp) [119, 104, 105, 108, 101, 32] rfl HL2.out).mono ?_
 rintro e' w1 ⟨rfl, hp', hf'⟩
 have HP1 := q0h hp'
 have HE1 := q0h (HE0.out.trans hf')
 clear hp' hf'
 have hm' := (HE1.out.nb bk (q0c HM.out) HBB.out (q0n HM.out (by decide))).trans HM.out
 have z0 : w1.cell? ⟨bk, 0, none⟩ = some (.int .i64 5) := (q0a hm' 0).trans rfl
 have z1 : w1.cell? ⟨bk, 1, none⟩ = some (.string s) := (q0a hm' 1).trans rfl
 have z2 : w1.cell? ⟨bk, 2, none⟩ = some (.int .i64 ty) := (q0a hm' 2).trans rfl
 have z3 : w1.cell? ⟨bk, 3, none⟩ = some (.slice (some ad) l.length c) := (q0a hm' 3).trans rfl
 have z4 : w1.cell? ⟨bk, 4, none⟩ = some (.slice A1 bd.length c1) := (q0a hm' 4).trans rfl
 have z5 : w1.cell? ⟨bk, 5, none⟩ = some (.slice A2 el.length c2) := (q0a hm' 5).trans rfl
 have z6 : w1.cell? ⟨bk, 6, none⟩ = some (.int .i64 a) := (q0a hm' 6).trans rfl
 have z7 : w1.cell? ⟨bk, 7, none⟩ = some (.int .i64 pl) := (q0a hm' 7).trans rfl
 have lb := q0c hm'
 clear hm'
 have HB1 := q0h (HBW.out.trans (HE1.out.be.mono H0.out))
 have hln : 0 < l.length := by have := HN.out; omega
 have hli : (0 : Int) < (l.length : Int) := by omega
 have y0 := q0b HB1.out Yy0.out
 have y1 := q0b HB1.out Yy1.out
 have y2 := q0b HB1.out Yy2.out
 have y3 := q0b HB1.out Yy3.out
 have y4 := q0b HB1.out Yy4.out
 have y5 := q0b HB1.out Yy5.out
 have y6 := q0b HB1.out Yy6.out
 have y7 := q0b HB1.out Yy7.out
 go_wp2_with fail
 clear z0 z1 z2 z3 z4 z5 z6 z7 lb
 clear y0 y1 y2 y3 y4 y5 y6 y7 hln hli
 refine (HI.out x0 HMy.out w0 _ B b lv _ _ HKy.out HG.out H0.out HB1.out HP1.out HL1.out).mono ?_
 rintro e' w2 ⟨rfl, hp', hf'⟩
 have HP2 := q0h hp'
 have HE2 := q0h (HE1.out.trans hf')
 clear hp' hf'
 have hm' := (HE2.out.nb bk (q0c HM.out) HBB.out (q0n HM.out (by decide))).trans HM.out
 have z0 : w2.cell? ⟨bk, 0, none⟩ = some (.int .i64 5) := (q0a hm' 0).trans rfl
 have z1 : w2.cell? ⟨bk, 1, none⟩ = some (.string s) := (q0a hm' 1).trans rfl
 have z2 : w2.cell? ⟨bk, 2, none⟩ = some (.int .i64 ty) := (q0a hm' 2).trans rfl
 have z3 : w2.cell? ⟨bk, 3, none⟩ = some (.slice (some ad) l.length c) := (q0a hm' 3).trans rfl
 have z4 : w2.cell? ⟨bk, 4, none⟩ = some (.slice A1 bd.length c1) := (q0a hm' 4).trans rfl
 have z5 : w2.cell? ⟨bk, 5, none⟩ = some (.slice A2 el.length c2) := (q0a hm' 5).trans rfl
 have z6 : w2.cell? ⟨bk, 6, none⟩ = some (.int .i64 a) := (q0a hm' 6).trans rfl
 have z7 : w2.cell? ⟨bk, 7, none⟩ = some (.int .i64 pl) := (q0a hm' 7).trans rfl
 have lb := q0c hm'
 clear hm'
 have HB2 := q0h (HBW.out.trans (HE2.out.be.mono H0.out))
 go_wp2_with fail
 clear z0 z1 z2 z3 z4 z5 z6 z7 lb
 refine (q8i bd hbd HIB.out w0 A1 c1 B b lv _ w2 HC1.out HG.out H0.out HB2.out HP2.out HL0.out).mono ?_
 rintro e' w3 ⟨rfl, hp', hf'⟩
 have HP3 := q0h hp'
 have HE3 := q0h (HE2.out.trans hf')
 clear hp' hf'
 go_wp2_with fail
 try simp only [Exit.inBlock, Exit.then]
 refine bodyPost_ret (results_none rfl _ _ _) rfl ?_
 exact ⟨rfl, by rw [HX.out]; exact HP3.out, HFW.out.trans HE3.out⟩
theorem x6n (s : ByteArray) (ty : Int) (l : List Ex) (bd el : List St) (a pl : Int) (hll : l.length <= 1) (ih : ∀ x ∈ l, q9d x) (ihb : ∀ x ∈ bd, z0w x) (ihe : ∀ x ∈ el, z0w x) : z0w (.mk 6 s ty l bd el a pl) := by
 intro w0 cs B b lv p w hK hg h0 hb hp hl
 obtain ⟨A, c, A1, c1, A2, c2, rfl, hC, hC1, hC2⟩ := q3y hK
 obtain ⟨r, hr⟩ : ∃ r, r = q1f (.mk 6 s ty l bd el a pl) lv p := ⟨_, rfl⟩
 rw [<- hr] at hl ⊢
 rw [q4i] at hr
 obtain ⟨W, hW⟩ : ∃ W, W = w.alloc (.cells #[.int .i64 6, .string s, .int .i64 ty, .slice A l.length c, .slice A1 bd.length c1, .slice A2 el.length c2, .int .i64 a, .int .i64 pl] 67) := ⟨_, rfl⟩
 obtain ⟨bk, hbk⟩ : ∃ x, x = w.heap.size := ⟨_, rfl⟩
 have hba : Below w.heap.size w W := by rw [hW]; exact q0d (Below.refl _ _) _
 have hm : W.heap[bk]? = some (.cells #[.int .i64 6, .string s, .int .i64 ty, .slice A l.length c, .slice A1 bd.length c1, .slice A2 el.length c2, .int .i64 a, .int .i64 pl] 67 (0, 0)) := by rw [hW, hbk]; exact heap_alloc_new _ _
 have HPW := q0h (hp.below hba)
 have HFW := q0h (PF.of_below (b := b) hba hp.bw)
 have HE0 := q0h (PF.refl B b W)
 have HBW := q0h (hb.trans (hba.mono hb.size))
 have HM := q0h hm
 have HBB := q0h (show bk ≠ b from by have := hp.lt; omega)
 have HW := q0h hW
 have HBK := q0h hbk
 have HL := q0h hl
 have H0 := q0h h0
 have HG := q0h hg
 have HC := q0h hC
 have HC1 := q0h hC1
 have HC2 := q0h hC2
 have HI := q0h ih
 have HIB := q0h ihb
 have HIE := q0h ihe
 have HK1 := q0h hr
 have z0 : W.cell? ⟨bk, 0, none⟩ = some (.int .i64 6) := (q0a hm 0).trans rfl
 have z1 : W.cell? ⟨bk, 1, none⟩ = some (.string s) := (q0a hm 1).trans rfl
 have z2 : W.cell? ⟨bk, 2, none⟩ = some (.int .i64 ty) := (q0a hm 2).trans rfl
 have z3 : W.cell? ⟨bk, 3, none⟩ = some (.slice A l.length c) := (q0a hm 3).trans rfl
 have z4 : W.cell? ⟨bk, 4, none⟩ = some (.slice A1 bd.length c1) := (q0a hm 4).trans rfl
 have z5 : W.cell? ⟨bk, 5, none⟩ = some (.slice A2 el.length c2) := (q0a hm 5).trans rfl
 have z6 : W.cell? ⟨bk, 6, none⟩ = some (.int .i64 a) := (q0a hm 6).trans rfl
 have z7 : W.cell? ⟨bk, 7, none⟩ = some (.int .i64 pl) := (q0a hm 7).trans rfl
 have lb := q0c hm
 clear hba hm hW hbk hp hb hl h0 hg hK hC hC1 hC2 ih ihb ihe hr
 go_enter Tryz.func89, Tryz.ntmps89
 go_upto_region 1 with fail
 rw [<- HW.out, <- HBK.out]
 by_cases hl0 : l.length = 0
 ·have HX := q0h (show r = p ++ [114, 101, 116, 117, 114, 110] ++ [59] by
   obtain rfl : l = [] := List.length_eq_zero_iff.1 hl0
   rw [HK1.out]; rfl)
  have HL1 := q0h (show (p ++ [114, 101, 116, 117, 114, 110]).length <= LIM from q3f (by rw [<- HX.out]; exact HL.out))
  have HZ := q0h hl0
  clear hl0
  go_wp2_with fail
  clear z0 z1 z2 z3 z4 z5 z6 z7 lb
  refine (q0j HPW.out [⟨#[114, 101, 116, 117, 114, 110]⟩] 1 rfl (by simp) [114, 101, 116, 117, 114, 110] rfl HL1.out).mono ?_
  rintro e' w1 ⟨rfl, hp', hf'⟩
  have HP1 := q0h hp'
  have HE1 := q0h (HE0.out.trans hf')
  clear hp' hf'
  have hm' := (HE1.out.nb bk (q0c HM.out) HBB.out (q0n HM.out (by decide))).trans HM.out
  have z0 : w1.cell? ⟨bk, 0, none⟩ = some (.int .i64 6) := (q0a hm' 0).trans rfl
  have z1 : w1.cell? ⟨bk, 1, none⟩ = some (.string s) := (q0a hm' 1).trans rfl
  have z2 : w1.cell? ⟨bk, 2, none⟩ = some (.int .i64 ty) := (q0a hm' 2).trans rfl
  have z3 : w1.cell? ⟨bk, 3, none⟩ = some (.slice A l.length c) := (q0a hm' 3).trans rfl
  have z4 : w1.cell? ⟨bk, 4, none⟩ = some (.slice A1 bd.length c1) := (q0a hm' 4).trans rfl
  have z5 : w1.cell? ⟨bk, 5, none⟩ = some (.slice A2 el.length c2) := (q0a hm' 5).trans rfl
  have z6 : w1.cell? ⟨bk, 6, none⟩ = some (.int .i64 a) := (q0a hm' 6).trans rfl
  have z7 : w1.cell? ⟨bk, 7, none⟩ = some (.int .i64 pl) := (q0a hm' 7).trans rfl
  have lb := q0c hm'
  clear hm'
  have hz : l.length = 0 := HZ.out
  go_wp2_with fail
  clear z0 z1 z2 z3 z4 z5 z6 z7 lb
  refine (q0j HP1.out [⟨#[59]⟩] 1 rfl (by simp) [59] rfl (by rw [<- HX.out]; exact HL.out)).mono ?_
  rintro e' w3 ⟨rfl, hp', hf'⟩
  have HP3 := q0h hp'
  have HE3 := q0h (HE1.out.trans hf')
  clear hp' hf'
  go_wp2_with fail
  go_end0
  exact ⟨rfl, by rw [HX.out]; exact HP3.out, HFW.out.trans HE3.out⟩
 ·have hl1 : l.length = 1 := by omega
  have HN := q0h hl1
  clear hl1 hl0 hll
  obtain ⟨ad, q0, q1, q2, q3, qA, qn, qc, q5, q6, q7, rfl, HKy, y0, y1, y2, y3, y4, y5, y6, y7⟩ := q6y HC.out 0 (by have := HN.out; omega)
  rw [Nat.zero_mul, q8t] at y0 y1 y2 y3 y4 y5 y6 y7
  obtain ⟨x0, hx0⟩ : ∃ x, x = l.getD 0 zEx := ⟨_, rfl⟩
  have HMy := q0h (q1a l zEx 0 (by have := HN.out; omega) x0 hx0)
  rw [<- hx0] at HKy
  have Yy0 := q0h y0
  have Yy1 := q0h y1
  have Yy2 := q0h y2
  have Yy3 := q0h y3
  have Yy4 := q0h y4
  have Yy5 := q0h y5
  have Yy6 := q0h y6
  have Yy7 := q0h y7
  clear y0 y1 y2 y3 y4 y5 y6 y7
  have HX := q0h (show r = q0q x0 (p ++ [114, 101, 116, 117, 114, 110] ++ [32]) ++ [59] by
   rw [HK1.out, show q8m 6 s ty (l.map q0q) el (bd.map q1f) (el.map q1f) lv p = (if (l.map q0q) = [] then p ++ [114, 101, 116, 117, 114, 110] else (l.map q0q).headD id (p ++ [114, 101, 116, 117, 114, 110] ++ [32])) ++ [59] from rfl, if_neg (by intro h; have := congrArg List.length h; rw [List.length_map, HN.out] at this; cases this), q4w l (by have := HN.out; omega), <- hx0])
  have HL1 := q0h (show (q0q x0 (p ++ [114, 101, 116, 117, 114, 110] ++ [32])).length <= LIM from q3f (by rw [<- HX.out]; exact HL.out))
  have HL2 := q0h (show (p ++ [114, 101, 116, 117, 114, 110] ++ [32]).length <= LIM from Nat.le_trans (q3p x0 _) HL1.out)
  clear hx0
  go_wp2_with fail
  clear z0 z1 z2 z3 z4 z5 z6 z7 lb
  refine (q0j HPW.out [⟨#[114, 101, 116, 117, 114, 110]⟩] 1 rfl (by simp) [114, 101, 116, 117, 114, 110] rfl (q3f HL2.out)).mono ?_
  rintro e' w1 ⟨rfl, hp', hf'⟩
  have HP1 := q0h hp'
  have HE1 := q0h (HE0.out.trans hf')
  clear hp' hf'
  have hm' := (HE1.out.nb bk (q0c HM.out) HBB.out (q0n HM.out (by decide))).trans HM.out
  have z0 : w1.cell? ⟨bk, 0, none⟩ = some (.int .i64 6) := (q0a hm' 0).trans rfl
  have z1 : w1.cell? ⟨bk, 1, none⟩ = some (.string s) := (q0a hm' 1).trans rfl
  have z2 : w1.cell? ⟨bk, 2, none⟩ = some (.int .i64 ty) := (q0a hm' 2).trans rfl
  have z3 : w1.cell? ⟨bk, 3, none⟩ = some (.slice (some ad) l.length c) := (q0a hm' 3).trans rfl
  have z4 : w1.cell? ⟨bk, 4, none⟩ = some (.slice A1 bd.length c1) := (q0a hm' 4).trans rfl
  have z5 : w1.cell? ⟨bk, 5, none⟩ = some (.slice A2 el.length c2) := (q0a hm' 5).trans rfl
  have z6 : w1.cell? ⟨bk, 6, none⟩ = some (.int .i64 a) := (q0a hm' 6).trans rfl
  have z7 : w1.cell? ⟨bk, 7, none⟩ = some (.int .i64 pl) := (q0a hm' 7).trans rfl
  have lb := q0c hm'
  clear hm'
  have hln : 0 < l.length := by have := HN.out; omega
  have hli : (0 : Int) < (l.length : Int) := by omega
  go_wp2_with fail
  clear z0 z1 z2 z3 z4 z5 z6 z7 lb
  clear hln hli
  refine (q0j HP1.out [⟨#[32]⟩] 1 rfl (by simp) [32] rfl HL2.out).mono ?_
  rintro e' w2 ⟨rfl, hp', hf'⟩
  have HP2 := q0h hp'
  have HE2 := q0h (HE1.out.trans hf')
  clear hp' hf'
  have hm' := (HE2.out.nb bk (q0c HM.out) HBB.out (q0n HM.out (by decide))).trans HM.out
  have z0 : w2.cell? ⟨bk, 0, none⟩ = some (.int .i64 6) := (q0a hm' 0).trans rfl
  have z1 : w2.cell? ⟨bk, 1, none⟩ = some (.string s) := (q0a hm' 1).trans rfl
  have z2 : w2.cell? ⟨bk, 2, none⟩ = some (.int .i64 ty) := (q0a hm' 2).trans rfl
  have z3 : w2.cell? ⟨bk, 3, none⟩ = some (.slice (some ad) l.length c) := (q0a hm' 3).trans rfl
  have z4 : w2.cell? ⟨bk, 4, none⟩ = some (.slice A1 bd.length c1) := (q0a hm' 4).trans rfl
  have z5 : w2.cell? ⟨bk, 5, none⟩ = some (.slice A2 el.length c2) := (q0a hm' 5).trans rfl
  have z6 : w2.cell? ⟨bk, 6, none⟩ = some (.int .i64 a) := (q0a hm' 6).trans rfl
  have z7 : w2.cell? ⟨bk, 7, none⟩ = some (.int .i64 pl) := (q0a hm' 7).trans rfl
  have lb := q0c hm'
  clear hm'
  have HB2 := q0h (HBW.out.trans (HE2.out.be.mono H0.out))
  have hln : 0 < l.length := by have := HN.out; omega
  have hli : (0 : Int) < (l.length : Int) := by omega
  have y0 := q0b HB2.out Yy0.out
  have y1 := q0b HB2.out Yy1.out
  have y2 := q0b HB2.out Yy2.out
  have y3 := q0b HB2.out Yy3.out
  have y4 := q0b HB2.out Yy4.out
  have y5 := q0b HB2.out Yy5.out
  have y6 := q0b HB2.out Yy6.out
  have y7 := q0b HB2.out Yy7.out
  go_wp2_with fail
  clear z0 z1 z2 z3 z4 z5 z6 z7 lb
  clear y0 y1 y2 y3 y4 y5 y6 y7 hln hli
  refine (HI.out x0 HMy.out w0 _ B b lv _ _ HKy.out HG.out H0.out HB2.out HP2.out HL1.out).mono ?_
  rintro e' w3 ⟨rfl, hp', hf'⟩
  have HP3 := q0h hp'
  have HE3 := q0h (HE2.out.trans hf')
  clear hp' hf'
  go_wp2_with fail
  refine (q0j HP3.out [⟨#[59]⟩] 1 rfl (by simp) [59] rfl (by rw [<- HX.out]; exact HL.out)).mono ?_
  rintro e' w4 ⟨rfl, hp', hf'⟩
  have HP4 := q0h hp'
  have HE4 := q0h (HE3.out.trans hf')
  clear hp' hf'
  go_wp2_with fail
  go_end0
  exact ⟨rfl, by rw [HX.out]; exact HP4.out, HFW.out.trans HE4.out⟩
end Go.Proofs.YtpfdhihbecpbeaaGreatDoor.E
