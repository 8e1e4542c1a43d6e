import Derived.Test.YtedmncldelcbfaaGreatDoorKB
/- Contracts of verify: no statement of its own. -/
namespace Go.Proofs.YtedmncldelcbfaaGreatDoor.E
open Go Go.RowKit Go.Proofs.YtedmncldelcbfaaGreatDoorW.PrintWords Go.Proofs.YtedmncldelcbfaaGreatDoorW.PrintLast Go.Proofs.YtedmncldelcbfaaGreatDoorW.PrintMore
set_option linter.unusedVariables false
set_option linter.unusedSimpArgs false
set_option maxRecDepth 100000
set_option maxHeartbeats 2000000
def callsL : List SSys := [(⟨(⟨#[115, 112, 97, 119, 110]⟩ : ByteArray), (([2, 2, 1] : List Int)), 4⟩ : SSys), (⟨(⟨#[107, 105, 108, 108]⟩ : ByteArray), (([4] : List Int)), 0⟩ : SSys), (⟨(⟨#[97, 108, 105, 118, 101]⟩ : ByteArray), (([4] : List Int)), 3⟩ : SSys), (⟨(⟨#[103, 101, 116, 120]⟩ : ByteArray), (([4] : List Int)), 2⟩ : SSys), (⟨(⟨#[103, 101, 116, 121]⟩ : ByteArray), (([4] : List Int)), 2⟩ : SSys), (⟨(⟨#[112, 108, 97, 99, 101]⟩ : ByteArray), (([4, 2, 2] : List Int)), 3⟩ : SSys), (⟨(⟨#[112, 117, 115, 104]⟩ : ByteArray), (([4, 2, 2] : List Int)), 0⟩ : SSys), (⟨(⟨#[115, 105, 122, 101]⟩ : ByteArray), (([4, 2] : List Int)), 0⟩ : SSys), (⟨(⟨#[116, 97, 103]⟩ : ByteArray), (([4] : List Int)), 1⟩ : SSys), (⟨(⟨#[109, 97, 114, 107]⟩ : ByteArray), (([4, 1] : List Int)), 0⟩ : SSys), (⟨(⟨#[111, 119, 110, 101, 114]⟩ : ByteArray), (([4] : List Int)), 1⟩ : SSys), (⟨(⟨#[99, 111, 117, 110, 116]⟩ : ByteArray), ([] : List Int), 1⟩ : SSys), (⟨(⟨#[110, 116, 104]⟩ : ByteArray), (([1] : List Int)), 4⟩ : SSys), (⟨(⟨#[110, 111, 119]⟩ : ByteArray), ([] : List Int), 1⟩ : SSys), (⟨(⟨#[114, 97, 110, 100, 111, 109]⟩ : ByteArray), (([1] : List Int)), 1⟩ : SSys), (⟨(⟨#[115, 99, 111, 114, 101]⟩ : ByteArray), (([1, 1] : List Int)), 0⟩ : SSys)]
def backsL : List SSys := [(⟨(⟨#[115, 116, 97, 114, 116]⟩ : ByteArray), ([] : List Int), 0⟩ : SSys), (⟨(⟨#[106, 111, 105, 110]⟩ : ByteArray), (([1] : List Int)), 0⟩ : SSys), (⟨(⟨#[108, 101, 97, 118, 101]⟩ : ByteArray), (([1] : List Int)), 0⟩ : SSys), (⟨(⟨#[105, 110, 112, 117, 116]⟩ : ByteArray), (([1, 1] : List Int)), 0⟩ : SSys), (⟨(⟨#[116, 105, 99, 107]⟩ : ByteArray), ([] : List Int), 0⟩ : SSys), (⟨(⟨#[116, 111, 117, 99, 104]⟩ : ByteArray), (([4, 4] : List Int)), 0⟩ : SSys)]
theorem Calls_any (w : World) : Calls Tryz.prog 38 #[] w fun e w' => ∃ A c, e = .returned (.slice A callsL.length c) ∧ kSys.C w' A callsL.length callsL ∧ Below w.heap.size w w' := by
 refine (api_Calls.calls callsL w rfl).mono ?_
 rintro e w' ⟨v, rfl, hN, hb⟩
 obtain ⟨A, c, rfl, hl, hC⟩ := Kd.N_reads hN
 exact ⟨A, c, rfl, hC, hb⟩
theorem Backs_any (w : World) : Calls Tryz.prog 63 #[] w fun e w' => ∃ A c, e = .returned (.slice A backsL.length c) ∧ kSys.C w' A backsL.length backsL ∧ Below w.heap.size w w' := by
 refine (api_Backs.calls backsL w rfl).mono ?_
 rintro e w' ⟨v, rfl, hN, hb⟩
 obtain ⟨A, c, rfl, hl, hC⟩ := Kd.N_reads hN
 exact ⟨A, c, rfl, hC, hb⟩
/-- the table of plain instructions is there -/
def Pln (T : Nat → ByteArray × ByteArray) (w : World) : Prop := ∀ j, j < 34 → w.cell? ⟨0, j * 2, none⟩ = some (.string (T j).1) ∧ w.cell? ⟨0, j * 2 + 1, none⟩ = some (.string (T j).2)
theorem Pln.below {T : Nat → ByteArray × ByteArray} {w w' : World} (h : Pln T w) (hb : Below w.heap.size w w') : Pln T w' :=
 fun j hj => ⟨pw_cell_below hb (h j hj).1, pw_cell_below hb (h j hj).2⟩
def eS : ByteArray := ⟨#[]⟩
def zf (l : List SFn) (n : Int) : SFn := l.getD n.toNat zFn
def zs (l : List SSys) (n : Int) : SSys := l.getD n.toNat zSys
def pushB (i : SInstr) : Bool := decide (i.f2 = 1) || decide (i.f2 = 2) || (decide (i.f2 = 3) && decide (bits .andNot .i64 i.f1 1 = 0)) || (decide (i.f2 = 4) && decide (i.f1 = 0))
/-- what an instruction takes and puts; whether it may be -/
def meansS (T : Nat → ByteArray × ByteArray) (x : SImage) (f : SFn) (i : SInstr) : ByteArray × ByteArray × Bool :=
 if i.f0 = 1 then (eS, rowS [i.f2], pushB i)
 else if i.f0 = 2 then if 0 ≤ i.f1 ∧ i.f1 < f.f3.length then (eS, rowS [f.f3.getD i.f1.toNat 0], decide (i.f2 = 0)) else (eS, eS, false)
 else if i.f0 = 3 then if 0 ≤ i.f1 ∧ i.f1 < f.f3.length then (rowS [f.f3.getD i.f1.toNat 0], eS, decide (i.f2 = 0)) else (eS, eS, false)
 else if i.f0 = 4 then (eS, globS x i.f1 false, decide (i.f2 = 0) && !(globS x i.f1 false).toList.isEmpty)
 else if i.f0 = 5 then (globS x i.f1 false, eS, decide (i.f2 = 0) && !(globS x i.f1 false).toList.isEmpty)
 else if i.f0 = 6 then (⟨#[105]⟩, globS x i.f1 true, decide (i.f2 = 0) && !(globS x i.f1 true).toList.isEmpty)
 else if i.f0 = 7 then (⟨#[105]⟩ ++ globS x i.f1 true, eS, decide (i.f2 = 0) && !(globS x i.f1 true).toList.isEmpty)
 else if i.f0 = 28 then (eS, eS, decide (i.f2 = 0) && decide (0 ≤ i.f1 ∧ i.f1 < f.f4.length))
 else if i.f0 = 29 then (⟨#[98]⟩, eS, decide (i.f2 = 0) && decide (0 ≤ i.f1 ∧ i.f1 < f.f4.length))
 else if i.f0 = 30 then if 0 ≤ i.f1 ∧ i.f1 < x.fns.length then (rowS (zf x.fns i.f1).f1, resultS (zf x.fns i.f1).f2, decide (i.f2 = 0)) else (eS, eS, false)
 else if i.f0 = 31 then if 0 ≤ i.f1 ∧ i.f1 < callsL.length then (rowS (zs callsL i.f1).f1, resultS (zs callsL i.f1).f2, decide (i.f2 = 0)) else (eS, eS, false)
 else if i.f0 = 32 then (resultS f.f2, eS, decide (i.f2 = 0) && decide (i.f1 = 0))
 else ((T i.f0.toNat).1, (T i.f0.toNat).2, decide (i.f2 = 0) && decide (i.f1 = 0))
def MeansPost (r : ByteArray × ByteArray × Bool) (w : World) : Ending → World → Prop := fun e w' => e = .returned (.tuple #[.string r.1, .string r.2.1, .bool r.2.2]) ∧ Below w.heap.size w w'
theorem ret_means {a b c : Value} {r : ByteArray × ByteArray × Bool} (h1 : a = .string r.1) (h2 : b = .string r.2.1) (h3 : c = .bool r.2.2) : Ending.returned (.tuple #[a, b, c]) = .returned (.tuple #[.string r.1, .string r.2.1, .bool r.2.2]) := by rw [h1, h2, h3]
theorem C_one_at (W : World) (t : Int) (g : Nat) (hg : g = W.heap.size) : Kd.C (Kd.int .i64) (W.alloc (.cells #[.int .i64 t] 3)) (some ⟨g, 0, none⟩) ([t] : List Int).length [t] := by
 subst hg; exact C_one W t
theorem vrow_one (W : World) (t : Int) (g : Nat) (hg : g = W.heap.size) (ht : 0 ≤ t ∧ t ≤ 4) :
  Calls Tryz.prog 175 #[.slice (some ⟨g, 0, none⟩) 1 1] (W.alloc (.cells #[.int .i64 t] 3)) fun e w' => e = .returned (.string (rowS [t])) ∧ Below W.heap.size W w' := by
 refine (vrow_any _ 1 [t] _ (C_one_at W t g hg) (by simp) (fun u hu => by simp at hu; omega)).mono ?_
 rintro e w1 ⟨rfl, hb1⟩
 exact ⟨rfl, below_next (below_alloc (Below.refl _ _) _) hb1⟩
theorem means_push (T : Nat → ByteArray × ByteArray) (x : SImage) (f : SFn) (a b : Int) (w : World) (g : Nat) (hb : 0 ≤ b ∧ b ≤ 4) :
  Calls Tryz.prog 145 #[.pointer (some ⟨g, 0, none⟩), .agg #[.int .i64 1, .int .i64 a, .int .i64 b]] w (MeansPost (meansS T x f ⟨1, a, b⟩) w) := by
 obtain ⟨p, hp⟩ : ∃ p, pushB ⟨1, a, b⟩ = p := ⟨_, rfl⟩
 have HR : Hid (meansS T x f ⟨1, a, b⟩ = (eS, rowS [b], p)) := by unfold meansS; rw [if_pos rfl, hp]; exact rfl
 obtain ⟨r, hr⟩ : ∃ r, r = meansS T x f ⟨1, a, b⟩ := ⟨_, rfl⟩
 rw [← hr] at HR ⊢
 clear hr
 have hc : (b = 0 ∧ p = false) ∨ (b = 1 ∧ p = true) ∨ (b = 2 ∧ p = true) ∨ (b = 3 ∧ (bits .andNot .i64 a 1 == 0) = p) ∨ (b = 4 ∧ (a == 0) = p) := by
  have hxx : b = 0 ∨ b = 1 ∨ b = 2 ∨ b = 3 ∨ b = 4 := by omega
  rcases hxx with rfl | rfl | rfl | rfl | rfl
  ·exact .inl ⟨rfl, hp.symm⟩
  ·exact .inr (.inl ⟨rfl, hp.symm⟩)
  ·exact .inr (.inr (.inl ⟨rfl, hp.symm⟩))
  ·refine .inr (.inr (.inr (.inl ⟨rfl, ?_⟩)))
   rw [← hp]; simp [pushB]; rfl
  ·refine .inr (.inr (.inr (.inr ⟨rfl, ?_⟩)))
   rw [← hp]; simp [pushB]; rfl
 clear hp hb
 rcases hc with ⟨rfl, rfl⟩ | ⟨rfl, rfl⟩ | ⟨rfl, rfl⟩ | ⟨rfl, h⟩ | ⟨rfl, h⟩
 rotate_left 3
 ·cases p
  all_goals
   go_enter Tryz.func145, Tryz.ntmps145
   go_wp2_with fail
   refine (vrow_one (w.alloc _) _ _ (by simp) (by omega)).mono ?_
   rintro e w1 ⟨rfl, hb1⟩
   have HB1 := Lib.hid (below_next (below_alloc (Below.refl _ _) _) hb1)
   clear hb1
   go_wp2_with fail
   go_ret3
   exact ⟨ret_means (by rw [HR.out]; rfl) (by rw [HR.out]; rfl) (by rw [HR.out]; rfl), HB1.out⟩
 ·cases p
  all_goals
   go_enter Tryz.func145, Tryz.ntmps145
   go_wp2_with fail
   refine (vrow_one (w.alloc _) _ _ (by simp) (by omega)).mono ?_
   rintro e w1 ⟨rfl, hb1⟩
   have HB1 := Lib.hid (below_next (below_alloc (Below.refl _ _) _) hb1)
   clear hb1
   go_wp2_with fail
   go_ret3
   exact ⟨ret_means (by rw [HR.out]; rfl) (by rw [HR.out]; rfl) (by rw [HR.out]; rfl), HB1.out⟩
 all_goals
  go_enter Tryz.func145, Tryz.ntmps145
  go_wp2_with fail
  refine (vrow_one (w.alloc _) _ _ (by simp) (by omega)).mono ?_
  rintro e w1 ⟨rfl, hb1⟩
  have HB1 := Lib.hid (below_next (below_alloc (Below.refl _ _) _) hb1)
  clear hb1
  go_wp2_with fail
  go_ret3
  exact ⟨ret_means (by rw [HR.out]; rfl) (by rw [HR.out]; rfl) (by rw [HR.out]; rfl), HB1.out⟩
structure FnOK (f : SFn) : Prop where
 res : 0 ≤ f.f2 ∧ f.f2 ≤ 4
 par : ∀ t ∈ f.f1, 0 ≤ t ∧ t ≤ 4
 loc : ∀ t ∈ f.f3, 0 ≤ t ∧ t ≤ 4
 lp : f.f1.length ≤ 8
 ll : f.f3.length ≤ 32
 lc : f.f4.length ≤ 32768
 ins : ∀ i ∈ f.f4, 1 ≤ i.f0 ∧ i.f0 ≤ 33 ∧ 0 ≤ i.f2 ∧ i.f2 ≤ 4
structure ImgOK (x : SImage) : Prop where
 lg : x.globs.length ≤ 64
 lf : x.fns.length ≤ 64
 glob : ∀ y ∈ x.globs, 0 ≤ y.f0 ∧ y.f0 ≤ 4
 fn : ∀ f ∈ x.fns, FnOK f
/-- where a looker stands -/
structure At (w0 w : World) (x : SImage) (f : SFn) (g : Nat) (l : Lk) : Prop where
 R : LkR w0 x f l
 B : Below w0.heap.size w0 w
 L : LB w g l
 X : ImgOK x
 F : FnOK f
theorem means_load (T : Nat → ByteArray × ByteArray) (w0 w : World) (x : SImage) (f : SFn) (g : Nat) (l : Lk) (h : At w0 w x f g l) (a b : Int) :
  Calls Tryz.prog 145 #[.pointer (some ⟨g, 0, none⟩), .agg #[.int .i64 2, .int .i64 a, .int .i64 b]] w (MeansPost (meansS T x f ⟨2, a, b⟩) w) := by
 obtain ⟨A, c, hv, hlc, hC⟩ := h.R.lo
 have HC := Lib.hid (Kd.C_below hC h.B)
 have HLO := Lib.hid h.F.loc
 have hll := h.F.ll
 have hc5 := h.L.at_.2.2.2.2.2.1
 rw [hv] at hc5
 have hg := blk_lt h.L
 have HHg := Lib.hid h.L
 have HV := Lib.hid hv
 clear h hC hv
 by_cases h0 : 0 ≤ a
 ·obtain ⟨k, rfl⟩ : ∃ k : Nat, a = k := ⟨a.toNat, by omega⟩
  by_cases hlt : k < f.f3.length
  ·obtain ⟨ad, t, rfl, hc, HX⟩ := int_at HC.out k hlt
   have hcw : ∀ o, (w.alloc o).cell? (ad.add k) = some (.int .i64 t) := fun o => pw_cell_below (below_alloc (Below.refl _ _) o) hc
   clear hc
   have HTy := Lib.hid (HLO.out t (getD_mem_int _ k hlt t HX.out))
   have HR := Lib.hid (show meansS T x f ⟨2, k, b⟩ = (eS, rowS [t], decide (b = 0)) from by
    unfold meansS
    have hin : (0 : Int) ≤ (k : Int) ∧ (k : Int) < f.f3.length := ⟨by simp, by simpa using hlt⟩
    simp only [show ¬((2 : Int) = 1) from by decide, if_false,  if_true, hin, and_self, Int.toNat_natCast, ← HX.out])
   obtain ⟨r, hr⟩ : ∃ r, r = meansS T x f ⟨2, k, b⟩ := ⟨_, rfl⟩
   rw [← hr] at HR ⊢
   clear hr
   go_enter Tryz.func145, Tryz.ntmps145
   go_wp2_with fail
   go_quiet (fail)
   go_wp2_with fail
   go_region_with ((with_reducible refine (vrow_one _ _ _ (by simp) HTy.out).mono ?_; rintro e w1 ⟨rfl, hb1⟩; have HB1 := Lib.hid (below_next (pw_below_drewN (below_alloc (Below.refl _ _) _) _) hb1); have hq := (bcell hb1).1; clear hb1))
   all_goals
    go_wp2_with fail
    go_ret3
    exact ⟨ret_means (by rw [HR.out]; rfl) (by rw [HR.out]; rfl) (by rw [HR.out]; rfl), HB1.out⟩
  ·have HR := Lib.hid (show meansS T x f ⟨2, k, b⟩ = (eS, eS, false) from by
    unfold meansS
    have hin : ¬((0 : Int) ≤ (k : Int) ∧ (k : Int) < f.f3.length) := by omega
    simp only [show ¬((2 : Int) = 1) from by decide, if_false,  if_true, hin])
   obtain ⟨r, hr⟩ : ∃ r, r = meansS T x f ⟨2, k, b⟩ := ⟨_, rfl⟩
   rw [← hr] at HR ⊢
   clear hr
   go_enter Tryz.func145, Tryz.ntmps145
   go_wp2_with fail
   go_quiet (fail)
   go_wp2_with fail
   go_ret3
   exact ⟨ret_means (by rw [HR.out]; rfl) (by rw [HR.out]; rfl) (by rw [HR.out]; rfl), pw_below_drewN (below_alloc (Below.refl _ _) _) _⟩
 ·have HR := Lib.hid (show meansS T x f ⟨2, a, b⟩ = (eS, eS, false) from by
   unfold meansS
   have hin : ¬((0 : Int) ≤ a ∧ a < f.f3.length) := by omega
   simp only [show ¬((2 : Int) = 1) from by decide, if_false,  if_true, hin])
  obtain ⟨r, hr⟩ : ∃ r, r = meansS T x f ⟨2, a, b⟩ := ⟨_, rfl⟩
  rw [← hr] at HR ⊢
  clear hr
  go_enter Tryz.func145, Tryz.ntmps145
  go_wp2_with fail
  go_quiet (fail)
  go_wp2_with fail
  go_ret3
  exact ⟨ret_means (by rw [HR.out]; rfl) (by rw [HR.out]; rfl) (by rw [HR.out]; rfl), pw_below_drewN (below_alloc (Below.refl _ _) _) _⟩
theorem means_store (T : Nat → ByteArray × ByteArray) (w0 w : World) (x : SImage) (f : SFn) (g : Nat) (l : Lk) (h : At w0 w x f g l) (a b : Int) :
  Calls Tryz.prog 145 #[.pointer (some ⟨g, 0, none⟩), .agg #[.int .i64 3, .int .i64 a, .int .i64 b]] w (MeansPost (meansS T x f ⟨3, a, b⟩) w) := by
 obtain ⟨A, c, hv, hlc, hC⟩ := h.R.lo
 have HC := Lib.hid (Kd.C_below hC h.B)
 have HLO := Lib.hid h.F.loc
 have hll := h.F.ll
 have hc5 := h.L.at_.2.2.2.2.2.1
 rw [hv] at hc5
 have hg := blk_lt h.L
 have HHg := Lib.hid h.L
 have HV := Lib.hid hv
 clear h hC hv
 by_cases h0 : 0 ≤ a
 ·obtain ⟨k, rfl⟩ : ∃ k : Nat, a = k := ⟨a.toNat, by omega⟩
  by_cases hlt : k < f.f3.length
  ·obtain ⟨ad, t, rfl, hc, HX⟩ := int_at HC.out k hlt
   have hcw : ∀ o, (w.alloc o).cell? (ad.add k) = some (.int .i64 t) := fun o => pw_cell_below (below_alloc (Below.refl _ _) o) hc
   clear hc
   have HTy := Lib.hid (HLO.out t (getD_mem_int _ k hlt t HX.out))
   have HR := Lib.hid (show meansS T x f ⟨3, k, b⟩ = (rowS [t], eS, decide (b = 0)) from by
    unfold meansS
    have hin : (0 : Int) ≤ (k : Int) ∧ (k : Int) < f.f3.length := ⟨by simp, by simpa using hlt⟩
    simp only [show ¬((3 : Int) = 1) from by decide, if_false, show ¬((3 : Int) = 2) from by decide, if_true, hin, and_self, Int.toNat_natCast, ← HX.out])
   obtain ⟨r, hr⟩ : ∃ r, r = meansS T x f ⟨3, k, b⟩ := ⟨_, rfl⟩
   rw [← hr] at HR ⊢
   clear hr
   go_enter Tryz.func145, Tryz.ntmps145
   go_wp2_with fail
   go_quiet (fail)
   go_wp2_with fail
   go_region_with ((with_reducible refine (vrow_one _ _ _ (by simp) HTy.out).mono ?_; rintro e w1 ⟨rfl, hb1⟩; have HB1 := Lib.hid (below_next (pw_below_drewN (below_alloc (Below.refl _ _) _) _) hb1); have hq := (bcell hb1).1; clear hb1))
   all_goals
    go_wp2_with fail
    go_ret3
    exact ⟨ret_means (by rw [HR.out]; rfl) (by rw [HR.out]; rfl) (by rw [HR.out]; rfl), HB1.out⟩
  ·have HR := Lib.hid (show meansS T x f ⟨3, k, b⟩ = (eS, eS, false) from by
    unfold meansS
    have hin : ¬((0 : Int) ≤ (k : Int) ∧ (k : Int) < f.f3.length) := by omega
    simp only [show ¬((3 : Int) = 1) from by decide, if_false, show ¬((3 : Int) = 2) from by decide, if_true, hin])
   obtain ⟨r, hr⟩ : ∃ r, r = meansS T x f ⟨3, k, b⟩ := ⟨_, rfl⟩
   rw [← hr] at HR ⊢
   clear hr
   go_enter Tryz.func145, Tryz.ntmps145
   go_wp2_with fail
   go_quiet (fail)
   go_wp2_with fail
   go_ret3
   exact ⟨ret_means (by rw [HR.out]; rfl) (by rw [HR.out]; rfl) (by rw [HR.out]; rfl), pw_below_drewN (below_alloc (Below.refl _ _) _) _⟩
 ·have HR := Lib.hid (show meansS T x f ⟨3, a, b⟩ = (eS, eS, false) from by
   unfold meansS
   have hin : ¬((0 : Int) ≤ a ∧ a < f.f3.length) := by omega
   simp only [show ¬((3 : Int) = 1) from by decide, if_false, show ¬((3 : Int) = 2) from by decide, if_true, hin])
  obtain ⟨r, hr⟩ : ∃ r, r = meansS T x f ⟨3, a, b⟩ := ⟨_, rfl⟩
  rw [← hr] at HR ⊢
  clear hr
  go_enter Tryz.func145, Tryz.ntmps145
  go_wp2_with fail
  go_quiet (fail)
  go_wp2_with fail
  go_ret3
  exact ⟨ret_means (by rw [HR.out]; rfl) (by rw [HR.out]; rfl) (by rw [HR.out]; rfl), pw_below_drewN (below_alloc (Below.refl _ _) _) _⟩
theorem asS {F : Nat} {args : Array Value} {w : World} {s : ByteArray} {C : World → Prop} (h : Calls Tryz.prog F args w fun e w' => e = .returned (.string s) ∧ C w') :
  Calls Tryz.prog F args w fun e w' => ∃ t, e = .returned (.string t) ∧ Hid (t = s) ∧ Hid (C w') := h.mono fun e w' ⟨h1, h2⟩ => ⟨s, h1, rfl, h2⟩
theorem globS_size (x : SImage) (n : Int) (el : Bool) : (globS x n el).size ≤ 1 := by
 unfold globS; split
 ·simp [rowS, ByteArray.size]
 ·simp [ByteArray.size]
theorem means_get (T : Nat → ByteArray × ByteArray) (w0 w : World) (x : SImage) (f : SFn) (g : Nat) (l : Lk) (h : At w0 w x f g l) (a b : Int) :
  Calls Tryz.prog 145 #[.pointer (some ⟨g, 0, none⟩), .agg #[.int .i64 4, .int .i64 a, .int .i64 b]] w (MeansPost (meansS T x f ⟨4, a, b⟩) w) := by
 obtain ⟨t, ht⟩ : ∃ t, t = globS x a false := ⟨_, rfl⟩
 have hts : t.size ≤ 1 := by rw [ht]; exact globS_size _ _ _
 obtain ⟨p, hp⟩ : ∃ p, (b == 0) = p := ⟨_, rfl⟩
 have HR := Lib.hid (show meansS T x f ⟨4, a, b⟩ = (eS, t, p && !t.toList.isEmpty) from by
  unfold meansS
  rw [← hp]
  simp only [show ¬((4 : Int) = 1) from by decide, show ¬((4 : Int) = 2) from by decide, show ¬((4 : Int) = 3) from by decide, if_false, if_true, ← ht]
  rfl)
 obtain ⟨r, hr⟩ : ∃ r, r = meansS T x f ⟨4, a, b⟩ := ⟨_, rfl⟩
 rw [← hr] at HR ⊢
 clear hr
 have HT := Lib.hid ht
 have HH := Lib.hid h
 clear ht h
 cases p
 all_goals
  go_enter Tryz.func145, Tryz.ntmps145
  go_wp2_with fail
  refine (asS (vglob_any w0 _ x f g l HH.out.R (below_alloc HH.out.B _) (blk_alloc HH.out.L _) HH.out.X.lg HH.out.X.glob a false)).mono ?_
  rintro e w1 ⟨t', rfl, HT', HB⟩
  obtain rfl := HT'.out.trans HT.out.symm
  clear HT'
  have HB1 := Lib.hid (below_next (below_alloc (Below.refl _ _) _) HB.out)
  have hq := (bcell HB.out).1
  go_wp2_with fail
  go_ret3
  exact ⟨ret_means (by rw [HR.out]; rfl) (by rw [HR.out]; rfl) (by rw [HR.out]; rfl), HB1.out⟩
theorem means_set (T : Nat → ByteArray × ByteArray) (w0 w : World) (x : SImage) (f : SFn) (g : Nat) (l : Lk) (h : At w0 w x f g l) (a b : Int) :
  Calls Tryz.prog 145 #[.pointer (some ⟨g, 0, none⟩), .agg #[.int .i64 5, .int .i64 a, .int .i64 b]] w (MeansPost (meansS T x f ⟨5, a, b⟩) w) := by
 obtain ⟨t, ht⟩ : ∃ t, t = globS x a false := ⟨_, rfl⟩
 have hts : t.size ≤ 1 := by rw [ht]; exact globS_size _ _ _
 obtain ⟨p, hp⟩ : ∃ p, (b == 0) = p := ⟨_, rfl⟩
 have HR := Lib.hid (show meansS T x f ⟨5, a, b⟩ = (t, eS, p && !t.toList.isEmpty) from by
  unfold meansS
  rw [← hp]
  simp only [show ¬((5 : Int) = 1) from by decide, show ¬((5 : Int) = 2) from by decide, show ¬((5 : Int) = 3) from by decide, show ¬((5 : Int) = 4) from by decide, if_false, if_true, ← ht]
  rfl)
 obtain ⟨r, hr⟩ : ∃ r, r = meansS T x f ⟨5, a, b⟩ := ⟨_, rfl⟩
 rw [← hr] at HR ⊢
 clear hr
 have HT := Lib.hid ht
 have HH := Lib.hid h
 clear ht h
 cases p
 all_goals
  go_enter Tryz.func145, Tryz.ntmps145
  go_wp2_with fail
  refine (asS (vglob_any w0 _ x f g l HH.out.R (below_alloc HH.out.B _) (blk_alloc HH.out.L _) HH.out.X.lg HH.out.X.glob a false)).mono ?_
  rintro e w1 ⟨t', rfl, HT', HB⟩
  obtain rfl := HT'.out.trans HT.out.symm
  clear HT'
  have HB1 := Lib.hid (below_next (below_alloc (Below.refl _ _) _) HB.out)
  have hq := (bcell HB.out).1
  go_wp2_with fail
  go_ret3
  exact ⟨ret_means (by rw [HR.out]; rfl) (by rw [HR.out]; rfl) (by rw [HR.out]; rfl), HB1.out⟩
theorem means_at (T : Nat → ByteArray × ByteArray) (w0 w : World) (x : SImage) (f : SFn) (g : Nat) (l : Lk) (h : At w0 w x f g l) (a b : Int) :
  Calls Tryz.prog 145 #[.pointer (some ⟨g, 0, none⟩), .agg #[.int .i64 6, .int .i64 a, .int .i64 b]] w (MeansPost (meansS T x f ⟨6, a, b⟩) w) := by
 obtain ⟨t, ht⟩ : ∃ t, t = globS x a true := ⟨_, rfl⟩
 have hts : t.size ≤ 1 := by rw [ht]; exact globS_size _ _ _
 obtain ⟨p, hp⟩ : ∃ p, (b == 0) = p := ⟨_, rfl⟩
 have HR := Lib.hid (show meansS T x f ⟨6, a, b⟩ = (⟨#[105]⟩, t, p && !t.toList.isEmpty) from by
  unfold meansS
  rw [← hp]
  simp only [show ¬((6 : Int) = 1) from by decide, show ¬((6 : Int) = 2) from by decide, show ¬((6 : Int) = 3) from by decide, show ¬((6 : Int) = 4) from by decide, show ¬((6 : Int) = 5) from by decide, if_false, if_true, ← ht]
  rfl)
 obtain ⟨r, hr⟩ : ∃ r, r = meansS T x f ⟨6, a, b⟩ := ⟨_, rfl⟩
 rw [← hr] at HR ⊢
 clear hr
 have HT := Lib.hid ht
 have HH := Lib.hid h
 clear ht h
 cases p
 all_goals
  go_enter Tryz.func145, Tryz.ntmps145
  go_wp2_with fail
  refine (asS (vglob_any w0 _ x f g l HH.out.R (below_alloc HH.out.B _) (blk_alloc HH.out.L _) HH.out.X.lg HH.out.X.glob a true)).mono ?_
  rintro e w1 ⟨t', rfl, HT', HB⟩
  obtain rfl := HT'.out.trans HT.out.symm
  clear HT'
  have HB1 := Lib.hid (below_next (below_alloc (Below.refl _ _) _) HB.out)
  have hq := (bcell HB.out).1
  go_wp2_with fail
  go_ret3
  exact ⟨ret_means (by rw [HR.out]; rfl) (by rw [HR.out]; rfl) (by rw [HR.out]; rfl), HB1.out⟩
theorem means_put (T : Nat → ByteArray × ByteArray) (w0 w : World) (x : SImage) (f : SFn) (g : Nat) (l : Lk) (h : At w0 w x f g l) (a b : Int) :
  Calls Tryz.prog 145 #[.pointer (some ⟨g, 0, none⟩), .agg #[.int .i64 7, .int .i64 a, .int .i64 b]] w (MeansPost (meansS T x f ⟨7, a, b⟩) w) := by
 obtain ⟨t, ht⟩ : ∃ t, t = globS x a true := ⟨_, rfl⟩
 have hts : t.size ≤ 1 := by rw [ht]; exact globS_size _ _ _
 obtain ⟨p, hp⟩ : ∃ p, (b == 0) = p := ⟨_, rfl⟩
 have HR := Lib.hid (show meansS T x f ⟨7, a, b⟩ = (⟨#[105]⟩ ++ t, eS, p && !t.toList.isEmpty) from by
  unfold meansS
  rw [← hp]
  simp only [show ¬((7 : Int) = 1) from by decide, show ¬((7 : Int) = 2) from by decide, show ¬((7 : Int) = 3) from by decide, show ¬((7 : Int) = 4) from by decide, show ¬((7 : Int) = 5) from by decide, show ¬((7 : Int) = 6) from by decide, if_false, if_true, ← ht]
  rfl)
 obtain ⟨r, hr⟩ : ∃ r, r = meansS T x f ⟨7, a, b⟩ := ⟨_, rfl⟩
 rw [← hr] at HR ⊢
 clear hr
 have HT := Lib.hid ht
 have HH := Lib.hid h
 clear ht h
 cases p
 all_goals
  go_enter Tryz.func145, Tryz.ntmps145
  go_wp2_with fail
  refine (asS (vglob_any w0 _ x f g l HH.out.R (below_alloc HH.out.B _) (blk_alloc HH.out.L _) HH.out.X.lg HH.out.X.glob a true)).mono ?_
  rintro e w1 ⟨t', rfl, HT', HB⟩
  obtain rfl := HT'.out.trans HT.out.symm
  clear HT'
  have HB1 := Lib.hid (below_next (below_alloc (Below.refl _ _) _) HB.out)
  have hq := (bcell HB.out).1
  go_wp2_with fail
  go_ret3
  exact ⟨ret_means (by rw [HR.out]; rfl) (by rw [HR.out]; rfl) (by rw [HR.out]; rfl), HB1.out⟩
theorem bcellB {B : Nat} {W w1 : World} (hb : Below B W w1) : (∀ b o, b < B → w1.cell? ⟨b, o, none⟩ = W.cell? ⟨b, o, none⟩) ∧ (∀ b o, b < B → w1.frozen? ⟨b, o, none⟩ = W.frozen? ⟨b, o, none⟩) :=
 ⟨fun b o h => hb.cell (p := ⟨b, o, none⟩) h, fun b o h => hb.frozen (p := ⟨b, o, none⟩) h⟩
theorem below_sz {B : Nat} {W w1 : World} (hB : B = W.heap.size) (h : Below B W w1) : Below W.heap.size W w1 := hB ▸ h
theorem below_and {B : Nat} {W w1 w2 : World} (h : Below B W w1) (hB : B = W.heap.size) (h2 : Below w1.heap.size w1 w2) : Below B W w2 := by
 subst hB; exact below_next h h2
theorem means_plain (T : Nat → ByteArray × ByteArray) (w0 w : World) (x : SImage) (f : SFn) (g : Nat) (l : Lk) (hT : Pln T w) (n : Nat) (hn : 8 ≤ n ∧ n ≤ 27 ∨ n = 33) (a b : Int) :
  Calls Tryz.prog 145 #[.pointer (some ⟨g, 0, none⟩), .agg #[.int .i64 n, .int .i64 a, .int .i64 b]] w (MeansPost (meansS T x f ⟨n, a, b⟩) w) := by
 obtain ⟨p, hp⟩ : ∃ p, (b == 0) = p := ⟨_, rfl⟩
 obtain ⟨q, hq⟩ : ∃ q, (a == 0) = q := ⟨_, rfl⟩
 obtain ⟨h0, h1⟩ := hT n (by omega)
 obtain ⟨s, hs⟩ : ∃ s, s = (T n).1 := ⟨_, rfl⟩
 obtain ⟨u, hu⟩ : ∃ u, u = (T n).2 := ⟨_, rfl⟩
 have HR := Lib.hid (show meansS T x f ⟨n, a, b⟩ = (s, u, p && q) from by
  unfold meansS
  rw [← hp, ← hq, hs, hu]
  simp only [show ¬((n : Int) = 1) from by omega, show ¬((n : Int) = 2) from by omega, show ¬((n : Int) = 3) from by omega, show ¬((n : Int) = 4) from by omega, show ¬((n : Int) = 5) from by omega, show ¬((n : Int) = 6) from by omega, show ¬((n : Int) = 7) from by omega, show ¬((n : Int) = 28) from by omega, show ¬((n : Int) = 29) from by omega, show ¬((n : Int) = 30) from by omega, show ¬((n : Int) = 31) from by omega, show ¬((n : Int) = 32) from by omega, if_false, Int.toNat_natCast]
  rfl)
 obtain ⟨r, hr⟩ : ∃ r, r = meansS T x f ⟨n, a, b⟩ := ⟨_, rfl⟩
 rw [← hr] at HR ⊢
 rw [← hs] at h0
 rw [← hu] at h1
 clear hr hT hs hu
 have hn1 : n ≤ 33 := by omega
 have e1 : ((n : Int) == 1) = false := by simp; omega
 have e2 : ((n : Int) == 2) = false := by simp; omega
 have e3 : ((n : Int) == 3) = false := by simp; omega
 have e4 : ((n : Int) == 4) = false := by simp; omega
 have e5 : ((n : Int) == 5) = false := by simp; omega
 have e6 : ((n : Int) == 6) = false := by simp; omega
 have e7 : ((n : Int) == 7) = false := by simp; omega
 have e28 : ((n : Int) == 28) = false := by simp; omega
 have e29 : ((n : Int) == 29) = false := by simp; omega
 have e30 : ((n : Int) == 30) = false := by simp; omega
 have e31 : ((n : Int) == 31) = false := by simp; omega
 have e32 : ((n : Int) == 32) = false := by simp; omega
 have hw0 : ∀ o, (w.alloc o).cell? ⟨0, n * 2, none⟩ = some (.string s) := fun o => pw_cell_below (below_alloc (Below.refl _ _) o) h0
 have hw1 : ∀ o, (w.alloc o).cell? ⟨0, n * 2 + 1, none⟩ = some (.string u) := fun o => pw_cell_below (below_alloc (Below.refl _ _) o) h1
 clear h0 h1 hn
 cases p <;> cases q
 all_goals
  go_enter Tryz.func145, Tryz.ntmps145
  go_wp2_with fail
  go_quiet (fail)
  go_wp2_with fail
  go_ret3
  exact ⟨ret_means (by rw [HR.out]; rfl) (by rw [HR.out]; rfl) (by rw [HR.out]; rfl), pw_below_drewN (below_alloc (Below.refl _ _) _) _⟩
theorem means_jump (T : Nat → ByteArray × ByteArray) (w0 w : World) (x : SImage) (f : SFn) (g : Nat) (l : Lk) (h : At w0 w x f g l) (a b : Int) :
  Calls Tryz.prog 145 #[.pointer (some ⟨g, 0, none⟩), .agg #[.int .i64 28, .int .i64 a, .int .i64 b]] w (MeansPost (meansS T x f ⟨28, a, b⟩) w) := by
 obtain ⟨p, hp⟩ : ∃ p, (b == 0) = p := ⟨_, rfl⟩
 obtain ⟨A, c, hv, hlc, hC⟩ := h.R.co
 have hll := h.F.lc
 have hc6 := h.L.at_.2.2.2.2.2.2.1
 rw [hv] at hc6
 have hg := blk_lt h.L
 clear h hC hv
 have hin : (decide (0 ≤ a) = true ∧ decide (a < f.f4.length) = true ∧ Hid (decide (0 ≤ a ∧ a < f.f4.length) = true)) ∨ (decide (0 ≤ a) = false ∧ Hid (decide (0 ≤ a ∧ a < f.f4.length) = false)) ∨ (decide (0 ≤ a) = true ∧ decide (a < f.f4.length) = false ∧ Hid (decide (0 ≤ a ∧ a < f.f4.length) = false)) := by
  by_cases h1 : 0 ≤ a
  ·by_cases h2 : a < f.f4.length
   ·exact .inl ⟨decide_eq_true h1, decide_eq_true h2, decide_eq_true ⟨h1, h2⟩⟩
   ·exact .inr (.inr ⟨decide_eq_true h1, decide_eq_false h2, decide_eq_false (fun h => h2 h.2)⟩)
  ·exact .inr (.inl ⟨decide_eq_false h1, decide_eq_false (fun h => h1 h.1)⟩)
 have HR := Lib.hid (show meansS T x f ⟨28, a, b⟩ = (eS, eS, p && decide (0 ≤ a ∧ a < f.f4.length)) from by
  unfold meansS
  rw [← hp]
  simp only [show ¬((28 : Int) = 1) from by decide, show ¬((28 : Int) = 2) from by decide, show ¬((28 : Int) = 3) from by decide, show ¬((28 : Int) = 4) from by decide, show ¬((28 : Int) = 5) from by decide, show ¬((28 : Int) = 6) from by decide, show ¬((28 : Int) = 7) from by decide, if_false, if_true]
  rfl)
 obtain ⟨r, hr⟩ : ∃ r, r = meansS T x f ⟨28, a, b⟩ := ⟨_, rfl⟩
 rw [← hr] at HR ⊢
 clear hr
 rcases hin with ⟨ha, hb, HD⟩ | ⟨ha, HD⟩ | ⟨ha, hb, HD⟩
 all_goals
  cases p
  all_goals
   go_enter Tryz.func145, Tryz.ntmps145
   go_wp2_with fail
   refine (Tryz.strings_Repeat_zero _ _).mono ?_
   rintro e w1 ⟨rfl, rfl⟩
   go_wp2_with fail
   go_quiet (fail)
   go_wp2_with fail
   go_ret3
   exact ⟨ret_means (by rw [HR.out]; rfl) (by rw [HR.out]; rfl) (by rw [HR.out, HD.out]; rfl), pw_below_drewN (below_alloc (Below.refl _ _) _) _⟩
theorem means_else (T : Nat → ByteArray × ByteArray) (w0 w : World) (x : SImage) (f : SFn) (g : Nat) (l : Lk) (h : At w0 w x f g l) (a b : Int) :
  Calls Tryz.prog 145 #[.pointer (some ⟨g, 0, none⟩), .agg #[.int .i64 29, .int .i64 a, .int .i64 b]] w (MeansPost (meansS T x f ⟨29, a, b⟩) w) := by
 obtain ⟨p, hp⟩ : ∃ p, (b == 0) = p := ⟨_, rfl⟩
 obtain ⟨A, c, hv, hlc, hC⟩ := h.R.co
 have hll := h.F.lc
 have hc6 := h.L.at_.2.2.2.2.2.2.1
 rw [hv] at hc6
 have hg := blk_lt h.L
 clear h hC hv
 have hin : (decide (0 ≤ a) = true ∧ decide (a < f.f4.length) = true ∧ Hid (decide (0 ≤ a ∧ a < f.f4.length) = true)) ∨ (decide (0 ≤ a) = false ∧ Hid (decide (0 ≤ a ∧ a < f.f4.length) = false)) ∨ (decide (0 ≤ a) = true ∧ decide (a < f.f4.length) = false ∧ Hid (decide (0 ≤ a ∧ a < f.f4.length) = false)) := by
  by_cases h1 : 0 ≤ a
  ·by_cases h2 : a < f.f4.length
   ·exact .inl ⟨decide_eq_true h1, decide_eq_true h2, decide_eq_true ⟨h1, h2⟩⟩
   ·exact .inr (.inr ⟨decide_eq_true h1, decide_eq_false h2, decide_eq_false (fun h => h2 h.2)⟩)
  ·exact .inr (.inl ⟨decide_eq_false h1, decide_eq_false (fun h => h1 h.1)⟩)
 have HR := Lib.hid (show meansS T x f ⟨29, a, b⟩ = (⟨#[98]⟩, eS, p && decide (0 ≤ a ∧ a < f.f4.length)) from by
  unfold meansS
  rw [← hp]
  simp only [show ¬((29 : Int) = 1) from by decide, show ¬((29 : Int) = 2) from by decide, show ¬((29 : Int) = 3) from by decide, show ¬((29 : Int) = 4) from by decide, show ¬((29 : Int) = 5) from by decide, show ¬((29 : Int) = 6) from by decide, show ¬((29 : Int) = 7) from by decide, show ¬((29 : Int) = 28) from by decide, if_false, if_true]
  rfl)
 obtain ⟨r, hr⟩ : ∃ r, r = meansS T x f ⟨29, a, b⟩ := ⟨_, rfl⟩
 rw [← hr] at HR ⊢
 clear hr
 rcases hin with ⟨ha, hb, HD⟩ | ⟨ha, HD⟩ | ⟨ha, hb, HD⟩
 all_goals
  cases p
  all_goals
   go_enter Tryz.func145, Tryz.ntmps145
   go_wp2_with fail
   refine (Tryz.strings_Repeat_one _ _).mono ?_
   rintro e w1 ⟨rfl, rfl⟩
   go_wp2_with fail
   go_quiet (fail)
   go_wp2_with fail
   go_ret3
   exact ⟨ret_means (by rw [HR.out]; rfl) (by rw [HR.out]; rfl) (by rw [HR.out, HD.out]; rfl), pw_below_drewN (below_alloc (Below.refl _ _) _) _⟩
theorem means_ret (T : Nat → ByteArray × ByteArray) (w0 w : World) (x : SImage) (f : SFn) (g : Nat) (l : Lk) (h : At w0 w x f g l) (a b : Int) :
  Calls Tryz.prog 145 #[.pointer (some ⟨g, 0, none⟩), .agg #[.int .i64 32, .int .i64 a, .int .i64 b]] w (MeansPost (meansS T x f ⟨32, a, b⟩) w) := by
 obtain ⟨p, hp⟩ : ∃ p, (b == 0) = p := ⟨_, rfl⟩
 obtain ⟨q, hq⟩ : ∃ q, (a == 0) = q := ⟨_, rfl⟩
 have hc4 := h.L.at_.2.2.2.2.1
 rw [h.R.re] at hc4
 have hg := blk_lt h.L
 have HF := Lib.hid h.F.res
 clear h
 obtain ⟨t, ht⟩ : ∃ t, t = f.f2 := ⟨_, rfl⟩
 have HR := Lib.hid (show meansS T x f ⟨32, a, b⟩ = (resultS t, eS, p && q) from by
  unfold meansS
  rw [← hp, ← hq, ht]
  simp only [show ¬((32 : Int) = 1) from by decide, show ¬((32 : Int) = 2) from by decide, show ¬((32 : Int) = 3) from by decide, show ¬((32 : Int) = 4) from by decide, show ¬((32 : Int) = 5) from by decide, show ¬((32 : Int) = 6) from by decide, show ¬((32 : Int) = 7) from by decide, show ¬((32 : Int) = 28) from by decide, show ¬((32 : Int) = 29) from by decide, show ¬((32 : Int) = 30) from by decide, show ¬((32 : Int) = 31) from by decide, if_false, if_true]
  rfl)
 rw [← ht] at hc4 HF
 clear ht
 obtain ⟨r, hr⟩ : ∃ r, r = meansS T x f ⟨32, a, b⟩ := ⟨_, rfl⟩
 rw [← hr] at HR ⊢
 clear hr
 cases p <;> cases q
 all_goals
  go_enter Tryz.func145, Tryz.ntmps145
  go_wp2_with fail
  refine wp_region_below (by kernel_rfl) (by kernel_rfl) ?_
  iterate 5 (refine q_run (by rfl) (fun w' hC => by have hq := (bcellB hC).1; go_simp; with_reducible rfl) ?_; go_simp)
  refine q_call #[.int .i64 t] (by rfl) Tryz.func178 (by kernel_rfl) rfl rfl (by simp only [List.map_toArray, List.map_cons, List.map_nil]; rfl) (fun w' hC => (result_any _ _ HF.out).mono (by rintro e w1 ⟨rfl, hb⟩; exact ⟨rfl, below_and hC (by simp) hb⟩)) ?_
  go_simp
  repeat (first | (refine q_run (by rfl) (fun w' hC => by have hq := (bcellB hC).1; go_simp; with_reducible rfl) ?_; go_simp) | (refine q_skip (by rfl) ?_; go_simp))
  refine wpQuiet_nil ?_
  intro w2 hw2
  have HW2 := Lib.hid (below_next (below_alloc (Below.refl _ _) _) (below_sz (by simp) hw2))
  clear hw2
  go_wp2_with fail
  go_ret3
  exact ⟨ret_means (by rw [HR.out]; rfl) (by rw [HR.out]; rfl) (by rw [HR.out]; rfl), HW2.out⟩
theorem getD_mem_fn (l : List SFn) (k : Nat) (hk : k < l.length) : l.getD k zFn ∈ l := by
 rw [List.getD_eq_getElem?_getD, List.getElem?_eq_getElem hk]; exact List.getElem_mem hk
theorem means_call (T : Nat → ByteArray × ByteArray) (w0 w : World) (x : SImage) (f : SFn) (g : Nat) (l : Lk) (h : At w0 w x f g l) (a b : Int) :
  Calls Tryz.prog 145 #[.pointer (some ⟨g, 0, none⟩), .agg #[.int .i64 30, .int .i64 a, .int .i64 b]] w (MeansPost (meansS T x f ⟨30, a, b⟩) w) := by
 obtain ⟨A, c, hv, hlc, hC⟩ := h.R.fn
 have HC := Lib.hid (Kd.C_below hC h.B)
 have HF := Lib.hid h.X.fn
 have hll := h.X.lf
 have hc1 := h.L.at_.2.1
 rw [hv] at hc1
 have hg := blk_lt h.L
 clear h hC hv
 obtain ⟨p, hp⟩ : ∃ p, (b == 0) = p := ⟨_, rfl⟩
 by_cases h0 : 0 ≤ a
 ·obtain ⟨k, rfl⟩ : ∃ k : Nat, a = k := ⟨a.toNat, by omega⟩
  by_cases hlt : k < x.fns.length
  ·obtain ⟨ad, A1, c1, A3, c3, A4, c4, rfl, h0, h1, h2, h3, h4, l1, g1, l3, g3, l4, g4⟩ := at_TFn HC.out (k : Int) (by omega) (by omega)
   obtain ⟨y, hy⟩ : ∃ y, y = rd_TFn x.fns (k : Int) := ⟨_, rfl⟩
   rw [← hy] at h0 h1 h2 h3 h4 g1 l1
   simp only [Int.toNat_natCast] at h0 h1 h2 h3 h4
   have HY := Lib.hid (show y = x.fns.getD k zFn from by rw [hy]; rfl)
   have HYF := Lib.hid (HF.out y (by rw [HY.out]; exact getD_mem_fn _ k hlt))
   have G1 := Lib.hid g1
   clear hy g1 g3 g4 l3 l4
   have HR := Lib.hid (show meansS T x f ⟨30, k, b⟩ = (rowS y.f1, resultS y.f2, p) from by
    unfold meansS
    have hin : (0 : Int) ≤ (k : Int) ∧ (k : Int) < x.fns.length := ⟨by simp, by simpa using hlt⟩
    rw [← hp]
    simp only [show ¬((30 : Int) = 1) from by decide, show ¬((30 : Int) = 2) from by decide, show ¬((30 : Int) = 3) from by decide, show ¬((30 : Int) = 4) from by decide, show ¬((30 : Int) = 5) from by decide, show ¬((30 : Int) = 6) from by decide, show ¬((30 : Int) = 7) from by decide, show ¬((30 : Int) = 28) from by decide, show ¬((30 : Int) = 29) from by decide, if_false, if_true, hin, and_self, zf, Int.toNat_natCast, ← HY.out]
    rfl)
   obtain ⟨r, hr⟩ : ∃ r, r = meansS T x f ⟨30, k, b⟩ := ⟨_, rfl⟩
   rw [← hr] at HR ⊢
   clear hr
   have hw0 : ∀ o, (w.alloc o).cell? (ad.add (k * 5)) = some (.string y.f0) := fun o => pw_cell_below (below_alloc (Below.refl _ _) o) h0
   have hw1 : ∀ o, (w.alloc o).cell? ⟨(ad.add (k * 5)).block, (ad.add (k * 5)).off + 1, none⟩ = some (.slice A1 y.f1.length c1) := fun o => pw_cell_below (below_alloc (Below.refl _ _) o) h1
   have hw2 : ∀ o, (w.alloc o).cell? ⟨(ad.add (k * 5)).block, (ad.add (k * 5)).off + 2, none⟩ = some (.int .i64 y.f2) := fun o => pw_cell_below (below_alloc (Below.refl _ _) o) h2
   have hw3 : ∀ o, (w.alloc o).cell? ⟨(ad.add (k * 5)).block, (ad.add (k * 5)).off + 3, none⟩ = some _ := fun o => pw_cell_below (below_alloc (Below.refl _ _) o) h3
   have hw4 : ∀ o, (w.alloc o).cell? ⟨(ad.add (k * 5)).block, (ad.add (k * 5)).off + 4, none⟩ = some _ := fun o => pw_cell_below (below_alloc (Below.refl _ _) o) h4
   have hz0 : ∀ o o' n, (((w.alloc o).drewN n).alloc o').cell? (ad.add (k * 5)) = some (.string y.f0) := fun o o' n => pw_cell_below (below_alloc (pw_below_drewN (below_alloc (Below.refl _ _) o) n) o') h0
   have hz1 : ∀ o o' n, (((w.alloc o).drewN n).alloc o').cell? ⟨(ad.add (k * 5)).block, (ad.add (k * 5)).off + 1, none⟩ = some (.slice A1 y.f1.length c1) := fun o o' n => pw_cell_below (below_alloc (pw_below_drewN (below_alloc (Below.refl _ _) o) n) o') h1
   have hz2 : ∀ o o' n, (((w.alloc o).drewN n).alloc o').cell? ⟨(ad.add (k * 5)).block, (ad.add (k * 5)).off + 2, none⟩ = some (.int .i64 y.f2) := fun o o' n => pw_cell_below (below_alloc (pw_below_drewN (below_alloc (Below.refl _ _) o) n) o') h2
   have hz3 : ∀ o o' n, (((w.alloc o).drewN n).alloc o').cell? ⟨(ad.add (k * 5)).block, (ad.add (k * 5)).off + 3, none⟩ = some _ := fun o o' n => pw_cell_below (below_alloc (pw_below_drewN (below_alloc (Below.refl _ _) o) n) o') h3
   have hz4 : ∀ o o' n, (((w.alloc o).drewN n).alloc o').cell? ⟨(ad.add (k * 5)).block, (ad.add (k * 5)).off + 4, none⟩ = some _ := fun o o' n => pw_cell_below (below_alloc (pw_below_drewN (below_alloc (Below.refl _ _) o) n) o') h4
   clear h0 h1 h2 h3 h4
   cases p
   all_goals
    go_enter Tryz.func145, Tryz.ntmps145
    go_wp2_with fail
    go_quiet (fail)
    go_wp2_with fail
    go_region
    go_wp2_with fail
    refine wp_region_below (by kernel_rfl) (by kernel_rfl) ?_
    iterate 2 (refine q_run (by rfl) (fun w' hC => by have hq := (bcellB hC).1; go_simp; with_reducible rfl) ?_; go_simp)
    refine q_call #[.slice A1 y.f1.length c1] (by rfl) Tryz.func175 (by kernel_rfl) rfl rfl (by simp only [List.map_toArray, List.map_cons, List.map_nil]; rfl) (fun w' hC => (vrow_any A1 c1 y.f1 _ (Kd.C_below (Kd.C_below G1.out (by repeat (first | exact Below.refl _ _ | apply below_alloc | apply pw_below_drewN | apply below_drew1 | (refine below_set ?_ (by simp))))) (below_sz (by simp) hC)) (by have := HYF.out.lp; omega) HYF.out.par).mono (by rintro e w1 ⟨rfl, hb⟩; exact ⟨rfl, below_and hC (by simp) hb⟩)) ?_
    go_simp
    iterate 2 (refine q_run (by rfl) (fun w' hC => by have hq := (bcellB hC).1; go_simp; with_reducible rfl) ?_; go_simp)
    refine q_call #[.int .i64 y.f2] (by rfl) Tryz.func178 (by kernel_rfl) rfl rfl (by simp only [List.map_toArray, List.map_cons, List.map_nil]; rfl) (fun w' hC => (result_any _ _ HYF.out.res).mono (by rintro e w1 ⟨rfl, hb⟩; exact ⟨rfl, below_and hC (by simp) hb⟩)) ?_
    go_simp
    repeat (first | (refine q_run (by rfl) (fun w' hC => by have hq := (bcellB hC).1; go_simp; with_reducible rfl) ?_; go_simp) | (refine q_skip (by rfl) ?_; go_simp))
    refine wpQuiet_nil ?_
    intro w2 hw2
    have HW2 := Lib.hid (show Below w.heap.size w w2 from below_next (by repeat (first | exact Below.refl _ _ | apply below_alloc | apply pw_below_drewN | apply below_drew1 | (refine below_set ?_ (by simp)))) (below_sz (by simp) hw2))
    clear hw2
    go_wp2_with fail
    go_ret3
    exact ⟨ret_means (by rw [HR.out]; rfl) (by rw [HR.out]; rfl) (by rw [HR.out]; rfl), HW2.out⟩
  ·have HR := Lib.hid (show meansS T x f ⟨30, k, b⟩ = (eS, eS, false) from by
    unfold meansS
    have hin : ¬((0 : Int) ≤ (k : Int) ∧ (k : Int) < x.fns.length) := by omega
    simp only [show ¬((30 : Int) = 1) from by decide, show ¬((30 : Int) = 2) from by decide, show ¬((30 : Int) = 3) from by decide, show ¬((30 : Int) = 4) from by decide, show ¬((30 : Int) = 5) from by decide, show ¬((30 : Int) = 6) from by decide, show ¬((30 : Int) = 7) from by decide, show ¬((30 : Int) = 28) from by decide, show ¬((30 : Int) = 29) from by decide, if_false, if_true, hin])
   obtain ⟨r, hr⟩ : ∃ r, r = meansS T x f ⟨30, k, b⟩ := ⟨_, rfl⟩
   rw [← hr] at HR ⊢
   clear hr
   go_enter Tryz.func145, Tryz.ntmps145
   go_wp2_with fail
   go_quiet (fail)
   go_wp2_with fail
   go_ret3
   exact ⟨ret_means (by rw [HR.out]; rfl) (by rw [HR.out]; rfl) (by rw [HR.out]; rfl), pw_below_drewN (below_alloc (Below.refl _ _) _) _⟩
 ·have HR := Lib.hid (show meansS T x f ⟨30, a, b⟩ = (eS, eS, false) from by
   unfold meansS
   have hin : ¬((0 : Int) ≤ a ∧ a < x.fns.length) := by omega
   simp only [show ¬((30 : Int) = 1) from by decide, show ¬((30 : Int) = 2) from by decide, show ¬((30 : Int) = 3) from by decide, show ¬((30 : Int) = 4) from by decide, show ¬((30 : Int) = 5) from by decide, show ¬((30 : Int) = 6) from by decide, show ¬((30 : Int) = 7) from by decide, show ¬((30 : Int) = 28) from by decide, show ¬((30 : Int) = 29) from by decide, if_false, if_true, hin])
  obtain ⟨r, hr⟩ : ∃ r, r = meansS T x f ⟨30, a, b⟩ := ⟨_, rfl⟩
  rw [← hr] at HR ⊢
  clear hr
  go_enter Tryz.func145, Tryz.ntmps145
  go_wp2_with fail
  go_quiet (fail)
  go_wp2_with fail
  go_ret3
  exact ⟨ret_means (by rw [HR.out]; rfl) (by rw [HR.out]; rfl) (by rw [HR.out]; rfl), pw_below_drewN (below_alloc (Below.refl _ _) _) _⟩
theorem getD_mem_sys (l : List SSys) (k : Nat) (hk : k < l.length) : l.getD k zSys ∈ l := by
 rw [List.getD_eq_getElem?_getD, List.getElem?_eq_getElem hk]; exact List.getElem_mem hk
theorem callsL_ok : ∀ y ∈ callsL, (0 ≤ y.f2 ∧ y.f2 ≤ 4) ∧ y.f1.length ≤ 8 ∧ ∀ t ∈ y.f1, 0 ≤ t ∧ t ≤ 4 := by
 simp [callsL]
theorem means_sys (T : Nat → ByteArray × ByteArray) (w0 w : World) (x : SImage) (f : SFn) (g : Nat) (l : Lk) (h : At w0 w x f g l) (a b : Int) :
  Calls Tryz.prog 145 #[.pointer (some ⟨g, 0, none⟩), .agg #[.int .i64 31, .int .i64 a, .int .i64 b]] w (MeansPost (meansS T x f ⟨31, a, b⟩) w) := by
 have hg := blk_lt h.L
 clear h
 obtain ⟨p, hp⟩ : ∃ p, (b == 0) = p := ⟨_, rfl⟩
 have hlen : callsL.length = 16 := rfl
 by_cases h0 : 0 ≤ a
 ·obtain ⟨k, rfl⟩ : ∃ k : Nat, a = k := ⟨a.toNat, by omega⟩
  by_cases hlt : k < 16
  ·obtain ⟨y, hy⟩ : ∃ y, y = callsL.getD k zSys := ⟨_, rfl⟩
   have HY := Lib.hid hy
   have HYF := Lib.hid (callsL_ok y (by rw [hy]; exact getD_mem_sys _ k hlt))
   have HR := Lib.hid (show meansS T x f ⟨31, k, b⟩ = (rowS y.f1, resultS y.f2, p) from by
    unfold meansS
    have hin : (0 : Int) ≤ (k : Int) ∧ (k : Int) < callsL.length := ⟨by simp, by rw [hlen]; omega⟩
    rw [← hp]
    simp only [show ¬((31 : Int) = 1) from by decide, show ¬((31 : Int) = 2) from by decide, show ¬((31 : Int) = 3) from by decide, show ¬((31 : Int) = 4) from by decide, show ¬((31 : Int) = 5) from by decide, show ¬((31 : Int) = 6) from by decide, show ¬((31 : Int) = 7) from by decide, show ¬((31 : Int) = 28) from by decide, show ¬((31 : Int) = 29) from by decide, show ¬((31 : Int) = 30) from by decide, if_false, if_true, hin, and_self, zs, Int.toNat_natCast, ← hy]
    rfl)
   obtain ⟨r, hr⟩ : ∃ r, r = meansS T x f ⟨31, k, b⟩ := ⟨_, rfl⟩
   rw [← hr] at HR ⊢
   clear hr hy hlen
   cases p
   all_goals
    go_enter Tryz.func145, Tryz.ntmps145
    go_wp2_with fail
    refine (Calls_any _).mono ?_
    rintro e w1 ⟨A, c, rfl, hC, hb⟩
    obtain ⟨ad, A1, c1, rfl, h0, h1, h2, l1, g1⟩ := at_TSys hC (k : Int) (by omega) (by simp [callsL]; omega)
    obtain ⟨z, hz⟩ : ∃ z, z = rd_TSys callsL (k : Int) := ⟨_, rfl⟩
    rw [← hz] at h0 h1 h2 g1 l1
    simp only [Int.toNat_natCast] at h0 h1 h2
    obtain rfl : y = z := HY.out.trans (by rw [hz]; rfl)
    have G1 := Lib.hid g1
    have HB := Lib.hid hb
    have hq := (bcell hb).1
    have hsz : w.heap.size < w1.heap.size := by have := hb.size; simp at this; omega
    clear hz g1 hC hb
    simp only [show callsL.length = 16 from rfl]
    go_wp2_with fail
    refine wp_region_below (by kernel_rfl) (by kernel_rfl) ?_
    iterate 6 (refine q_run (by rfl) (fun w' hC => by have hq := (bcellB hC).1; have z1 := pw_cell_below hC h1; have z2 := pw_cell_below hC h2; go_simp; with_reducible rfl) ?_; go_simp)
    refine q_call #[.slice A1 y.f1.length c1] (by rfl) Tryz.func175 (by kernel_rfl) rfl rfl (by simp only [List.map_toArray, List.map_cons, List.map_nil]; rfl) (fun w' hC => (vrow_any A1 c1 y.f1 _ (Kd.C_below G1.out hC) (by have := HYF.out.2.1; omega) HYF.out.2.2).mono (by rintro e w1 ⟨rfl, hb⟩; exact ⟨rfl, below_next hC hb⟩)) ?_
    go_simp
    iterate 6 (refine q_run (by rfl) (fun w' hC => by have hq := (bcellB hC).1; have z1 := pw_cell_below hC h1; have z2 := pw_cell_below hC h2; go_simp; with_reducible rfl) ?_; go_simp)
    refine q_call #[.int .i64 y.f2] (by rfl) Tryz.func178 (by kernel_rfl) rfl rfl (by simp only [List.map_toArray, List.map_cons, List.map_nil]; rfl) (fun w' hC => (result_any _ _ HYF.out.1).mono (by rintro e w1 ⟨rfl, hb⟩; exact ⟨rfl, below_next hC hb⟩)) ?_
    go_simp
    repeat (first | (refine q_run (by rfl) (fun w' hC => by have hq := (bcellB hC).1; go_simp; with_reducible rfl) ?_; go_simp) | (refine q_skip (by rfl) ?_; go_simp))
    refine wpQuiet_nil ?_
    intro w2 hw2
    have HW2 := Lib.hid (show Below w.heap.size w w2 from below_next (below_next (below_alloc (Below.refl _ _) _) HB.out) hw2)
    clear hw2
    go_wp2_with fail
    go_ret3
    exact ⟨ret_means (by rw [HR.out]; rfl) (by rw [HR.out]; rfl) (by rw [HR.out]; rfl), HW2.out⟩
  ·have HR := Lib.hid (show meansS T x f ⟨31, k, b⟩ = (eS, eS, false) from by
    unfold meansS
    have hin : ¬((0 : Int) ≤ (k : Int) ∧ (k : Int) < callsL.length) := by rw [hlen]; omega
    simp only [show ¬((31 : Int) = 1) from by decide, show ¬((31 : Int) = 2) from by decide, show ¬((31 : Int) = 3) from by decide, show ¬((31 : Int) = 4) from by decide, show ¬((31 : Int) = 5) from by decide, show ¬((31 : Int) = 6) from by decide, show ¬((31 : Int) = 7) from by decide, show ¬((31 : Int) = 28) from by decide, show ¬((31 : Int) = 29) from by decide, show ¬((31 : Int) = 30) from by decide, if_false, if_true, hin])
   obtain ⟨r, hr⟩ : ∃ r, r = meansS T x f ⟨31, k, b⟩ := ⟨_, rfl⟩
   rw [← hr] at HR ⊢
   clear hr
   go_enter Tryz.func145, Tryz.ntmps145
   go_wp2_with fail
   refine (Calls_any _).mono ?_
   rintro e w1 ⟨A, c, rfl, hC, hb⟩
   have HB := Lib.hid hb
   have hq := (bcell hb).1
   clear hC hb
   simp only [show callsL.length = 16 from rfl]
   go_wp2_with fail
   go_ret3
   exact ⟨ret_means (by rw [HR.out]; rfl) (by rw [HR.out]; rfl) (by rw [HR.out]; rfl), below_next (below_alloc (Below.refl _ _) _) HB.out⟩
 ·have HR := Lib.hid (show meansS T x f ⟨31, a, b⟩ = (eS, eS, false) from by
   unfold meansS
   have hin : ¬((0 : Int) ≤ (a : Int) ∧ (a : Int) < callsL.length) := by rw [hlen]; omega
   simp only [show ¬((31 : Int) = 1) from by decide, show ¬((31 : Int) = 2) from by decide, show ¬((31 : Int) = 3) from by decide, show ¬((31 : Int) = 4) from by decide, show ¬((31 : Int) = 5) from by decide, show ¬((31 : Int) = 6) from by decide, show ¬((31 : Int) = 7) from by decide, show ¬((31 : Int) = 28) from by decide, show ¬((31 : Int) = 29) from by decide, show ¬((31 : Int) = 30) from by decide, if_false, if_true, hin])
  obtain ⟨r, hr⟩ : ∃ r, r = meansS T x f ⟨31, a, b⟩ := ⟨_, rfl⟩
  rw [← hr] at HR ⊢
  clear hr
  go_enter Tryz.func145, Tryz.ntmps145
  go_wp2_with fail
  refine (Calls_any _).mono ?_
  rintro e w1 ⟨A, c, rfl, hC, hb⟩
  have HB := Lib.hid hb
  have hq := (bcell hb).1
  clear hC hb
  simp only [show callsL.length = 16 from rfl]
  go_wp2_with fail
  go_ret3
  exact ⟨ret_means (by rw [HR.out]; rfl) (by rw [HR.out]; rfl) (by rw [HR.out]; rfl), below_next (below_alloc (Below.refl _ _) _) HB.out⟩
theorem means_any (T : Nat → ByteArray × ByteArray) (w0 w : World) (x : SImage) (f : SFn) (g : Nat) (l : Lk) (h : At w0 w x f g l) (hT : Pln T w) (i : SInstr) (hi : 1 ≤ i.f0 ∧ i.f0 ≤ 33 ∧ 0 ≤ i.f2 ∧ i.f2 ≤ 4) :
  Calls Tryz.prog 145 #[.pointer (some ⟨g, 0, none⟩), .agg #[.int .i64 i.f0, .int .i64 i.f1, .int .i64 i.f2]] w (MeansPost (meansS T x f i) w) := by
 obtain ⟨n, a, b⟩ := i
 simp only at hi ⊢
 have hc : n = 1 ∨ n = 2 ∨ n = 3 ∨ n = 4 ∨ n = 5 ∨ n = 6 ∨ n = 7 ∨ n = 28 ∨ n = 29 ∨ n = 30 ∨ n = 31 ∨ n = 32 ∨ (8 ≤ n.toNat ∧ n.toNat ≤ 27 ∨ n.toNat = 33) := by omega
 rcases hc with rfl | rfl | rfl | rfl | rfl | rfl | rfl | rfl | rfl | rfl | rfl | rfl | hn
 ·exact means_push T x f a b w g ⟨hi.2.2.1, hi.2.2.2⟩
 ·exact means_load T w0 w x f g l h a b
 ·exact means_store T w0 w x f g l h a b
 ·exact means_get T w0 w x f g l h a b
 ·exact means_set T w0 w x f g l h a b
 ·exact means_at T w0 w x f g l h a b
 ·exact means_put T w0 w x f g l h a b
 ·exact means_jump T w0 w x f g l h a b
 ·exact means_else T w0 w x f g l h a b
 ·exact means_call T w0 w x f g l h a b
 ·exact means_sys T w0 w x f g l h a b
 ·exact means_ret T w0 w x f g l h a b
 ·obtain ⟨m, rfl⟩ : ∃ m : Nat, n = m := ⟨n.toNat, by omega⟩
  exact means_plain T w0 w x f g l hT m (by simpa using hn) a b
structure VSt where
 noted : List (Int × ByteArray)
 waits : List Int
 most : Int
 fc : Int
 fa : Int
/-- what a looker's call may turn: its block, its map, its row -/
structure FL (w : World) (g : Nat) (l : Lk) (w' : World) (l' : Lk) : Prop where
 os : w'.os = w.os
 tape : w'.tape = w.tape
 output : w'.output = w.output
 size : w.heap.size ≤ w'.heap.size
 block : ∀ k, k < w.heap.size → k ≠ g → k ≠ l.m → some k ≠ l.s.ownBlock → w'.heap[k]? = w.heap[k]?
 m : l'.m = l.m
 own : l'.s.ownBlock = l.s.ownBlock ∨ ∃ b, l'.s.ownBlock = some b ∧ w.heap.size ≤ b
theorem FL.trans {w w1 w2 : World} {g : Nat} {l l1 l2 : Lk} (h : FL w g l w1 l1) (h' : FL w1 g l1 w2 l2) : FL w g l w2 l2 := by
 refine ⟨h'.os.trans h.os, h'.tape.trans h.tape, h'.output.trans h.output, Nat.le_trans h.size h'.size, fun k hk hg hm hne => ?_, h'.m.trans h.m, ?_⟩
 ·rw [h'.block k (Nat.lt_of_lt_of_le hk h.size) hg (by rw [h.m]; exact hm) ?_, h.block k hk hg hm hne]
  rcases h.own with o | ⟨b, o, hb⟩
  ·rw [o]; exact hne
  ·rw [o]; intro e; injection e; omega
 ·rcases h'.own with o' | ⟨b, o', hb⟩
  ·rw [o']; exact h.own
  ·exact .inr ⟨b, o', Nat.le_trans h.size hb⟩
theorem FL.below {w w' : World} (g : Nat) (l : Lk) (h : Below w.heap.size w w') : FL w g l w' l := ⟨h.os, h.tape, h.output, h.size, fun k hk _ _ _ => h.block k hk, rfl, .inl rfl⟩
theorem FL.refl (w : World) (g : Nat) (l : Lk) : FL w g l w l := FL.below g l (Below.refl _ _)
/-- a looker at work: its state -/
structure LS (w0 w : World) (x : SImage) (f : SFn) (nn : Int) (g : Nat) (l : Lk) (st : VSt) : Prop where
 at_ : At w0 w x f g l
 n : l.n = nn
 nb : 0 ≤ nn ∧ nn ≤ 64
 most : l.most = st.most
 fc : l.fc = st.fc
 fa : l.fa = st.fa
 map : MM ekI evS w l.m st.noted
 row : PR w w0.heap.size l.s st.waits
 gb : w0.heap.size ≤ g
 mb : w0.heap.size ≤ l.m
 gm : l.m ≠ g
 go : some g ≠ l.s.ownBlock
 mo : some l.m ≠ l.s.ownBlock
theorem PR_lt {w : World} {base : Nat} {v : Value} {xs : List Int} (h : PR w base v xs) : ∀ k, v.ownBlock = some k → k < w.heap.size := Kd.R_lt h
theorem PR_base {w : World} {base : Nat} {v : Value} {xs : List Int} (h : PR w base v xs) : ∀ k, v.ownBlock = some k → base ≤ k := Kd.R_base h
theorem LS.below {w0 w w' : World} {x : SImage} {f : SFn} {nn : Int} {g : Nat} {l : Lk} {st : VSt} (h : LS w0 w x f nn g l st) (hb : Below w.heap.size w w') : LS w0 w' x f nn g l st :=
 { h with
  at_ := ⟨h.at_.R, below_next h.at_.B hb, (hb.block g (blk_lt h.at_.L)).trans h.at_.L, h.at_.X, h.at_.F⟩
  map := h.map.move (hb.block _ h.map.lt)
  row := PR_move h.row (fun k hk => hb.block k (PR_lt h.row k hk)) }
theorem LS.ps {w0 w : World} {x : SImage} {f : SFn} {nn : Int} {g : Nat} {l : Lk} {st : VSt} (h : LS w0 w x f nn g l st) : PS w g 9 l.cells 162 w0.heap.size l.s st.waits := ⟨h.at_.L, rfl, h.row, h.go⟩
theorem below_fl {w0 w w' : World} {g : Nat} {l l' : Lk} (hB : Below w0.heap.size w0 w) (hF : FL w g l w' l') (hg : w0.heap.size ≤ g) (hm : w0.heap.size ≤ l.m) (ho : ∀ k, l.s.ownBlock = some k → w0.heap.size ≤ k) : Below w0.heap.size w0 w' := by
 have hsz : w0.heap.size ≤ w.heap.size := hB.size
 refine ⟨hF.os.trans hB.os, hF.tape.trans hB.tape, hF.output.trans hB.output, Nat.le_trans hB.size hF.size, fun k hk => ?_⟩
 rw [hF.block k (by omega) (by omega) (by omega) (fun e => by have := ho k e.symm; omega)]
 exact hB.block k hk
/-- the row has turned -/
theorem LS.turned {w0 w w' : World} {x : SImage} {f : SFn} {nn : Int} {g : Nat} {l : Lk} {st : VSt} (h : LS w0 w x f nn g l st) {v' : Value} {ws : List Int} (hp : PS w' g 9 (l.cells.setIfInBounds 9 v') 162 w0.heap.size v' ws) (hf : FP w g l.s w' v') :
  LS w0 w' x f nn g { l with s := v' } { st with waits := ws } ∧ FL w g l w' { l with s := v' } := by
 have hFL : FL w g l w' { l with s := v' } := ⟨hf.os, hf.tape, hf.output, hf.size, fun k hk hg _ hs => hf.block k hk hg hs, rfl, hf.own⟩
 refine ⟨⟨⟨⟨h.at_.R.gl, h.at_.R.fn, h.at_.R.re, h.at_.R.lo, h.at_.R.co⟩, below_fl h.at_.B hFL h.gb h.mb (PR_base h.row), hp.blk, h.at_.X, h.at_.F⟩, h.n, h.nb, h.most, h.fc, h.fa, ?_, hp.row, h.gb, h.mb, h.gm, hp.away, ?_⟩, hFL⟩
 ·exact h.map.move (hf.block _ h.map.lt h.gm h.mo)
 ·show some l.m ≠ v'.ownBlock
  rcases hf.own with o | ⟨b, o, hb⟩
  ·rw [o]; exact h.mo
  ·rw [o]; intro e; injection e; have := h.map.lt; omega
/-- its block alone has turned, in its numbers -/
theorem LS.numbers {w0 w w' : World} {x : SImage} {f : SFn} {nn : Int} {g : Nat} {l : Lk} {st : VSt} (h : LS w0 w x f nn g l st) (mo fc fa : Int) (hL : LB w' g { l with most := mo, fc := fc, fa := fa }) (ho : Only g w w') :
  LS w0 w' x f nn g { l with most := mo, fc := fc, fa := fa } { st with most := mo, fc := fc, fa := fa } ∧ FL w g l w' { l with most := mo, fc := fc, fa := fa } := by
 obtain ⟨h1, h2, h3, h4, h5⟩ := ho
 have hFL : FL w g l w' { l with most := mo, fc := fc, fa := fa } := ⟨h1, h2, h3, by rw [h4]; exact Nat.le_refl _, fun k hk hg _ _ => h5 k hg, rfl, .inl rfl⟩
 refine ⟨⟨⟨⟨h.at_.R.gl, h.at_.R.fn, h.at_.R.re, h.at_.R.lo, h.at_.R.co⟩, below_fl h.at_.B hFL h.gb h.mb (PR_base h.row), hL, h.at_.X, h.at_.F⟩, h.n, h.nb, rfl, rfl, rfl, ?_, ?_, h.gb, h.mb, h.gm, h.go, h.mo⟩, hFL⟩
 ·exact h.map.move (h5 _ h.gm)
 ·exact PR_move h.row (fun k hk => h5 k (fun e => h.go (by rw [hk, e])))
/-- the map alone has turned -/
theorem LS.noted {w0 w w' : World} {x : SImage} {f : SFn} {nn : Int} {g : Nat} {l : Lk} {st : VSt} (h : LS w0 w x f nn g l st) (ns : List (Int × ByteArray)) (hM : MM ekI evS w' l.m ns) (ho : Only l.m w w') :
  LS w0 w' x f nn g l { st with noted := ns } ∧ FL w g l w' l := by
 obtain ⟨h1, h2, h3, h4, h5⟩ := ho
 have hFL : FL w g l w' l := ⟨h1, h2, h3, by rw [h4]; exact Nat.le_refl _, fun k hk _ hm _ => h5 k hm, rfl, .inl rfl⟩
 refine ⟨⟨⟨h.at_.R, below_fl h.at_.B hFL h.gb h.mb (PR_base h.row), (h5 g (Ne.symm h.gm)).trans h.at_.L, h.at_.X, h.at_.F⟩, h.n, h.nb, h.most, h.fc, h.fa, hM, ?_, h.gb, h.mb, h.gm, h.go, h.mo⟩, hFL⟩
 exact PR_move h.row (fun k hk => h5 k (fun e => h.mo (by rw [hk, e])))
/-- it goes on to a place -/
def goesS (f : SFn) (nn : Int) (st : VSt) (from_ dst : Int) (stack : ByteArray) : Bool × VSt :=
 if dst = f.f4.length then (false, { st with fc := 161, fa := nn * 65536 + from_ })
 else match st.noted.lookup dst with
  | some old => if old.toList == stack.toList then (true, st) else (false, { st with fc := 162, fa := nn * 65536 + dst })
  | none => (true, { st with noted := st.noted ++ [(dst, stack)], waits := pushL st.waits dst })
/-- what such a call hands back -/
def LPost (w0 w : World) (x : SImage) (f : SFn) (nn : Int) (g : Nat) (l : Lk) (r : Bool × VSt) : Ending → World → Prop := fun e w' => e = .returned (.bool r.1) ∧ ∃ l', LS w0 w' x f nn g l' r.2 ∧ FL w g l w' l'
theorem goes_any (w0 w : World) (x : SImage) (f : SFn) (nn : Int) (g : Nat) (l : Lk) (st : VSt) (h : LS w0 w x f nn g l st) (fr dst : Int) (stack : ByteArray) (hfr : 0 ≤ fr ∧ fr ≤ 65536) (hd : 0 ≤ dst ∧ dst ≤ 65536) (hws : st.waits.length ≤ 65536) :
  Calls Tryz.prog 92 #[.pointer (some ⟨g, 0, none⟩), .int .i64 fr, .int .i64 dst, .string stack] w (LPost w0 w x f nn g l (goesS f nn st fr dst stack)) := by
 obtain ⟨A, c, hv, hlc, hC⟩ := h.at_.R.co
 have hc6 := h.at_.L.at_.2.2.2.2.2.2.1
 rw [hv] at hc6
 have hc8 := h.at_.L.at_.2.2.2.2.2.2.2.2.1
 have hll := h.at_.F.lc
 have hg := blk_lt h.at_.L
 have HH := Lib.hid h
 have HN := Lib.hid (show 0 ≤ l.n ∧ l.n ≤ 1000 from by have := h.n; have := h.nb; omega)
 obtain ⟨r, hr⟩ : ∃ r, r = goesS f nn st fr dst stack := ⟨_, rfl⟩
 rw [← hr]
 have hlook := noted_look h.map dst
 by_cases hend : dst = f.f4.length
 ·have HR := Lib.hid (show r = (false, { st with fc := 161, fa := nn * 65536 + fr }) from by rw [hr]; unfold goesS; rw [if_pos hend])
  have hend' : (dst == (f.f4.length : Int)) = true := by simpa using hend
  clear hr h hC hv hend hlook
  go_enter Tryz.func92, Tryz.ntmps92
  go_wp2_with fail
  refine (wrong_any w g l HH.out.at_.L HN.out 161 fr ⟨hfr.1, by omega⟩).mono ?_
  rintro e w1 ⟨rfl, hL, ho⟩
  have HO := Lib.hid (HH.out.numbers l.most 161 (l.n * 65536 + fr) hL ho)
  clear hL ho
  go_wp2_with fail
  go_ret
  exact ⟨by rw [HR.out]; rfl, _, by rw [HR.out]; have h1 := HO.out.1; rw [HH.out.n, HH.out.most] at h1; rw [HH.out.n, HH.out.most]; exact h1, HO.out.2⟩
 ·have hend' : (dst == (f.f4.length : Int)) = false := by simpa using hend
  cases hlk : st.noted.lookup dst with
  | some old =>
   rw [hlk] at hlook
   simp only [Option.getD_some, Option.isSome_some] at hlook
   obtain ⟨b, hb⟩ : ∃ b, (old.toList == stack.toList) = b := ⟨_, rfl⟩
   have HR := Lib.hid (show r = if b then (true, st) else (false, { st with fc := 162, fa := nn * 65536 + dst }) from by rw [hr]; unfold goesS; rw [if_neg hend, hlk]; simp only; rw [hb])
   clear hr h hC hv hend hlk
   cases b
   ·go_enter Tryz.func92, Tryz.ntmps92
    go_wp2_with fail
    refine (wrong_any w g l HH.out.at_.L HN.out 162 dst ⟨hd.1, by omega⟩).mono ?_
    rintro e w1 ⟨rfl, hL, ho⟩
    have HO := Lib.hid (HH.out.numbers l.most 162 (l.n * 65536 + dst) hL ho)
    clear hL ho
    go_wp2_with fail
    go_ret
    exact ⟨by rw [HR.out]; rfl, _, by rw [HR.out]; have h1 := HO.out.1; rw [HH.out.n, HH.out.most] at h1; rw [HH.out.n, HH.out.most]; exact h1, HO.out.2⟩
   ·go_enter Tryz.func92, Tryz.ntmps92
    go_wp2_with fail
    go_ret
    exact ⟨by rw [HR.out]; rfl, l, by rw [HR.out]; exact HH.out, FL.refl _ _ _⟩
  | none =>
   obtain ⟨w1, hput, hM, hO⟩ := noted_put h.map dst hlk stack
   rw [hlk] at hlook
   simp only [Option.getD_none, Option.isSome_none] at hlook
   have HR := Lib.hid (show r = (true, { st with noted := st.noted ++ [(dst, stack)], waits := pushL st.waits dst }) from by rw [hr]; unfold goesS; rw [if_neg hend, hlk])
   have H1 := Lib.hid (h.noted _ hM hO)
   have hg1 : g < w1.heap.size := by have := hO.2.2.2.1; omega
   clear hr h hC hv hend hlk hM hO
   go_enter Tryz.func92, Tryz.ntmps92
   go_wp2_with fail
   refine (hPush_any w1 g 9 l.cells 162 w0.heap.size l.s st.waits H1.out.1.ps H1.out.1.at_.B.size (by omega) dst).mono ?_
   rintro e w2 ⟨rfl, v2, hp, hf⟩
   have H2 := Lib.hid (H1.out.1.turned hp hf)
   clear hp hf
   go_wp2_with fail
   go_ret
   exact ⟨by rw [HR.out]; rfl, _, by rw [HR.out]; exact H2.out.1, H1.out.2.trans H2.out.2⟩
def zi (l : List SInstr) (n : Nat) : SInstr := l.getD n zInstr
def stackAt (st : VSt) (n : Int) : ByteArray := (st.noted.lookup n).getD ⟨#[]⟩
def cutS (stack takes puts : ByteArray) : ByteArray := stack.extract 0 (stack.size - takes.size) ++ puts
/-- behind the stack's test: where it goes -/
def onS (f : SFn) (nn : Int) (st : VSt) (k : Nat) (i : SInstr) (stack : ByteArray) : Bool × VSt :=
 let r := if i.f0 = 28 ∨ i.f0 = 29 then goesS f nn st k i.f1 stack else (true, st)
 if r.1 then if i.f0 = 28 ∨ i.f0 = 32 then (true, r.2) else goesS f nn r.2 k (k + 1) stack else (false, r.2)
def lookS (T : Nat → ByteArray × ByteArray) (x : SImage) (f : SFn) (nn : Int) (st : VSt) (k : Nat) : Bool × VSt :=
 let i := zi f.f4 k
 let stack := stackAt st k
 let m := meansS T x f i
 if m.2.2 then
  if endsB stack m.1 then
   if 400 < (cutS stack m.1 m.2.1).size ∨ (i.f0 = 32 ∧ ((cutS stack m.1 m.2.1).toList == []) = false) then (false, { st with most := max st.most stack.size, fc := 162, fa := nn * 65536 + k })
   else onS f nn { st with most := max (max st.most stack.size) (cutS stack m.1 m.2.1).size } k i (cutS stack m.1 m.2.1)
  else (false, { st with fc := 162, fa := nn * 65536 + k })
 else (false, { st with fc := if i.f0 = 28 ∨ i.f0 = 29 then 161 else 163, fa := nn * 65536 + k })
theorem rowS_size (l : List Int) : (rowS l).size = l.length := by simp [rowS, ByteArray.size]
theorem resultS_size (t : Int) : (resultS t).size ≤ 1 := by
 unfold resultS; split
 ·simp [ByteArray.size]
 ·rw [rowS_size]; simp
def TOK (T : Nat → ByteArray × ByteArray) : Prop := ∀ j, j < 34 → (T j).1.size ≤ 2 ∧ (T j).2.size ≤ 1
def SZ (m : ByteArray × ByteArray × Bool) : Prop := m.1.size ≤ 8 ∧ m.2.1.size ≤ 1
theorem ite_SZ {c : Prop} [Decidable c] {a b : ByteArray × ByteArray × Bool} (ha : c → SZ a) (hb : ¬ c → SZ b) : SZ (if c then a else b) := by
 by_cases h : c
 ·rw [if_pos h]; exact ha h
 ·rw [if_neg h]; exact hb h
theorem meansS_size (T : Nat → ByteArray × ByteArray) (x : SImage) (f : SFn) (i : SInstr) (hX : ImgOK x) (hT : TOK T) (hi : 1 ≤ i.f0 ∧ i.f0 ≤ 33) : SZ (meansS T x f i) := by
 have h1 := globS_size x i.f1 false
 have h2 := globS_size x i.f1 true
 have h3 := resultS_size f.f2
 have h4 := resultS_size (zf x.fns i.f1).f2
 have h5 := resultS_size (zs callsL i.f1).f2
 have h0 : eS.size = 0 := rfl
 have hn : ∀ b, SZ (eS, eS, b) := fun b => ⟨by show eS.size ≤ 8; omega, by show eS.size ≤ 1; omega⟩
 unfold meansS
 refine ite_SZ (fun _ => ⟨by show eS.size ≤ 8; omega, by show (rowS _).size ≤ 1; rw [rowS_size]; simp⟩) (fun _ => ?_)
 refine ite_SZ (fun _ => ite_SZ (fun _ => ⟨by show eS.size ≤ 8; omega, by show (rowS _).size ≤ 1; rw [rowS_size]; simp⟩) (fun _ => hn _)) (fun _ => ?_)
 refine ite_SZ (fun _ => ite_SZ (fun _ => ⟨by show (rowS _).size ≤ 8; rw [rowS_size]; simp, by show eS.size ≤ 1; omega⟩) (fun _ => hn _)) (fun _ => ?_)
 refine ite_SZ (fun _ => ⟨by show eS.size ≤ 8; omega, h1⟩) (fun _ => ?_)
 refine ite_SZ (fun _ => ⟨by show (globS x i.f1 false).size ≤ 8; omega, by show eS.size ≤ 1; omega⟩) (fun _ => ?_)
 refine ite_SZ (fun _ => ⟨by show (⟨#[105]⟩ : ByteArray).size ≤ 8; decide, h2⟩) (fun _ => ?_)
 refine ite_SZ (fun _ => ⟨by show ((⟨#[105]⟩ : ByteArray) ++ globS x i.f1 true).size ≤ 8; rw [ByteArray.size_append, show (⟨#[105]⟩ : ByteArray).size = 1 from rfl]; omega, by show eS.size ≤ 1; omega⟩) (fun _ => ?_)
 refine ite_SZ (fun _ => hn _) (fun _ => ?_)
 refine ite_SZ (fun _ => ⟨by show (⟨#[98]⟩ : ByteArray).size ≤ 8; decide, by show eS.size ≤ 1; omega⟩) (fun _ => ?_)
 refine ite_SZ (fun _ => ite_SZ (fun hin => ?_) (fun _ => hn _)) (fun _ => ?_)
 ·have hm : zf x.fns i.f1 ∈ x.fns := getD_mem_fn _ _ (by omega)
  exact ⟨by show (rowS _).size ≤ 8; rw [rowS_size]; exact (hX.fn _ hm).lp, h4⟩
 refine ite_SZ (fun _ => ite_SZ (fun hin => ?_) (fun _ => hn _)) (fun _ => ?_)
 ·have hm : zs callsL i.f1 ∈ callsL := getD_mem_sys _ _ (by omega)
  exact ⟨by show (rowS _).size ≤ 8; rw [rowS_size]; exact (callsL_ok _ hm).2.1, h5⟩
 refine ite_SZ (fun _ => ⟨by show (resultS f.f2).size ≤ 8; omega, by show eS.size ≤ 1; omega⟩) (fun _ => ?_)
 have := hT i.f0.toNat (by omega)
 exact ⟨by show (T i.f0.toNat).1.size ≤ 8; omega, by show (T i.f0.toNat).2.size ≤ 1; omega⟩
theorem getD_mem_instr (l : List SInstr) (k : Nat) (hk : k < l.length) : zi l k ∈ l := by
 unfold zi; rw [List.getD_eq_getElem?_getD, List.getElem?_eq_getElem hk]; exact List.getElem_mem hk
theorem onS_28 (f : SFn) (nn : Int) (st : VSt) (k : Nat) (i : SInstr) (s : ByteArray) (h : i.f0 = 28) : onS f nn st k i s = goesS f nn st k i.f1 s := by
 unfold onS
 simp only [h, true_or, if_true]
 obtain ⟨b, u⟩ := goesS f nn st k i.f1 s
 cases b <;> rfl
theorem onS_29 (f : SFn) (nn : Int) (st : VSt) (k : Nat) (i : SInstr) (s : ByteArray) (h : i.f0 = 29) : onS f nn st k i s = if (goesS f nn st k i.f1 s).1 then goesS f nn (goesS f nn st k i.f1 s).2 k (k + 1) s else (false, (goesS f nn st k i.f1 s).2) := by
 unfold onS
 simp only [h, show ¬((29 : Int) = 28) from by decide, show ¬((29 : Int) = 32) from by decide, or_true, or_false, if_true, if_false]
theorem onS_32 (f : SFn) (nn : Int) (st : VSt) (k : Nat) (i : SInstr) (s : ByteArray) (h : i.f0 = 32) : onS f nn st k i s = (true, st) := by
 unfold onS
 simp only [h, show ¬((32 : Int) = 28) from by decide, show ¬((32 : Int) = 29) from by decide, or_true, or_false, if_true, if_false]
theorem onS_00 (f : SFn) (nn : Int) (st : VSt) (k : Nat) (i : SInstr) (s : ByteArray) (h : i.f0 ≠ 28 ∧ i.f0 ≠ 29 ∧ i.f0 ≠ 32) : onS f nn st k i s = goesS f nn st k (k + 1) s := by
 unfold onS
 simp only [h.1, h.2.1, h.2.2, or_false, if_true, if_false]
theorem LS.mosts {w0 w : World} {x : SImage} {f : SFn} {nn : Int} {g : Nat} {l : Lk} {st : VSt} (h : LS w0 w x f nn g l st) (m : Int) :
  LS w0 (w.setCell ⟨g, 10, none⟩ (.int .i64 m)) x f nn g { l with most := m } { st with most := m } ∧ FL w g l (w.setCell ⟨g, 10, none⟩ (.int .i64 m)) { l with most := m } := by
 have h1 := h.numbers m l.fc l.fa (w' := w.setCell ⟨g, 10, none⟩ (.int .i64 m)) (blk_put h.at_.L 10 _ rfl) ⟨rfl, rfl, rfl, by simp, fun k hk => Below.heap_setCell _ _ _ k hk⟩
 rw [h.fc, h.fa] at h1
 have e : ({ l with most := m, fc := st.fc, fa := st.fa } : Lk) = { l with most := m } := by rw [← h.fc, ← h.fa]
 rw [e] at h1
 exact h1
theorem goesS_waits (f : SFn) (nn : Int) (st : VSt) (fr dst : Int) (stack : ByteArray) : (goesS f nn st fr dst stack).2.waits.length ≤ st.waits.length + 1 := by
 unfold goesS
 split
 ·exact Nat.le_succ _
 ·split
  ·split
   ·exact Nat.le_succ _
   ·exact Nat.le_succ _
  ·simp only [pushL_length]; omega
theorem meansS_jump (T : Nat → ByteArray × ByteArray) (x : SImage) (f : SFn) (i : SInstr) (h : i.f0 = 28 ∨ i.f0 = 29) (ho : (meansS T x f i).2.2 = true) : 0 ≤ i.f1 ∧ i.f1 < f.f4.length := by
 unfold meansS at ho
 rcases h with h | h
 all_goals
  rw [h] at ho
  simp only [show ¬((28 : Int) = 1) from by decide, show ¬((28 : Int) = 2) from by decide, show ¬((28 : Int) = 3) from by decide, show ¬((28 : Int) = 4) from by decide, show ¬((28 : Int) = 5) from by decide, show ¬((28 : Int) = 6) from by decide, show ¬((28 : Int) = 7) from by decide, show ¬((29 : Int) = 1) from by decide, show ¬((29 : Int) = 2) from by decide, show ¬((29 : Int) = 3) from by decide, show ¬((29 : Int) = 4) from by decide, show ¬((29 : Int) = 5) from by decide, show ¬((29 : Int) = 6) from by decide, show ¬((29 : Int) = 7) from by decide, show ¬((29 : Int) = 28) from by decide, if_false, if_true, Bool.and_eq_true, decide_eq_true_eq] at ho
  exact ho.2
theorem look_any (T : Nat → ByteArray × ByteArray) (w0 w : World) (x : SImage) (f : SFn) (nn : Int) (g : Nat) (l : Lk) (st : VSt) (h : LS w0 w x f nn g l st) (hT : Pln T w) (k : Nat) (hk : k < f.f4.length) (hws : st.waits.length ≤ 65530) (hTK : TOK T) (hss : (stackAt st k).size ≤ 400) :
  Calls Tryz.prog 94 #[.pointer (some ⟨g, 0, none⟩), .int .i64 k] w (LPost w0 w x f nn g l (lookS T x f nn st k)) := by
 obtain ⟨A, c, hv, hlc, hC⟩ := h.at_.R.co
 obtain ⟨ad, rfl, h0, h1, h2⟩ := at_TInstr (Kd.C_below hC h.at_.B) (k : Int) (by omega) (by omega)
 obtain ⟨i, hi⟩ : ∃ i, i = rd_TInstr f.f4 (k : Int) := ⟨_, rfl⟩
 rw [← hi] at h0 h1 h2
 simp only [Int.toNat_natCast] at h0 h1 h2
 have HI := Lib.hid (show i = zi f.f4 k from by rw [hi]; rfl)
 have hc6 := h.at_.L.at_.2.2.2.2.2.2.1
 rw [hv] at hc6
 have hc8 := h.at_.L.at_.2.2.2.2.2.2.2.2.1
 have hc10 := h.at_.L.at_.2.2.2.2.2.2.2.2.2.2.1
 have hll := h.at_.F.lc
 have hg := blk_lt h.at_.L
 have HH := Lib.hid h
 have HT := Lib.hid hT
 obtain ⟨stk, hstk⟩ : ∃ s, s = stackAt st k := ⟨_, rfl⟩
 have hgetD : (Instr.lookup 157 (.map (some l.m)) (.int .i64 k) false).run Tryz.prog w.drew = .ok (.string stk) w.drew := by
  rw [hstk]; exact noted_get (h.map.move (w' := w.drew) rfl) (k : Int)
 have hgetA : ∀ o, (Instr.lookup 157 (.map (some l.m)) (.int .i64 k) false).run Tryz.prog (w.alloc o).drew = .ok (.string stk) (w.alloc o).drew := fun o => by
  rw [hstk]; exact noted_get (h.map.move (w' := (w.alloc o).drew) ((below_alloc (Below.refl _ _) o).block _ h.map.lt)) (k : Int)
 have hgetB : ∀ o, (Instr.lookup 157 (.map (some l.m)) (.int .i64 k) false).run Tryz.prog (w.drew.alloc o) = .ok (.string stk) (w.drew.alloc o) := fun o => by
  rw [hstk]; exact noted_get (h.map.move (w' := w.drew.alloc o) ((below_alloc (Below.refl _ _) o).block _ h.map.lt)) (k : Int)
 have hw0 : ∀ o, (w.alloc o).cell? (ad.add (k * 3)) = some (.int .i64 i.f0) := fun o => pw_cell_below (below_alloc (Below.refl _ _) o) h0
 have hw1 : ∀ o, (w.alloc o).cell? ⟨(ad.add (k * 3)).block, (ad.add (k * 3)).off + 1, none⟩ = some (.int .i64 i.f1) := fun o => pw_cell_below (below_alloc (Below.refl _ _) o) h1
 have hw2 : ∀ o, (w.alloc o).cell? ⟨(ad.add (k * 3)).block, (ad.add (k * 3)).off + 2, none⟩ = some (.int .i64 i.f2) := fun o => pw_cell_below (below_alloc (Below.refl _ _) o) h2
 have hz0 : ∀ o, (w.drew.alloc o).cell? (ad.add (k * 3)) = some (.int .i64 i.f0) := fun o => pw_cell_below (below_alloc (below_drew (Below.refl _ _)) o) h0
 have hz1 : ∀ o, (w.drew.alloc o).cell? ⟨(ad.add (k * 3)).block, (ad.add (k * 3)).off + 1, none⟩ = some (.int .i64 i.f1) := fun o => pw_cell_below (below_alloc (below_drew (Below.refl _ _)) o) h1
 have hz2 : ∀ o, (w.drew.alloc o).cell? ⟨(ad.add (k * 3)).block, (ad.add (k * 3)).off + 2, none⟩ = some (.int .i64 i.f2) := fun o => pw_cell_below (below_alloc (below_drew (Below.refl _ _)) o) h2
 have HST := Lib.hid hstk
 clear h hT hv hC hi hstk
 obtain ⟨r, hr⟩ : ∃ r, r = lookS T x f nn st k := ⟨_, rfl⟩
 have HR0 := Lib.hid hr
 rw [← hr]
 clear hr
 go_enter Tryz.func94, Tryz.ntmps94
 go_wp2_with fail
 go_region
 have hW : ∃ W1, W1 = (w.alloc (Obj.cells #[Value.int IntKind.i64 i.f0, Value.int IntKind.i64 i.f1, Value.int IntKind.i64 i.f2] 56)).drew := ⟨_, rfl⟩
 obtain ⟨W1, hW⟩ := hW
 rw [← hW]
 have HB1 := Lib.hid (show Below w.heap.size w W1 from by rw [hW]; exact below_drew (below_alloc (Below.refl _ _) _))
 have HX1 := Lib.hid (show W1.heap[w.heap.size]? = some (.cells #[.int .i64 i.f0, .int .i64 i.f1, .int .i64 i.f2] 56 (0, 0)) from by rw [hW]; exact heap_alloc_new w _)
 have HS1 := Lib.hid (HH.out.below HB1.out)
 have HT1 := Lib.hid (HT.out.below HB1.out)
 have hI := HI.out
 have HFi := Lib.hid (HH.out.at_.F.ins i (by rw [hI]; exact getD_mem_instr f.f4 k hk))
 have hstk : stk.size ≤ 400 := by rw [HST.out]; exact hss
 have HSZ := Lib.hid (meansS_size T x f i HH.out.at_.X hTK ⟨HFi.out.1, HFi.out.2.1⟩)
 have HBX := Lib.hid (show w.heap.size ≠ g ∧ w.heap.size ≠ l.m ∧ some w.heap.size ≠ l.s.ownBlock from ⟨by omega, by have := HH.out.map.lt; omega, fun e => by have := PR_lt HH.out.row _ e.symm; omega⟩)
 have HNG := Lib.hid (show g ≠ w.heap.size by omega)
 obtain ⟨bx, hbx⟩ : ∃ bx, bx = w.heap.size := ⟨_, rfl⟩
 rw [← hbx] at HX1 HBX HNG ⊢
 have hbl : bx < W1.heap.size := blk_lt HX1.out
 clear hgetD hgetA hgetB hw0 hw1 hw2 hz0 hz1 hz2 h0 h1 h2 hc6 hc8 hc10 hg hW hbx hI hss
 obtain ⟨x0, x1, x2⟩ := cells3 HX1.out
 go_wp2_with fail
 refine (means_any T w0 W1 x f g l HS1.out.at_ HT1.out i HFi.out).mono ?_
 rintro e w2 ⟨rfl, hb2⟩
 have HS2 := Lib.hid (HS1.out.below hb2)
 have HF2 := Lib.hid ((FL.below g l HB1.out).trans (FL.below g l hb2))
 have HX2 := Lib.hid ((hb2.block bx hbl).trans HX1.out)
 have HT2 := Lib.hid (HT1.out.below hb2)
 have HR := Lib.hid (show r = let m := meansS T x f i
  if m.2.2 then
   if endsB stk m.1 then
    if 400 < (cutS stk m.1 m.2.1).size ∨ (i.f0 = 32 ∧ ((cutS stk m.1 m.2.1).toList == []) = false) then (false, { st with most := max st.most stk.size, fc := 162, fa := nn * 65536 + k })
    else onS f nn { st with most := max (max st.most stk.size) (cutS stk m.1 m.2.1).size } k i (cutS stk m.1 m.2.1)
   else (false, { st with fc := 162, fa := nn * 65536 + k })
  else (false, { st with fc := if i.f0 = 28 ∨ i.f0 = 29 then 161 else 163, fa := nn * 65536 + k }) from by rw [HR0.out, HI.out, HST.out]; rfl)
 clear hb2 x0 x1 x2 hbl
 obtain ⟨⟨takes, puts, ok⟩, hm⟩ : ∃ m, m = meansS T x f i := ⟨_, rfl⟩
 have HM := Lib.hid hm
 rw [← hm] at HR HSZ ⊢
 clear hm
 simp only at HR HSZ ⊢
 have hts := HSZ.out.1
 have hps := HSZ.out.2
 obtain ⟨x0, x1, x2⟩ := cells3 HX2.out
 have hc10 := HS2.out.at_.L.at_.2.2.2.2.2.2.2.2.2.2.1
 have hf10 : w2.frozen? ⟨g, 10, none⟩ = false := blk_frozen HS2.out.at_.L 10
 have hbl : bx < w2.heap.size := blk_lt HX2.out
 have hgl : g < w2.heap.size := blk_lt HS2.out.at_.L
 have hkind : ((i.f0 == 28) = true ∧ (i.f0 == 29) = false ∧ (i.f0 == 32) = false) ∨ ((i.f0 == 28) = false ∧ (i.f0 == 29) = true ∧ (i.f0 == 32) = false) ∨ ((i.f0 == 28) = false ∧ (i.f0 == 29) = false ∧ (i.f0 == 32) = true) ∨ ((i.f0 == 28) = false ∧ (i.f0 == 29) = false ∧ (i.f0 == 32) = false) := by
  simp only [beq_iff_eq, beq_eq_false_iff_ne]; omega
 cases ok
 ·have HC := Lib.hid (show r = (false, { st with fc := if i.f0 = 28 ∨ i.f0 = 29 then 161 else 163, fa := nn * 65536 + k }) from by rw [HR.out]; rfl)
  rcases hkind with ⟨e28, e29, e32⟩ | ⟨e28, e29, e32⟩ | ⟨e28, e29, e32⟩ | ⟨e28, e29, e32⟩
  all_goals
   have HC2 := Lib.hid (show (if i.f0 = 28 ∨ i.f0 = 29 then (161 : Int) else 163) = if (i.f0 == 28) || (i.f0 == 29) then 161 else 163 from by simp)
   rw [e28, e29] at HC2
   go_wp2_with fail
   refine (wrong_any w2 g l HS2.out.at_.L (by have := HS2.out.n; have := HS2.out.nb; omega) _ k (by omega)).mono ?_
   rintro e w3 ⟨rfl, hL, ho⟩
   have HO := Lib.hid (HS2.out.numbers l.most _ (l.n * 65536 + k) hL ho)
   clear hL ho
   go_wp2_with fail
   go_ret
   exact ⟨by rw [HC.out]; rfl, _, by rw [HC.out, HC2.out]; have h1 := HO.out.1; rw [HS2.out.n, HS2.out.most] at h1; rw [HS2.out.n, HS2.out.most]; exact h1, HF2.out.trans HO.out.2⟩
 ·have HJ := Lib.hid (show i.f0 = 28 ∨ i.f0 = 29 → 0 ≤ i.f1 ∧ i.f1 < f.f4.length from fun h => meansS_jump T x f i h (by rw [← HM.out]))
  obtain ⟨s2, hcut⟩ : ∃ s2, stk.extract 0 (stk.size - takes.size) ++ puts = s2 := ⟨_, rfl⟩
  have HCUT := Lib.hid (show cutS stk takes puts = s2 from hcut)
  have hs2 : takes.size ≤ stk.size → s2.size = stk.size - takes.size + puts.size := fun hle => by rw [← hcut, ByteArray.size_append, ByteArray.size_extract]; omega
  obtain ⟨bl, hbl⟩ : ∃ b, decide ((400 : Int) < ((stk.size - takes.size : Nat) : Int) + (puts.size : Int)) = b := ⟨_, rfl⟩
  obtain ⟨be, hbe⟩ : ∃ b, (s2.toList == []) = b := ⟨_, rfl⟩
  have HBL := Lib.hid hbl
  have HBE := Lib.hid hbe
  rcases hkind with ⟨e28, e29, e32⟩ | ⟨e28, e29, e32⟩ | ⟨e28, e29, e32⟩ | ⟨e28, e29, e32⟩
  ·clear hbl hbe
   go_wp2_with fail
   refine (asB (ends_any stk takes w2 (by omega) (by omega))).mono ?_
   rintro e w3 ⟨b, rfl, HE, HW⟩
   have HB3 := Lib.hid (drawn_below HW.out)
   cases b
   ·have HC := Lib.hid (show r = (false, { st with fc := 162, fa := nn * 65536 + k }) from by rw [HR.out, ← HE.out]; rfl)
    go_wp2_with fail
    refine (wrong_any w3 g l (HS2.out.below HB3.out).at_.L (by have := HS2.out.n; have := HS2.out.nb; omega) _ k (by omega)).mono ?_
    rintro e w4 ⟨rfl, hL, ho⟩
    have HO := Lib.hid ((HS2.out.below HB3.out).numbers l.most _ (l.n * 65536 + k) hL ho)
    clear hL ho
    go_wp2_with fail
    go_ret
    exact ⟨by rw [HC.out]; rfl, _, by rw [HC.out]; have h1 := HO.out.1; rw [HS2.out.n, HS2.out.most] at h1; rw [HS2.out.n, HS2.out.most]; exact h1, (HF2.out.trans (FL.below g l HB3.out)).trans HO.out.2⟩
   ·have hle : takes.size ≤ stk.size := by
     have := HE.out
     unfold endsB at this
     rw [eq_comm, Bool.and_eq_true] at this
     exact of_decide_eq_true this.1
    have HC := Lib.hid (show r = if 400 < s2.size ∨ (i.f0 = 32 ∧ (s2.toList == []) = false) then (false, { st with most := max st.most stk.size, fc := 162, fa := nn * 65536 + k }) else onS f nn { st with most := max (max st.most stk.size) s2.size } k i s2 from by rw [HR.out, ← HE.out, HCUT.out]; rfl)
    have hss2 := hs2 hle
    obtain ⟨q, rfl⟩ := HW.out
    have hbl := HBL.out
    have hbe := HBE.out
    have HS4 := Lib.hid ((HS2.out.below HB3.out).mosts (max l.most stk.size))
    have HF4 := Lib.hid ((HF2.out.trans (FL.below g l HB3.out)).trans HS4.out.2)
    have HBAD : Hid (400 < s2.size ∨ (i.f0 = 32 ∧ (s2.toList == []) = false) → r = (false, { st with most := max st.most stk.size, fc := 162, fa := nn * 65536 + k })) := fun h => by rw [HC.out, if_pos h]
    have HGOOD : Hid (¬ (400 < s2.size ∨ (i.f0 = 32 ∧ (s2.toList == []) = false)) → r = onS f nn { st with most := max (max st.most stk.size) s2.size } k i s2) := fun h => by rw [HC.out, if_neg h]
    have HS5 := Lib.hid (HS4.out.1.mosts (max l.most (max (stk.size : Int) (((stk.size - takes.size : Nat) : Int) + (puts.size : Int)))))
    have HF5 := Lib.hid (HF4.out.trans HS5.out.2)
    have HX5 := Lib.hid (show (((w2.drewN q).setCell ⟨g, 10, none⟩ (.int .i64 (max l.most stk.size))).setCell ⟨g, 10, none⟩ (.int .i64 (max l.most (max (stk.size : Int) (((stk.size - takes.size : Nat) : Int) + (puts.size : Int)))))).heap[bx]? = some (.cells #[.int .i64 i.f0, .int .i64 i.f1, .int .i64 i.f2] 56 (0, 0)) from by
     rw [Below.heap_setCell _ _ _ bx HBX.out.1, Below.heap_setCell _ _ _ bx HBX.out.1]; exact HX2.out)
    have HME := Lib.hid (show (max l.most (max (stk.size : Int) (((stk.size - takes.size : Nat) : Int) + (puts.size : Int)))) = max (max st.most (stk.size : Int)) (s2.size : Int) from by rw [HS2.out.most]; omega)
    have HS6 := Lib.hid (show LS w0 _ x f nn g _ { st with most := max (max st.most stk.size) s2.size } from by have h := HS5.out.1; rw [HME.out] at h; exact h)
    cases bl
    ·have HQ := Lib.hid (show r = onS f nn { st with most := max (max st.most stk.size) s2.size } k i s2 from HGOOD.out (by
      intro h
      rcases h with h | h
      ·have := of_decide_eq_false hbl; omega
      ·have : i.f0 = 28 := by simpa using e28
       omega))
     have hj := HJ.out (.inl (by simpa using e28))
     obtain ⟨⟨b1, st1⟩, hr1⟩ : ∃ r1, r1 = goesS f nn { st with most := max (max st.most stk.size) s2.size } k i.f1 s2 := ⟨_, rfl⟩
     have HWT := Lib.hid (show st1.waits.length ≤ st.waits.length + 1 from by have h := goesS_waits f nn { st with most := max (max st.most stk.size) s2.size } k i.f1 s2; rw [← hr1] at h; exact h)
     have HQ2 := Lib.hid (show r = (b1, st1) from by
      rw [HQ.out, onS_28 _ _ _ _ _ _ (by simpa using e28), ← hr1])
     have HG := Lib.hid (goes_any w0 _ x f nn g _ { st with most := max (max st.most stk.size) s2.size } HS6.out k i.f1 s2 (by omega) (by omega) (by show st.waits.length ≤ 65536; omega))
     rw [← hr1] at HG
     clear hr1
     go_wp2_with fail
     rw [show (max l.most (max (stk.size : Int) (((stk.size - takes.size : Nat) : Int) + (puts.size : Int)))) = max (max st.most (stk.size : Int)) (s2.size : Int) from HME.out]
     refine HG.out.mono ?_
     rintro e w6 ⟨rfl, l6, hl6, hf6⟩
     have HL6 := Lib.hid hl6
     have HF6 := Lib.hid (show FL w g l w6 l6 from HF5.out.trans (by rw [HME.out]; exact hf6))
     have HX6 := Lib.hid (show w6.heap[bx]? = some (.cells #[.int .i64 i.f0, .int .i64 i.f1, .int .i64 i.f2] 56 (0, 0)) from (hf6.block bx (by rw [← HME.out]; exact blk_lt HX5.out) HBX.out.1 HBX.out.2.1 HBX.out.2.2).trans (by rw [← HME.out]; exact HX5.out))
     clear hl6 hf6 x0 x1 x2 hbl
     obtain ⟨x0, x1, x2⟩ := cells3 HX6.out
     cases b1
     all_goals
      go_wp2_with fail
      go_ret
      exact ⟨by rw [HQ2.out]; rfl, l6, by rw [HQ2.out]; exact HL6.out, HF6.out⟩
    ·have HQ := Lib.hid (show r = (false, { st with most := max st.most stk.size, fc := 162, fa := nn * 65536 + k }) from HBAD.out (.inl (by have := of_decide_eq_true hbl; omega)))
     go_wp2_with fail
     refine (wrong_any _ g _ HS4.out.1.at_.L (by have := HS2.out.n; have := HS2.out.nb; show 0 ≤ l.n ∧ l.n ≤ 1000; omega) _ k (by omega)).mono ?_
     rintro e w4 ⟨rfl, hL, ho⟩
     have HO := Lib.hid (HS4.out.1.numbers (max l.most stk.size) _ (l.n * 65536 + k) hL ho)
     clear hL ho
     go_wp2_with fail
     go_ret
     exact ⟨by rw [HQ.out]; rfl, _, by rw [HQ.out]; have h1 := HO.out.1; rw [HS2.out.n, HS2.out.most] at h1; rw [HS2.out.n, HS2.out.most]; exact h1, HF4.out.trans HO.out.2⟩
  ·clear hbl hbe
   go_wp2_with fail
   refine (asB (ends_any stk takes w2 (by omega) (by omega))).mono ?_
   rintro e w3 ⟨b, rfl, HE, HW⟩
   have HB3 := Lib.hid (drawn_below HW.out)
   cases b
   ·have HC := Lib.hid (show r = (false, { st with fc := 162, fa := nn * 65536 + k }) from by rw [HR.out, ← HE.out]; rfl)
    go_wp2_with fail
    refine (wrong_any w3 g l (HS2.out.below HB3.out).at_.L (by have := HS2.out.n; have := HS2.out.nb; omega) _ k (by omega)).mono ?_
    rintro e w4 ⟨rfl, hL, ho⟩
    have HO := Lib.hid ((HS2.out.below HB3.out).numbers l.most _ (l.n * 65536 + k) hL ho)
    clear hL ho
    go_wp2_with fail
    go_ret
    exact ⟨by rw [HC.out]; rfl, _, by rw [HC.out]; have h1 := HO.out.1; rw [HS2.out.n, HS2.out.most] at h1; rw [HS2.out.n, HS2.out.most]; exact h1, (HF2.out.trans (FL.below g l HB3.out)).trans HO.out.2⟩
   ·have hle : takes.size ≤ stk.size := by
     have := HE.out
     unfold endsB at this
     rw [eq_comm, Bool.and_eq_true] at this
     exact of_decide_eq_true this.1
    have HC := Lib.hid (show r = if 400 < s2.size ∨ (i.f0 = 32 ∧ (s2.toList == []) = false) then (false, { st with most := max st.most stk.size, fc := 162, fa := nn * 65536 + k }) else onS f nn { st with most := max (max st.most stk.size) s2.size } k i s2 from by rw [HR.out, ← HE.out, HCUT.out]; rfl)
    have hss2 := hs2 hle
    obtain ⟨q, rfl⟩ := HW.out
    have hbl := HBL.out
    have hbe := HBE.out
    have HS4 := Lib.hid ((HS2.out.below HB3.out).mosts (max l.most stk.size))
    have HF4 := Lib.hid ((HF2.out.trans (FL.below g l HB3.out)).trans HS4.out.2)
    have HBAD : Hid (400 < s2.size ∨ (i.f0 = 32 ∧ (s2.toList == []) = false) → r = (false, { st with most := max st.most stk.size, fc := 162, fa := nn * 65536 + k })) := fun h => by rw [HC.out, if_pos h]
    have HGOOD : Hid (¬ (400 < s2.size ∨ (i.f0 = 32 ∧ (s2.toList == []) = false)) → r = onS f nn { st with most := max (max st.most stk.size) s2.size } k i s2) := fun h => by rw [HC.out, if_neg h]
    have HS5 := Lib.hid (HS4.out.1.mosts (max l.most (max (stk.size : Int) (((stk.size - takes.size : Nat) : Int) + (puts.size : Int)))))
    have HF5 := Lib.hid (HF4.out.trans HS5.out.2)
    have HX5 := Lib.hid (show (((w2.drewN q).setCell ⟨g, 10, none⟩ (.int .i64 (max l.most stk.size))).setCell ⟨g, 10, none⟩ (.int .i64 (max l.most (max (stk.size : Int) (((stk.size - takes.size : Nat) : Int) + (puts.size : Int)))))).heap[bx]? = some (.cells #[.int .i64 i.f0, .int .i64 i.f1, .int .i64 i.f2] 56 (0, 0)) from by
     rw [Below.heap_setCell _ _ _ bx HBX.out.1, Below.heap_setCell _ _ _ bx HBX.out.1]; exact HX2.out)
    have HME := Lib.hid (show (max l.most (max (stk.size : Int) (((stk.size - takes.size : Nat) : Int) + (puts.size : Int)))) = max (max st.most (stk.size : Int)) (s2.size : Int) from by rw [HS2.out.most]; omega)
    have HS6 := Lib.hid (show LS w0 _ x f nn g _ { st with most := max (max st.most stk.size) s2.size } from by have h := HS5.out.1; rw [HME.out] at h; exact h)
    cases bl
    ·have HQ := Lib.hid (show r = onS f nn { st with most := max (max st.most stk.size) s2.size } k i s2 from HGOOD.out (by
      intro h
      rcases h with h | h
      ·have := of_decide_eq_false hbl; omega
      ·have : i.f0 = 29 := by simpa using e29
       omega))
     have hj := HJ.out (.inr (by simpa using e29))
     obtain ⟨⟨b1, st1⟩, hr1⟩ : ∃ r1, r1 = goesS f nn { st with most := max (max st.most stk.size) s2.size } k i.f1 s2 := ⟨_, rfl⟩
     have HWT := Lib.hid (show st1.waits.length ≤ st.waits.length + 1 from by have h := goesS_waits f nn { st with most := max (max st.most stk.size) s2.size } k i.f1 s2; rw [← hr1] at h; exact h)
     have HQ2 := Lib.hid (show r = if b1 then goesS f nn st1 k (k + 1) s2 else (false, st1) from by
      rw [HQ.out, onS_29 _ _ _ _ _ _ (by simpa using e29), ← hr1])
     have HG := Lib.hid (goes_any w0 _ x f nn g _ { st with most := max (max st.most stk.size) s2.size } HS6.out k i.f1 s2 (by omega) (by omega) (by show st.waits.length ≤ 65536; omega))
     rw [← hr1] at HG
     clear hr1
     go_wp2_with fail
     rw [show (max l.most (max (stk.size : Int) (((stk.size - takes.size : Nat) : Int) + (puts.size : Int)))) = max (max st.most (stk.size : Int)) (s2.size : Int) from HME.out]
     refine HG.out.mono ?_
     rintro e w6 ⟨rfl, l6, hl6, hf6⟩
     have HL6 := Lib.hid hl6
     have HF6 := Lib.hid (show FL w g l w6 l6 from HF5.out.trans (by rw [HME.out]; exact hf6))
     have HX6 := Lib.hid (show w6.heap[bx]? = some (.cells #[.int .i64 i.f0, .int .i64 i.f1, .int .i64 i.f2] 56 (0, 0)) from (hf6.block bx (by rw [← HME.out]; exact blk_lt HX5.out) HBX.out.1 HBX.out.2.1 HBX.out.2.2).trans (by rw [← HME.out]; exact HX5.out))
     clear hl6 hf6 x0 x1 x2 hbl
     obtain ⟨x0, x1, x2⟩ := cells3 HX6.out
     cases b1
     ·go_wp2_with fail
      go_ret
      exact ⟨by rw [HQ2.out]; rfl, l6, by rw [HQ2.out]; exact HL6.out, HF6.out⟩
     ·go_wp2_with fail
      refine (goes_any w0 _ x f nn g _ st1 HL6.out k (k + 1) s2 (by omega) (by omega) (by have := HWT.out; omega)).mono ?_
      rintro e w7 ⟨rfl, l7, hl7, hf7⟩
      have HL7 := Lib.hid hl7
      have HF7 := Lib.hid (HF6.out.trans hf7)
      clear hl7 hf7
      go_wp2_with fail
      go_ret
      exact ⟨by rw [HQ2.out]; rfl, l7, by rw [HQ2.out]; exact HL7.out, HF7.out⟩
    ·have HQ := Lib.hid (show r = (false, { st with most := max st.most stk.size, fc := 162, fa := nn * 65536 + k }) from HBAD.out (.inl (by have := of_decide_eq_true hbl; omega)))
     go_wp2_with fail
     refine (wrong_any _ g _ HS4.out.1.at_.L (by have := HS2.out.n; have := HS2.out.nb; show 0 ≤ l.n ∧ l.n ≤ 1000; omega) _ k (by omega)).mono ?_
     rintro e w4 ⟨rfl, hL, ho⟩
     have HO := Lib.hid (HS4.out.1.numbers (max l.most stk.size) _ (l.n * 65536 + k) hL ho)
     clear hL ho
     go_wp2_with fail
     go_ret
     exact ⟨by rw [HQ.out]; rfl, _, by rw [HQ.out]; have h1 := HO.out.1; rw [HS2.out.n, HS2.out.most] at h1; rw [HS2.out.n, HS2.out.most]; exact h1, HF4.out.trans HO.out.2⟩
  ·clear hbl hbe
   go_wp2_with fail
   refine (asB (ends_any stk takes w2 (by omega) (by omega))).mono ?_
   rintro e w3 ⟨b, rfl, HE, HW⟩
   have HB3 := Lib.hid (drawn_below HW.out)
   cases b
   ·have HC := Lib.hid (show r = (false, { st with fc := 162, fa := nn * 65536 + k }) from by rw [HR.out, ← HE.out]; rfl)
    go_wp2_with fail
    refine (wrong_any w3 g l (HS2.out.below HB3.out).at_.L (by have := HS2.out.n; have := HS2.out.nb; omega) _ k (by omega)).mono ?_
    rintro e w4 ⟨rfl, hL, ho⟩
    have HO := Lib.hid ((HS2.out.below HB3.out).numbers l.most _ (l.n * 65536 + k) hL ho)
    clear hL ho
    go_wp2_with fail
    go_ret
    exact ⟨by rw [HC.out]; rfl, _, by rw [HC.out]; have h1 := HO.out.1; rw [HS2.out.n, HS2.out.most] at h1; rw [HS2.out.n, HS2.out.most]; exact h1, (HF2.out.trans (FL.below g l HB3.out)).trans HO.out.2⟩
   ·have hle : takes.size ≤ stk.size := by
     have := HE.out
     unfold endsB at this
     rw [eq_comm, Bool.and_eq_true] at this
     exact of_decide_eq_true this.1
    have HC := Lib.hid (show r = if 400 < s2.size ∨ (i.f0 = 32 ∧ (s2.toList == []) = false) then (false, { st with most := max st.most stk.size, fc := 162, fa := nn * 65536 + k }) else onS f nn { st with most := max (max st.most stk.size) s2.size } k i s2 from by rw [HR.out, ← HE.out, HCUT.out]; rfl)
    have hss2 := hs2 hle
    obtain ⟨q, rfl⟩ := HW.out
    have hbl := HBL.out
    have hbe := HBE.out
    have HS4 := Lib.hid ((HS2.out.below HB3.out).mosts (max l.most stk.size))
    have HF4 := Lib.hid ((HF2.out.trans (FL.below g l HB3.out)).trans HS4.out.2)
    have HBAD : Hid (400 < s2.size ∨ (i.f0 = 32 ∧ (s2.toList == []) = false) → r = (false, { st with most := max st.most stk.size, fc := 162, fa := nn * 65536 + k })) := fun h => by rw [HC.out, if_pos h]
    have HGOOD : Hid (¬ (400 < s2.size ∨ (i.f0 = 32 ∧ (s2.toList == []) = false)) → r = onS f nn { st with most := max (max st.most stk.size) s2.size } k i s2) := fun h => by rw [HC.out, if_neg h]
    have HS5 := Lib.hid (HS4.out.1.mosts (max l.most (max (stk.size : Int) (((stk.size - takes.size : Nat) : Int) + (puts.size : Int)))))
    have HF5 := Lib.hid (HF4.out.trans HS5.out.2)
    have HX5 := Lib.hid (show (((w2.drewN q).setCell ⟨g, 10, none⟩ (.int .i64 (max l.most stk.size))).setCell ⟨g, 10, none⟩ (.int .i64 (max l.most (max (stk.size : Int) (((stk.size - takes.size : Nat) : Int) + (puts.size : Int)))))).heap[bx]? = some (.cells #[.int .i64 i.f0, .int .i64 i.f1, .int .i64 i.f2] 56 (0, 0)) from by
     rw [Below.heap_setCell _ _ _ bx HBX.out.1, Below.heap_setCell _ _ _ bx HBX.out.1]; exact HX2.out)
    have HME := Lib.hid (show (max l.most (max (stk.size : Int) (((stk.size - takes.size : Nat) : Int) + (puts.size : Int)))) = max (max st.most (stk.size : Int)) (s2.size : Int) from by rw [HS2.out.most]; omega)
    have HS6 := Lib.hid (show LS w0 _ x f nn g _ { st with most := max (max st.most stk.size) s2.size } from by have h := HS5.out.1; rw [HME.out] at h; exact h)
    cases bl
    ·cases be
     ·have HQ := Lib.hid (show r = (false, { st with most := max st.most stk.size, fc := 162, fa := nn * 65536 + k }) from HBAD.out (.inr ⟨by simpa using e32, hbe⟩))
      go_wp2_with fail
      refine (wrong_any _ g _ HS4.out.1.at_.L (by have := HS2.out.n; have := HS2.out.nb; show 0 ≤ l.n ∧ l.n ≤ 1000; omega) _ k (by omega)).mono ?_
      rintro e w4 ⟨rfl, hL, ho⟩
      have HO := Lib.hid (HS4.out.1.numbers (max l.most stk.size) _ (l.n * 65536 + k) hL ho)
      clear hL ho
      go_wp2_with fail
      go_ret
      exact ⟨by rw [HQ.out]; rfl, _, by rw [HQ.out]; have h1 := HO.out.1; rw [HS2.out.n, HS2.out.most] at h1; rw [HS2.out.n, HS2.out.most]; exact h1, HF4.out.trans HO.out.2⟩
     ·have HQ := Lib.hid (show r = onS f nn { st with most := max (max st.most stk.size) s2.size } k i s2 from HGOOD.out (by
       intro h
       rcases h with h | h
       ·have := of_decide_eq_false hbl; omega
       ·exact absurd h.2 (by rw [hbe]; decide)))
      have HQ2 := Lib.hid (HQ.out.trans (onS_32 _ _ _ _ _ _ (by simpa using e32)))
      go_wp2_with fail
      rw [show (max l.most (max (stk.size : Int) (((stk.size - takes.size : Nat) : Int) + (puts.size : Int)))) = max (max st.most (stk.size : Int)) (s2.size : Int) from HME.out]
      go_ret
      exact ⟨by rw [HQ2.out]; rfl, _, by rw [HQ2.out]; exact HS6.out, by rw [← HME.out]; exact HF5.out⟩
    ·have HQ := Lib.hid (show r = (false, { st with most := max st.most stk.size, fc := 162, fa := nn * 65536 + k }) from HBAD.out (.inl (by have := of_decide_eq_true hbl; omega)))
     go_wp2_with fail
     refine (wrong_any _ g _ HS4.out.1.at_.L (by have := HS2.out.n; have := HS2.out.nb; show 0 ≤ l.n ∧ l.n ≤ 1000; omega) _ k (by omega)).mono ?_
     rintro e w4 ⟨rfl, hL, ho⟩
     have HO := Lib.hid (HS4.out.1.numbers (max l.most stk.size) _ (l.n * 65536 + k) hL ho)
     clear hL ho
     go_wp2_with fail
     go_ret
     exact ⟨by rw [HQ.out]; rfl, _, by rw [HQ.out]; have h1 := HO.out.1; rw [HS2.out.n, HS2.out.most] at h1; rw [HS2.out.n, HS2.out.most]; exact h1, HF4.out.trans HO.out.2⟩
  ·clear hbl hbe
   go_wp2_with fail
   refine (asB (ends_any stk takes w2 (by omega) (by omega))).mono ?_
   rintro e w3 ⟨b, rfl, HE, HW⟩
   have HB3 := Lib.hid (drawn_below HW.out)
   cases b
   ·have HC := Lib.hid (show r = (false, { st with fc := 162, fa := nn * 65536 + k }) from by rw [HR.out, ← HE.out]; rfl)
    go_wp2_with fail
    refine (wrong_any w3 g l (HS2.out.below HB3.out).at_.L (by have := HS2.out.n; have := HS2.out.nb; omega) _ k (by omega)).mono ?_
    rintro e w4 ⟨rfl, hL, ho⟩
    have HO := Lib.hid ((HS2.out.below HB3.out).numbers l.most _ (l.n * 65536 + k) hL ho)
    clear hL ho
    go_wp2_with fail
    go_ret
    exact ⟨by rw [HC.out]; rfl, _, by rw [HC.out]; have h1 := HO.out.1; rw [HS2.out.n, HS2.out.most] at h1; rw [HS2.out.n, HS2.out.most]; exact h1, (HF2.out.trans (FL.below g l HB3.out)).trans HO.out.2⟩
   ·have hle : takes.size ≤ stk.size := by
     have := HE.out
     unfold endsB at this
     rw [eq_comm, Bool.and_eq_true] at this
     exact of_decide_eq_true this.1
    have HC := Lib.hid (show r = if 400 < s2.size ∨ (i.f0 = 32 ∧ (s2.toList == []) = false) then (false, { st with most := max st.most stk.size, fc := 162, fa := nn * 65536 + k }) else onS f nn { st with most := max (max st.most stk.size) s2.size } k i s2 from by rw [HR.out, ← HE.out, HCUT.out]; rfl)
    have hss2 := hs2 hle
    obtain ⟨q, rfl⟩ := HW.out
    have hbl := HBL.out
    have hbe := HBE.out
    have HS4 := Lib.hid ((HS2.out.below HB3.out).mosts (max l.most stk.size))
    have HF4 := Lib.hid ((HF2.out.trans (FL.below g l HB3.out)).trans HS4.out.2)
    have HBAD : Hid (400 < s2.size ∨ (i.f0 = 32 ∧ (s2.toList == []) = false) → r = (false, { st with most := max st.most stk.size, fc := 162, fa := nn * 65536 + k })) := fun h => by rw [HC.out, if_pos h]
    have HGOOD : Hid (¬ (400 < s2.size ∨ (i.f0 = 32 ∧ (s2.toList == []) = false)) → r = onS f nn { st with most := max (max st.most stk.size) s2.size } k i s2) := fun h => by rw [HC.out, if_neg h]
    have HS5 := Lib.hid (HS4.out.1.mosts (max l.most (max (stk.size : Int) (((stk.size - takes.size : Nat) : Int) + (puts.size : Int)))))
    have HF5 := Lib.hid (HF4.out.trans HS5.out.2)
    have HX5 := Lib.hid (show (((w2.drewN q).setCell ⟨g, 10, none⟩ (.int .i64 (max l.most stk.size))).setCell ⟨g, 10, none⟩ (.int .i64 (max l.most (max (stk.size : Int) (((stk.size - takes.size : Nat) : Int) + (puts.size : Int)))))).heap[bx]? = some (.cells #[.int .i64 i.f0, .int .i64 i.f1, .int .i64 i.f2] 56 (0, 0)) from by
     rw [Below.heap_setCell _ _ _ bx HBX.out.1, Below.heap_setCell _ _ _ bx HBX.out.1]; exact HX2.out)
    have HME := Lib.hid (show (max l.most (max (stk.size : Int) (((stk.size - takes.size : Nat) : Int) + (puts.size : Int)))) = max (max st.most (stk.size : Int)) (s2.size : Int) from by rw [HS2.out.most]; omega)
    have HS6 := Lib.hid (show LS w0 _ x f nn g _ { st with most := max (max st.most stk.size) s2.size } from by have h := HS5.out.1; rw [HME.out] at h; exact h)
    cases bl
    ·have HQ := Lib.hid (show r = onS f nn { st with most := max (max st.most stk.size) s2.size } k i s2 from HGOOD.out (by
      intro h
      rcases h with h | h
      ·have := of_decide_eq_false hbl; omega
      ·have : ¬ i.f0 = 32 := by simpa using e32
       omega))
     obtain ⟨⟨b1, st1⟩, hr1⟩ : ∃ r1, r1 = goesS f nn { st with most := max (max st.most stk.size) s2.size } k (k + 1) s2 := ⟨_, rfl⟩
     have HQ2 := Lib.hid (show r = (b1, st1) from by rw [hr1]; exact HQ.out.trans (onS_00 _ _ _ _ _ _ ⟨by simpa using e28, by simpa using e29, by simpa using e32⟩))
     have HG := Lib.hid (goes_any w0 _ x f nn g _ { st with most := max (max st.most stk.size) s2.size } HS6.out k (k + 1) s2 (by omega) (by omega) (by show st.waits.length ≤ 65536; omega))
     rw [← hr1] at HG
     clear hr1
     go_wp2_with fail
     rw [show (max l.most (max (stk.size : Int) (((stk.size - takes.size : Nat) : Int) + (puts.size : Int)))) = max (max st.most (stk.size : Int)) (s2.size : Int) from HME.out]
     refine HG.out.mono ?_
     rintro e w6 ⟨rfl, l6, hl6, hf6⟩
     have HL6 := Lib.hid hl6
     have HF6 := Lib.hid (show FL w g l w6 l6 from HF5.out.trans (by rw [HME.out]; exact hf6))
     clear hl6 hf6
     go_wp2_with fail
     go_ret
     exact ⟨by rw [HQ2.out]; rfl, l6, by rw [HQ2.out]; exact HL6.out, HF6.out⟩
    ·have HQ := Lib.hid (show r = (false, { st with most := max st.most stk.size, fc := 162, fa := nn * 65536 + k }) from HBAD.out (.inl (by have := of_decide_eq_true hbl; omega)))
     go_wp2_with fail
     refine (wrong_any _ g _ HS4.out.1.at_.L (by have := HS2.out.n; have := HS2.out.nb; show 0 ≤ l.n ∧ l.n ≤ 1000; omega) _ k (by omega)).mono ?_
     rintro e w4 ⟨rfl, hL, ho⟩
     have HO := Lib.hid (HS4.out.1.numbers (max l.most stk.size) _ (l.n * 65536 + k) hL ho)
     clear hL ho
     go_wp2_with fail
     go_ret
     exact ⟨by rw [HQ.out]; rfl, _, by rw [HQ.out]; have h1 := HO.out.1; rw [HS2.out.n, HS2.out.most] at h1; rw [HS2.out.n, HS2.out.most]; exact h1, HF4.out.trans HO.out.2⟩
theorem getD_mem_i (xs : List Int) (i : Nat) (h : i < xs.length) : xs.getD i 0 ∈ xs := by
 rw [List.getD_eq_getElem?_getD, List.getElem?_eq_getElem h]; exact List.getElem_mem h
theorem swapL_mem (xs : List Int) (i j : Nat) (hi : i < xs.length) (hj : j < xs.length) (x : Int) (h : x ∈ swapL xs i j) : x ∈ xs := by
 unfold swapL at h
 rcases List.mem_or_eq_of_mem_set h with h | h
 ·rcases List.mem_or_eq_of_mem_set h with h | h
  ·exact h
  ·rw [h]; exact getD_mem_i xs j hj
 ·rw [h]; exact getD_mem_i xs i hi
theorem upL_mem (xs : List Int) (j : Nat) (hj : j < xs.length) (x : Int) (h : x ∈ upL xs j) : x ∈ xs := by
 fun_induction upL xs j with
 | case1 => exact h
 | case2 xs j hc ih =>
  have hi : (j - 1) / 2 < xs.length := by omega
  exact swapL_mem xs _ _ hi hj x (ih (by rw [swapL_length]; exact hi) h)
theorem pushL_mem (xs : List Int) (y x : Int) (h : x ∈ pushL xs y) : x ∈ xs ∨ x = y := by
 have := upL_mem (xs ++ [y]) xs.length (by simp) x h
 simpa using this
theorem downL_mem (n : Nat) (xs : List Int) (i : Nat) (hn : n ≤ xs.length) (x : Int) (h : x ∈ downL n xs i) : x ∈ xs := by
 fun_induction downL n xs i with
 | case1 xs i hc h2 ih =>
  have hc2 := childL_lt n xs i hc
  exact swapL_mem xs _ _ (by omega) (by omega) x (ih (by rw [swapL_length]; exact hn) h)
 | case2 => exact h
 | case3 => exact h
theorem popL_mem (xs : List Int) (x : Int) (h0 : 0 < xs.length) (h : x ∈ popL xs) : x ∈ xs := by
 unfold popL at h
 have := downL_mem _ _ _ (by rw [swapL_length]; omega) x h
 exact swapL_mem xs _ _ h0 (by omega) x this
theorem nodup_le : ∀ (n : Nat) (l : List Int), l.Nodup → (∀ x ∈ l, 0 ≤ x ∧ x < n) → l.length ≤ n
 | 0, l, _, h => by
  cases l with
  | nil => simp
  | cons a l => have := h a (by simp); omega
 | n + 1, l, hd, h => by
  by_cases hm : (n : Int) ∈ l
  ·have h1 := nodup_le n (l.erase n) (hd.erase _) (fun x hx => by
    have hx2 := (List.Nodup.mem_erase_iff hd).1 hx
    have := h x hx2.2
    have hne := hx2.1
    omega)
   rw [List.length_erase_of_mem hm] at h1
   omega
  ·have h1 := nodup_le n l hd (fun x hx => by
    have := h x hx
    have : x ≠ n := fun e => hm (e ▸ hx)
    omega)
   omega
structure INV (len : Nat) (st : VSt) : Prop where
 nod : (st.noted.map (·.1)).Nodup
 rng : ∀ p ∈ st.noted, 0 ≤ p.1 ∧ p.1 < len ∧ p.2.size ≤ 400
 wt : ∀ k ∈ st.waits, k ∈ st.noted.map (·.1)
 wl : st.waits.length ≤ st.noted.length
 idx : ∀ (j : Nat) (p : Int × ByteArray), st.noted[j]? = some p → p.2.size ≤ j
 mst : 0 ≤ st.most ∧ st.most ≤ st.noted.length ∧ st.most ≤ 400
theorem INV.len_le {len : Nat} {st : VSt} (h : INV len st) : st.noted.length ≤ len := by
 have := nodup_le len (st.noted.map (·.1)) h.nod (fun x hx => by
  obtain ⟨p, hp, rfl⟩ := List.mem_map.1 hx
  have := h.rng p hp; omega)
 simpa using this
def mu (len : Nat) (st : VSt) : Nat := 2 * (len - st.noted.length) + st.waits.length
theorem lookup_none_key {l : List (Int × ByteArray)} {k : Int} (h : l.lookup k = none) : k ∉ l.map (·.1) := by
 induction l with
 | nil => simp
 | cons p l ih =>
  obtain ⟨a, b⟩ := p
  simp only [List.lookup] at h
  split at h
  ·cases h
  ·rename_i hne
   have hne' : k ≠ a := by simpa using hne
   simp only [List.map_cons, List.mem_cons, not_or]
   exact ⟨hne', ih h⟩
theorem lookup_mem {l : List (Int × ByteArray)} {k : Int} {s : ByteArray} (h : l.lookup k = some s) : ∃ j : Nat, l[j]? = some (k, s) := by
 induction l with
 | nil => simp at h
 | cons p l ih =>
  obtain ⟨a, b⟩ := p
  simp only [List.lookup] at h
  split at h
  ·rename_i he
   have he' : k = a := by simpa using he
   injection h with h
   exact ⟨0, by simp [he', h]⟩
  ·obtain ⟨j, hj⟩ := ih h
   exact ⟨j + 1, by simpa using hj⟩
theorem lookup_of_key {l : List (Int × ByteArray)} {k : Int} (h : k ∈ l.map (·.1)) : ∃ s, l.lookup k = some s := by
 cases hk : l.lookup k with
 | some s => exact ⟨s, rfl⟩
 | none => exact absurd h (lookup_none_key hk)
theorem goesS_inv (f : SFn) (nn : Int) (st : VSt) (h : INV f.f4.length st) (fr dst : Int) (stack : ByteArray) (hd : 0 ≤ dst ∧ dst ≤ f.f4.length) (hs : stack.size ≤ 400) (hs2 : stack.size ≤ st.noted.length) :
  INV f.f4.length (goesS f nn st fr dst stack).2 ∧ mu f.f4.length (goesS f nn st fr dst stack).2 ≤ mu f.f4.length st ∧ st.noted.length ≤ (goesS f nn st fr dst stack).2.noted.length := by
 unfold goesS
 split
 ·exact ⟨⟨h.nod, h.rng, h.wt, h.wl, h.idx, h.mst⟩, Nat.le_refl _, Nat.le_refl _⟩
 ·rename_i hne
  split
  ·split
   ·exact ⟨h, Nat.le_refl _, Nat.le_refl _⟩
   ·exact ⟨⟨h.nod, h.rng, h.wt, h.wl, h.idx, h.mst⟩, Nat.le_refl _, Nat.le_refl _⟩
  ·rename_i hlk
   have hI : INV f.f4.length { st with noted := st.noted ++ [(dst, stack)], waits := pushL st.waits dst } := by
    refine ⟨?_, ?_, ?_, ?_, ?_, ?_⟩
    ·show ((st.noted ++ [(dst, stack)]).map (·.1)).Nodup
     rw [List.map_append, List.nodup_append]
     refine ⟨h.nod, by simp, fun a ha b hb => ?_⟩
     have : b = dst := by simpa using hb
     rw [this]
     rintro rfl
     exact lookup_none_key hlk ha
    ·intro p hp
     rcases List.mem_append.1 hp with hp | hp
     ·exact h.rng p hp
     ·have : p = (dst, stack) := by simpa using hp
      rw [this]; exact ⟨hd.1, by show dst < _; omega, hs⟩
    ·intro k hk
     show k ∈ (st.noted ++ [(dst, stack)]).map (·.1)
     rw [List.map_append]
     rcases pushL_mem _ _ _ hk with hk | hk
     ·exact List.mem_append.2 (.inl (h.wt k hk))
     ·exact List.mem_append.2 (.inr (by simp [hk]))
    ·show (pushL st.waits dst).length ≤ (st.noted ++ [(dst, stack)]).length
     rw [pushL_length]; simp; exact h.wl
    ·intro j p hj
     have hj' : (st.noted ++ [(dst, stack)])[j]? = some p := hj
     rw [List.getElem?_append] at hj'
     split at hj'
     ·exact h.idx j p hj'
     ·rename_i hlt
      obtain ⟨hj0, rfl⟩ : j - st.noted.length = 0 ∧ (dst, stack) = p := by
       cases hq : j - st.noted.length with
       | zero => rw [hq] at hj'; simpa using hj'
       | succ q => rw [hq] at hj'; simp at hj'
      show stack.size ≤ j
      omega
    ·have := h.mst
     refine ⟨this.1, ?_, this.2.2⟩
     show st.most ≤ ((st.noted ++ [(dst, stack)]).length : Int)
     simp; omega
   refine ⟨hI, ?_, by simp⟩
   have h1 := hI.len_le
   simp only [List.length_append, List.length_cons, List.length_nil] at h1
   unfold mu
   simp only [List.length_append, List.length_cons, List.length_nil, pushL_length]
   omega
/-- what a step keeps -/
def Keeps (len : Nat) (st st' : VSt) : Prop := INV len st' ∧ mu len st' ≤ mu len st ∧ st.noted.length ≤ st'.noted.length
theorem Keeps.refl {len : Nat} {st : VSt} (h : INV len st) : Keeps len st st := ⟨h, Nat.le_refl _, Nat.le_refl _⟩
theorem Keeps.trans {len : Nat} {a b c : VSt} (h : Keeps len a b) (h' : Keeps len b c) : Keeps len a c := ⟨h'.1, Nat.le_trans h'.2.1 h.2.1, Nat.le_trans h.2.2 h'.2.2⟩
theorem Keeps.nums {len : Nat} {st : VSt} (h : INV len st) (fc fa mo : Int) (hm : 0 ≤ mo ∧ mo ≤ st.noted.length ∧ mo ≤ 400) : Keeps len st { st with most := mo, fc := fc, fa := fa } :=
 ⟨⟨h.nod, h.rng, h.wt, h.wl, h.idx, hm⟩, Nat.le_refl _, Nat.le_refl _⟩
theorem onS_inv (f : SFn) (nn : Int) (st : VSt) (k : Nat) (i : SInstr) (s : ByteArray) (h : INV f.f4.length st) (hk : k < f.f4.length) (hj : i.f0 = 28 ∨ i.f0 = 29 → 0 ≤ i.f1 ∧ i.f1 < f.f4.length) (hs : s.size ≤ 400) (hs2 : s.size ≤ st.noted.length) :
  Keeps f.f4.length st (onS f nn st k i s).2 := by
 have hr : Keeps f.f4.length st (if i.f0 = 28 ∨ i.f0 = 29 then goesS f nn st k i.f1 s else (true, st)).2 := by
  split
  ·rename_i hc
   have := hj hc
   exact goesS_inv f nn st h k i.f1 s (by omega) hs hs2
  ·exact Keeps.refl h
 unfold onS
 simp only
 generalize (if i.f0 = 28 ∨ i.f0 = 29 then goesS f nn st k i.f1 s else (true, st)) = r at hr
 split
 ·split
  ·exact hr
  ·exact hr.trans (goesS_inv f nn r.2 hr.1 k (k + 1) s (by omega) hs (Nat.le_trans hs2 hr.2.2))
 ·exact hr
theorem lookS_inv (T : Nat → ByteArray × ByteArray) (x : SImage) (f : SFn) (nn : Int) (st : VSt) (k : Nat) (h : INV f.f4.length st) (hX : ImgOK x) (hF : FnOK f) (hT : TOK T) (hk : k < f.f4.length) (hkey : (k : Int) ∈ st.noted.map (·.1)) :
  Keeps f.f4.length st (lookS T x f nn st k).2 := by
 obtain ⟨s, hl⟩ := lookup_of_key hkey
 obtain ⟨j, hj⟩ := lookup_mem hl
 have hj1 := h.idx j _ hj
 have hj2 := (List.getElem?_eq_some_iff.1 hj).1
 have hj3 := (h.rng _ (List.mem_of_getElem? hj)).2.2
 have hstk : stackAt st k = s := by unfold stackAt; rw [hl]; rfl
 have hi := hF.ins (zi f.f4 k) (getD_mem_instr f.f4 k hk)
 have hsz := meansS_size T x f (zi f.f4 k) hX hT ⟨hi.1, hi.2.1⟩
 have hm := h.mst
 simp only at hj1 hj3
 unfold lookS
 simp only [hstk]
 split
 ·rename_i hok
  split
  ·rename_i hen
   have hle : (meansS T x f (zi f.f4 k)).1.size ≤ s.size := by
    unfold endsB at hen
    rw [Bool.and_eq_true] at hen
    exact of_decide_eq_true hen.1
   have hcs : (cutS s (meansS T x f (zi f.f4 k)).1 (meansS T x f (zi f.f4 k)).2.1).size = s.size - (meansS T x f (zi f.f4 k)).1.size + (meansS T x f (zi f.f4 k)).2.1.size := by
    unfold cutS; rw [ByteArray.size_append, ByteArray.size_extract]; omega
   have h8 := hsz.2
   split
   ·exact Keeps.nums h _ _ _ (by omega)
   ·rename_i hno
    have hno2 : ¬ 400 < (cutS s (meansS T x f (zi f.f4 k)).1 (meansS T x f (zi f.f4 k)).2.1).size := fun hh => hno (.inl hh)
    have hK := Keeps.nums h st.fc st.fa (max (max st.most s.size) (cutS s (meansS T x f (zi f.f4 k)).1 (meansS T x f (zi f.f4 k)).2.1).size) (by omega)
    exact hK.trans (onS_inv f nn _ k _ _ hK.1 hk (fun hc => meansS_jump T x f _ hc hok) (by omega) (by show _ ≤ st.noted.length; omega))
  ·exact Keeps.nums h _ _ _ hm
 ·exact Keeps.nums h _ _ _ hm
def topS (st : VSt) : Int := (popL st.waits).getD (st.waits.length - 1) 0
def popS (st : VSt) : VSt := { st with waits := (popL st.waits).take (st.waits.length - 1) }
theorem topS_mem (st : VSt) (h : 0 < st.waits.length) : topS st ∈ st.waits :=
 popL_mem _ _ h (getD_mem_i _ _ (by rw [popL_length]; omega))
theorem popS_inv {len : Nat} {st : VSt} (h : INV len st) (h0 : 0 < st.waits.length) : INV len (popS st) ∧ mu len (popS st) + 1 = mu len st := by
 have hl : ((popL st.waits).take (st.waits.length - 1)).length = st.waits.length - 1 := by rw [List.length_take, popL_length]; omega
 refine ⟨⟨h.nod, h.rng, fun k hk => h.wt k (popL_mem _ _ h0 (List.mem_of_mem_take hk)), ?_, h.idx, h.mst⟩, ?_⟩
 ·show ((popL st.waits).take (st.waits.length - 1)).length ≤ st.noted.length
  have := h.wl; omega
 ·unfold mu popS
  simp only [hl]; omega
def stepS (T : Nat → ByteArray × ByteArray) (x : SImage) (f : SFn) (nn : Int) (st : VSt) : Bool × VSt := lookS T x f nn (popS st) (topS st).toNat
theorem stepS_inv (T : Nat → ByteArray × ByteArray) (x : SImage) (f : SFn) (nn : Int) (st : VSt) (h : INV f.f4.length st) (hX : ImgOK x) (hF : FnOK f) (hT : TOK T) (h0 : 0 < st.waits.length) :
  INV f.f4.length (stepS T x f nn st).2 ∧ mu f.f4.length (stepS T x f nn st).2 + 1 ≤ mu f.f4.length st ∧ 0 ≤ topS st ∧ topS st < f.f4.length := by
 have hk := h.wt _ (topS_mem st h0)
 obtain ⟨p, hp, hpe⟩ := List.mem_map.1 hk
 have hr := h.rng p hp
 obtain ⟨h1, h2⟩ := popS_inv h h0
 have he : ((topS st).toNat : Int) = topS st := by omega
 have h3 := lookS_inv T x f nn (popS st) (topS st).toNat h1 hX hF hT (by omega) (by rw [he]; exact hk)
 exact ⟨h3.1, by have := h3.2.1; unfold stepS; omega, by omega, by omega⟩
def goOn (r : Bool × VSt) : Bool := r.1 && decide (0 < r.2.waits.length)
def runS (T : Nat → ByteArray × ByteArray) (x : SImage) (f : SFn) (nn : Int) : Nat → Bool × VSt → Bool × VSt
 | 0, r => r
 | n + 1, r => if goOn r then runS T x f nn n (stepS T x f nn r.2) else r
theorem runS_stop (T : Nat → ByteArray × ByteArray) (x : SImage) (f : SFn) (nn : Int) (r : Bool × VSt) (h : goOn r = false) : ∀ n, runS T x f nn n r = r
 | 0 => rfl
 | n + 1 => by unfold runS; simp [h]
theorem runS_succ (T : Nat → ByteArray × ByteArray) (x : SImage) (f : SFn) (nn : Int) : ∀ (n : Nat) (r : Bool × VSt), goOn (runS T x f nn n r) = true → runS T x f nn (n + 1) r = stepS T x f nn (runS T x f nn n r).2
 | 0, r, h => by
  have h' : goOn r = true := h
  show (if goOn r then runS T x f nn 0 (stepS T x f nn r.2) else r) = _
  rw [if_pos h']; rfl
 | n + 1, r, h => by
  by_cases hg : goOn r = true
  ·have e : ∀ m, runS T x f nn (m + 1) r = runS T x f nn m (stepS T x f nn r.2) := fun m => by
    show (if goOn r then runS T x f nn m (stepS T x f nn r.2) else r) = _
    rw [if_pos hg]
   rw [e n] at h
   rw [e (n + 1), runS_succ T x f nn n _ h, e n]
  ·have hg' := Bool.eq_false_iff.2 hg
   rw [runS_stop T x f nn r hg'] at h
   exact absurd h hg
theorem runS_more (T : Nat → ByteArray × ByteArray) (x : SImage) (f : SFn) (nn : Int) : ∀ (n : Nat) (r : Bool × VSt), goOn (runS T x f nn n r) = false → ∀ m, n ≤ m → runS T x f nn m r = runS T x f nn n r
 | 0, r, h, m, _ => runS_stop T x f nn r h m
 | n + 1, r, h, m, hm => by
  by_cases hg : goOn r = true
  ·have e : ∀ m, runS T x f nn (m + 1) r = runS T x f nn m (stepS T x f nn r.2) := fun m => by
    show (if goOn r then runS T x f nn m (stepS T x f nn r.2) else r) = _
    rw [if_pos hg]
   obtain ⟨q, rfl⟩ : ∃ q, m = q + 1 := ⟨m - 1, by omega⟩
   rw [e n] at h
   rw [e q, e n]
   exact runS_more T x f nn n _ h q (by omega)
  ·have hg' := Bool.eq_false_iff.2 hg
   rw [runS_stop T x f nn r hg' m, runS_stop T x f nn r hg']
def st0 : VSt := ⟨[], [], 0, 0, 0⟩
theorem st0_inv (len : Nat) : INV len st0 := ⟨by simp [st0], by simp [st0], by simp [st0], by simp [st0], by simp [st0], by simp [st0]⟩
def beginS (f : SFn) (nn : Int) : Bool × VSt := goesS f nn st0 0 0 ⟨#[]⟩
/-- what verify.function answers -/
def fnS (T : Nat → ByteArray × ByteArray) (x : SImage) (f : SFn) (nn : Int) : Bool × VSt := runS T x f nn (2 * f.f4.length + 1) (beginS f nn)
/-- the measure, read off the world -/
def muW (len g mb : Nat) (w : World) : Nat :=
 2 * (len - (match w.heap[mb]? with | some (.map es _) => es.size | _ => 0)) + (match w.cell? ⟨g, 9, none⟩ with | some (.slice _ n _) => n | _ => 0)
theorem PR_len {w : World} {base : Nat} {v : Value} {xs : List Int} (h : PR w base v xs) : ∃ A c, v = .slice A xs.length c := Kd.R_slice h
theorem muW_eq {w0 w : World} {x : SImage} {f : SFn} {nn : Int} {g : Nat} {l : Lk} {st : VSt} (h : LS w0 w x f nn g l st) : muW f.f4.length g l.m w = mu f.f4.length st := by
 obtain ⟨es, c, h1, h2⟩ := h.map
 obtain ⟨A, cc, h3⟩ := PR_len h.row
 have h4 := h.at_.L.at_.2.2.2.2.2.2.2.2.2.1
 have h5 : es.size = st.noted.length := by
  have := congrArg List.length h2
  simpa using this
 unfold muW mu
 rw [h1, h4, h3]
 simp only [h5]
theorem stackAt_size {len : Nat} {st : VSt} (h : INV len st) (k : Int) : (stackAt st k).size ≤ 400 := by
 unfold stackAt
 cases hl : st.noted.lookup k with
 | none => simp [ByteArray.size]
 | some s =>
  obtain ⟨j, hj⟩ := lookup_mem hl
  exact (h.rng _ (List.mem_of_getElem? hj)).2.2
theorem function_any (T : Nat → ByteArray × ByteArray) (x : SImage) (v : Value) (w : World) (hv : VImage w x v) (hX : ImgOK x) (hT : Pln T w) (hTK : TOK T) (n : Nat) (hn : n < x.fns.length) :
  Calls Tryz.prog 66 #[v, .int .i64 n] w fun e w' => e = .returned (.tuple #[.agg #[.int .i64 (fnS T x (x.fns.getD n zFn) n).2.fc, .int .i64 (fnS T x (x.fns.getD n zFn) n).2.fa], .int .i64 (fnS T x (x.fns.getD n zFn) n).2.most]) ∧ Below w.heap.size w w' := by
 obtain ⟨A0, c0, A1, c1, rfl, l0, hG, l1, hF⟩ := hv
 obtain ⟨ad, B1, d1, B3, d3, B4, d4, rfl, h0, h1, h2, h3, h4, m1, g1, m3, g3, m4, g4⟩ := at_TFn hF (n : Int) (by omega) (by omega)
 obtain ⟨f, hf⟩ : ∃ f, f = rd_TFn x.fns (n : Int) := ⟨_, rfl⟩
 rw [← hf] at h0 h1 h2 h3 h4 m1 g1 m3 g3 m4 g4
 simp only [Int.toNat_natCast] at h0 h1 h2 h3 h4
 have hfe : x.fns.getD n zFn = f := by rw [hf]; rfl
 rw [hfe]
 have HFO := Lib.hid (hX.fn f (by rw [← hfe]; exact getD_mem_fn _ n hn))
 have hlf := hX.lf
 have hmm := @run_makeMap Tryz.prog
 have HV := Lib.hid (show kGlob.C w A0 x.globs.length x.globs ∧ kFn.C w (some ad) x.fns.length x.fns ∧ x.globs.length ≤ c0 ∧ (Kd.int .i64).C w B3 f.f3.length f.f3 ∧ f.f3.length ≤ d3 ∧ kInstr.C w B4 f.f4.length f.f4 ∧ f.f4.length ≤ d4 from ⟨hG, hF, l0, g3, m3, g4, m4⟩)
 have HT := Lib.hid hT
 obtain ⟨r, hr⟩ : ∃ r, r = fnS T x f n := ⟨_, rfl⟩
 rw [← hr]
 have HR := Lib.hid hr
 clear hG hF g1 g3 g4 hr hT hf hfe
 go_enter Tryz.func66, Tryz.ntmps66
 go_wp2_with fail
 obtain ⟨W0, hW⟩ : ∃ W0, W0 = (w.alloc (Obj.cells #[Value.slice A0 x.globs.length c0, Value.slice (some ad) x.fns.length c1] 25)).alloc (Obj.cells #[Value.int IntKind.i64 0, Value.int IntKind.i64 0] 50) := ⟨_, rfl⟩
 rw [← hW]
 have hb0 : Below w.heap.size w W0 := by rw [hW]; exact below_alloc (below_alloc (Below.refl _ _) _) _
 have hsz : W0.heap.size = w.heap.size + 2 := by rw [hW]; simp
 have HI0 := Lib.hid (show W0.heap[w.heap.size]? = some (.cells #[Value.slice A0 x.globs.length c0, Value.slice (some ad) x.fns.length c1] 25 (0, 0)) from by rw [hW]; exact blk_alloc (heap_alloc_new w _) _)
 have HF0 := Lib.hid (show W0.heap[w.heap.size + 1]? = some (.cells #[Value.int IntKind.i64 0, Value.int IntKind.i64 0] 50 (0, 0)) from by
  rw [hW]; have h := heap_alloc_new (w.alloc (Obj.cells #[Value.slice A0 x.globs.length c0, Value.slice (some ad) x.fns.length c1] 25)) (Obj.cells #[Value.int IntKind.i64 0, Value.int IntKind.i64 0] 50)
  simpa using h)
 have i0 : W0.cell? ⟨w.heap.size, 0, none⟩ = some (.slice A0 x.globs.length c0) := (blk_cell HI0.out 0).trans rfl
 have i1 : W0.cell? ⟨w.heap.size, 1, none⟩ = some (.slice (some ad) x.fns.length c1) := (blk_cell HI0.out 1).trans rfl
 have HB0 := Lib.hid hb0
 have y0 := fun o => pw_cell_below (below_alloc hb0 o) h0
 have y1 := fun o => pw_cell_below (below_alloc hb0 o) h1
 have y2 := fun o => pw_cell_below (below_alloc hb0 o) h2
 have y3 := fun o => pw_cell_below (below_alloc hb0 o) h3
 have y4 := fun o => pw_cell_below (below_alloc hb0 o) h4
 have z0 := fun o => pw_cell_below (below_alloc (below_drew hb0) o) h0
 have z1 := fun o => pw_cell_below (below_alloc (below_drew hb0) o) h1
 have z2 := fun o => pw_cell_below (below_alloc (below_drew hb0) o) h2
 have z3 := fun o => pw_cell_below (below_alloc (below_drew hb0) o) h3
 have z4 := fun o => pw_cell_below (below_alloc (below_drew hb0) o) h4
 replace h0 := pw_cell_below hb0 h0
 replace h1 := pw_cell_below hb0 h1
 replace h2 := pw_cell_below hb0 h2
 replace h3 := pw_cell_below hb0 h3
 replace h4 := pw_cell_below hb0 h4
 have HW := Lib.hid hW
 clear hb0 hW
 go_region
 obtain ⟨g, hg⟩ : ∃ g, g = w.heap.size + 2 + 1 := ⟨_, rfl⟩
 obtain ⟨mb, hmb⟩ : ∃ mb, mb = w.heap.size + 2 := ⟨_, rfl⟩
 obtain ⟨W1, hW1⟩ : ∃ W1, W1 = ((W0.alloc (Obj.map #[] 0)).alloc (Obj.cells #[.slice A0 x.globs.length c0, .slice (some ad) x.fns.length c1, .string f.f0, .slice B1 f.f1.length d1, .int .i64 f.f2, .slice B3 f.f3.length d3, .slice B4 f.f4.length d4, .int .i64 n, .map (some mb), .slice none 0 0, .int .i64 0, .int .i64 0, .int .i64 0] 162)).drew := ⟨_, rfl⟩
 rw [← hg, ← hmb, ← hW1]
 have HLS : Hid (LS W0 W1 x f n g ⟨.slice A0 x.globs.length c0, .slice (some ad) x.fns.length c1, .string f.f0, .slice B1 f.f1.length d1, .int .i64 f.f2, .slice B3 f.f3.length d3, .slice B4 f.f4.length d4, n, mb, .slice none 0 0, 0, 0, 0⟩ st0) := by
  have hL : W1.heap[g]? = some (.cells #[.slice A0 x.globs.length c0, .slice (some ad) x.fns.length c1, .string f.f0, .slice B1 f.f1.length d1, .int .i64 f.f2, .slice B3 f.f3.length d3, .slice B4 f.f4.length d4, .int .i64 n, .map (some mb), .slice none 0 0, .int .i64 0, .int .i64 0, .int .i64 0] 162 (0, 0)) := by
   rw [hW1]
   have h := heap_alloc_new (W0.alloc (Obj.map #[] 0)) (Obj.cells #[.slice A0 x.globs.length c0, .slice (some ad) x.fns.length c1, .string f.f0, .slice B1 f.f1.length d1, .int .i64 f.f2, .slice B3 f.f3.length d3, .slice B4 f.f4.length d4, .int .i64 n, .map (some mb), .slice none 0 0, .int .i64 0, .int .i64 0, .int .i64 0] 162)
   have e : (W0.alloc (Obj.map #[] 0)).heap.size = g := by rw [hg]; simp [hsz]
   rw [e] at h
   exact h
  have hM : W1.heap[mb]? = some (.map #[] 0) := by
   rw [hW1]
   have h := heap_alloc_new W0 (Obj.map #[] 0)
   have e : W0.heap.size = mb := by rw [hmb]; exact hsz
   rw [e] at h
   exact blk_alloc h _
  exact ⟨⟨⟨⟨A0, c0, rfl, HV.out.2.2.1, Kd.C_below HV.out.1 HB0.out⟩, ⟨some ad, c1, rfl, l1, Kd.C_below HV.out.2.1 HB0.out⟩, rfl, ⟨B3, d3, rfl, HV.out.2.2.2.2.1, Kd.C_below HV.out.2.2.2.1 HB0.out⟩, ⟨B4, d4, rfl, HV.out.2.2.2.2.2.2, Kd.C_below HV.out.2.2.2.2.2.1 HB0.out⟩⟩, by rw [hW1]; exact below_drew (below_alloc (below_alloc (Below.refl _ _) _) _), hL, hX, HFO.out⟩, rfl, by omega, rfl, rfl, rfl, ⟨#[], 0, hM, rfl⟩, Kd.R_nil _ _ _ _ _, by omega, by show W0.heap.size ≤ mb; omega, by show mb ≠ g; omega, by simp [Value.ownBlock], by simp [Value.ownBlock]⟩
 have hlg : W0.heap.size ≤ g := by omega
 clear y0 y1 y2 y3 y4 z0 z1 z2 z3 z4 h0 h1 h2 h3 h4 i0 i1 hW1 hg hmb hmm
 go_wp2_with fail
 refine (goes_any W0 W1 x f n g _ st0 HLS.out 0 0 ⟨#[]⟩ (by omega) (by omega) (by simp [st0])).mono ?_
 rintro e w2 ⟨rfl, l2, hl2, hf2⟩
 obtain ⟨⟨b0, s0⟩, hq0⟩ : ∃ q, q = beginS f n := ⟨_, rfl⟩
 have hq0' : goesS f n st0 0 0 ⟨#[]⟩ = (b0, s0) := hq0.symm
 rw [hq0'] at hl2 ⊢
 have HQ0 := Lib.hid hq0
 have HL2 := Lib.hid hl2
 have hm2 : l2.m = mb := hf2.m
 have HINV := Lib.hid (show INV f.f4.length s0 ∧ 0 + mu f.f4.length s0 ≤ 2 * f.f4.length from by
  have h := goesS_inv f n st0 (st0_inv _) 0 0 ⟨#[]⟩ (by omega) (by simp [ByteArray.size]) (by simp [ByteArray.size])
  rw [hq0'] at h
  refine ⟨h.1, ?_⟩
  have h2 := h.2.1
  have h3 : mu f.f4.length st0 = 2 * f.f4.length := by simp [mu, st0]
  simp only at h2
  omega)
 clear hl2 hf2 hq0 hq0'
 simp only
 go_wp2_with fail
 go_loopw [7] (fun a wr => ∃ (j : Nat) (b : Bool) (st : VSt) (l : Lk), a = .bool b ∧ l.m = mb ∧ Hid ((b, st) = runS T x f n j (beginS f n)) ∧ Hid (INV f.f4.length st ∧ j + mu f.f4.length st ≤ 2 * f.f4.length) ∧ Hid (LS W0 wr x f n g l st)) (fun _ wr => muW f.f4.length g mb wr)
 case atStart => exact ⟨0, b0, s0, l2, rfl, hm2, HQ0.out, HINV.out, HL2.out⟩
 case round =>
  obtain ⟨j, b, st, l, rfl, hlm, HQ, HI, HS⟩ := hrel
  have c9 := HS.out.at_.L.at_.2.2.2.2.2.2.2.2.2.1
  obtain ⟨Aw, cw, hsl⟩ := PR_len HS.out.row
  rw [hsl] at c9
  have hgl : g < wr.heap.size := blk_lt HS.out.at_.L
  have HSL := Lib.hid hsl
  have HLM := Lib.hid hlm
  have hwl : st.waits.length ≤ 65536 := by have := HI.out.1.wl; have := HI.out.1.len_le; have := HFO.out.lc; omega
  clear hsl hlm
  cases b
  ·have HR2 := Lib.hid (show r = (false, st) from by
    rw [HR.out, HQ.out]; unfold fnS
    exact runS_more T x f n j _ (by rw [← HQ.out]; rfl) _ (by have := HI.out.2; omega))
   have c11 := HS.out.at_.L.at_.2.2.2.2.2.2.2.2.2.2.2.1
   have c12 := HS.out.at_.L.at_.2.2.2.2.2.2.2.2.2.2.2.2
   have c10 := HS.out.at_.L.at_.2.2.2.2.2.2.2.2.2.2.1
   rw [HS.out.fc] at c11
   rw [HS.out.fa] at c12
   rw [HS.out.most] at c10
   have HF1 := Lib.hid ((HS.out.at_.B.block (w.heap.size + 1) (by omega)).trans HF0.out)
   have f0 : wr.cell? ⟨w.heap.size + 1, 0, none⟩ = some (.int .i64 0) := (blk_cell HF1.out 0).trans rfl
   have f1 : wr.cell? ⟨w.heap.size + 1, 1, none⟩ = some (.int .i64 0) := (blk_cell HF1.out 1).trans rfl
   have ff0 : wr.frozen? ⟨w.heap.size + 1, 0, none⟩ = false := blk_frozen HF1.out 0
   have ff1 : wr.frozen? ⟨w.heap.size + 1, 1, none⟩ = false := blk_frozen HF1.out 1
   go_wp2_with fail
   go_region
   all_goals go_wp2_with fail
   all_goals
    (try simp only [Exit.inBlock, Exit.then])
    refine bodyPost_ret (results_ct rfl _ _ (w.heap.size + 1) 50 #[.int .i64 st.fc, .int .i64 st.fa] (0, 0) _ rfl (blk_drew (blk_put (blk_put HF1.out 0 (.int .i64 st.fc) rfl) 1 (.int .i64 st.fa) rfl)) Tryz.underlying50 rfl (by kernel_rfl)) rfl ?_
    exact ⟨by rw [HR2.out]; rfl, below_drew (below_set (below_set (below_next HB0.out HS.out.at_.B) (by omega)) (by omega))⟩
  ·by_cases h0 : st.waits.length = 0
   ·have HR2 := Lib.hid (show r = (true, st) from by
     rw [HR.out, HQ.out]; unfold fnS
     exact runS_more T x f n j _ (by rw [← HQ.out]; simp [goOn, h0]) _ (by have := HI.out.2; omega))
    rw [h0] at c9
    clear h0
    go_wp2_with fail
    refine (sLen_any _ _ _ _).mono ?_
    rintro e w3 ⟨rfl, rfl⟩
    have c11 := HS.out.at_.L.at_.2.2.2.2.2.2.2.2.2.2.2.1
    have c12 := HS.out.at_.L.at_.2.2.2.2.2.2.2.2.2.2.2.2
    have c10 := HS.out.at_.L.at_.2.2.2.2.2.2.2.2.2.2.1
    rw [HS.out.fc] at c11
    rw [HS.out.fa] at c12
    rw [HS.out.most] at c10
    have HF1 := Lib.hid ((HS.out.at_.B.block (w.heap.size + 1) (by omega)).trans HF0.out)
    have f0 : wr.cell? ⟨w.heap.size + 1, 0, none⟩ = some (.int .i64 0) := (blk_cell HF1.out 0).trans rfl
    have f1 : wr.cell? ⟨w.heap.size + 1, 1, none⟩ = some (.int .i64 0) := (blk_cell HF1.out 1).trans rfl
    have ff0 : wr.frozen? ⟨w.heap.size + 1, 0, none⟩ = false := blk_frozen HF1.out 0
    have ff1 : wr.frozen? ⟨w.heap.size + 1, 1, none⟩ = false := blk_frozen HF1.out 1
    go_wp2_with fail
    go_region
    all_goals go_wp2_with fail
    all_goals
     (try simp only [Exit.inBlock, Exit.then])
     refine bodyPost_ret (results_ct rfl _ _ (w.heap.size + 1) 50 #[.int .i64 st.fc, .int .i64 st.fa] (0, 0) _ rfl (blk_drew (blk_put (blk_put HF1.out 0 (.int .i64 st.fc) rfl) 1 (.int .i64 st.fa) rfl)) Tryz.underlying50 rfl (by kernel_rfl)) rfl ?_
     exact ⟨by rw [HR2.out]; rfl, below_drew (below_set (below_set (below_next HB0.out HS.out.at_.B) (by omega)) (by omega))⟩
   ·obtain ⟨m, hm⟩ : ∃ m, st.waits.length = m + 1 := ⟨st.waits.length - 1, by omega⟩
    rw [hm] at c9
    have HM := Lib.hid hm
    have h3 := stepS_inv T x f n st HI.out.1 hX HFO.out hTK (by omega)
    obtain ⟨kk, hkk⟩ : ∃ kk : Nat, topS st = kk := ⟨(topS st).toNat, by omega⟩
    have hpv : (popL st.waits).getD m 0 = (kk : Int) := by rw [← hkk]; unfold topS; rw [hm]; rfl
    have HK := Lib.hid (show kk < f.f4.length from by omega)
    have HPI := Lib.hid (popS_inv HI.out.1 (by omega))
    have HPop := Lib.hid (hPop_any wr g 9 l.cells 162 W0.heap.size l.s st.waits HS.out.ps m hm (by omega))
    rw [hpv] at HPop
    have hpe : popS st = { st with waits := (popL st.waits).take m } := by unfold popS; rw [hm]; rfl
    have HPE := Lib.hid hpe
    obtain ⟨⟨b2, st2⟩, hq2⟩ : ∃ q, q = stepS T x f n st := ⟨_, rfl⟩
    have hlk : lookS T x f n (popS st) kk = (b2, st2) := by rw [hq2]; unfold stepS; rw [hkk]; rfl
    have HLK := Lib.hid hlk
    have HQ2 := Lib.hid (show (b2, st2) = runS T x f n (j + 1) (beginS f n) from by
     rw [runS_succ T x f n j _ (by rw [← HQ.out]; simp [goOn, hm]), ← HQ.out]; exact hq2)
    rw [← hq2] at h3
    have H3 := Lib.hid h3
    have hta : ∀ (W : World) (z : Int), (Instr.typeAssert (.iface 3 (.int .i64 z)) 20 3 false).run Tryz.prog W = .ok (.int .i64 z) W := fun W z => by kernel_rfl
    have hws2 : st.waits.length ≤ 32769 := by have := HI.out.1.wl; have := HI.out.1.len_le; have := HFO.out.lc; omega
    clear hm h0 hpv hpe hq2 hlk h3 hkk hwl
    go_wp2_with fail
    refine (sLen_any _ _ _ _).mono ?_
    rintro e w3 ⟨rfl, rfl⟩
    go_wp2_with fail
    refine HPop.out.mono ?_
    rintro e w3 ⟨rfl, v3, hp, hf⟩
    have HS3 := Lib.hid (HS.out.turned hp hf)
    clear hp hf
    go_wp2_with fail
    refine (look_any T W0 w3 x f n g _ (popS st) (by rw [HPE.out]; exact HS3.out.1) (HT.out.below (below_next HB0.out HS3.out.1.at_.B)) kk HK.out (by rw [HPE.out]; show ((popL st.waits).take m).length ≤ 65530; rw [List.length_take, popL_length]; omega) hTK (stackAt_size HPI.out.1 _)).mono ?_
    rw [HLK.out]
    rintro e w4 ⟨rfl, l4, hl4, hf4⟩
    have HL4 := Lib.hid hl4
    have hm4 : l4.m = mb := (hf4.m.trans HS3.out.2.m).trans HLM.out
    clear hl4 hf4
    simp only
    go_wp2_with fail
    go_roundw
    case rel => exact ⟨j + 1, b2, st2, l4, rfl, hm4, HQ2.out, ⟨H3.out.1, by have h1 : mu f.f4.length st2 + 1 ≤ mu f.f4.length st := H3.out.2.1; have h2 := HI.out.2; omega⟩, HL4.out⟩
    case measure =>
     have e1 := muW_eq HS.out
     have e2 := muW_eq HL4.out
     rw [HLM.out] at e1
     rw [hm4] at e2
     show muW f.f4.length g mb w4 < muW f.f4.length g mb wr
     rw [e1, e2]
     clear e1 e2
     have : mu f.f4.length st2 + 1 ≤ mu f.f4.length st := H3.out.2.1
     exact Nat.lt_of_succ_le this
/-- a call back's name with another head -/
def backB (f : SFn) (b : SSys) : Bool := (b.f0.toList == f.f0.toList) && ((f.f2 != 0) || !(b.f1 == f.f1))
theorem en_Verify1 : Enters 64 := fun args w => enters_ Tryz.func64 (by kernel_rfl) rfl args w
theorem Verify1_any (b : SSys) (v : Value) (w : World) (g : Nat) (f : SFn) (B1 : Option Addr) (d1 : Nat) (u3 u4 : Value) (hv : VSys w b v)
    (hf : w.heap[g]? = some (.cells #[.string f.f0, .slice B1 f.f1.length d1, .int .i64 f.f2, u3, u4] 54 (0, 0))) (hC : (Kd.int .i64).C w B1 f.f1.length f.f1) (hl : b.f1.length ≤ 1000) (hl2 : f.f1.length ≤ 1000) :
    Calls Tryz.prog 64 #[v, .pointer (some ⟨g, 0, none⟩)] w fun e w' => e = .returned (.bool (backB f b)) ∧ Below w.heap.size w w' := by
  obtain ⟨A1, c1, rfl, l1, g1⟩ := hv
  obtain ⟨x0, x1, x2, x3, x4⟩ := cells5 hf
  have hg := blk_lt hf
  have hb := below_alloc (Below.refl w.heap.size w) (.cells #[.string b.f0, .slice A1 b.f1.length c1, .int .i64 b.f2] 119)
  have HC := Lib.hid (Kd.C_below hC hb)
  have HG := Lib.hid (Kd.C_below g1 hb)
  obtain ⟨p, hp⟩ : ∃ p, (b.f0.toList == f.f0.toList) = p := ⟨_, rfl⟩
  obtain ⟨q, hq⟩ : ∃ q, (f.f2 != 0) = q := ⟨_, rfl⟩
  have HR := Lib.hid (show backB f b = (p && (q || !(b.f1 == f.f1))) from by unfold backB; rw [hp, hq])
  clear hC g1 hf hb
  cases p <;> cases q
  all_goals
    go_enter Tryz.func64, Tryz.ntmps64
    go_wp2_with fail
    first
      | (go_ret
         exact ⟨ret_bool (by rw [HR.out]; rfl), below_alloc (Below.refl _ _) _⟩)
      | (refine (asB (eqInt_any A1 B1 c1 d1 b.f1 f.f1 _ HG.out HC.out (by omega))).mono ?_
         rintro e w1 ⟨bb, rfl, HE, HW⟩
         go_wp2_with fail
         go_ret
         exact ⟨ret_bool (by rw [HR.out, ← HE.out]; rfl), below_next (below_alloc (Below.refl _ _) _) (drawn_below HW.out)⟩)
def firstFrom (p : Nat → Bool) (i n : Nat) : Option Nat := if h : i < n then if p i then some i else firstFrom p (i + 1) n else none
termination_by n - i
theorem firstFrom_stop {p : Nat → Bool} {i n : Nat} (h : ¬ i < n) : firstFrom p i n = none := by rw [firstFrom, dif_neg h]
theorem firstFrom_hit {p : Nat → Bool} {i n : Nat} (h : i < n) (hp : p i = true) : firstFrom p i n = some i := by rw [firstFrom, dif_pos h, if_pos hp]
theorem firstFrom_miss {p : Nat → Bool} {i n : Nat} (h : i < n) (hp : p i = false) : firstFrom p i n = firstFrom p (i + 1) n := by rw [firstFrom, dif_pos h, if_neg (by rw [hp]; simp)]
theorem firstFrom_none {p : Nat → Bool} {i n : Nat} : firstFrom p i n = none ↔ ∀ j, i ≤ j → j < n → p j = false := by
 fun_induction firstFrom p i n with
 | case1 i h hp => simp; exact ⟨i, Nat.le_refl _, h, hp⟩
 | case2 i h hp ih =>
  rw [ih]
  constructor
  ·intro hh j h1 h2
   rcases Nat.lt_or_ge i j with h3 | h3
   ·exact hh j h3 h2
   ·obtain rfl : j = i := by omega
    exact Bool.eq_false_iff.2 hp
  ·intro hh j h1 h2
   exact hh j (by omega) h2
 | case3 i h => simp; intro j h1 h2; omega
def seenS (fns : List SFn) (k : Nat) : List (ByteArray × Bool) := (fns.take k).map fun f => (f.f0, true)
def headBad (fns : List SFn) (k : Nat) : Bool := ((seenS fns k).lookup (fns.getD k zFn).f0).getD false || backsL.any (backB (fns.getD k zFn))
def fnAt (T : Nat → ByteArray × ByteArray) (x : SImage) (k : Nat) : VSt := (fnS T x (x.fns.getD k zFn) k).2
/-- what verify.Verify answers -/
def verifyS (T : Nat → ByteArray × ByteArray) (x : SImage) : Int × Int :=
 if rightE x = 0 then
  match firstFrom (headBad x.fns) 0 x.fns.length with
  | some k => (163, k * 65536)
  | none => match firstFrom (fun k => (fnAt T x k).fc != 0) 0 x.fns.length with
   | some k => ((fnAt T x k).fc, (fnAt T x k).fa)
   | none => (0, 0)
 else (rightE x, -1)
theorem lookup_true (l : List SFn) (s : ByteArray) : (l.map fun f => (f.f0, true)).lookup s = none ∨ (l.map fun f => (f.f0, true)).lookup s = some true := by
 induction l with
 | nil => exact .inl rfl
 | cons f l ih =>
  by_cases he : (s == f.f0) = true
  ·right; simp [List.lookup, he]
  ·have he' := Bool.eq_false_iff.2 he
   rw [show ((f :: l).map fun f => (f.f0, true)).lookup s = (l.map fun f => (f.f0, true)).lookup s from by simp [List.lookup, he']]
   exact ih
theorem seenS_true (fns : List SFn) (k : Nat) (s : ByteArray) : (seenS fns k).lookup s = none ∨ (seenS fns k).lookup s = some true := lookup_true _ s
theorem seenS_succ (fns : List SFn) (k : Nat) (hk : k < fns.length) : seenS fns (k + 1) = seenS fns k ++ [((fns.getD k zFn).f0, true)] := by
 unfold seenS
 rw [List.take_add_one, List.getElem?_eq_getElem hk, List.getD_eq_getElem?_getD, List.getElem?_eq_getElem hk, List.map_append]; rfl
theorem results_c1 {P : Program} {fn : Func} {p : Tmp} {ty : TypeId} (h : fn.results = #[.cell p ty]) (tmps : Array Value) (w : World) (g : Nat) (t : TypeId) (cs : Array Value) (fr : Nat × Nat) (d : TypeDesc)
  (hp : tmps.getD p undef = .pointer (some ⟨g, 0, none⟩)) (hg : w.heap[g]? = some (.cells cs t fr))
  (hu : P.underlying ty = some d) (hd : (match d with | .struct _ | .array _ _ => true | _ => false) = true) (hi : (P.info? ty).map (·.size) = some cs.size) :
  (results fn tmps).run P w = .ok (.agg cs) w := by
 have hp' : tmps[p]?.getD undef = .pointer (some ⟨g, 0, none⟩) := by simpa using hp
 simp [results, h, hp', asAddr, run_loadVar_row w g t ty cs fr d hg hu hd hi]
theorem VImage.below {w w' : World} {x : SImage} {v : Value} (h : VImage w x v) (hb : Below w.heap.size w w') : VImage w' x v := by
 obtain ⟨A0, c0, A1, c1, rfl, l0, hG, l1, hF⟩ := h
 exact ⟨A0, c0, A1, c1, rfl, l0, Kd.C_below hG hb, l1, Kd.C_below hF hb⟩
theorem typedB_le {t : Int} (h : typedB t = true) : 0 ≤ t ∧ t ≤ 4 := by unfold typedB at h; have := of_decide_eq_true h; omega
theorem typesB_le {l : List Int} (h : typesB l = true) : ∀ t ∈ l, 0 ≤ t ∧ t ≤ 4 := by
 intro t ht
 unfold typesB at h
 rw [Bool.not_eq_true', List.any_eq_false] at h
 have := h t ht
 exact typedB_le (by simpa using this)
theorem imgOK_of {x : SImage} (h : okB x = true) : ImgOK x := by
 obtain ⟨h1, h2, h3, h4⟩ := okB_bounds x h
 refine ⟨h1, h2, fun y hy => ?_, fun f hf => ?_⟩
 ·have := h3 y hy
  unfold globB at this
  rw [Bool.and_eq_true, Bool.and_eq_true] at this
  exact typedB_le this.1.1
 ·have hf4 := h4 f hf
  unfold fnB fnHeadB at hf4
  simp only [Bool.and_eq_true, decide_eq_true_eq, Bool.or_eq_true, beq_iff_eq, Bool.not_eq_true', List.any_eq_false] at hf4
  obtain ⟨⟨⟨⟨⟨⟨a1, a2⟩, a3⟩, a4⟩, a5⟩, a6⟩, b1, b2, b3⟩ := hf4
  refine ⟨?_, ?_, typesB_le a5, a2, a3, a4, fun i hi => ?_⟩
  ·rcases a6 with h0 | h0
   ·omega
   ·exact typedB_le h0
  ·intro t ht
   rw [b2] at ht
   exact typesB_le a5 t (List.mem_of_mem_take ht)
  ·have h9 : instrB i = true := by simpa using b3 i hi
   unfold instrB at h9
   have := of_decide_eq_true h9
   omega
theorem right_ok {x : SImage} (h : rightE x = 0) : okB x = true := by
 unfold rightE at h
 by_cases ho : okB x = true
 ·exact ho
 ·rw [if_neg ho] at h; omega
theorem below_low {B : Nat} {w w' : World} (h : Below w.heap.size w w') (hB : B ≤ w.heap.size) : Below B w w' := ⟨h.os, h.tape, h.output, h.size, fun i hi => h.block i (Nat.lt_of_lt_of_le hi hB)⟩
theorem below_low2 {w w' : World} (h : Below w.heap.size w w') : Below w.heap.size w w' := h
theorem backsL_ok : ∀ y ∈ backsL, y.f1.length ≤ 8 := by simp [backsL]
theorem Verify_any (T : Nat → ByteArray × ByteArray) (x : SImage) (v : Value) (w : World) (hv : VImage w x v) (hs : imgSmall 1099511620000 x) (hG : Nib w) (hT : Pln T w) (hTK : TOK T) :
  Calls Tryz.prog 35 #[v] w fun e w' => e = .returned (.agg #[.int .i64 (verifyS T x).1, .int .i64 (verifyS T x).2]) ∧ Below w.heap.size w w' := by
 obtain ⟨A0, c0, A1, c1, hve, l0, hG0, l1, hF0⟩ := hv
 have HGF := Lib.hid (show kGlob.C w A0 x.globs.length x.globs ∧ kFn.C w A1 x.fns.length x.fns from ⟨hG0, hF0⟩)
 subst hve
 obtain ⟨r, hr⟩ : ∃ r, r = verifyS T x := ⟨_, rfl⟩
 rw [← hr]
 have HR := Lib.hid hr
 have HT := Lib.hid hT
 have HN := Lib.hid hG
 have HSM := Lib.hid hs
 have hlf := hs.2.1
 clear hr hT hG hG0 hF0 hs
 go_enter Tryz.func35, Tryz.ntmps35
 go_wp2_with fail
 obtain ⟨W0, hW⟩ : ∃ W0, W0 = (w.alloc (Obj.cells #[Value.slice A0 x.globs.length c0, Value.slice A1 x.fns.length c1] 25)).alloc (Obj.cells #[Value.int IntKind.i64 0, Value.int IntKind.i64 0] 50) := ⟨_, rfl⟩
 rw [← hW]
 have HB0 := Lib.hid (show Below w.heap.size w W0 from by rw [hW]; exact below_alloc (below_alloc (Below.refl _ _) _) _)
 have hsz : W0.heap.size = w.heap.size + 2 := by rw [hW]; simp
 have HI0 := Lib.hid (show W0.heap[w.heap.size]? = some (.cells #[Value.slice A0 x.globs.length c0, Value.slice A1 x.fns.length c1] 25 (0, 0)) from by rw [hW]; exact blk_alloc (heap_alloc_new w _) _)
 have HF0 := Lib.hid (show W0.heap[w.heap.size + 1]? = some (.cells #[Value.int IntKind.i64 0, Value.int IntKind.i64 0] 50 (0, 0)) from by
  rw [hW]; have h := heap_alloc_new (w.alloc (Obj.cells #[Value.slice A0 x.globs.length c0, Value.slice A1 x.fns.length c1] 25)) (Obj.cells #[Value.int IntKind.i64 0, Value.int IntKind.i64 0] 50)
  simpa using h)
 clear hW
 refine (asI (Right_any x _ W0 (VImage.below ⟨A0, c0, A1, c1, rfl, l0, HGF.out.1, l1, HGF.out.2⟩ HB0.out) HSM.out (HN.out.below HB0.out))).mono ?_
 rintro e w1 ⟨er, rfl, HE, HB1⟩
 have HBw1 := Lib.hid (below_next HB0.out HB1.out)
 have HI1 := Lib.hid ((HB1.out.block w.heap.size (by omega)).trans HI0.out)
 have HF1 := Lib.hid ((HB1.out.block (w.heap.size + 1) (by omega)).trans HF0.out)
 have hs1 := HB1.out.size
 by_cases he0 : er = 0
 ·subst he0
  have HX := Lib.hid (imgOK_of (right_ok HE.out.symm))
  have hmm := @run_makeMap Tryz.prog
  have i1 : w1.cell? ⟨w.heap.size, 1, none⟩ = some (.slice A1 x.fns.length c1) := (blk_cell HI1.out 1).trans rfl
  have hsI : w.heap.size < w1.heap.size := by omega
  go_wp2_with fail
  go_loopw [21] (fun a wr => ∃ k : Nat, k ≤ x.fns.length ∧ a = .int .i64 k ∧ Hid (firstFrom (headBad x.fns) k x.fns.length = firstFrom (headBad x.fns) 0 x.fns.length) ∧ Hid (MM ekS evB wr w1.heap.size (seenS x.fns k)) ∧ Hid (Below w1.heap.size w1 wr)) (fun a _ => x.fns.length - (intOf a).toNat)
  case atStart => exact ⟨0, by omega, rfl, rfl, ⟨#[], 0, heap_alloc_new w1 _, rfl⟩, below_alloc (Below.refl _ _) _⟩
  case round =>
   obtain ⟨k, hk, rfl, HFF, HM, HB⟩ := hrel
   have HFr := Lib.hid ((HB.out.block (w.heap.size + 1) (by omega)).trans HF1.out)
   have HIr := Lib.hid ((HB.out.block w.heap.size (by omega)).trans HI1.out)
   clear i1 hmm
   by_cases hlt : k < x.fns.length
   ·obtain ⟨ad, B1, d1, B3, d3, B4, d4, rfl, h0, h1, h2, h3, h4, m1, g1, m3, g3, m4, g4⟩ := at_TFn (Kd.C_below (Kd.C_below HGF.out.2 HBw1.out) HB.out) (k : Int) (by omega) (by omega)
    obtain ⟨f, hf⟩ : ∃ f, f = rd_TFn x.fns (k : Int) := ⟨_, rfl⟩
    rw [← hf] at h0 h1 h2 h3 h4 m1 g1 m3 m4
    simp only [Int.toNat_natCast] at h0 h1 h2 h3 h4
    have hfe : x.fns.getD k zFn = f := by rw [hf]; rfl
    have HFE := Lib.hid hfe
    have HFO := Lib.hid (HX.out.fn f (by rw [← hfe]; exact getD_mem_fn _ k hlt))
    have G1 := Lib.hid g1
    obtain ⟨b, hb⟩ : ∃ b, ((seenS x.fns k).lookup f.f0).getD false = b := ⟨_, rfl⟩
    have hget : ∀ o, (Instr.lookup 123 (.map (some w1.heap.size)) (.string f.f0) false).run Tryz.prog (wr.alloc o) = .ok (.bool b) (wr.alloc o) := fun o => by
     rw [← hb]; exact seen_get (HM.out.move ((below_alloc (Below.refl _ _) o).block _ HM.out.lt)) f.f0
    have HBB := Lib.hid hb
    have hfr : w.heap.size + 1 < wr.heap.size := by have := HB.out.size; omega
    clear hf hfe g1 g3 g4 hb
    cases b
    ·go_wp2_with fail
     refine (Backs_any _).mono ?_
     rintro e w5 ⟨A, c, rfl, hC, hb5⟩
     have HX5 := Lib.hid ((hb5.block wr.heap.size (by simp)).trans (heap_alloc_new wr (Obj.cells #[.string f.f0, .slice B1 f.f1.length d1, .int .i64 f.f2, .slice B3 f.f3.length d3, .slice B4 f.f4.length d4] 54)))
     have HB5 := Lib.hid (below_next (below_alloc (Below.refl wr.heap.size wr) _) hb5)
     have HC := Lib.hid hC
     clear hC hb5
     simp only [show backsL.length = 6 from rfl]
     go_wp2_with fail
     refine (asB (conSys_any 64 #[.pointer (some ⟨wr.heap.size, 0, none⟩)] (backB f) A c backsL w5 en_Verify1 (fun y v w' hy hbw hv => Verify1_any y v w' wr.heap.size f B1 d1 _ _ hv ((hbw.block _ (blk_lt HX5.out)).trans HX5.out) (Kd.C_below (Kd.C_below G1.out HB5.out) hbw) (by have := backsL_ok y hy; omega) (by have := HFO.out.lp; omega)) HC.out (by simp [backsL]))).mono ?_
     rintro e w6 ⟨bb, rfl, HV, HW6⟩
     have HB6 := Lib.hid (below_next HB5.out HW6.out)
     have HF6 := Lib.hid ((HB6.out.block (w.heap.size + 1) hfr).trans HFr.out)
     have HX6 := Lib.hid ((HW6.out.block _ (blk_lt HX5.out)).trans HX5.out)
     obtain ⟨x0, x1, x2, x3, x4⟩ := cells5 HX6.out
     cases bb
     ·have HHB := Lib.hid (show headBad x.fns k = false from by unfold headBad; rw [HFE.out, HBB.out, ← HV.out]; rfl)
      have hnone : (seenS x.fns k).lookup f.f0 = none := by
       rcases seenS_true x.fns k f.f0 with h | h
       ·exact h
       ·have := HBB.out; rw [h] at this; simp at this
      obtain ⟨w7, hput, hM7, hO7⟩ := seen_put (HM.out.move (HB6.out.block _ HM.out.lt)) f.f0 hnone true
      have HM7 := Lib.hid (show MM ekS evB w7 w1.heap.size (seenS x.fns (k + 1)) from by rw [seenS_succ x.fns k hlt, HFE.out]; exact hM7)
      have HB7 := Lib.hid (show Below w1.heap.size w1 w7 from by
       have hb6 := HB.out.trans (below_low HB6.out HB.out.size)
       obtain ⟨o1, o2, o3, o4, o5⟩ := hO7
       exact ⟨o1.trans hb6.os, o2.trans hb6.tape, o3.trans hb6.output, by rw [o4]; exact hb6.size, fun i hi => (o5 i (by omega)).trans (hb6.block i hi)⟩)
      clear hM7 hO7 hnone
      go_wp2_with fail
      go_roundw
      case rel => exact ⟨k + 1, by omega, by go_num, by rw [← firstFrom_miss hlt HHB.out]; exact HFF.out, HM7.out, HB7.out⟩
      case measure => simp [intOf]; omega
     ·have HR2 := Lib.hid (show r = (163, (k : Int) * 65536) from by
       rw [HR.out]; unfold verifyS
       rw [if_pos HE.out.symm, ← HFF.out, firstFrom_hit hlt (by unfold headBad; rw [HFE.out, HBB.out, ← HV.out]; rfl)])
      have f0 : w6.cell? ⟨w.heap.size + 1, 0, none⟩ = some (.int .i64 0) := (blk_cell HF6.out 0).trans rfl
      have f1 : w6.cell? ⟨w.heap.size + 1, 1, none⟩ = some (.int .i64 0) := (blk_cell HF6.out 1).trans rfl
      have ff0 : w6.frozen? ⟨w.heap.size + 1, 0, none⟩ = false := blk_frozen HF6.out 0
      have ff1 : w6.frozen? ⟨w.heap.size + 1, 1, none⟩ = false := blk_frozen HF6.out 1
      have hfr6 : w.heap.size + 1 < w6.heap.size := blk_lt HF6.out
      go_wp2_with fail
      (try simp only [Exit.inBlock, Exit.then])
      refine bodyPost_ret (results_c1 rfl _ _ (w.heap.size + 1) 50 #[.int .i64 (163), .int .i64 ((k : Int) * 65536)] (0, 0) _ rfl (blk_put (blk_put HF6.out 0 (.int .i64 (163)) rfl) 1 (.int .i64 ((k : Int) * 65536)) rfl) Tryz.underlying50 rfl (by kernel_rfl)) rfl ?_
      exact ⟨by rw [HR2.out], below_set (below_set (below_next (below_next HBw1.out (below_low2 HB.out)) HB6.out) (by omega)) (by omega)⟩
    ·have HR2 := Lib.hid (show r = (163, (k : Int) * 65536) from by
      rw [HR.out]; unfold verifyS
      rw [if_pos HE.out.symm, ← HFF.out, firstFrom_hit hlt (by unfold headBad; rw [HFE.out, HBB.out]; rfl)])
     have f0 : wr.cell? ⟨w.heap.size + 1, 0, none⟩ = some (.int .i64 0) := (blk_cell HFr.out 0).trans rfl
     have f1 : wr.cell? ⟨w.heap.size + 1, 1, none⟩ = some (.int .i64 0) := (blk_cell HFr.out 1).trans rfl
     have ff0 : wr.frozen? ⟨w.heap.size + 1, 0, none⟩ = false := blk_frozen HFr.out 0
     have ff1 : wr.frozen? ⟨w.heap.size + 1, 1, none⟩ = false := blk_frozen HFr.out 1
     go_wp2_with fail
     (try simp only [Exit.inBlock, Exit.then])
     refine bodyPost_ret (results_c1 rfl _ _ (w.heap.size + 1) 50 #[.int .i64 (163), .int .i64 ((k : Int) * 65536)] (0, 0) _ rfl (blk_alloc (blk_put (blk_put HFr.out 0 (.int .i64 (163)) rfl) 1 (.int .i64 ((k : Int) * 65536)) rfl) _) Tryz.underlying50 rfl (by kernel_rfl)) rfl ?_
     exact ⟨by rw [HR2.out], below_alloc (below_set (below_set (below_next HBw1.out HB.out) (by omega)) (by omega)) _⟩
   ·obtain rfl : k = x.fns.length := by omega
    have HH := Lib.hid (show firstFrom (headBad x.fns) 0 x.fns.length = none from by rw [← HFF.out]; exact firstFrom_stop (by omega))
    obtain ⟨wq, rfl⟩ : ∃ z : World, z = wr := ⟨wr, rfl⟩
    have hsr := HB.out.size
    have i1 : wq.cell? ⟨w.heap.size, 1, none⟩ = some (.slice A1 x.fns.length c1) := (blk_cell HIr.out 1).trans rfl
    have HBwq := Lib.hid (show Below w.heap.size w wq from below_next HBw1.out HB.out)
    go_wp2_with fail
    go_loopw [46] (fun a w2 => ∃ q : Nat, q ≤ x.fns.length ∧ a = .int .i64 q ∧ Hid (firstFrom (fun k => (fnAt T x k).fc != 0) q x.fns.length = firstFrom (fun k => (fnAt T x k).fc != 0) 0 x.fns.length) ∧ Hid (Below wq.heap.size wq w2)) (fun a _ => x.fns.length - (intOf a).toNat)
    case atStart => exact ⟨0, by omega, rfl, rfl, Below.refl _ _⟩
    case round =>
     obtain ⟨q, hq, rfl, HFQ, HB2⟩ := hrel
     have HF2 := Lib.hid ((HB2.out.block (w.heap.size + 1) (by omega)).trans HFr.out)
     have HI2 := Lib.hid ((HB2.out.block w.heap.size (by omega)).trans HIr.out)
     have HBw2 := Lib.hid (show Below w.heap.size w wr from below_next HBwq.out HB2.out)
     clear i1
     by_cases hlq : q < x.fns.length
     ·have j0 : wr.cell? ⟨w.heap.size, 0, none⟩ = some (.slice A0 x.globs.length c0) := (blk_cell HI2.out 0).trans rfl
      have j1 : wr.cell? ⟨w.heap.size, 1, none⟩ = some (.slice A1 x.fns.length c1) := (blk_cell HI2.out 1).trans rfl
      obtain ⟨fc, hfc⟩ : ∃ z, z = (fnAt T x q).fc := ⟨_, rfl⟩
      obtain ⟨fa, hfa⟩ : ∃ z, z = (fnAt T x q).fa := ⟨_, rfl⟩
      obtain ⟨mo, hmo⟩ : ∃ z, z = (fnAt T x q).most := ⟨_, rfl⟩
      have HFn := Lib.hid (show Calls Tryz.prog 66 #[.agg #[.slice A0 x.globs.length c0, .slice A1 x.fns.length c1], .int .i64 q] wr fun e w' => e = .returned (.tuple #[.agg #[.int .i64 fc, .int .i64 fa], .int .i64 mo]) ∧ Below wr.heap.size wr w' from by
       rw [hfc, hfa, hmo]; exact function_any T x _ wr (VImage.below ⟨A0, c0, A1, c1, rfl, l0, HGF.out.1, l1, HGF.out.2⟩ HBw2.out) HX.out (HT.out.below HBw2.out) hTK q hlq)
      have HFC := Lib.hid hfc
      have HFA := Lib.hid hfa
      have hfr : w.heap.size + 1 < wr.heap.size := blk_lt HF2.out
      clear hfc hfa hmo
      go_wp2_with fail
      refine HFn.out.mono ?_
      rintro e w3 ⟨rfl, hb3⟩
      have HB3 := Lib.hid hb3
      have HF3 := Lib.hid ((hb3.block _ hfr).trans HF2.out)
      have hfr3 : w.heap.size + 1 < w3.heap.size := blk_lt HF3.out
      clear hb3 j0 j1
      by_cases hc : fc = 0
      ·subst hc
       have HM := Lib.hid (show ((fnAt T x q).fc != 0) = false from by rw [← HFC.out]; rfl)
       go_wp2_with fail
       go_roundw
       case rel => exact ⟨q + 1, by omega, by go_num, by rw [← firstFrom_miss (p := fun k => (fnAt T x k).fc != 0) hlq HM.out]; exact HFQ.out, below_alloc (below_next HB2.out HB3.out) _⟩
       case measure => simp [intOf]; omega
      ·have hc' : (fc != 0) = true := by simpa using hc
       have HR2 := Lib.hid (show r = (fc, fa) from by
        rw [HR.out]; unfold verifyS
        rw [if_pos HE.out.symm, HH.out]
        simp only
        rw [← HFQ.out, firstFrom_hit (p := fun k => (fnAt T x k).fc != 0) hlq (by show ((fnAt T x q).fc != 0) = true; rw [← HFC.out]; exact hc')]
        simp only
        rw [HFC.out, HFA.out])
       clear hc
       have f0 : w3.cell? ⟨w.heap.size + 1, 0, none⟩ = some (.int .i64 0) := (blk_cell HF3.out 0).trans rfl
       have f1 : w3.cell? ⟨w.heap.size + 1, 1, none⟩ = some (.int .i64 0) := (blk_cell HF3.out 1).trans rfl
       have ff0 : w3.frozen? ⟨w.heap.size + 1, 0, none⟩ = false := blk_frozen HF3.out 0
       have ff1 : w3.frozen? ⟨w.heap.size + 1, 1, none⟩ = false := blk_frozen HF3.out 1
       go_wp2_with fail
       (try simp only [Exit.inBlock, Exit.then])
       refine bodyPost_ret (results_c1 rfl _ _ (w.heap.size + 1) 50 #[.int .i64 (fc), .int .i64 (fa)] (0, 0) _ rfl (blk_alloc (blk_put (blk_put HF3.out 0 (.int .i64 (fc)) rfl) 1 (.int .i64 (fa)) rfl) _) Tryz.underlying50 rfl (by kernel_rfl)) rfl ?_
       exact ⟨by rw [HR2.out], below_alloc (below_set (below_set (below_next HBw2.out HB3.out) (by omega)) (by omega)) _⟩
     ·obtain rfl : q = x.fns.length := by omega
      have HR2 := Lib.hid (show r = (0, 0) from by
       rw [HR.out]; unfold verifyS
       rw [if_pos HE.out.symm, HH.out]
       simp only
       rw [← HFQ.out, firstFrom_stop (by omega)])
      have f0 : wr.cell? ⟨w.heap.size + 1, 0, none⟩ = some (.int .i64 0) := (blk_cell HF2.out 0).trans rfl
      have f1 : wr.cell? ⟨w.heap.size + 1, 1, none⟩ = some (.int .i64 0) := (blk_cell HF2.out 1).trans rfl
      have ff0 : wr.frozen? ⟨w.heap.size + 1, 0, none⟩ = false := blk_frozen HF2.out 0
      have ff1 : wr.frozen? ⟨w.heap.size + 1, 1, none⟩ = false := blk_frozen HF2.out 1
      go_wp2_with fail
      (try simp only [Exit.inBlock, Exit.then])
      refine bodyPost_ret (results_c1 rfl _ _ (w.heap.size + 1) 50 #[.int .i64 (0), .int .i64 (0)] (0, 0) _ rfl (blk_put (blk_put HF2.out 0 (.int .i64 (0)) rfl) 1 (.int .i64 (0)) rfl) Tryz.underlying50 rfl (by kernel_rfl)) rfl ?_
      exact ⟨by rw [HR2.out], below_set (below_set HBw2.out (by omega)) (by omega)⟩
 ·have he0' : (er != 0) = true := by simpa using he0
  have HR2 := Lib.hid (show r = (er, -1) from by rw [HR.out]; unfold verifyS; rw [if_neg (by rw [← HE.out]; exact he0), HE.out])
  have f0 : w1.cell? ⟨w.heap.size + 1, 0, none⟩ = some (.int .i64 0) := (blk_cell HF1.out 0).trans rfl
  have f1 : w1.cell? ⟨w.heap.size + 1, 1, none⟩ = some (.int .i64 0) := (blk_cell HF1.out 1).trans rfl
  have ff0 : w1.frozen? ⟨w.heap.size + 1, 0, none⟩ = false := blk_frozen HF1.out 0
  have ff1 : w1.frozen? ⟨w.heap.size + 1, 1, none⟩ = false := blk_frozen HF1.out 1
  clear he0
  go_wp2_with fail
  (try simp only [Exit.inBlock, Exit.then])
  refine bodyPost_ret (results_c1 rfl _ _ (w.heap.size + 1) 50 #[.int .i64 er, .int .i64 (-1)] (0, 0) _ rfl (blk_put (blk_put HF1.out 0 (.int .i64 er) rfl) 1 (.int .i64 (-1)) rfl) Tryz.underlying50 rfl (by kernel_rfl)) rfl ?_
  exact ⟨by rw [HR2.out], below_set (below_set HBw1.out (by omega)) (by omega)⟩
theorem verify_right {T : Nat → ByteArray × ByteArray} {x : SImage} (h : (verifyS T x).1 = 0) : rightE x = 0 := by
 unfold verifyS at h
 by_cases hr : rightE x = 0
 ·exact hr
 ·rw [if_neg hr] at h; exact absurd h hr
theorem runS_inv (T : Nat → ByteArray × ByteArray) (x : SImage) (f : SFn) (nn : Int) (hX : ImgOK x) (hF : FnOK f) (hT : TOK T) : ∀ (n : Nat) (r : Bool × VSt), INV f.f4.length r.2 → INV f.f4.length (runS T x f nn n r).2
 | 0, r, h => h
 | n + 1, r, h => by
  show INV _ (if goOn r then runS T x f nn n (stepS T x f nn r.2) else r).2
  split
  ·rename_i hg
   have h0 : 0 < r.2.waits.length := by
    unfold goOn at hg
    rw [Bool.and_eq_true] at hg
    exact of_decide_eq_true hg.2
   exact runS_inv T x f nn hX hF hT n _ (stepS_inv T x f nn r.2 h hX hF hT h0).1
  ·exact h
theorem fnS_inv (T : Nat → ByteArray × ByteArray) (x : SImage) (f : SFn) (nn : Int) (hX : ImgOK x) (hF : FnOK f) (hT : TOK T) : INV f.f4.length (fnS T x f nn).2 :=
 runS_inv T x f nn hX hF hT _ _ (goesS_inv f nn st0 (st0_inv _) 0 0 ⟨#[]⟩ (by omega) (by simp [ByteArray.size]) (by simp [ByteArray.size])).1
/-! One function's run is another's, as long as nothing is wrong. -/
theorem goesS_fc {f : SFn} {nn : Int} {st : VSt} {fr dst : Int} {s : ByteArray} : ((goesS f nn st fr dst s).1 = true → (goesS f nn st fr dst s).2.fc = st.fc) ∧ ((goesS f nn st fr dst s).1 = false → (goesS f nn st fr dst s).2.fc ≠ 0) := by
 unfold goesS
 split
 ·simp
 ·split
  ·split <;> simp
  ·simp
theorem onS_fc {f : SFn} {nn : Int} {st : VSt} {k : Nat} {i : SInstr} {s : ByteArray} : ((onS f nn st k i s).1 = true → (onS f nn st k i s).2.fc = st.fc) ∧ ((onS f nn st k i s).1 = false → (onS f nn st k i s).2.fc ≠ 0) := by
 by_cases h28 : i.f0 = 28
 ·rw [onS_28 _ _ _ _ _ _ h28]; exact goesS_fc
 ·by_cases h29 : i.f0 = 29
  ·rw [onS_29 _ _ _ _ _ _ h29]
   have h1 := @goesS_fc f nn st k i.f1 s
   have h2 := @goesS_fc f nn (goesS f nn st k i.f1 s).2 k (k + 1) s
   split
   ·rename_i hg
    exact ⟨fun h => (h2.1 h).trans (h1.1 hg), h2.2⟩
   ·rename_i hg
    exact ⟨fun h => (by cases h), fun _ => h1.2 (Bool.eq_false_iff.2 hg)⟩
  ·by_cases h32 : i.f0 = 32
   ·rw [onS_32 _ _ _ _ _ _ h32]; simp
   ·rw [onS_00 _ _ _ _ _ _ ⟨h28, h29, h32⟩]; exact goesS_fc
theorem lookS_fc {T : Nat → ByteArray × ByteArray} {x : SImage} {f : SFn} {nn : Int} {st : VSt} {k : Nat} : ((lookS T x f nn st k).1 = true → (lookS T x f nn st k).2.fc = st.fc) ∧ ((lookS T x f nn st k).1 = false → (lookS T x f nn st k).2.fc ≠ 0) := by
 unfold lookS
 simp only
 split
 ·split
  ·split
   ·simp
   ·exact onS_fc
  ·simp
 ·refine ⟨fun h => (by cases h), fun _ => ?_⟩
  simp only
  split <;> omega
theorem runS_false (T : Nat → ByteArray × ByteArray) (x : SImage) (f : SFn) (nn : Int) (n : Nat) (st : VSt) : runS T x f nn n (false, st) = (false, st) := runS_stop T x f nn _ rfl n
theorem runS_fc (T : Nat → ByteArray × ByteArray) (x : SImage) (f : SFn) (nn : Int) : ∀ (n : Nat) (r : Bool × VSt), (r.1 = false → r.2.fc ≠ 0) → (runS T x f nn n r).1 = false → (runS T x f nn n r).2.fc ≠ 0
 | 0, r, h => h
 | n + 1, r, h => by
  intro h1
  unfold runS at h1 ⊢
  by_cases hg : goOn r = true
  ·rw [if_pos hg] at h1 ⊢
   exact runS_fc T x f nn n _ (lookS_fc).2 h1
  ·rw [if_neg hg] at h1 ⊢
   exact h h1
theorem runS_ends (T : Nat → ByteArray × ByteArray) (x : SImage) (f : SFn) (nn : Int) (hX : ImgOK x) (hF : FnOK f) (hT : TOK T) : ∀ (n : Nat) (r : Bool × VSt), INV f.f4.length r.2 → mu f.f4.length r.2 ≤ n → goOn (runS T x f nn n r) = false
 | 0, r, hi, h => by
  have : r.2.waits.length = 0 := by unfold mu at h; omega
  show goOn r = false
  unfold goOn; rw [this]; simp
 | n + 1, r, hi, h => by
  unfold runS
  by_cases hg : goOn r = true
  ·rw [if_pos hg]
   have h0 : 0 < r.2.waits.length := by unfold goOn at hg; rw [Bool.and_eq_true] at hg; exact of_decide_eq_true hg.2
   obtain ⟨i1, i2, i3, i4⟩ := stepS_inv T x f nn r.2 hi hX hF hT h0
   exact runS_ends T x f nn hX hF hT n _ i1 (by omega)
  ·rw [if_neg hg]; exact Bool.eq_false_iff.2 hg
theorem beginS_inv (f : SFn) (nn : Int) : INV f.f4.length (beginS f nn).2 ∧ mu f.f4.length (beginS f nn).2 ≤ 2 * f.f4.length := by
 have h := goesS_inv f nn st0 (st0_inv _) 0 0 ⟨#[]⟩ (by omega) (by simp [ByteArray.size]) (by simp [ByteArray.size])
 refine ⟨h.1, Nat.le_trans h.2.1 ?_⟩
 simp [mu, st0]
theorem fnS_ok {T : Nat → ByteArray × ByteArray} {x : SImage} {f : SFn} {nn : Int} (h : (fnS T x f nn).2.fc = 0) : (fnS T x f nn).1 = true := by
 cases hc : (fnS T x f nn).1
 ·exact absurd h (runS_fc T x f nn _ _ (goesS_fc).2 hc)
 ·rfl
end Go.Proofs.YtedmncldelcbfaaGreatDoor.E
