import Derived.Test.YtedmncldelcbfaaGreatDoorKE
import Derived.Test.YtedmncldelcbfaaGreatDoorKD
/- The calls of the machine from outside: no statement of its own. -/
namespace Go.Proofs.YtedmncldelcbfaaGreatDoor.E
open Go Go.RowKit Go.Proofs.YtedmncldelcbfaaGreatDoorW.PrintWords Go.Proofs.YtedmncldelcbfaaGreatDoorW.PrintLast Go.Proofs.YtedmncldelcbfaaGreatDoorW.PrintMore
set_option linter.unusedVariables false
set_option linter.unusedSimpArgs false
set_option maxRecDepth 100000
set_option maxHeartbeats 2000000
/-! ### A machine, with or without functions; Find -/
structure MACHX (W : World) (mb : Nat) (x : SImage) (AG : Option Addr) (cG : Nat) (AF : Option Addr) (cF : Nat) (AS : Option Addr) (cS : Nat) : Prop where
 blk : W.heap[mb]? = some (.cells #[.slice AG x.globs.length cG, .slice AF x.fns.length cF, .slice AS callsL.length cS] 95 (0, 0))
 globs : kGlob.C W AG x.globs.length x.globs
 fns : kFn.C W AF x.fns.length x.fns
 calls : kSys.C W AS callsL.length callsL
 lG : x.globs.length ≤ cG
 lF : x.fns.length ≤ cF
 lS : callsL.length ≤ cS
 aF : ∀ a, AF = some a → ∃ fb, a = ⟨fb, 0, none⟩
theorem MACHX.mach {W : World} {mb fb : Nat} {x : SImage} {AG : Option Addr} {cG : Nat} {AF : Option Addr} {cF : Nat} {AS : Option Addr} {cS : Nat} (h : MACHX W mb x AG cG AF cF AS cS) (e : AF = some ⟨fb, 0, none⟩) : MACH W mb fb x AG cG cF AS cS := by
 subst e
 exact ⟨h.blk, h.globs, h.fns, h.calls, h.lG, h.lF, h.lS⟩
theorem MACHX.form {W : World} {mb : Nat} {x : SImage} {AG : Option Addr} {cG : Nat} {AF : Option Addr} {cF : Nat} {AS : Option Addr} {cS : Nat} (h : MACHX W mb x AG cG AF cF AS cS) (h0 : 0 < x.fns.length) : ∃ fb, AF = some ⟨fb, 0, none⟩ := by
 obtain ⟨ad, _, _, _, _, _, _, hA, _⟩ := at_TFn h.fns 0 (by omega) (by omega)
 obtain ⟨fb, rfl⟩ := h.aF ad hA
 exact ⟨fb, hA⟩
/-- the first place of which p is true; -1 -/
def findR (p : SFn → Bool) (l : List SFn) : Int := match firstFrom (fun j => p (l.getD j zFn)) 0 l.length with
 | some k => k
 | none => -1
theorem findR_hit (p : SFn → Bool) (l : List SFn) (k : Nat) (hk : k < l.length) (hj : ∀ j, j < k → p (l.getD j zFn) = false) (h : p (l.getD k zFn) = true) : findR p l = k := by
 have hq : ∀ i, i ≤ k → firstFrom (fun j => p (l.getD j zFn)) i l.length = some k := by
  intro i hi
  obtain ⟨d, hd⟩ : ∃ d, k = i + d := ⟨k - i, by omega⟩
  induction d generalizing i with
  | zero =>
   obtain rfl : i = k := by omega
   exact firstFrom_hit hk h
  | succ d ih => rw [firstFrom_miss (by omega) (hj i (by omega))]; exact ih (i + 1) (by omega) (by omega)
 unfold findR
 rw [hq 0 (by omega)]
theorem findR_none (p : SFn → Bool) (l : List SFn) (h : ∀ j, j < l.length → p (l.getD j zFn) = false) : findR p l = -1 := by
 unfold findR
 rw [firstFrom_none.2 (fun j _ hj => h j hj)]
theorem idxFnR_any (K : Nat) (caps : Array Value) (p : SFn → Bool) (A : Option Addr) (c : Nat) (l : List SFn) (w : World) (he : Enters K)
  (hp : ∀ x v w', x ∈ l → Below w.heap.size w w' → VFn w' x v → PCalls K caps v w' (p x)) (hr : Kd.C kFn w A l.length l) (hl : l.length ≤ 9223372036854775806) :
  Calls Tryz.prog 46 #[.slice A l.length c, .func (.func K) #[] caps] w fun e w' => e = .returned (.int .i64 (findR p l)) ∧ Below w.heap.size w w' := by
 have HP := Lib.hid hp; clear hp
 have HR := Lib.hid hr; clear hr
 unfold Enters at he
 go_enter Tryz.func46, Tryz.ntmps46
 go_wp2
 go_loopw [8] (fun i w' => ∃ k : Nat, k ≤ l.length ∧ i = .int .i64 k ∧ Hid (∀ j, j < k → p (l.getD j zFn) = false) ∧ Hid (Below w.heap.size w w')) (fun i _ => l.length - (intOf i).toNat)
 case atStart => exact ⟨0, by omega, rfl, fun j hj => by omega, Below.refl _ _⟩
 case round =>
  obtain ⟨k, hk, rfl, HJ, HB⟩ := hrel
  by_cases hlt : k < l.length
  ·obtain ⟨ad, A1, c1, A3, c3, A4, c4, rfl, h0, h1, h2, h3, h4, l1, g1, l3, g3, l4, g4⟩ := at_TFn (Kd.C_below HR.out HB.out) (k : Int) (by omega) (by omega)
   obtain ⟨x, hx⟩ : ∃ x, x = rd_TFn l (k : Int) := ⟨_, rfl⟩
   rw [← hx] at h0 h1 h2 h3 h4 l1 g1 l3 g3 l4 g4
   simp only [Int.toNat_natCast] at h0 h1 h2 h3 h4
   have HX : Hid (x = l.getD k zFn) := by rw [hx]; rfl
   clear hx
   have G1 := Lib.hid g1; clear g1
   have G3 := Lib.hid g3; clear g3
   have G4 := Lib.hid g4; clear g4
   go_wp2_with fail
   refine (HP.out x _ _ (getD_mem l zFn k hlt x HX.out) HB.out ⟨A1, c1, A3, c3, A4, c4, rfl, l1, G1.out, l3, G3.out, l4, G4.out⟩).mono ?_
   rintro e w1 ⟨rfl, hb⟩
   have HB1 := Lib.hid hb; clear hb
   by_cases hpk : p x = true
   ·have HY := Lib.hid (findR_hit p l k hlt HJ.out (HX.out ▸ hpk))
    rw [hpk]
    clear hpk
    go_wp2_with fail
    go_ret
    exact ⟨ret_int64 HY.out.symm, below_next HB.out HB1.out⟩
   ·have hpk' := Bool.eq_false_iff.2 hpk
    have HY := Lib.hid (any_snoc p zFn l k HJ.out (HX.out ▸ hpk'))
    rw [hpk']
    clear hpk hpk'
    go_wp2_with fail
    go_roundw
    case rel => exact ⟨k + 1, by omega, by go_num, HY.out, below_next HB.out HB1.out⟩
    case measure => simp [intOf]; omega
  ·obtain rfl : k = l.length := by omega
   have HY := Lib.hid (findR_none p l HJ.out)
   go_wp2
   go_ret
   exact ⟨ret_int64 HY.out.symm, HB.out⟩
def nameP (s : ByteArray) (f : SFn) : Bool := f.f0.toList == s.toList
theorem en_Find1 : Enters 47 := fun args w => enters_ Tryz.func47 (by kernel_rfl) rfl args w
theorem Find1_any (f : SFn) (v : Value) (w : World) (b : Nat) (s : ByteArray) (hv : VFn w f v) (hb : w.cell? ⟨b, 0, none⟩ = some (.string s)) :
  Calls Tryz.prog 47 #[v, .pointer (some ⟨b, 0, none⟩)] w fun e w' => e = .returned (.bool (nameP s f)) ∧ Below w.heap.size w w' := by
 obtain ⟨A1, c1, A3, c3, A4, c4, rfl, _⟩ := hv
 obtain ⟨p, hp⟩ : ∃ p, (f.f0.toList == s.toList) = p := ⟨_, rfl⟩
 have hlt := cell_lt hb
 have HP := Lib.hid (show nameP s f = p from hp)
 go_enter Tryz.func47, Tryz.ntmps47
 go_wp2_with fail
 go_ret
 exact ⟨ret_bool HP.out.symm, below_alloc (Below.refl _ _) _⟩
def findS (x : SImage) (s : ByteArray) : Int := findR (nameP s) x.fns
theorem mFind_any (w : World) (mb : Nat) (x : SImage) (AG : Option Addr) (cG : Nat) (AF : Option Addr) (cF : Nat) (AS : Option Addr) (cS : Nat) (h : MACHX w mb x AG cG AF cF AS cS) (hl : x.fns.length ≤ 1000) (s : ByteArray) :
  Calls Tryz.prog 22 #[.pointer (some ⟨mb, 0, none⟩), .string s] w fun e w' => e = .returned (.int .i64 (findS x s)) ∧ Below w.heap.size w w' := by
 have c1 : w.cell? ⟨mb, 1, none⟩ = some (.slice AF x.fns.length cF) := (blk_cell h.blk 1).trans rfl
 have hmb := cell_lt c1
 have hbA := below_alloc (Below.refl w.heap.size w) (.cells #[.string s] 9)
 have HC := Lib.hid (idxFnR_any 47 #[.pointer (some ⟨w.heap.size, 0, none⟩)] (nameP s) AF cF x.fns (w.alloc (.cells #[.string s] 9)) en_Find1
  (fun y v w' _ hb' hv => Find1_any y v w' w.heap.size s hv ((hb'.cell (p := ⟨w.heap.size, 0, none⟩) (by simp)).trans ((blk_cell (heap_alloc_new w _) 0).trans rfl)))
  (Kd.C_below h.fns hbA) (by omega))
 have HB := Lib.hid hbA
 clear h hbA
 go_enter Tryz.func22, Tryz.ntmps22
 go_wp2_with fail
 refine (asI HC.out).mono ?_
 rintro e w1 ⟨r, rfl, HE, HW⟩
 go_wp2_with fail
 go_ret
 exact ⟨ret_int64 HE.out, below_next HB.out HW.out⟩
def notBit (v : Int) : Bool := bits .andNot .i64 v 1 != 0
def fitsB (t : Int) (l : List Int) : Bool := t != 3 || !l.any notBit
theorem en_fits1 : Enters 106 := fun args w => enters_ Tryz.func106 (by kernel_rfl) rfl args w
theorem fits1_any (v : Int) (w : World) : Calls Tryz.prog 106 #[.int .i64 v] w fun e w' => e = .returned (.bool (notBit v)) ∧ Below w.heap.size w w' := by
 obtain ⟨p, hp⟩ : ∃ p, (bits .andNot .i64 v 1 != 0) = p := ⟨_, rfl⟩
 have HP := Lib.hid (show notBit v = p from hp)
 go_enter Tryz.func106, Tryz.ntmps106
 go_wp2_with fail
 go_ret
 exact ⟨ret_bool HP.out.symm, Below.refl _ _⟩
theorem fits_any (t : Int) (A : Option Addr) (c : Nat) (l : List Int) (w : World) (hC : Kd.C (Kd.int .i64) w A l.length l) (hl : l.length ≤ 1000000) :
  Calls Tryz.prog 76 #[.int .i64 t, .slice A l.length c] w fun e w' => e = .returned (.bool (fitsB t l)) ∧ Below w.heap.size w w' := by
 have HC := Lib.hid (conInt_any 106 notBit A c l w en_fits1 (fun x w => fits1_any x w) hC (by omega))
 clear hC
 by_cases ht : t = 3
 ·subst ht
  go_enter Tryz.func76, Tryz.ntmps76
  go_wp2_with fail
  refine (asB HC.out).mono ?_
  rintro e w1 ⟨r, rfl, HE, HW⟩
  have HR := Lib.hid (show fitsB 3 l = !r from by unfold fitsB; rw [HE.out]; rfl)
  go_wp2_with fail
  go_ret
  exact ⟨ret_bool HR.out.symm, HW.out⟩
 ·have hz : (t == 3) = false := by simpa using ht
  have hz2 : (t != 3) = true := by simpa using ht
  have HR := Lib.hid (show fitsB t l = true from by unfold fitsB; rw [hz2]; rfl)
  go_enter Tryz.func76, Tryz.ntmps76
  go_wp2_with fail
  go_ret
  exact ⟨ret_bool HR.out.symm, Below.refl _ _⟩
theorem vsize_any (g : SGlob) (w : World) : Calls Tryz.prog 45 #[.agg #[.int .i64 g.f0, .int .i64 g.f1, .int .i64 g.f2]] w fun e w' => e = .returned (.int .i64 (mx 1 g.f1)) ∧ Below w.heap.size w w' := vm_size.calls g.f0 g.f1 g.f2 _ w rfl
set_option maxHeartbeats 4000000
/-! ### May a run begin? -/
def sizeG (g : SGlob) : Nat := (mx 1 g.f1).toNat
def stateBad (x : SImage) (state : List (List Int)) (k : Nat) : Bool := decide ((state.getD k []).length ≠ sizeG (x.globs.getD k zGlob)) || !fitsB (x.globs.getD k zGlob).f0 (state.getD k [])
def argBad (ps args : List Int) (k : Nat) : Bool := !fitsB (ps.getD k 0) [args.getD k 0]
def headR (x : SImage) (state : List (List Int)) (fn : Int) (args : List Int) (fuel : Int) : Bool :=
 decide (state.length = x.globs.length) && decide (0 ≤ fn) && decide (fn < x.fns.length) && decide (0 ≤ fuel) && decide (fuel ≤ 1048576) && decide (args.length = (fnA x fn).f1.length)
def stateR (x : SImage) (state : List (List Int)) : Bool := (firstFrom (stateBad x state) 0 x.globs.length).isNone
def rightR (x : SImage) (state : List (List Int)) (fn : Int) (args : List Int) (fuel : Int) : Bool :=
 headR x state fn args fuel && (stateR x state && (firstFrom (argBad (fnA x fn).f1 args) 0 (fnA x fn).f1.length).isNone)
theorem right_head (w : World) (mb : Nat) (x : SImage) (AG : Option Addr) (cG : Nat) (AF : Option Addr) (cF : Nat) (AS : Option Addr) (cS : Nat) (h : MACHX w mb x AG cG AF cF AS cS) (hl : x.fns.length ≤ 1000) (hg : x.globs.length ≤ 1000)
  (A : Option Addr) (c : Nat) (state : List (List Int)) (fn : Int) (B : Option Addr) (d : Nat) (args : List Int) (fuel : Int) (hs : state.length ≤ 1000000) (ha : args.length ≤ 2000000) (hf : headR x state fn args fuel = false) :
  Calls Tryz.prog 48 #[.pointer (some ⟨mb, 0, none⟩), .slice A state.length c, .int .i64 fn, .slice B args.length d, .int .i64 fuel] w fun e w' => e = .returned (.bool false) ∧ Below w.heap.size w w' := by
 have c0 : w.cell? ⟨mb, 0, none⟩ = some (.slice AG x.globs.length cG) := (blk_cell h.blk 0).trans rfl
 have c1 : w.cell? ⟨mb, 1, none⟩ = some (.slice AF x.fns.length cF) := (blk_cell h.blk 1).trans rfl
 have HF := Lib.hid hf
 have HFN := Lib.hid h.fns
 clear h hf
 obtain ⟨gl, hgl⟩ : ∃ gl, gl = x.globs.length := ⟨_, rfl⟩
 obtain ⟨fl, hfl⟩ : ∃ fl, fl = x.fns.length := ⟨_, rfl⟩
 obtain ⟨sl, hsl⟩ : ∃ sl, sl = state.length := ⟨_, rfl⟩
 obtain ⟨al, hal⟩ : ∃ al, al = args.length := ⟨_, rfl⟩
 rw [← hgl] at c0
 rw [← hfl] at c1
 rw [← hsl, ← hal]
 by_cases k1 : sl = gl
 ·by_cases k2 : 0 ≤ fn
  ·by_cases k3 : fn < fl
   ·by_cases k4 : 0 ≤ fuel
    ·by_cases k5 : fuel ≤ 1048576
     ·obtain ⟨fi, rfl⟩ : ∃ fi : Nat, fn = fi := ⟨fn.toNat, by omega⟩
      obtain ⟨ad, B1, d1', B3, d3, B4, d4, hAd, h0, h1, h2, h3, h4, m1, g1, m3, g3, m4, g4⟩ := at_TFn HFN.out (fi : Int) (by omega) (by omega)
      subst hAd
      have hrd : rd_TFn x.fns (fi : Int) = fnA x (fi : Int) := rfl
      rw [hrd] at h1
      simp only [Int.toNat_natCast] at h1
      obtain ⟨pl, hpl⟩ : ∃ pl, pl = (fnA x (fi : Int)).f1.length := ⟨_, rfl⟩
      rw [← hpl] at h1
      have k6 : ¬ al = pl := by
       intro e
       have h5 := HF.out
       unfold headR at h5
       rw [← hsl, ← hal, ← hgl, ← hfl, ← hpl] at h5
       simp [k1, k2, k3, k4, k5, e] at h5
      have b6 : ((al : Int) != (pl : Int)) = true := by simp; omega
      have y1 : decide ((sl : Int) = (gl : Int)) = true := decide_eq_true (by omega)
      have z5 : decide (fuel > (1048576 : Int)) = false := decide_eq_false (by omega)
      have z6 : ¬ (1048576 : Int) < fuel := by omega
      clear h0 h2 h3 h4 m1 g1 m3 g3 m4 g4 hrd hpl hgl hfl hsl hal k5
      go_enter Tryz.func48, Tryz.ntmps48
      go_wp2_with fail
      go_ret
      exact ⟨rfl, Below.refl _ _⟩
     ·clear hgl hfl hsl hal
      go_enter Tryz.func48, Tryz.ntmps48
      go_wp2_with fail
      go_ret
      exact ⟨rfl, Below.refl _ _⟩
    ·clear hgl hfl hsl hal
     go_enter Tryz.func48, Tryz.ntmps48
     go_wp2_with fail
     go_ret
     exact ⟨rfl, Below.refl _ _⟩
   ·clear hgl hfl hsl hal
    go_enter Tryz.func48, Tryz.ntmps48
    go_wp2_with fail
    go_ret
    exact ⟨rfl, Below.refl _ _⟩
  ·clear hgl hfl hsl hal
   go_enter Tryz.func48, Tryz.ntmps48
   go_wp2_with fail
   go_ret
   exact ⟨rfl, Below.refl _ _⟩
 ·clear hgl hfl hsl hal
  go_enter Tryz.func48, Tryz.ntmps48
  go_wp2_with fail
  go_ret
  exact ⟨rfl, Below.refl _ _⟩
theorem addr_lt {w : World} {p : Addr} {v : Value} (h : w.cell? p = some v) : p.block < w.heap.size := World.block_lt_of_cell? w p h
theorem firstFrom_some {p : Nat → Bool} {k n : Nat} (hk : k < n) (hj : ∀ j, j < k → p j = false) (h : p k = true) : firstFrom p 0 n = some k := by
  have hq : ∀ d i, k = i + d → firstFrom p i n = some k := by
    intro d
    induction d with
    | zero => intro i hi; obtain rfl : i = k := by omega
              exact firstFrom_hit hk h
    | succ d ih => intro i hi; rw [firstFrom_miss (by omega) (hj i (by omega))]; exact ih (i + 1) (by omega)
  exact hq k 0 (by omega)
theorem bad_snoc {p : Nat → Bool} {k : Nat} (hj : ∀ j, j < k → p j = false) (h : p k = false) : ∀ j, j < k + 1 → p j = false := by
 intro j hj2
 by_cases e : j = k
 ·rw [e]; exact h
 ·exact hj j (by omega)
theorem headR_parts {x : SImage} {state : List (List Int)} {fn : Int} {args : List Int} {fuel : Int} (h : headR x state fn args fuel = true) :
  state.length = x.globs.length ∧ 0 ≤ fn ∧ fn < x.fns.length ∧ 0 ≤ fuel ∧ fuel ≤ 1048576 ∧ args.length = (fnA x fn).f1.length := by
 unfold headR at h
 simp only [Bool.and_eq_true, decide_eq_true_eq] at h
 obtain ⟨⟨⟨⟨⟨h1, h2⟩, h3⟩, h4⟩, h5⟩, h6⟩ := h
 exact ⟨h1, h2, h3, h4, h5, h6⟩
theorem right_any (w : World) (mb : Nat) (x : SImage) (AG : Option Addr) (cG : Nat) (AF : Option Addr) (cF : Nat) (AS : Option Addr) (cS : Nat) (h : MACHX w mb x AG cG AF cF AS cS) (hl : x.fns.length ≤ 1000) (hg : x.globs.length ≤ 1000) (hp : ∀ f ∈ x.fns, f.f1.length ≤ 1000)
  (A : Option Addr) (c : Nat) (state : List (List Int)) (hS : kInts.C w A state.length state) (fn : Int) (B : Option Addr) (d : Nat) (args : List Int) (hA : (Kd.int .i64).C w B args.length args) (fuel : Int) (hs : state.length ≤ 1000000) (hsl : ∀ r ∈ state, r.length ≤ 1000000) (ha : args.length ≤ 2000000) (hf : headR x state fn args fuel = true) :
  Calls Tryz.prog 48 #[.pointer (some ⟨mb, 0, none⟩), .slice A state.length c, .int .i64 fn, .slice B args.length d, .int .i64 fuel] w fun e w' => e = .returned (.bool (rightR x state fn args fuel)) ∧ Below w.heap.size w w' := by
 have c0 : w.cell? ⟨mb, 0, none⟩ = some (.slice AG x.globs.length cG) := (blk_cell h.blk 0).trans rfl
 have c1 : w.cell? ⟨mb, 1, none⟩ = some (.slice AF x.fns.length cF) := (blk_cell h.blk 1).trans rfl
 obtain ⟨k1, k2, k3, k4, k5, k6⟩ := headR_parts hf
 obtain ⟨fi, rfl⟩ : ∃ fi : Nat, fn = fi := ⟨fn.toNat, by omega⟩
 obtain ⟨ad, B1, d1', B3, d3, B4, d4, hAd, h0, h1, h2, h3, h4, m1, g1, m3, g3, m4, g4⟩ := at_TFn h.fns (fi : Int) (by omega) (by omega)
 subst hAd
 have hrd : rd_TFn x.fns (fi : Int) = fnA x (fi : Int) := rfl
 rw [hrd] at h1 g1
 simp only [Int.toNat_natCast] at h1
 have hps : (fnA x (fi : Int)).f1.length ≤ 1000 := hp _ (getD_mem x.fns zFn fi (by omega) _ rfl)
 obtain ⟨ps, hpse⟩ : ∃ ps, ps = (fnA x (fi : Int)).f1 := ⟨_, rfl⟩
 rw [← hpse] at h1 g1 k6 hps
 have HR0 := Lib.hid (show rightR x state fi args fuel = (stateR x state && (firstFrom (argBad ps args) 0 ps.length).isNone) from by unfold rightR; rw [hf, ← hpse]; rfl)
 have HG := Lib.hid h.globs
 have HP := Lib.hid g1
 have HS := Lib.hid hS
 have HA := Lib.hid hA
 have HSL := Lib.hid hsl
 have hk1 : ((state.length : Int) != (x.globs.length : Int)) = false := by simp; omega
 have hk6 : ((args.length : Int) != (ps.length : Int)) = false := by simp; omega
 have z5 : decide (fuel > (1048576 : Int)) = false := decide_eq_false (by omega)
 have z6 : ¬ (1048576 : Int) < fuel := by omega
 have z7 : ¬ fuel < 0 := by omega
 have z8 : ¬ (fi : Int) < 0 := by omega
 have z9 : ¬ x.fns.length ≤ fi := by omega
 have HC0 := Lib.hid c0
 have HH1 := Lib.hid h1
 have HC1 := Lib.hid c1
 clear h h0 h2 h3 h4 m1 g1 m3 g3 m4 g4 hrd hpse hS hA hsl hf k5
 go_enter Tryz.func48, Tryz.ntmps48
 go_wp2_with fail
 go_loopw [67] (fun i w' => ∃ k : Nat, k ≤ x.globs.length ∧ i = .int .i64 k ∧ Hid (∀ j, j < k → stateBad x state j = false) ∧ Hid (Below w.heap.size w w')) (fun i _ => x.globs.length - (intOf i).toNat)
 case atStart => exact ⟨0, by omega, rfl, fun j hj => by omega, Below.refl _ _⟩
 case round =>
  obtain ⟨k, hk, rfl, HJ, HB⟩ := hrel
  by_cases hlt : k < x.globs.length
  ·obtain ⟨adG, hAG, q0, q1, q2⟩ := at_TGlob (Kd.C_below HG.out HB.out) (k : Int) (by omega) (by omega)
   subst hAG
   obtain ⟨gk, hgk⟩ : ∃ gk, gk = rd_TGlob x.globs (k : Int) := ⟨_, rfl⟩
   rw [← hgk] at q0 q1 q2
   simp only [Int.toNat_natCast] at q0 q1 q2
   obtain ⟨adS, A0, c0', hAS, s0, s1, s2⟩ := at_Ints (Kd.C_below HS.out HB.out) (k : Int) (by omega) (by omega)
   subst hAS
   obtain ⟨row, hrow⟩ : ∃ row, row = rd_Ints state (k : Int) := ⟨_, rfl⟩
   rw [← hrow] at s0 s1 s2
   simp only [Int.toNat_natCast] at s0
   have hrl : row.length ≤ 1000000 := HSL.out _ (getD_mem state [] k (by omega) _ (by rw [hrow]; rfl))
   have HX : Hid (stateBad x state k = (decide (row.length ≠ sizeG gk) || !fitsB gk.f0 row)) := by
    show _ = _
    rw [hrow, hgk]; rfl
   have S0 := Lib.hid s0
   have S2 := Lib.hid s2
   clear hgk hrow s0 s2
   go_wp2_with fail
   have S0b := S0.out
   obtain ⟨rl, hrle⟩ : ∃ rl, rl = row.length := ⟨_, rfl⟩
   have HRL := Lib.hid hrle
   rw [← hrle] at S0b hrl s1
   obtain ⟨W5, hW5⟩ : ∃ W5, W5 = wr.alloc (.cells #[.int .i64 gk.f0, .int .i64 gk.f1, .int .i64 gk.f2] 88) := ⟨_, rfl⟩
   have hb5 : Below wr.heap.size wr W5 := by rw [hW5]; exact below_alloc (Below.refl _ _) _
   have hbox : W5.heap[wr.heap.size]? = some (.cells #[.int .i64 gk.f0, .int .i64 gk.f1, .int .i64 gk.f2] 88 (0, 0)) := by rw [hW5]; exact heap_alloc_new wr _
   rw [← hW5]
   have B0 := Lib.hid ((blk_cell hbox 0).trans rfl : W5.cell? ⟨wr.heap.size, 0, none⟩ = some (.int .i64 gk.f0))
   have B1 := Lib.hid ((blk_cell hbox 1).trans rfl : W5.cell? ⟨wr.heap.size, 1, none⟩ = some (.int .i64 gk.f1))
   have B2 := Lib.hid ((blk_cell hbox 2).trans rfl : W5.cell? ⟨wr.heap.size, 2, none⟩ = some (.int .i64 gk.f2))
   have T0 := Lib.hid (show W5.cell? (adS.add k) = some (.slice A0 rl c0') from (hb5.cell (addr_lt S0b)).trans S0b)
   have HB5 := Lib.hid (below_next HB.out hb5)
   have HC5 := Lib.hid (fun w' (hb : Below W5.heap.size W5 w') => (by have h := Kd.C_below (Kd.C_below S2.out hb5) hb; exact h : (Kd.int .i64).C w' A0 row.length row))
   clear hrle S0b hb5 hbox hW5 q0 q1 q2
   have HW := Lib.hid (fun w' (hC : Below W5.heap.size W5 w') => (⟨(hC.cell (addr_lt T0.out)).trans T0.out, cell_up hC B0.out, cell_up hC B1.out, cell_up hC B2.out⟩ : w'.cell? (adS.add k) = some (.slice A0 rl c0') ∧ w'.cell? ⟨wr.heap.size, 0, none⟩ = some (.int .i64 gk.f0) ∧ w'.cell? ⟨wr.heap.size, 1, none⟩ = some (.int .i64 gk.f1) ∧ w'.cell? ⟨wr.heap.size, 2, none⟩ = some (.int .i64 gk.f2)))
   obtain ⟨sz, hsz⟩ : ∃ sz, sz = mx 1 gk.f1 := ⟨_, rfl⟩
   have hsz1 : 1 ≤ sz := by rw [hsz]; unfold mx; split <;> omega
   have hszN : (sizeG gk : Int) = sz := by unfold sizeG; rw [← hsz]; omega
   have HSZ := Lib.hid (fun w => by have h := vsize_any gk w; rw [← hsz] at h; exact h)
   refine wp_region_below (by kernel_rfl) (by kernel_rfl) ?_
   obtain ⟨nb, hn0⟩ : ∃ nb, ((rl : Int) != sz) = nb := ⟨_, rfl⟩
   have HNB := Lib.hid hn0
   obtain ⟨b, hb⟩ : ∃ b, b = fitsB gk.f0 row := ⟨_, rfl⟩
   have HFT := Lib.hid (fun w' (hC : Below W5.heap.size W5 w') => (by have h := fits_any gk.f0 A0 c0' row w' (HC5.out w' hC) (by rw [← HRL.out]; omega); rw [← hb, ← HRL.out] at h; exact h : Calls Tryz.prog 76 #[.int .i64 gk.f0, .slice A0 rl c0'] w' fun e w'' => e = .returned (.bool b) ∧ Below w'.heap.size w' w''))
   have HBB := Lib.hid (show stateBad x state k = (nb || !b) from by
    rw [HX.out, ← HRL.out, ← hb, ← hn0]
    by_cases hne : rl = sizeG gk
    ·have h1 : ((rl : Int) != sz) = false := by simp; omega
     rw [h1]; simp [hne]
    ·have h1 : ((rl : Int) != sz) = true := by simp; omega
     rw [h1]; simp [hne])
   clear hsz hszN hb hsz1
   iterate 6 (refine q_run (by rfl) (fun w' hC => by obtain ⟨t0, b0, b1, b2⟩ := HW.out w' hC; go_simp; with_reducible rfl) ?_; go_simp)
   refine q_call #[.agg #[.int .i64 gk.f0, .int .i64 gk.f1, .int .i64 gk.f2]] (by rfl) Tryz.func45 (by kernel_rfl) rfl rfl (by simp only [List.map_toArray, List.map_cons, List.map_nil]; rfl) (fun w' hC => (HSZ.out w').mono (fun e w'' ⟨he, hb⟩ => ⟨he, below_next hC hb⟩)) ?_
   go_simp
   iterate 2 (refine q_run (by rfl) (fun w' hC => by obtain ⟨t0, b0, b1, b2⟩ := HW.out w' hC; go_simp; with_reducible rfl) ?_; go_simp)
   cases nb
   ·clear hn0 HNB
    iterate 6 (refine q_run (by rfl) (fun w' hC => by obtain ⟨t0, b0, b1, b2⟩ := HW.out w' hC; go_simp; with_reducible rfl) ?_; go_simp)
    refine q_call #[.int .i64 gk.f0, .slice A0 rl c0'] (by rfl) Tryz.func76 (by kernel_rfl) rfl rfl (by simp only [List.map_toArray, List.map_cons, List.map_nil]; rfl) (fun w' hC => (HFT.out w' hC).mono (fun e w'' ⟨he, hb⟩ => ⟨he, below_next hC hb⟩)) ?_
    go_simp
    repeat (refine q_run (by rfl) (fun w' hC => by obtain ⟨t0, b0, b1, b2⟩ := HW.out w' hC; go_simp; with_reducible rfl) ?_; go_simp)
    refine wpQuiet_nil ?_
    intro w2 hw2
    have HW2 := Lib.hid (below_next HB5.out hw2)
    clear hw2
    cases b
    ·have HR1 := Lib.hid (show rightR x state fi args fuel = false from by rw [HR0.out]; unfold stateR; rw [firstFrom_some hlt HJ.out (by rw [HBB.out]; rfl)]; rfl)
     go_wp2_with fail
     go_ret
     exact ⟨ret_bool HR1.out.symm, HW2.out⟩
    ·have HJ2 := Lib.hid (bad_snoc HJ.out (by rw [HBB.out]; rfl))
     go_wp2_with fail
     go_roundw
     case rel => exact ⟨k + 1, by omega, by go_num, HJ2.out, HW2.out⟩
     case measure => simp [intOf]; omega
   ·have HR1 := Lib.hid (show rightR x state fi args fuel = false from by rw [HR0.out]; unfold stateR; rw [firstFrom_some hlt HJ.out (by rw [HBB.out]; rfl)]; rfl)
    clear hn0 HNB
    iterate 8 (generalize hA : (Act.mk _ _) = act; refine q_skip (by rw [← hA]; rfl) ?_; subst hA; go_simp)
    generalize hA : (Act.mk _ _) = act
    refine q_run (v := .bool true) (by rw [← hA]; rfl) (fun w' hC => by rw [← hA]; go_simp) ?_
    subst hA
    go_simp
    refine wpQuiet_nil ?_
    intro w2 hw2
    have HW2 := Lib.hid (below_next HB5.out hw2)
    clear hw2
    go_wp2_with fail
    go_ret
    exact ⟨ret_bool HR1.out.symm, HW2.out⟩
  ·obtain rfl : k = x.globs.length := by omega
   have HST := Lib.hid (show stateR x state = true from by unfold stateR; rw [firstFrom_none.2 (fun j _ hj => HJ.out j hj)]; rfl)
   have c1 : wr.cell? ⟨mb, 1, none⟩ = some (.slice (some ad) x.fns.length cF) := cell_up HB.out HC1.out
   have h1 : wr.cell? ⟨(ad.add (fi * 5)).block, (ad.add (fi * 5)).off + 1, none⟩ = some (.slice B1 ps.length d1') := cell_up HB.out HH1.out
   go_wp2_with fail
   go_loopw [101] (fun i w' => ∃ k : Nat, k ≤ ps.length ∧ i = .int .i64 k ∧ Hid (∀ j, j < k → argBad ps args j = false) ∧ Hid (Below w.heap.size w w')) (fun i _ => ps.length - (intOf i).toNat)
   case atStart => exact ⟨0, by omega, rfl, fun j hj => by omega, HB.out⟩
   case round =>
    clear c1 h1
    obtain ⟨k, hk, rfl, HJ2, HB2⟩ := hrel
    by_cases hlt2 : k < ps.length
    ·obtain ⟨ad1, pk, rfl, p0, HPK⟩ := int_at (Kd.C_below HP.out HB2.out) k hlt2
     obtain ⟨ad2, ak, rfl, a0, HAK⟩ := int_at (Kd.C_below HA.out HB2.out) k (by omega)
     have hA1 : argBad ps args k = !fitsB pk [ak] := by unfold argBad; rw [← HPK.out, ← HAK.out]
     obtain ⟨b, hb⟩ : ∃ b, b = fitsB pk [ak] := ⟨_, rfl⟩
     rw [← hb] at hA1
     have HA1 := Lib.hid hA1
     have HBB := Lib.hid hb
     clear hA1 hb
     go_wp2_with fail
     have hba := below_alloc (Below.refl wr.heap.size wr) (.cells #[.int .i64 ak] 3)
     refine (fits_any pk _ 1 [ak] _ (C_one wr ak) (by simp)).mono ?_
     rintro e w2 ⟨rfl, hb2⟩
     have HW2 := Lib.hid (below_next HB2.out (below_next hba hb2))
     rw [← HBB.out]
     clear hba hb2
     cases b
     ·have HR1 := Lib.hid (show rightR x state fi args fuel = false from by rw [HR0.out, HST.out, firstFrom_some hlt2 HJ2.out (by rw [HA1.out]; rfl)]; rfl)
      go_wp2_with fail
      go_ret
      exact ⟨ret_bool HR1.out.symm, HW2.out⟩
     ·have HJ3 := Lib.hid (bad_snoc HJ2.out (by rw [HA1.out]; rfl))
      go_wp2_with fail
      go_roundw
      case rel => exact ⟨k + 1, by omega, by go_num, HJ3.out, HW2.out⟩
      case measure => simp [intOf]; omega
    ·obtain rfl : k = ps.length := by omega
     have HR1 := Lib.hid (show rightR x state fi args fuel = true from by rw [HR0.out, HST.out, firstFrom_none.2 (fun j _ hj => HJ2.out j hj)]; rfl)
     go_wp2_with fail
     go_ret
     exact ⟨ret_bool HR1.out.symm, HB2.out⟩
/-! ### Start -/
theorem infoInts : (Tryz.prog.info? 27).map (fun i => (i.zero, i.size, i.bytes)) = some (some (.slice none 0 0), 1, 24) := by kernel_rfl
def rowG (g : SGlob) : List Int := (List.replicate (sizeG g) 0).set 0 g.f2
def startL (x : SImage) : List (List Int) := x.globs.map rowG
theorem take_snoc {α β : Type} (f : α → β) (l : List α) (z : α) (k : Nat) (hk : k < l.length) : (l.take (k + 1)).map f = (l.take k).map f ++ [f (l.getD k z)] := by
 rw [List.take_add_one, List.getElem?_eq_getElem hk, List.map_append, List.getD_eq_getElem?_getD, List.getElem?_eq_getElem hk]; rfl
theorem mStart_any (w : World) (mb : Nat) (x : SImage) (AG : Option Addr) (cG : Nat) (AF : Option Addr) (cF : Nat) (AS : Option Addr) (cS : Nat) (h : MACHX w mb x AG cG AF cF AS cS) (hg : x.globs.length ≤ 1000) (hgs : ∀ g ∈ x.globs, g.f1 ≤ 1000) :
  Calls Tryz.prog 21 #[.pointer (some ⟨mb, 0, none⟩)] w fun e w' => ∃ v, e = .returned v ∧ Kd.S kInts 27 w' w.heap.size (fun _ => True) v (startL x) ∧ Below w.heap.size w w' := by
 have c0 : w.cell? ⟨mb, 0, none⟩ = some (.slice AG x.globs.length cG) := (blk_cell h.blk 0).trans rfl
 have HG := Lib.hid h.globs
 have HGS := Lib.hid hgs
 clear h hgs
 go_enter Tryz.func21, Tryz.ntmps21
 go_wp2_with fail
 go_loopw [3, 13] (fun v i w' => ∃ (k : Nat) (v0 : Value), v = v0 ∧ k ≤ x.globs.length ∧ i = .int .i64 k ∧ Hid (Kd.S kInts 27 w' w.heap.size (fun _ => True) v0 ((x.globs.take k).map rowG)) ∧ Hid (Below w.heap.size w w')) (fun _ i _ => x.globs.length - (intOf i).toNat)
 case atStart => exact ⟨0, _, rfl, by omega, rfl, by rw [List.take_zero]; exact Kd.S_nil _ _ _ _ _, Below.refl _ _⟩
 case round =>
  obtain ⟨k, v, rfl, hk, rfl, HV, HB⟩ := hrel
  by_cases hlt : k < x.globs.length
  ·obtain ⟨adG, hAG, q0, q1, q2⟩ := at_TGlob (Kd.C_below HG.out HB.out) (k : Int) (by omega) (by omega)
   subst hAG
   obtain ⟨gk, hgk⟩ : ∃ gk, gk = rd_TGlob x.globs (k : Int) := ⟨_, rfl⟩
   rw [← hgk] at q0 q1 q2
   simp only [Int.toNat_natCast] at q0 q1 q2
   have HGK := Lib.hid (show gk = x.globs.getD k zGlob from hgk)
   have hg1 : gk.f1 ≤ 1000 := HGS.out _ (getD_mem x.globs zGlob k hlt _ HGK.out)
   obtain ⟨sz, hsz⟩ : ∃ sz, sz = sizeG gk := ⟨_, rfl⟩
   have hmx : mx 1 gk.f1 = (sz : Int) := by
    rw [hsz]; unfold sizeG
    have : 1 ≤ mx 1 gk.f1 := by unfold mx; split <;> omega
    omega
   have hs1 : 1 ≤ sz ∧ sz ≤ 1000 := by
    have : 1 ≤ mx 1 gk.f1 ∧ mx 1 gk.f1 ≤ 1000 := by unfold mx; split <;> omega
    omega
   have HSZ := Lib.hid (fun w => by have h := vsize_any gk w; rw [hmx] at h; exact h)
   have HRG := Lib.hid (show rowG gk = (List.replicate sz 0).set 0 gk.f2 from by unfold rowG; rw [hsz])
   clear hgk hg1 hsz hmx
   obtain ⟨hs1, hs2⟩ := hs1
   go_wp2_with (first
    | (go_at_call 45; refine (HSZ.out _).mono ?_; rintro e w5 ⟨rfl, hb5⟩; have HB5 := Lib.hid (below_next (below_alloc (Below.refl _ _) _) hb5 : Below wr.heap.size wr w5); have b2 := cell_up hb5 ((blk_cell (heap_alloc_new wr _) 2).trans rfl : (wr.alloc (.cells #[.int .i64 gk.f0, .int .i64 gk.f1, .int .i64 gk.f2] 88)).cell? ⟨wr.heap.size, 2, none⟩ = some (.int .i64 gk.f2)); have HB2 := Lib.hid b2; clear hb5 b2)
    | ((with_reducible refine gate_dst (N := 19) rfl ?_); go_loud (refine Kd.R_make (Kd.int .i64) (w0 := w5) (W := w5) w5.heap.size 3 rfl (N := 19) rfl 27 (.tmp 18) (.tmp 18) rfl (sz : Int) rfl rfl Tryz.underlying27 (.int .i64 0) 8 infoInt rfl (by decide) (by decide) 0 (ok := fun _ => True) (okp := fun _ => False) rfl (fun _ h => h.elim) trivial (by omega) (by simp only [Int.toNat_natCast]; omega) (Below.refl _ _) (Nat.le_refl _) ?_; intro vL wL hvL hbL hgL hatL; obtain ⟨LB, capL, hvLe, _⟩ := Kd.R_form hvL (by simp; omega); subst hvLe; have hcL := Kd.R_cell (enc := Value.int .i64) (h1 := fun _ => rfl) 0 hvL (0 : Int) (by omega) (by simp; omega); have hput := (Kd.R_put (enc := Value.int .i64) (h1 := fun _ => rfl) hvL (0 : Int) gk.f2).1; have HPG := Lib.hid (show wL.grownBy (wL.setCell ⟨LB, 0, none⟩ (.int .i64 gk.f2)) (some LB) from (Kd.R_put (enc := Value.int .i64) (h1 := fun _ => rfl) hvL (0 : Int) gk.f2).2); have HLB := Lib.hid (show w5.heap.size ≤ LB from Kd.R_base hvL LB rfl); have HMM := Lib.hid (show kInts.M (wL.setCell ⟨LB, 0, none⟩ (.int .i64 gk.f2)) w.heap.size (fun q => q = LB) (rowG gk) [.slice (some ⟨LB, 0, none⟩) sz capL] from ⟨_, rfl, by rw [HRG.out]; have h2 := Kd.R_mono (Kd.R_tight rfl (Kd.R_lower hput (show w.heap.size ≤ w5.heap.size from Nat.le_trans HB.out.size HB5.out.size))) (ok' := fun q => q = LB) (fun q hq => by injection hq with hq); simp at h2; exact h2⟩); have HVL := Lib.hid hvL; have HBL := Lib.hid hbL; have b2 := cell_up hbL HB2.out; obtain ⟨z0, hz0⟩ : ∃ z0 : Int, z0 = rdOf 0 (List.replicate (sz : Int).toNat 0) 0 := ⟨_, rfl⟩; have z1' := hcL.1; rw [← hz0] at z1'; have z1 : wL.cell? ⟨LB, 0, none⟩ = some (.int .i64 z0) := z1'; clear z1'; have z2 : wL.frozen? ⟨LB, 0, none⟩ = false := hcL.2; clear hz0; clear hvL hbL hgL hatL hcL hput))
    | (at_builtin; go_loud (have HW := Lib.hid (show Below wr.heap.size wr (wL.setCell ⟨LB, 0, none⟩ (.int .i64 gk.f2)) from (below_next HB5.out HBL.out).grown HPG.out (by have := HB5.out.size; have := HBL.out.size; omega) (fun q hq => by injection hq with hq; rw [← hq]; exact Nat.le_trans HB5.out.size HLB.out)); refine Kd.S_append kInts (w0 := w) (W := wL.setCell ⟨LB, 0, none⟩ (.int .i64 gk.f2)) w.heap.size rfl _ _ 26 27 (.slice none 0 0) 24 rfl Tryz.underlying26 infoInts rfl (by decide) (by decide) u3 ((x.globs.take k).map rowG) (rowG gk) [.slice (some ⟨LB, 0, none⟩) sz capL] (fun _ => True) (fun q => q = LB) rfl (by simp [Act.eval]) (HMM.out) (fun q hq => ⟨trivial, fun e => by have h1 := Kd.S_lt HV.out q e.symm; have h2 := HLB.out; have h3 := HB5.out.size; omega⟩) (fun _ _ => trivial) (Kd.S_below (Kd.S_mono (Kd.S_bound HV.out) (fun q hq => ⟨trivial, fun e => by have h1 := hq.2.2.1; have h2 := HLB.out; have h3 := HB5.out.size; omega⟩)) HW.out) (below_next HB.out HW.out) (Nat.le_trans HB.out.size HW.out.size) (by rw [List.length_map, List.length_take]; omega) ?_; intro v1 w1 hv1 hb1 hg1 hat1; have HV1 := Lib.hid hv1; have HB1 := Lib.hid hb1; clear hv1 hb1 hg1 hat1)))
   go_roundw
   case rel => exact ⟨k + 1, _, rfl, by omega, by go_num, by rw [take_snoc rowG x.globs zGlob k hlt, ← HGK.out]; exact HV1.out, HB1.out⟩
   case measure => simp [intOf]; omega
  ·obtain rfl : k = x.globs.length := by omega
   go_wp2_with fail
   go_ret
   exact ⟨u3, rfl, by have h := HV.out; rw [List.take_length] at h; exact h, HB.out⟩
/-! ### Begin -/
/-- the state has turned -/
theorem RUN.turnS {B mb fb g : Nat} {w w' : World} {f : Nat → Nat} {vS vF vK vA : Value} {st : SRun} (h : RUN B mb fb w g f vS vF vK vA st) (hB : B ≤ w.heap.size) {vS' : Value} {ys : List (List Int)}
  (hk : ∀ k, k < w.heap.size → k ≠ g → f k ≠ 1 → w'.heap[k]? = w.heap[k]?) (hb : w'.heap[g]? = some (.cells ((st.cells mb vS vF vK vA).setIfInBounds 1 vS') 110 (0, 0)))
  (hS : Kd.S kInts 27 w' B (fun k => retag w.heap.size 1 f k = 1) vS' ys) :
  RUN B mb fb w' g (retag w.heap.size 1 f) vS' vF vK vA { st with state := ys } :=
 ⟨hb, h.gB, (retag_lt (blk_lt h.blk)).trans h.fg, retag_B h.fB hB, hS, S_over h.frames (by decide) (by decide) h.fg hk, R_over h.stack (by decide) (by decide) h.fg hk, S_over h.asks (by decide) (by decide) h.fg hk⟩
def s0R (fuel : Int) (state : List (List Int)) : SRun := ⟨state, fuel.toNat, [], [], [], false, false, 0, 0⟩
def beginR (x : SImage) (state : List (List Int)) (fn : Int) (args : List Int) (fuel : Int) : SRun := enterR x fn.toNat args (s0R fuel state)
def BeginPost (w : World) (mb : Nat) (fb : Nat) (x : SImage) (state : List (List Int)) (fn : Int) (args : List Int) (fuel : Int) (e : Ending) (w' : World) : Prop :=
 ∃ g f vS vF vK vA, e = .returned (.tuple #[.pointer (some ⟨g, 0, none⟩), .int .i64 0]) ∧ RUN w.heap.size mb fb w' g f vS vF vK vA (beginR x state fn args fuel) ∧ Below w.heap.size w w'
theorem begin_no (w : World) (mb : Nat) (x : SImage) (AG : Option Addr) (cG : Nat) (AF : Option Addr) (cF : Nat) (AS : Option Addr) (cS : Nat) (h : MACHX w mb x AG cG AF cF AS cS) (hl : x.fns.length ≤ 1000) (hg : x.globs.length ≤ 1000) (hp : ∀ f ∈ x.fns, f.f1.length ≤ 1000)
  (A : Option Addr) (c : Nat) (state : List (List Int)) (hS : kInts.C w A state.length state) (fn : Int) (B : Option Addr) (d : Nat) (args : List Int) (hA : (Kd.int .i64).C w B args.length args) (fuel : Int) (hs : state.length ≤ 1000000) (hsl : ∀ r ∈ state, r.length ≤ 1000000) (ha : args.length ≤ 2000000) (hr : rightR x state fn args fuel = false) :
  Calls Tryz.prog 24 #[.pointer (some ⟨mb, 0, none⟩), .slice A state.length c, .int .i64 fn, .slice B args.length d, .int .i64 fuel] w fun e w' => e = .returned (.tuple #[.pointer none, .int .i64 1]) ∧ Below w.heap.size w w' := by
 have HC := Lib.hid (show Calls Tryz.prog 48 #[.pointer (some ⟨mb, 0, none⟩), .slice A state.length c, .int .i64 fn, .slice B args.length d, .int .i64 fuel] w fun e w' => e = .returned (.bool false) ∧ Below w.heap.size w w' from by
  cases hh : headR x state fn args fuel
  ·exact right_head w mb x AG cG AF cF AS cS h hl hg A c state fn B d args fuel hs ha hh
  ·have := right_any w mb x AG cG AF cF AS cS h hl hg hp A c state hS fn B d args hA fuel hs hsl ha hh
   rw [hr] at this; exact this)
 clear h hS hA
 go_enter Tryz.func24, Tryz.ntmps24
 go_wp2_with fail
 refine HC.out.mono ?_
 rintro e w1 ⟨rfl, hb⟩
 have HB := Lib.hid hb
 clear hb
 go_wp2_with fail
 go_ret2
 exact ⟨rfl, HB.out⟩
theorem begin_yes (w : World) (mb fb : Nat) (x : SImage) (AG : Option Addr) (cG : Nat) (AF : Option Addr) (cF : Nat) (AS : Option Addr) (cS : Nat) (h : MACHX w mb x AG cG AF cF AS cS) (hfb : AF = some ⟨fb, 0, none⟩) (hl : x.fns.length ≤ 1000) (hg : x.globs.length ≤ 1000) (hp : ∀ f ∈ x.fns, f.f1.length ≤ 1000 ∧ f.f1.length ≤ f.f3.length ∧ f.f3.length ≤ 1000)
  (A : Option Addr) (c : Nat) (state : List (List Int)) (hS : kInts.C w A state.length state) (fn : Int) (Ba : Option Addr) (d : Nat) (args : List Int) (hA : (Kd.int .i64).C w Ba args.length args) (fuel : Int) (hs : state.length ≤ 1000000) (hsl : ∀ r ∈ state, r.length ≤ 1000000) (ha : args.length ≤ 2000000) (hr : rightR x state fn args fuel = true) :
  Calls Tryz.prog 24 #[.pointer (some ⟨mb, 0, none⟩), .slice A state.length c, .int .i64 fn, .slice Ba args.length d, .int .i64 fuel] w (BeginPost w mb fb x state fn args fuel) := by
 have hh : headR x state fn args fuel = true := by
  cases hh : headR x state fn args fuel
  ·unfold rightR at hr; rw [hh] at hr; cases hr
  ·rfl
 have HC := Lib.hid (right_any w mb x AG cG AF cF AS cS h hl hg (fun f hf => (hp f hf).1) A c state hS fn Ba d args hA fuel hs hsl ha hh)
 rw [hr] at HC
 obtain ⟨k1, k2, k3, k4, k5, k6⟩ := headR_parts hh
 obtain ⟨fi, rfl⟩ : ∃ fi : Nat, fn = fi := ⟨fn.toNat, by omega⟩
 obtain ⟨fu, rfl⟩ : ∃ fu : Nat, fuel = fu := ⟨fuel.toNat, by omega⟩
 have HM := Lib.hid (h.mach hfb)
 have HS := Lib.hid hS
 have HA := Lib.hid hA
 have HSL := Lib.hid hsl
 have hpf := hp _ (getD_mem x.fns zFn fi (by omega) _ rfl)
 have HAL := Lib.hid (show args.length ≤ (x.fns.getD fi zFn).f3.length ∧ (x.fns.getD fi zFn).f3.length ≤ 1000 from by
  have e : fnA x (fi : Int) = x.fns.getD fi zFn := rfl
  rw [e] at k6; exact ⟨by omega, hpf.2.2⟩)
 have HFI := Lib.hid (show fi < x.fns.length from by omega)
 have hsl1 : state.length ≤ 1000 := by omega
 clear h hS hA hsl hh hr k1 k2 k3 k4 k5 k6 hpf
 go_enter Tryz.func24, Tryz.ntmps24
 go_wp2_with fail
 refine HC.out.mono ?_
 rintro e w1 ⟨rfl, hb⟩
 have HB := Lib.hid hb
 clear hb
 go_wp2_with fail
 obtain ⟨g, hge⟩ : ∃ g, g = w1.heap.size := ⟨_, rfl⟩
 rw [← hge]
 have hsz1 := HB.out.size
 have HRUN0 := Lib.hid (show RUN w.heap.size mb fb (w1.alloc (.cells ((s0R (fu : Int) []).cells mb (.slice none 0 0) (.slice none 0 0) (.slice none 0 0) (.slice none 0 0)) 110)) g (fun _ => 0) (.slice none 0 0) (.slice none 0 0) (.slice none 0 0) (.slice none 0 0) (s0R (fu : Int) []) from
  ⟨by rw [hge]; exact heap_alloc_new w1 _, by omega, rfl, fun k hk => absurd rfl hk, Kd.S_nil _ _ _ _ _, Kd.S_nil _ _ _ _ _, Kd.R_nil _ _ _ _ _, Kd.S_nil _ _ _ _ _⟩)
 have HB1 := Lib.hid (below_next HB.out (below_alloc (Below.refl w1.heap.size w1) (.cells ((s0R (fu : Int) []).cells mb (.slice none 0 0) (.slice none 0 0) (.slice none 0 0) (.slice none 0 0)) 110)))
 clear hge hsz1
 go_loopw [28] (fun i w' => ∃ k : Nat, k ≤ state.length ∧ i = .int .i64 k ∧ Hid (∃ f vS vF vK vA, RUN w.heap.size mb fb w' g f vS vF vK vA (s0R (fu : Int) (state.take k))) ∧ Hid (Below w.heap.size w w')) (fun i _ => state.length - (intOf i).toNat)
 case atStart => exact ⟨0, by omega, rfl, by rw [List.take_zero]; exact ⟨_, _, _, _, _, HRUN0.out⟩, HB1.out⟩
 case round =>
  obtain ⟨k, hk, rfl, HR, HBw⟩ := hrel
  obtain ⟨f, vS, vF, vK, vA, hR⟩ := HR.out
  clear HR
  by_cases hlt : k < state.length
  ·obtain ⟨adS, A0, c0', hAS, q0, q1, q2⟩ := at_Ints (Kd.C_below HS.out HBw.out) (k : Int) (by omega) (by omega)
   subst hAS
   obtain ⟨row, hrow⟩ : ∃ row, row = rd_Ints state (k : Int) := ⟨_, rfl⟩
   rw [← hrow] at q0 q1 q2
   simp only [Int.toNat_natCast] at q0
   have HROW := Lib.hid (show row = state.getD k [] from hrow)
   have hrl : row.length ≤ 1000000 := HSL.out _ (getD_mem state [] k hlt _ HROW.out)
   have HCL := Lib.hid (fun w' (hb : Below wr.heap.size wr w') => clInt_any A0 c0' row w' (Kd.C_below q2 hb) (by omega))
   have c1 : wr.cell? ⟨g, 1, none⟩ = some vS := hR.at_.2.1
   have hgl := blk_lt hR.blk
   have HRN := Lib.hid hR
   have HBs := Lib.hid (show w.heap.size ≤ wr.heap.size from HBw.out.size)
   have HTK := Lib.hid (show (s0R (fu : Int) (state.take (k + 1))) = { (s0R (fu : Int) (state.take k)) with state := state.take k ++ [row] } from by
    rw [List.take_add_one, List.getElem?_eq_getElem hlt, HROW.out, List.getD_eq_getElem?_getD, List.getElem?_eq_getElem hlt]; rfl)
   clear hrow q2 hR
   go_wp2_with fail
   have C1 := Lib.hid c1
   refine wp_region_D (fun w' => w'.cell? ⟨g, 1, none⟩ = some vS ∧ True) 11 (by kernel_rfl) ?_
   intro X HX
   have hbX : Below wr.heap.size wr X := by rw [HX.out]; exact below_drew (Below.refl _ _)
   have HLX := Lib.hid (show X.cell? ⟨g, 1, none⟩ = some vS ∧ True from ⟨cell_up hbX c1, trivial⟩)
   have HBX := Lib.hid hbX
   clear hbX c1
   refine wpAnyD_tk 0 ?v_1 rfl (by kernel_rfl) (fun _ _ _ h => h) HLX.out (by rfl) ?h_1 ?r_1
   case h_1 => intro w' hS'; obtain ⟨s1, _⟩ := hS'; go_simp; try with_reducible rfl
   refine wpAnyD_tk 1 ?v_2 rfl (by kernel_rfl) (fun _ _ _ h => h) HLX.out (by rfl) ?h_2 ?r_2
   case h_2 => intro w' hS'; obtain ⟨s1, _⟩ := hS'; go_simp; try with_reducible rfl
   refine wpAnyD_tk 2 ?v_3 rfl (by kernel_rfl) (fun _ _ _ h => h) HLX.out (by rfl) ?h_3 ?r_3
   case h_3 => intro w' hS'; obtain ⟨s1, _⟩ := hS'; go_simp; try with_reducible rfl
   refine wpAnyD_tk 3 ?v_4 rfl (by kernel_rfl) (fun _ _ _ h => h) HLX.out (by rfl) ?h_4 ?r_4
   case h_4 => intro w' hS'; obtain ⟨s1, _⟩ := hS'; go_simp; try with_reducible rfl
   refine wpAnyD_tk 4 ?v_5 rfl (by kernel_rfl) (fun _ _ _ h => h) HLX.out (by rfl) ?h_5 ?r_5
   case h_5 => intro w' hS'; obtain ⟨s1, _⟩ := hS'; go_simp; try with_reducible rfl
   refine wpAnyD_tk 5 ?v_6 rfl (by kernel_rfl) (fun _ _ _ h => h) HLX.out (by rfl) ?h_6 ?r_6
   case h_6 => intro w' hS'; obtain ⟨s1, _⟩ := hS'; go_simp; try with_reducible rfl
   refine wpAnyD_one (i := 6) (by kernel_rfl) rfl (fun K hK => ?_)
   go_simp
   refine (HCL.out _ HBX.out).mono ?_
   rintro e w2 ⟨vL, rfl, hvL, hbL⟩
   obtain ⟨AL, cL, rfl⟩ := Kd.R_slice hvL
   have hb2 : Below wr.heap.size wr w2 := below_next HBX.out hbL
   have HV2 := Lib.hid (Kd.R_lower hvL HBX.out.size)
   have HB2 := Lib.hid hb2
   have HM1 := Lib.hid (show kInts.M w2 w.heap.size (fun q => some q = (Value.slice AL row.length cL).ownBlock) row [.slice AL row.length cL] from ⟨_, rfl, Kd.R_tight rfl (Kd.R_lower HV2.out HBs.out)⟩)
   have HM2 := Lib.hid (fun q (hq : some q = (Value.slice AL row.length cL).ownBlock) => (⟨retag_ge (Kd.R_base HV2.out q hq.symm), fun e => by have h1 : wr.heap.size ≤ q := Kd.R_base HV2.out q hq.symm; have h2 := Kd.S_lt HRN.out.state q e.symm; omega⟩ : retag wr.heap.size 1 f q = 1 ∧ some q ≠ vS.ownBlock))
   have HM3 := Lib.hid (Kd.S_below (Kd.S_mono (Kd.S_bound HRN.out.state) (fun q hq => (⟨by rw [retag_lt hq.2.2.1]; exact hq.1, fun e => by have h1 : wr.heap.size ≤ q := Kd.R_base HV2.out q e.symm; have h2 := hq.2.2.1; omega⟩ : retag wr.heap.size 1 f q = 1 ∧ ¬ some q = (Value.slice AL row.length cL).ownBlock))) hb2)
   have HBK2 := Lib.hid ((hb2.block g hgl).trans HRN.out.blk)
   have hg2 : g < w2.heap.size := Nat.lt_of_lt_of_le hgl hb2.size
   have HL1 := Lib.hid (show w2.cell? ⟨g, 1, none⟩ = some vS ∧ True from ⟨cell_up hb2 C1.out, trivial⟩)
   clear hvL hbL hb2
   refine hK _ _ (.inr HL1.out) ?_
   clear hK K
   refine wpAnyD_one (i := 7) (by kernel_rfl) rfl (fun K hK => ?_)
   go_simp
   have hba := below_alloc (Below.refl w2.heap.size w2) (.cells #[.slice AL row.length cL] 27)
   refine hK _ _ (.inr ⟨cell_up hba HL1.out.1, trivial⟩) ?_
   clear hK K
   clear hba
   refine wpAnyD_one (i := 8) (by kernel_rfl) rfl (fun K hK => ?_)
   refine Kd.S_append_step kInts (w0 := w2) (W := w2) w.heap.size (by rfl) _ _ 26 27 (.slice none 0 0) 24 rfl Tryz.underlying26 infoInts rfl (show 0 < 1 by decide) (by decide) vS (state.take k) row [.slice AL row.length cL] (fun q => retag wr.heap.size 1 f q = 1) (fun q => some q = (Value.slice AL row.length cL).ownBlock) rfl rfl HM1.out HM2.out (fun q hq => retag_ge (Nat.le_trans HB2.out.size hq)) HM3.out (Below.refl _ _) (Nat.le_trans HBs.out HB2.out.size) (by rw [List.length_take]; omega) ?_
   intro v1 w3 hv1 hb1 hg1 hat1
   obtain ⟨A', c', rfl⟩ := Kd.S_slice hv1
   have hbk := (hg1.block g hg2 (S_notg HRN.out.state (by decide) HRN.out.fg)).trans HBK2.out
   have HL2 := Lib.hid (show w3.cell? ⟨g, 1, none⟩ = some vS ∧ True from ⟨(blk_cell hbk 1).trans rfl, trivial⟩)
   have hf2 : w3.frozen? ⟨g, 1, none⟩ = false := blk_frozen hbk 1
   have hc2 : w3.cell? ⟨g, 1, none⟩ = some vS := HL2.out.1
   have HBK := Lib.hid hbk
   have HV1 := Lib.hid hv1
   have HG1 := Lib.hid hg1
   have HB3 := Lib.hid (show Below w.heap.size w w3 from (below_then HBw.out (by exact HBs.out) HB2.out).grown hg1 (Nat.le_trans HBs.out HB2.out.size) (fun q hq => by exact Kd.S_base HRN.out.state q hq))
   clear hbk hv1 hb1 hg1 hat1
   refine hK _ _ (.inr HL2.out) ?_
   clear hK K
   refine wpAnyD_one (i := 9) (by kernel_rfl) rfl (fun K hK => ?_)
   go_simp
   refine hK _ _ (.inr HL2.out) ?_
   clear hK K
   refine wpAnyD_one (i := 10) (by kernel_rfl) rfl (fun K hK => ?_)
   go_simp
   refine hK _ _ (.inr HL2.out) ?_
   clear hK K
   refine wpAnyD_one (i := 11) (by kernel_rfl) rfl (fun K hK => ?_)
   go_simp
   refine hK _ _ (.inl rfl) ?_
   clear hK K
   refine wpAnyD_done (by kernel_rfl) ?_ _
   obtain ⟨v1, hv1⟩ : ∃ v1, v1 = Value.slice A' (k + 1) c' := ⟨_, rfl⟩
   have hR1 : Kd.S kInts 27 w3 w.heap.size (fun q => retag wr.heap.size 1 f q = 1) v1 (state.take k ++ [row]) := by
    have h := HV1.out
    rw [show (state.take k ++ [row]).length = k + 1 by simp; omega] at h
    rw [hv1]; exact h
   have HR2 := Lib.hid (HRN.out.turnS (w' := w3.setCell ⟨g, 1, none⟩ v1) HBs.out (vS' := v1) (ys := state.take k ++ [row])
    (fun q h1 h2 h3 => by
     rw [Below.heap_setCell _ _ _ q h2]
     exact (HG1.out.block q (Nat.lt_of_lt_of_le h1 HB2.out.size) (fun e => h3 ((Kd.S_R HRN.out.state).1 q e.symm))).trans (HB2.out.block q h1))
    (blk_set HBK.out 1 _) (Kd.S_step hR1 (fun q ho hlt => Below.heap_setCell _ _ _ q (fun e => by rw [e, retag_lt hgl, HRN.out.fg] at ho; omega))))
   rw [← HTK.out] at HR2
   have HB4 := Lib.hid (show Below w.heap.size w (w3.setCell ⟨g, 1, none⟩ v1) from below_set HB3.out HRN.out.gB)
   rw [← hv1]
   clear hR1 hv1
   go_wp2_with fail
   go_roundw
   case rel => exact ⟨k + 1, by omega, by go_num, ⟨_, _, _, _, _, HR2.out⟩, HB4.out⟩
   case measure => simp [intOf]; omega
  ·obtain rfl : k = state.length := by omega
   rw [List.take_length] at hR
   have hbe := hR.at_
   have HFB := Lib.hid hR.fB
   have HRE := Lib.hid (renter_any w.heap.size mb fb g wr f vS vF vK vA _ x AG cG cF AS cS hR (HM.out.below HBw.out) HBw.out.size fi HFI.out hl Ba d args (Kd.C_below HA.out HBw.out) HAL.out.1 HAL.out.2 (by show (0 : Nat) ≤ 1000; omega) (by show (0 : Nat) ≤ 1073741824; omega))
   clear hR hbe
   go_wp2_with fail
   refine HRE.out.mono ?_
   rintro e w5 ⟨rfl, vF', f', hr, hs⟩
   have HR5 := Lib.hid hr
   have HS5 := Lib.hid hs
   clear hr hs
   go_wp2_with fail
   go_ret2
   exact ⟨g, f', _, _, _, _, rfl, HR5.out, HS5.out.low HBw.out HRUN0.out.gB HFB.out (Nat.le_refl _)⟩
/-! ### Next -/
def zAsk : SAsk := ⟨0, []⟩
theorem at_Ask {w : World} {AB n : Nat} {xs : List SAsk} (h : kAsk.C w (some ⟨AB, 0, none⟩) n xs) (i : Nat) (h1 : i < n) : ∃ AL cL,
  w.cell? ⟨AB, i * 2, none⟩ = some (.int .i64 (xs.getD i zAsk).call) ∧ w.cell? ⟨AB, i * 2 + 1, none⟩ = some (.slice AL (xs.getD i zAsk).args.length cL) ∧ (xs.getD i zAsk).args.length ≤ cL ∧ (Kd.int .i64).C w AL (xs.getD i zAsk).args.length (xs.getD i zAsk).args := by
 obtain ⟨ad, c, e, _, hK, hc⟩ := Kd.C_get h zAsk (i : Int) (by omega) (by omega)
 injection e with e
 subst e
 obtain ⟨AL, cL, rfl, h2, h3⟩ := kAsk_open hK
 have q0 := hc 0 _ rfl
 have q1 := hc 1 _ rfl
 simp only [Int.toNat_natCast, add0] at q0 q1
 exact ⟨AL, cL, q0, q1, h2, h3⟩
/-- what is known of a run, kept by its steps -/
structure InvOK (x : SImage) (Inv : SRun → Prop) : Prop where
 pre : ∀ s, Inv s → s.ended = false → s.waits = false → s.fuel ≠ 0 → Pre x s
 step : ∀ s, Inv s → s.ended = false → s.waits = false → Inv (stepR x s)
 asks : ∀ s, Inv s → s.waits = true → 0 < s.asks.length
 alen : ∀ s, Inv s → s.asks.length ≤ 4000000
 aargs : ∀ s, Inv s → ∀ a ∈ s.asks, a.args.length ≤ 1000
 acall : ∀ s, Inv s → s.waits = true → ∃ c : Nat, (s.asks.getD (s.asks.length - 1) ⟨0, []⟩).call = c ∧ c < callsL.length
 sk : ∀ s, Inv s → s.stack.length ≤ 1000000
 srow : ∀ s, Inv s → s.state.length ≤ 1000000 ∧ ∀ r ∈ s.state, r.length ≤ 1000000
theorem loopR_inv {x : SImage} {Inv : SRun → Prop} (hI : InvOK x Inv) : ∀ (n : Nat) (s : SRun), Inv s → s.ended = false → s.waits = false → Inv (loopR x n s)
 | 0, s, h, _, _ => h
 | n + 1, s, h, h1, h2 => by
  show Inv (let t := stepR x s; if t.ended || t.waits then t else loopR x n t)
  have h3 := hI.step s h h1 h2
  simp only
  split
  ·exact h3
  ·rename_i hn
   rw [Bool.or_eq_true, not_or] at hn
   exact loopR_inv hI n _ h3 (Bool.eq_false_iff.2 hn.1) (Bool.eq_false_iff.2 hn.2)
def nextR (x : SImage) (s : SRun) : SRun := if s.ended || s.waits then s else loopR x (s.fuel + 1) s
theorem nextR_inv {x : SImage} {Inv : SRun → Prop} (hI : InvOK x Inv) (s : SRun) (h : Inv s) : Inv (nextR x s) := by
 unfold nextR
 split
 ·exact h
 ·rename_i hn
  rw [Bool.or_eq_true, not_or] at hn
  exact loopR_inv hI _ s h (Bool.eq_false_iff.2 hn.1) (Bool.eq_false_iff.2 hn.2)
def askN (t : SRun) : SAsk := if t.waits then t.asks.getD (t.asks.length - 1) zAsk else zAsk
theorem RUN.far {B mb fb g : Nat} {w : World} {f : Nat → Nat} {vS vF vK vA : Value} {st : SRun} (h : RUN B mb fb w g f vS vF vK vA st) {b : Nat} (hb : f b = 0) (hne : ¬ b = g) (o : Nat) (u : Value) : RUN B mb fb (w.setCell ⟨b, o, none⟩ u) g f vS vF vK vA st :=
 ⟨(Below.heap_setCell _ _ _ g (fun e => hne e.symm)).trans h.blk, h.gB, h.fg, h.fB, Kd.S_far (p := ⟨b, o, none⟩) h.state (fun k hk (e : k = b) => by rw [e, hb] at hk; cases hk) u, Kd.S_far (p := ⟨b, o, none⟩) h.frames (fun k hk (e : k = b) => by rw [e, hb] at hk; cases hk) u, Kd.R_far (p := ⟨b, o, none⟩) h.stack (fun k hk (e : k = b) => by rw [e, hb] at hk; cases hk) u, Kd.S_far (p := ⟨b, o, none⟩) h.asks (fun k hk (e : k = b) => by rw [e, hb] at hk; cases hk) u⟩
theorem Stp.far {g : Nat} {w w' : World} {f f' : Nat → Nat} (h : Stp g w f w' f') {b : Nat} (hb : w.heap.size ≤ b) (o : Nat) (u : Value) : Stp g w f (w'.setCell ⟨b, o, none⟩ u) f' :=
 ⟨h.os, h.tape, h.output, by have := h.size; simpa using this, fun k h1 h2 h3 => (Below.heap_setCell _ _ _ k (fun e => by have e' : k = b := e; omega)).trans (h.block k h1 h2 h3), h.tag⟩
/-- a call that the engine is handed: its arguments are a row of its own, no block of the run's -/
def AskV (w' : World) (base : Nat) (f' : Nat → Nat) (v : Value) (a : SAsk) : Prop := ∃ s, v = .agg #[.int .i64 a.call, s] ∧ (Kd.int .i64).R 3 w' base (fun k => f' k = 0 ∧ base ≤ k) s a.args
def NextPost (B mb fb g : Nat) (W : World) (f : Nat → Nat) (t : SRun) (e : Ending) (w' : World) : Prop :=
 ∃ v f' vS vF vK vA, e = .returned (.tuple #[v, .bool t.waits]) ∧ RUN B mb fb w' g f' vS vF vK vA t ∧ Stp g W f w' f' ∧ AskV w' W.heap.size f' v (askN t)
theorem rnext_any (B mb fb g : Nat) (W : World) (f : Nat → Nat) (vS vF vK vA : Value) (s : SRun) (h : RUN B mb fb W g f vS vF vK vA s) (hB : B ≤ W.heap.size) (x : SImage) (AG : Option Addr) (cG cF : Nat) (AS : Option Addr) (cS : Nat) (W0 : World) (hM : MACH W0 mb fb x AG cG cF AS cS) (hB0 : B = W0.heap.size) (hBe : Below W0.heap.size W0 W) (hfl : x.fns.length ≤ 1000)
  (Inv : SRun → Prop) (hO : InvOK x Inv) (hI : Inv s) : Calls Tryz.prog 28 #[.pointer (some ⟨g, 0, none⟩)] W (NextPost B mb fb g W f (nextR x s)) := by
 have hIn := nextR_inv hO s hI
 have hba := below_alloc (Below.refl W.heap.size W) (.cells #[.int .i64 0, .slice none 0 0] 81)
 have hgl := blk_lt h.blk
 -- the run, its tags clean, behind the first box
 have HC0 := Lib.hid (h.clean.below hba)
 have HS0 := Lib.hid ((Stp.clean g W f).trans (Stp.below hba))
 have HBX := Lib.hid (heap_alloc_new W (.cells #[.int .i64 0, .slice none 0 0] 81))
 have HFX := Lib.hid (show cleanT W.heap.size f W.heap.size = 0 from by unfold cleanT; rw [if_neg (by omega)])
 have HB0 := Lib.hid (below_next hBe hba)
 have HBs := Lib.hid (Nat.le_trans hB hba.size)
 obtain ⟨en, hen⟩ : ∃ en, en = s.ended := ⟨_, rfl⟩
 obtain ⟨wa, hwa⟩ : ∃ wa, wa = s.waits := ⟨_, rfl⟩
 have HEN := Lib.hid hen
 have HWA := Lib.hid hwa
 have d7 : (W.alloc (.cells #[.int .i64 0, .slice none 0 0] 81)).cell? ⟨g, 7, none⟩ = some (.bool en) := by rw [hen]; exact (blk_cell (h.below hba).blk 7).trans rfl
 have d6 : (W.alloc (.cells #[.int .i64 0, .slice none 0 0] 81)).cell? ⟨g, 6, none⟩ = some (.bool wa) := by rw [hwa]; exact (blk_cell (h.below hba).blk 6).trans rfl
 obtain ⟨t, ht⟩ : ∃ t, t = nextR x s := ⟨_, rfl⟩
 have HT := Lib.hid ht
 rw [← ht] at hIn ⊢
 have HWT := Lib.hid (hO.asks t hIn)
 have HAL := Lib.hid (hO.alen t hIn)
 have HAA := Lib.hid (hO.aargs t hIn)
 have HGO := Lib.hid (fun (h1 : en = false) (h2 : wa = false) => (by
  have e1 : s.ended = false := by rw [← HEN.out]; exact h1
  have e2 : s.waits = false := by rw [← HWA.out]; exact h2
  have h3 := rloop_any B mb fb g (W.alloc (.cells #[.int .i64 0, .slice none 0 0] 81)) (cleanT W.heap.size f) vS vF vK vA s HC0.out HBs.out x AG cG cF AS cS W0 hM hB0 HB0.out hfl (fun s => Inv s ∧ s.ended = false ∧ s.waits = false) ⟨hI, e1, e2⟩ (fun s hs => ⟨hs.2.1, hs.2.2, fun h0 => hO.pre s hs.1 hs.2.1 hs.2.2 h0⟩) (fun s hs h0 h1 h2 => ⟨hO.step s hs.1 hs.2.1 hs.2.2, h1, h2⟩)
  have e3 : loopR x (s.fuel + 1) s = t := by rw [HT.out]; unfold nextR; rw [e1, e2]; rfl
  rw [e3] at h3
  exact h3 : Calls Tryz.prog 54 #[.pointer (some ⟨g, 0, none⟩)] (W.alloc (.cells #[.int .i64 0, .slice none 0 0] 81)) fun e w' => e = .returned (.tuple #[]) ∧ RP B mb fb g (W.alloc (.cells #[.int .i64 0, .slice none 0 0] 81)) (cleanT W.heap.size f) t w'))
 have HST := Lib.hid (fun (h1 : ¬ (en = false ∧ wa = false)) => (by
  rw [HT.out]; unfold nextR
  rw [if_pos (by rw [← HEN.out, ← HWA.out]; cases en <;> cases wa <;> simp at h1 ⊢)] : t = s))
 clear h hba hM hB0 hBe hO hI hIn hen hwa ht hB
 go_enter Tryz.func28, Tryz.ntmps28
 cases en
 ·cases wa
  ·go_wp2_with fail
   refine (HGO.out (by first | rfl | trivial) (by first | rfl | trivial)).mono ?_
   rintro e V0 ⟨rfl, vS1, vF1, vK1, vA1, f1, hr, hs⟩
   have HR := Lib.hid hr.clean
   have HS := Lib.hid ((HS0.out.trans hs).trans (Stp.clean g V0 f1))
   have HF2 := Lib.hid (show cleanT V0.heap.size f1 W.heap.size = 0 from by unfold cleanT; rw [if_pos (by have := hs.size; simp at this; omega)]; exact (hs.tag W.heap.size (by simp)).trans HFX.out)
   have HFC := Lib.hid (fun k (hk : V0.heap.size ≤ k) => (by unfold cleanT; rw [if_neg (by omega)] : cleanT V0.heap.size f1 k = 0))
   generalize hF1 : cleanT V0.heap.size f1 = F1 at HR HS HF2 HFC
   have HXB := Lib.hid ((hs.block W.heap.size (by simp) (by omega) HFX.out).trans HBX.out)
   clear hr hs hF1 HGO HST d6 d7 HC0 HS0 HBX HB0 HBs
   obtain ⟨V, hV⟩ : ∃ V, V = V0 := ⟨_, rfl⟩
   subst hV
   obtain ⟨b2, hb2⟩ : ∃ b2, b2 = W.heap.size := ⟨_, rfl⟩
   rw [← hb2] at HXB HF2
   have hgb : ¬ b2 = g := by rw [hb2]; omega
   have n2 := blk_lt HXB.out
   cases hwt : t.waits
   ·have d6 : V.cell? ⟨g, 6, none⟩ = some (.bool false) := (blk_cell HR.out.blk 6).trans (by rw [← hwt]; rfl)
    have x0 : V.cell? ⟨b2, 0, none⟩ = some (.int .i64 0) := (blk_cell HXB.out 0).trans rfl
    have x1 : V.cell? ⟨b2, 1, none⟩ = some (.slice none 0 0) := (blk_cell HXB.out 1).trans rfl
    have y0 : V.frozen? ⟨b2, 0, none⟩ = false := blk_frozen HXB.out 0
    have y1 : V.frozen? ⟨b2, 1, none⟩ = false := blk_frozen HXB.out 1
    have HWF := Lib.hid hwt
    have HB2 := Lib.hid hb2
    rw [← hb2]
    clear hwt hb2
    go_wp2_with fail
    (try simp only [Exit.inBlock, Exit.then])
    refine bodyPost_ret (results_ct rfl _ _ b2 81 #[.int .i64 0, .slice none 0 0] (0, 0) _ rfl (blk_put (blk_put HXB.out 0 (.int .i64 0) rfl) 1 (.slice none 0 0) rfl) Tryz.underlying81 rfl (by kernel_rfl)) rfl ?_
    exact ⟨_, F1, _, _, _, _, by rw [HWF.out]; rfl, (HR.out.far HF2.out hgb 0 _).far HF2.out hgb 1 _, (HS.out.far (by rw [HB2.out]; exact Nat.le_refl _) 0 _).far (by rw [HB2.out]; exact Nat.le_refl _) 1 _, .slice none 0 0, by unfold askN; rw [HWF.out]; rfl, by unfold askN; rw [HWF.out]; exact Kd.R_nil _ _ _ _ _⟩
   ·have d6 : V.cell? ⟨g, 6, none⟩ = some (.bool true) := (blk_cell HR.out.blk 6).trans (by rw [← hwt]; rfl)
    have hpos := HWT.out hwt
    obtain ⟨n, hn⟩ : ∃ n, t.asks.length = n + 1 := ⟨t.asks.length - 1, by omega⟩
    obtain ⟨AB, cap, hvA, _⟩ := Kd.S_form HR.out.asks hpos
    have hrd := (Kd.S_reads' (by have h := HR.out.asks; rw [hvA] at h; exact h : Kd.S kAsk 81 V B (fun k => F1 k = 4) (.slice (some ⟨AB, 0, none⟩) t.asks.length cap) t.asks)).2.2
    obtain ⟨AL, cL, q0, q1, q2, q3⟩ := at_Ask hrd n (by omega)
    obtain ⟨ak, hak⟩ : ∃ ak, ak = t.asks.getD n zAsk := ⟨_, rfl⟩
    rw [← hak] at q0 q1 q2 q3
    have HAK := Lib.hid (show askN t = ak from by unfold askN; rw [hwt, hn]; exact hak.symm)
    have hal : ak.args.length ≤ 1000 := HAA.out ak (getD_mem t.asks zAsk n (by omega) _ hak)
    have hcl : (n + 1 : Nat) ≤ 4000001 := by have := HAL.out; omega
    have c5 : V.cell? ⟨g, 5, none⟩ = some (.slice (some ⟨AB, 0, none⟩) (n + 1) cap) := (blk_cell HR.out.blk 5).trans (by rw [← hn, ← hvA]; rfl)
    have x0 : V.cell? ⟨b2, 0, none⟩ = some (.int .i64 0) := (blk_cell HXB.out 0).trans rfl
    have x1 : V.cell? ⟨b2, 1, none⟩ = some (.slice none 0 0) := (blk_cell HXB.out 1).trans rfl
    have HX0 := Lib.hid x0
    have HX1 := Lib.hid x1
    have HY0 := Lib.hid (blk_frozen HXB.out 0)
    have HY1 := Lib.hid (blk_frozen HXB.out 1)
    have HXC := Lib.hid HXB.out
    have HWF := Lib.hid hwt
    have HB2 := Lib.hid hb2
    have HQ0 := Lib.hid q0
    have HQ1 := Lib.hid q1
    have HQ3 := Lib.hid q3
    have HC5 := Lib.hid c5
    have hglV := blk_lt HR.out.blk
    have hw : IntKind.i64.wrap (n : Int) = n := by unfold IntKind.wrap; simp [IntKind.bits, IntKind.signed]; omega
    have h0 : (0 : Int) ≤ (n : Int) := by omega
    have h1 : (n : Int) < (n : Int) + 1 := by omega
    rw [← hb2]
    clear hwt hb2 hrd hvA hak q2 q3 hn x0 x1 HXB
    go_wp2_with fail
    refine wp_region_D (fun w' => w'.cell? ⟨g, 5, none⟩ = some (.slice (some ⟨AB, 0, none⟩) (n + 1) cap) ∧ w'.cell? ⟨AB, n * 2, none⟩ = some (.int .i64 ak.call) ∧ w'.cell? ⟨AB, n * 2 + 1, none⟩ = some (.slice AL ak.args.length cL)) 13 (by kernel_rfl) ?_
    intro X HX
    have hbX : Below V.heap.size V X := by rw [HX.out]; exact below_drew (Below.refl _ _)
    have HLX := Lib.hid (show X.cell? ⟨g, 5, none⟩ = some (.slice (some ⟨AB, 0, none⟩) (n + 1) cap) ∧ X.cell? ⟨AB, n * 2, none⟩ = some (.int .i64 ak.call) ∧ X.cell? ⟨AB, n * 2 + 1, none⟩ = some (.slice AL ak.args.length cL) from ⟨cell_up hbX c5, cell_up hbX q0, cell_up hbX q1⟩)
    have HBX := Lib.hid hbX
    clear hbX c5 q0 q1
    refine wpAnyD_tk 0 ?v_1 rfl (by kernel_rfl) (fun _ _ _ h => h) HLX.out (by rfl) ?h_1 ?r_1
    case h_1 => intro w' hS'; obtain ⟨s1, s2, s3⟩ := hS'; go_simp; try with_reducible rfl
    refine wpAnyD_tk 1 ?v_2 rfl (by kernel_rfl) (fun _ _ _ h => h) HLX.out (by rfl) ?h_2 ?r_2
    case h_2 => intro w' hS'; obtain ⟨s1, s2, s3⟩ := hS'; go_simp; try with_reducible rfl
    refine wpAnyD_tk 2 ?v_3 rfl (by kernel_rfl) (fun _ _ _ h => h) HLX.out (by rfl) ?h_3 ?r_3
    case h_3 => intro w' hS'; obtain ⟨s1, s2, s3⟩ := hS'; go_simp; try with_reducible rfl
    refine wpAnyD_tk 3 ?v_4 rfl (by kernel_rfl) (fun _ _ _ h => h) HLX.out (by rfl) ?h_4 ?r_4
    case h_4 => intro w' hS'; obtain ⟨s1, s2, s3⟩ := hS'; go_simp; try with_reducible rfl
    refine wpAnyD_tk 4 ?v_5 rfl (by kernel_rfl) (fun _ _ _ h => h) HLX.out (by rfl) ?h_5 ?r_5
    case h_5 => intro w' hS'; obtain ⟨s1, s2, s3⟩ := hS'; go_simp; try with_reducible rfl
    refine wpAnyD_tk 5 ?v_6 rfl (by kernel_rfl) (fun _ _ _ h => h) HLX.out (by rfl) ?h_6 ?r_6
    case h_6 => intro w' hS'; obtain ⟨s1, s2, s3⟩ := hS'; go_simp; try with_reducible rfl
    refine wpAnyD_tk 6 ?v_7 rfl (by kernel_rfl) (fun _ _ _ h => h) HLX.out (by rfl) ?h_7 ?r_7
    case h_7 => intro w' hS'; obtain ⟨s1, s2, s3⟩ := hS'; go_simp; try with_reducible rfl
    refine wpAnyD_tk 7 ?v_8 rfl (by kernel_rfl) (fun _ _ _ h => h) HLX.out (by rfl) ?h_8 ?r_8
    case h_8 => intro w' hS'; obtain ⟨s1, s2, s3⟩ := hS'; go_simp; try with_reducible rfl
    refine wpAnyD_tk 8 ?v_9 rfl (by kernel_rfl) (fun _ _ _ h => h) HLX.out (by rfl) ?h_9 ?r_9
    case h_9 => intro w' hS'; obtain ⟨s1, s2, s3⟩ := hS'; go_simp; try with_reducible rfl
    refine wpAnyD_tk 9 ?v_10 rfl (by kernel_rfl) (fun _ _ _ h => h) HLX.out (by rfl) ?h_10 ?r_10
    case h_10 => intro w' hS'; obtain ⟨s1, s2, s3⟩ := hS'; go_simp; try with_reducible rfl
    refine wpAnyD_tk 10 ?v_11 rfl (by kernel_rfl) (fun _ _ _ h => h) HLX.out (by rfl) ?h_11 ?r_11
    case h_11 => intro w' hS'; obtain ⟨s1, s2, s3⟩ := hS'; go_simp; try with_reducible rfl
    refine wpAnyD_tk 11 ?v_12 rfl (by kernel_rfl) (fun _ _ _ h => h) HLX.out (by rfl) ?h_12 ?r_12
    case h_12 => intro w' hS'; obtain ⟨s1, s2, s3⟩ := hS'; go_simp; try with_reducible rfl
    refine wpAnyD_one (i := 12) (by kernel_rfl) rfl (fun K hK => ?_)
    go_simp
    have hba := below_alloc (Below.refl X.heap.size X) (.cells #[.int .i64 0, .slice none 0 0] 81)
    have HL1 := Lib.hid (show (X.alloc (.cells #[.int .i64 0, .slice none 0 0] 81)).cell? ⟨g, 5, none⟩ = some (.slice (some ⟨AB, 0, none⟩) (n + 1) cap) ∧ (X.alloc (.cells #[.int .i64 0, .slice none 0 0] 81)).cell? ⟨AB, n * 2, none⟩ = some (.int .i64 ak.call) ∧ (X.alloc (.cells #[.int .i64 0, .slice none 0 0] 81)).cell? ⟨AB, n * 2 + 1, none⟩ = some (.slice AL ak.args.length cL) from ⟨cell_up hba HLX.out.1, cell_up hba HLX.out.2.1, cell_up hba HLX.out.2.2⟩)
    refine hK _ _ (.inr HL1.out) ?_
    clear hK K
    refine wpAnyD_one (i := 13) (by kernel_rfl) rfl (fun K hK => ?_)
    go_simp
    refine hK _ _ (.inl rfl) ?_
    clear hK K
    refine wpAnyD_done (by kernel_rfl) ?_ _
    obtain ⟨b4, hb4⟩ : ∃ b4, b4 = X.heap.size := ⟨_, rfl⟩
    obtain ⟨V4, hV4⟩ : ∃ V4, V4 = X.alloc (.cells #[.int .i64 ak.call, .slice AL ak.args.length cL] 81) := ⟨_, rfl⟩
    have hX4 : V4.heap[b4]? = some (.cells #[.int .i64 ak.call, .slice AL ak.args.length cL] 81 (0, 0)) := by rw [hb4, hV4]; exact heap_alloc_new X _
    have hB4 : Below V.heap.size V V4 := by rw [hV4]; exact below_next HBX.out (below_alloc (Below.refl _ _) _)
    have hb24 : ¬ b2 = b4 := by have := HBX.out.size; omega
    rw [← hb4, ← hV4]
    have p0 : V4.cell? ⟨b4, 0, none⟩ = some (.int .i64 ak.call) := (blk_cell hX4 0).trans rfl
    have p1 : V4.cell? ⟨b4, 1, none⟩ = some (.slice AL ak.args.length cL) := (blk_cell hX4 1).trans rfl
    have HB4 := Lib.hid hB4
    have HCL := Lib.hid (fun w' (hb : Below V4.heap.size V4 w') => clInt_any AL cL ak.args w' (Kd.C_below (Kd.C_below HQ3.out hB4) hb) (by omega))
    clear hb4 hV4 hX4 hB4
    go_wp2_with fail
    refine wp_region_D (fun w' => w'.cell? ⟨b4, 0, none⟩ = some (.int .i64 ak.call) ∧ w'.cell? ⟨b4, 1, none⟩ = some (.slice AL ak.args.length cL)) 7 (by kernel_rfl) ?_
    intro Y HY
    have hbY : Below V4.heap.size V4 Y := by rw [HY.out]; exact below_drew (Below.refl _ _)
    have HLY := Lib.hid (show Y.cell? ⟨b4, 0, none⟩ = some (.int .i64 ak.call) ∧ Y.cell? ⟨b4, 1, none⟩ = some (.slice AL ak.args.length cL) from ⟨cell_up hbY p0, cell_up hbY p1⟩)
    have HBY := Lib.hid hbY
    have HP0 := Lib.hid p0
    have HP1 := Lib.hid p1
    clear hbY p0 p1
    refine wpAnyD_tk 0 ?v_13 rfl (by kernel_rfl) (fun _ _ _ h => h) HLY.out (by rfl) ?h_13 ?r_13
    case h_13 => intro w' hS'; obtain ⟨s1, s2⟩ := hS'; go_simp; try with_reducible rfl
    refine wpAnyD_tk 1 ?v_14 rfl (by kernel_rfl) (fun _ _ _ h => h) HLY.out (by rfl) ?h_14 ?r_14
    case h_14 => intro w' hS'; obtain ⟨s1, s2⟩ := hS'; go_simp; try with_reducible rfl
    refine wpAnyD_tk 2 ?v_15 rfl (by kernel_rfl) (fun _ _ _ h => h) HLY.out (by rfl) ?h_15 ?r_15
    case h_15 => intro w' hS'; obtain ⟨s1, s2⟩ := hS'; go_simp; try with_reducible rfl
    refine wpAnyD_tk 3 ?v_16 rfl (by kernel_rfl) (fun _ _ _ h => h) HLY.out (by rfl) ?h_16 ?r_16
    case h_16 => intro w' hS'; obtain ⟨s1, s2⟩ := hS'; go_simp; try with_reducible rfl
    refine wpAnyD_one (i := 4) (by kernel_rfl) rfl (fun K hK => ?_)
    go_simp
    refine (HCL.out _ HBY.out).mono ?_
    rintro e w5 ⟨vL, rfl, hvL, hbL⟩
    obtain ⟨AN, cN, rfl⟩ := Kd.R_slice hvL
    have hb5 : Below V4.heap.size V4 w5 := below_next HBY.out hbL
    have HV5 := Lib.hid (Kd.R_lower hvL HBY.out.size)
    have HB5 := Lib.hid (below_next HB4.out hb5)
    have x0 := cell_up HB5.out HX0.out
    have x1 := cell_up HB5.out HX1.out
    have y0 : w5.frozen? ⟨b2, 0, none⟩ = false := frozen_up HB5.out HX0.out HY0.out
    have y1 : w5.frozen? ⟨b2, 1, none⟩ = false := frozen_up HB5.out HX1.out HY1.out
    have HX5 := Lib.hid ((HB5.out.block b2 n2).trans HXC.out)
    have HL5 := Lib.hid (show w5.cell? ⟨b4, 0, none⟩ = some (.int .i64 ak.call) ∧ w5.cell? ⟨b4, 1, none⟩ = some (.slice AL ak.args.length cL) from ⟨cell_up hb5 HP0.out, cell_up hb5 HP1.out⟩)
    clear hvL hbL hb5
    refine hK _ _ (.inr HL5.out) ?_
    clear hK K
    refine wpAnyD_one (i := 5) (by kernel_rfl) rfl (fun K hK => ?_)
    go_simp
    refine hK _ _ (.inr HL5.out) ?_
    clear hK K
    refine wpAnyD_one (i := 6) (by kernel_rfl) rfl (fun K hK => ?_)
    go_simp
    have HL6 := Lib.hid (show ((w5.setCell ⟨b2, 0, none⟩ (.int .i64 ak.call)).setCell ⟨b2, 1, none⟩ (.slice AN ak.args.length cN)).cell? ⟨b4, 0, none⟩ = some (.int .i64 ak.call) ∧ ((w5.setCell ⟨b2, 0, none⟩ (.int .i64 ak.call)).setCell ⟨b2, 1, none⟩ (.slice AN ak.args.length cN)).cell? ⟨b4, 1, none⟩ = some (.slice AL ak.args.length cL) from ⟨(cell_eq ((Below.heap_setCell _ _ _ _ (fun e => hb24 e.symm)).trans (Below.heap_setCell _ _ _ _ (fun e => hb24 e.symm))) 0).trans HL5.out.1, (cell_eq ((Below.heap_setCell _ _ _ _ (fun e => hb24 e.symm)).trans (Below.heap_setCell _ _ _ _ (fun e => hb24 e.symm))) 1).trans HL5.out.2⟩)
    refine hK _ _ (.inr HL6.out) ?_
    clear hK K
    refine wpAnyD_one (i := 7) (by kernel_rfl) rfl (fun K hK => ?_)
    go_simp
    refine hK _ _ (.inl rfl) ?_
    clear hK K
    refine wpAnyD_done (by kernel_rfl) ?_ _
    go_wp2_with fail
    (try simp only [Exit.inBlock, Exit.then])
    refine bodyPost_ret (results_ct rfl _ _ b2 81 #[.int .i64 ak.call, .slice AN ak.args.length cN] (0, 0) _ rfl (blk_put (blk_put HX5.out 0 (.int .i64 ak.call) rfl) 1 (.slice AN ak.args.length cN) rfl) Tryz.underlying81 rfl (by kernel_rfl)) rfl ?_
    have hW2 : W.heap.size ≤ V.heap.size := HS.out.size
    have hR5 : (Kd.int .i64).R 3 w5 W.heap.size (fun k => V4.heap.size ≤ k) (.slice AN ak.args.length cN) ak.args := Kd.R_lower (Kd.R_mono (Kd.R_bound HV5.out) (fun k hk => hk.2.1)) (Nat.le_trans hW2 HB4.out.size)
    have hne : ∀ k, V4.heap.size ≤ k → k ≠ b2 := fun k hk e => by have := HB4.out.size; omega
    exact ⟨_, F1, _, _, _, _, by rw [HWF.out]; rfl, ((HR.out.below HB5.out).far HF2.out hgb 0 _).far HF2.out hgb 1 _, ((HS.out.trans (Stp.below HB5.out)).far (by rw [HB2.out]; exact Nat.le_refl _) 0 _).far (by rw [HB2.out]; exact Nat.le_refl _) 1 _, .slice AN ak.args.length cN, by rw [HAK.out], by
     rw [HAK.out]
     exact Kd.R_mono (Kd.R_far (p := ⟨b2, 1, none⟩) (Kd.R_far (p := ⟨b2, 0, none⟩) hR5 hne _) hne _) (fun k hk => ⟨HFC.out k (Nat.le_trans HB4.out.size hk), Nat.le_trans hW2 (Nat.le_trans HB4.out.size hk)⟩)⟩
  ·have hts := HST.out (by simp)
   subst hts
   have HR := Lib.hid HC0.out
   have HS := Lib.hid HS0.out
   have HXB := Lib.hid HBX.out
   have HF2 := Lib.hid HFX.out
   have HFC := Lib.hid (fun k (hk : (W.alloc (.cells #[.int .i64 0, .slice none 0 0] 81)).heap.size ≤ k) => (by unfold cleanT; rw [if_neg (by simp at hk; omega)] : cleanT W.heap.size f k = 0))
   generalize hF1 : cleanT W.heap.size f = F1 at HR HS HF2 HFC
   have hwt : t.waits = true := HWA.out.symm
   have HWS := Lib.hid hwt
   clear hwt
   go_wp2_with fail
   generalize hV : W.alloc (.cells #[.int .i64 0, .slice none 0 0] 81) = V at *
   have hwt := HWS.out
   clear hF1 hV HGO HST HC0 HS0 HBX HB0 HBs d6 d7
   obtain ⟨b2, hb2⟩ : ∃ b2, b2 = W.heap.size := ⟨_, rfl⟩
   rw [← hb2] at HXB HF2
   have hgb : ¬ b2 = g := by rw [hb2]; omega
   have n2 := blk_lt HXB.out
   have d6 : V.cell? ⟨g, 6, none⟩ = some (.bool true) := (blk_cell HR.out.blk 6).trans (by rw [← hwt]; rfl)
   have hpos := HWT.out hwt
   obtain ⟨n, hn⟩ : ∃ n, t.asks.length = n + 1 := ⟨t.asks.length - 1, by omega⟩
   obtain ⟨AB, cap, hvA, _⟩ := Kd.S_form HR.out.asks hpos
   have hrd := (Kd.S_reads' (by have h := HR.out.asks; rw [hvA] at h; exact h : Kd.S kAsk 81 V B (fun k => F1 k = 4) (.slice (some ⟨AB, 0, none⟩) t.asks.length cap) t.asks)).2.2
   obtain ⟨AL, cL, q0, q1, q2, q3⟩ := at_Ask hrd n (by omega)
   obtain ⟨ak, hak⟩ : ∃ ak, ak = t.asks.getD n zAsk := ⟨_, rfl⟩
   rw [← hak] at q0 q1 q2 q3
   have HAK := Lib.hid (show askN t = ak from by unfold askN; rw [hwt, hn]; exact hak.symm)
   have hal : ak.args.length ≤ 1000 := HAA.out ak (getD_mem t.asks zAsk n (by omega) _ hak)
   have hcl : (n + 1 : Nat) ≤ 4000001 := by have := HAL.out; omega
   have c5 : V.cell? ⟨g, 5, none⟩ = some (.slice (some ⟨AB, 0, none⟩) (n + 1) cap) := (blk_cell HR.out.blk 5).trans (by rw [← hn, ← hvA]; rfl)
   have x0 : V.cell? ⟨b2, 0, none⟩ = some (.int .i64 0) := (blk_cell HXB.out 0).trans rfl
   have x1 : V.cell? ⟨b2, 1, none⟩ = some (.slice none 0 0) := (blk_cell HXB.out 1).trans rfl
   have HX0 := Lib.hid x0
   have HX1 := Lib.hid x1
   have HY0 := Lib.hid (blk_frozen HXB.out 0)
   have HY1 := Lib.hid (blk_frozen HXB.out 1)
   have HXC := Lib.hid HXB.out
   have HWF := Lib.hid hwt
   have HB2 := Lib.hid hb2
   have HQ0 := Lib.hid q0
   have HQ1 := Lib.hid q1
   have HQ3 := Lib.hid q3
   have HC5 := Lib.hid c5
   have hglV := blk_lt HR.out.blk
   have hw : IntKind.i64.wrap (n : Int) = n := by unfold IntKind.wrap; simp [IntKind.bits, IntKind.signed]; omega
   have h0 : (0 : Int) ≤ (n : Int) := by omega
   have h1 : (n : Int) < (n : Int) + 1 := by omega
   rw [← hb2]
   clear hwt hb2 hrd hvA hak q2 q3 hn x0 x1 HXB
   refine wp_region_D (fun w' => w'.cell? ⟨g, 5, none⟩ = some (.slice (some ⟨AB, 0, none⟩) (n + 1) cap) ∧ w'.cell? ⟨AB, n * 2, none⟩ = some (.int .i64 ak.call) ∧ w'.cell? ⟨AB, n * 2 + 1, none⟩ = some (.slice AL ak.args.length cL)) 13 (by kernel_rfl) ?_
   intro X HX
   have hbX : Below V.heap.size V X := by rw [HX.out]; exact below_drew (Below.refl _ _)
   have HLX := Lib.hid (show X.cell? ⟨g, 5, none⟩ = some (.slice (some ⟨AB, 0, none⟩) (n + 1) cap) ∧ X.cell? ⟨AB, n * 2, none⟩ = some (.int .i64 ak.call) ∧ X.cell? ⟨AB, n * 2 + 1, none⟩ = some (.slice AL ak.args.length cL) from ⟨cell_up hbX c5, cell_up hbX q0, cell_up hbX q1⟩)
   have HBX := Lib.hid hbX
   clear hbX c5 q0 q1
   refine wpAnyD_tk 0 ?v_17 rfl (by kernel_rfl) (fun _ _ _ h => h) HLX.out (by rfl) ?h_17 ?r_17
   case h_17 => intro w' hS'; obtain ⟨s1, s2, s3⟩ := hS'; go_simp; try with_reducible rfl
   refine wpAnyD_tk 1 ?v_18 rfl (by kernel_rfl) (fun _ _ _ h => h) HLX.out (by rfl) ?h_18 ?r_18
   case h_18 => intro w' hS'; obtain ⟨s1, s2, s3⟩ := hS'; go_simp; try with_reducible rfl
   refine wpAnyD_tk 2 ?v_19 rfl (by kernel_rfl) (fun _ _ _ h => h) HLX.out (by rfl) ?h_19 ?r_19
   case h_19 => intro w' hS'; obtain ⟨s1, s2, s3⟩ := hS'; go_simp; try with_reducible rfl
   refine wpAnyD_tk 3 ?v_20 rfl (by kernel_rfl) (fun _ _ _ h => h) HLX.out (by rfl) ?h_20 ?r_20
   case h_20 => intro w' hS'; obtain ⟨s1, s2, s3⟩ := hS'; go_simp; try with_reducible rfl
   refine wpAnyD_tk 4 ?v_21 rfl (by kernel_rfl) (fun _ _ _ h => h) HLX.out (by rfl) ?h_21 ?r_21
   case h_21 => intro w' hS'; obtain ⟨s1, s2, s3⟩ := hS'; go_simp; try with_reducible rfl
   refine wpAnyD_tk 5 ?v_22 rfl (by kernel_rfl) (fun _ _ _ h => h) HLX.out (by rfl) ?h_22 ?r_22
   case h_22 => intro w' hS'; obtain ⟨s1, s2, s3⟩ := hS'; go_simp; try with_reducible rfl
   refine wpAnyD_tk 6 ?v_23 rfl (by kernel_rfl) (fun _ _ _ h => h) HLX.out (by rfl) ?h_23 ?r_23
   case h_23 => intro w' hS'; obtain ⟨s1, s2, s3⟩ := hS'; go_simp; try with_reducible rfl
   refine wpAnyD_tk 7 ?v_24 rfl (by kernel_rfl) (fun _ _ _ h => h) HLX.out (by rfl) ?h_24 ?r_24
   case h_24 => intro w' hS'; obtain ⟨s1, s2, s3⟩ := hS'; go_simp; try with_reducible rfl
   refine wpAnyD_tk 8 ?v_25 rfl (by kernel_rfl) (fun _ _ _ h => h) HLX.out (by rfl) ?h_25 ?r_25
   case h_25 => intro w' hS'; obtain ⟨s1, s2, s3⟩ := hS'; go_simp; try with_reducible rfl
   refine wpAnyD_tk 9 ?v_26 rfl (by kernel_rfl) (fun _ _ _ h => h) HLX.out (by rfl) ?h_26 ?r_26
   case h_26 => intro w' hS'; obtain ⟨s1, s2, s3⟩ := hS'; go_simp; try with_reducible rfl
   refine wpAnyD_tk 10 ?v_27 rfl (by kernel_rfl) (fun _ _ _ h => h) HLX.out (by rfl) ?h_27 ?r_27
   case h_27 => intro w' hS'; obtain ⟨s1, s2, s3⟩ := hS'; go_simp; try with_reducible rfl
   refine wpAnyD_tk 11 ?v_28 rfl (by kernel_rfl) (fun _ _ _ h => h) HLX.out (by rfl) ?h_28 ?r_28
   case h_28 => intro w' hS'; obtain ⟨s1, s2, s3⟩ := hS'; go_simp; try with_reducible rfl
   refine wpAnyD_one (i := 12) (by kernel_rfl) rfl (fun K hK => ?_)
   go_simp
   have hba := below_alloc (Below.refl X.heap.size X) (.cells #[.int .i64 0, .slice none 0 0] 81)
   have HL1 := Lib.hid (show (X.alloc (.cells #[.int .i64 0, .slice none 0 0] 81)).cell? ⟨g, 5, none⟩ = some (.slice (some ⟨AB, 0, none⟩) (n + 1) cap) ∧ (X.alloc (.cells #[.int .i64 0, .slice none 0 0] 81)).cell? ⟨AB, n * 2, none⟩ = some (.int .i64 ak.call) ∧ (X.alloc (.cells #[.int .i64 0, .slice none 0 0] 81)).cell? ⟨AB, n * 2 + 1, none⟩ = some (.slice AL ak.args.length cL) from ⟨cell_up hba HLX.out.1, cell_up hba HLX.out.2.1, cell_up hba HLX.out.2.2⟩)
   refine hK _ _ (.inr HL1.out) ?_
   clear hK K
   refine wpAnyD_one (i := 13) (by kernel_rfl) rfl (fun K hK => ?_)
   go_simp
   refine hK _ _ (.inl rfl) ?_
   clear hK K
   refine wpAnyD_done (by kernel_rfl) ?_ _
   obtain ⟨b4, hb4⟩ : ∃ b4, b4 = X.heap.size := ⟨_, rfl⟩
   obtain ⟨V4, hV4⟩ : ∃ V4, V4 = X.alloc (.cells #[.int .i64 ak.call, .slice AL ak.args.length cL] 81) := ⟨_, rfl⟩
   have hX4 : V4.heap[b4]? = some (.cells #[.int .i64 ak.call, .slice AL ak.args.length cL] 81 (0, 0)) := by rw [hb4, hV4]; exact heap_alloc_new X _
   have hB4 : Below V.heap.size V V4 := by rw [hV4]; exact below_next HBX.out (below_alloc (Below.refl _ _) _)
   have hb24 : ¬ b2 = b4 := by have := HBX.out.size; omega
   rw [← hb4, ← hV4]
   have p0 : V4.cell? ⟨b4, 0, none⟩ = some (.int .i64 ak.call) := (blk_cell hX4 0).trans rfl
   have p1 : V4.cell? ⟨b4, 1, none⟩ = some (.slice AL ak.args.length cL) := (blk_cell hX4 1).trans rfl
   have HB4 := Lib.hid hB4
   have HCL := Lib.hid (fun w' (hb : Below V4.heap.size V4 w') => clInt_any AL cL ak.args w' (Kd.C_below (Kd.C_below HQ3.out hB4) hb) (by omega))
   clear hb4 hV4 hX4 hB4
   go_wp2_with fail
   refine wp_region_D (fun w' => w'.cell? ⟨b4, 0, none⟩ = some (.int .i64 ak.call) ∧ w'.cell? ⟨b4, 1, none⟩ = some (.slice AL ak.args.length cL)) 7 (by kernel_rfl) ?_
   intro Y HY
   have hbY : Below V4.heap.size V4 Y := by rw [HY.out]; exact below_drew (Below.refl _ _)
   have HLY := Lib.hid (show Y.cell? ⟨b4, 0, none⟩ = some (.int .i64 ak.call) ∧ Y.cell? ⟨b4, 1, none⟩ = some (.slice AL ak.args.length cL) from ⟨cell_up hbY p0, cell_up hbY p1⟩)
   have HBY := Lib.hid hbY
   have HP0 := Lib.hid p0
   have HP1 := Lib.hid p1
   clear hbY p0 p1
   refine wpAnyD_tk 0 ?v_29 rfl (by kernel_rfl) (fun _ _ _ h => h) HLY.out (by rfl) ?h_29 ?r_29
   case h_29 => intro w' hS'; obtain ⟨s1, s2⟩ := hS'; go_simp; try with_reducible rfl
   refine wpAnyD_tk 1 ?v_30 rfl (by kernel_rfl) (fun _ _ _ h => h) HLY.out (by rfl) ?h_30 ?r_30
   case h_30 => intro w' hS'; obtain ⟨s1, s2⟩ := hS'; go_simp; try with_reducible rfl
   refine wpAnyD_tk 2 ?v_31 rfl (by kernel_rfl) (fun _ _ _ h => h) HLY.out (by rfl) ?h_31 ?r_31
   case h_31 => intro w' hS'; obtain ⟨s1, s2⟩ := hS'; go_simp; try with_reducible rfl
   refine wpAnyD_tk 3 ?v_32 rfl (by kernel_rfl) (fun _ _ _ h => h) HLY.out (by rfl) ?h_32 ?r_32
   case h_32 => intro w' hS'; obtain ⟨s1, s2⟩ := hS'; go_simp; try with_reducible rfl
   refine wpAnyD_one (i := 4) (by kernel_rfl) rfl (fun K hK => ?_)
   go_simp
   refine (HCL.out _ HBY.out).mono ?_
   rintro e w5 ⟨vL, rfl, hvL, hbL⟩
   obtain ⟨AN, cN, rfl⟩ := Kd.R_slice hvL
   have hb5 : Below V4.heap.size V4 w5 := below_next HBY.out hbL
   have HV5 := Lib.hid (Kd.R_lower hvL HBY.out.size)
   have HB5 := Lib.hid (below_next HB4.out hb5)
   have x0 := cell_up HB5.out HX0.out
   have x1 := cell_up HB5.out HX1.out
   have y0 : w5.frozen? ⟨b2, 0, none⟩ = false := frozen_up HB5.out HX0.out HY0.out
   have y1 : w5.frozen? ⟨b2, 1, none⟩ = false := frozen_up HB5.out HX1.out HY1.out
   have HX5 := Lib.hid ((HB5.out.block b2 n2).trans HXC.out)
   have HL5 := Lib.hid (show w5.cell? ⟨b4, 0, none⟩ = some (.int .i64 ak.call) ∧ w5.cell? ⟨b4, 1, none⟩ = some (.slice AL ak.args.length cL) from ⟨cell_up hb5 HP0.out, cell_up hb5 HP1.out⟩)
   clear hvL hbL hb5
   refine hK _ _ (.inr HL5.out) ?_
   clear hK K
   refine wpAnyD_one (i := 5) (by kernel_rfl) rfl (fun K hK => ?_)
   go_simp
   refine hK _ _ (.inr HL5.out) ?_
   clear hK K
   refine wpAnyD_one (i := 6) (by kernel_rfl) rfl (fun K hK => ?_)
   go_simp
   have HL6 := Lib.hid (show ((w5.setCell ⟨b2, 0, none⟩ (.int .i64 ak.call)).setCell ⟨b2, 1, none⟩ (.slice AN ak.args.length cN)).cell? ⟨b4, 0, none⟩ = some (.int .i64 ak.call) ∧ ((w5.setCell ⟨b2, 0, none⟩ (.int .i64 ak.call)).setCell ⟨b2, 1, none⟩ (.slice AN ak.args.length cN)).cell? ⟨b4, 1, none⟩ = some (.slice AL ak.args.length cL) from ⟨(cell_eq ((Below.heap_setCell _ _ _ _ (fun e => hb24 e.symm)).trans (Below.heap_setCell _ _ _ _ (fun e => hb24 e.symm))) 0).trans HL5.out.1, (cell_eq ((Below.heap_setCell _ _ _ _ (fun e => hb24 e.symm)).trans (Below.heap_setCell _ _ _ _ (fun e => hb24 e.symm))) 1).trans HL5.out.2⟩)
   refine hK _ _ (.inr HL6.out) ?_
   clear hK K
   refine wpAnyD_one (i := 7) (by kernel_rfl) rfl (fun K hK => ?_)
   go_simp
   refine hK _ _ (.inl rfl) ?_
   clear hK K
   refine wpAnyD_done (by kernel_rfl) ?_ _
   go_wp2_with fail
   (try simp only [Exit.inBlock, Exit.then])
   refine bodyPost_ret (results_ct rfl _ _ b2 81 #[.int .i64 ak.call, .slice AN ak.args.length cN] (0, 0) _ rfl (blk_put (blk_put HX5.out 0 (.int .i64 ak.call) rfl) 1 (.slice AN ak.args.length cN) rfl) Tryz.underlying81 rfl (by kernel_rfl)) rfl ?_
   have hW2 : W.heap.size ≤ V.heap.size := HS.out.size
   have hR5 : (Kd.int .i64).R 3 w5 W.heap.size (fun k => V4.heap.size ≤ k) (.slice AN ak.args.length cN) ak.args := Kd.R_lower (Kd.R_mono (Kd.R_bound HV5.out) (fun k hk => hk.2.1)) (Nat.le_trans hW2 HB4.out.size)
   have hne : ∀ k, V4.heap.size ≤ k → k ≠ b2 := fun k hk e => by have := HB4.out.size; omega
   exact ⟨_, F1, _, _, _, _, by rw [HWF.out]; rfl, ((HR.out.below HB5.out).far HF2.out hgb 0 _).far HF2.out hgb 1 _, ((HS.out.trans (Stp.below HB5.out)).far (by rw [HB2.out]; exact Nat.le_refl _) 0 _).far (by rw [HB2.out]; exact Nat.le_refl _) 1 _, .slice AN ak.args.length cN, by rw [HAK.out], by
    rw [HAK.out]
    exact Kd.R_mono (Kd.R_far (p := ⟨b2, 1, none⟩) (Kd.R_far (p := ⟨b2, 0, none⟩) hR5 hne _) hne _) (fun k hk => ⟨HFC.out k (Nat.le_trans HB4.out.size hk), Nat.le_trans hW2 (Nat.le_trans HB4.out.size hk)⟩)⟩
 ·cases wa
  ·have hts := HST.out (by simp)
   subst hts
   have HR := Lib.hid HC0.out
   have HS := Lib.hid HS0.out
   have HXB := Lib.hid HBX.out
   have HF2 := Lib.hid HFX.out
   have HFC := Lib.hid (fun k (hk : (W.alloc (.cells #[.int .i64 0, .slice none 0 0] 81)).heap.size ≤ k) => (by unfold cleanT; rw [if_neg (by simp at hk; omega)] : cleanT W.heap.size f k = 0))
   generalize hF1 : cleanT W.heap.size f = F1 at HR HS HF2 HFC
   have hwt : t.waits = false := HWA.out.symm
   have HWS := Lib.hid hwt
   clear hwt
   go_wp2_with fail
   generalize hV : W.alloc (.cells #[.int .i64 0, .slice none 0 0] 81) = V at *
   have hwt := HWS.out
   clear hF1 hV HGO HST HC0 HS0 HBX HB0 HBs d6 d7
   obtain ⟨b2, hb2⟩ : ∃ b2, b2 = W.heap.size := ⟨_, rfl⟩
   rw [← hb2] at HXB HF2
   have hgb : ¬ b2 = g := by rw [hb2]; omega
   have n2 := blk_lt HXB.out
   have d6 : V.cell? ⟨g, 6, none⟩ = some (.bool false) := (blk_cell HR.out.blk 6).trans (by rw [← hwt]; rfl)
   have x0 : V.cell? ⟨b2, 0, none⟩ = some (.int .i64 0) := (blk_cell HXB.out 0).trans rfl
   have x1 : V.cell? ⟨b2, 1, none⟩ = some (.slice none 0 0) := (blk_cell HXB.out 1).trans rfl
   have y0 : V.frozen? ⟨b2, 0, none⟩ = false := blk_frozen HXB.out 0
   have y1 : V.frozen? ⟨b2, 1, none⟩ = false := blk_frozen HXB.out 1
   have HWF := Lib.hid hwt
   have HB2 := Lib.hid hb2
   rw [← hb2]
   clear hwt hb2
   (try simp only [Exit.inBlock, Exit.then])
   refine bodyPost_ret (results_ct rfl _ _ b2 81 #[.int .i64 0, .slice none 0 0] (0, 0) _ rfl HXB.out Tryz.underlying81 rfl (by kernel_rfl)) rfl ?_
   exact ⟨_, F1, _, _, _, _, by rw [HWF.out]; rfl, HR.out, HS.out, .slice none 0 0, by unfold askN; rw [HWF.out]; rfl, by unfold askN; rw [HWF.out]; exact Kd.R_nil _ _ _ _ _⟩
  ·have hts := HST.out (by simp)
   subst hts
   have HR := Lib.hid HC0.out
   have HS := Lib.hid HS0.out
   have HXB := Lib.hid HBX.out
   have HF2 := Lib.hid HFX.out
   have HFC := Lib.hid (fun k (hk : (W.alloc (.cells #[.int .i64 0, .slice none 0 0] 81)).heap.size ≤ k) => (by unfold cleanT; rw [if_neg (by simp at hk; omega)] : cleanT W.heap.size f k = 0))
   generalize hF1 : cleanT W.heap.size f = F1 at HR HS HF2 HFC
   have hwt : t.waits = true := HWA.out.symm
   have HWS := Lib.hid hwt
   clear hwt
   go_wp2_with fail
   generalize hV : W.alloc (.cells #[.int .i64 0, .slice none 0 0] 81) = V at *
   have hwt := HWS.out
   clear hF1 hV HGO HST HC0 HS0 HBX HB0 HBs d6 d7
   obtain ⟨b2, hb2⟩ : ∃ b2, b2 = W.heap.size := ⟨_, rfl⟩
   rw [← hb2] at HXB HF2
   have hgb : ¬ b2 = g := by rw [hb2]; omega
   have n2 := blk_lt HXB.out
   have d6 : V.cell? ⟨g, 6, none⟩ = some (.bool true) := (blk_cell HR.out.blk 6).trans (by rw [← hwt]; rfl)
   have hpos := HWT.out hwt
   obtain ⟨n, hn⟩ : ∃ n, t.asks.length = n + 1 := ⟨t.asks.length - 1, by omega⟩
   obtain ⟨AB, cap, hvA, _⟩ := Kd.S_form HR.out.asks hpos
   have hrd := (Kd.S_reads' (by have h := HR.out.asks; rw [hvA] at h; exact h : Kd.S kAsk 81 V B (fun k => F1 k = 4) (.slice (some ⟨AB, 0, none⟩) t.asks.length cap) t.asks)).2.2
   obtain ⟨AL, cL, q0, q1, q2, q3⟩ := at_Ask hrd n (by omega)
   obtain ⟨ak, hak⟩ : ∃ ak, ak = t.asks.getD n zAsk := ⟨_, rfl⟩
   rw [← hak] at q0 q1 q2 q3
   have HAK := Lib.hid (show askN t = ak from by unfold askN; rw [hwt, hn]; exact hak.symm)
   have hal : ak.args.length ≤ 1000 := HAA.out ak (getD_mem t.asks zAsk n (by omega) _ hak)
   have hcl : (n + 1 : Nat) ≤ 4000001 := by have := HAL.out; omega
   have c5 : V.cell? ⟨g, 5, none⟩ = some (.slice (some ⟨AB, 0, none⟩) (n + 1) cap) := (blk_cell HR.out.blk 5).trans (by rw [← hn, ← hvA]; rfl)
   have x0 : V.cell? ⟨b2, 0, none⟩ = some (.int .i64 0) := (blk_cell HXB.out 0).trans rfl
   have x1 : V.cell? ⟨b2, 1, none⟩ = some (.slice none 0 0) := (blk_cell HXB.out 1).trans rfl
   have HX0 := Lib.hid x0
   have HX1 := Lib.hid x1
   have HY0 := Lib.hid (blk_frozen HXB.out 0)
   have HY1 := Lib.hid (blk_frozen HXB.out 1)
   have HXC := Lib.hid HXB.out
   have HWF := Lib.hid hwt
   have HB2 := Lib.hid hb2
   have HQ0 := Lib.hid q0
   have HQ1 := Lib.hid q1
   have HQ3 := Lib.hid q3
   have HC5 := Lib.hid c5
   have hglV := blk_lt HR.out.blk
   have hw : IntKind.i64.wrap (n : Int) = n := by unfold IntKind.wrap; simp [IntKind.bits, IntKind.signed]; omega
   have h0 : (0 : Int) ≤ (n : Int) := by omega
   have h1 : (n : Int) < (n : Int) + 1 := by omega
   rw [← hb2]
   clear hwt hb2 hrd hvA hak q2 q3 hn x0 x1 HXB
   refine wp_region_D (fun w' => w'.cell? ⟨g, 5, none⟩ = some (.slice (some ⟨AB, 0, none⟩) (n + 1) cap) ∧ w'.cell? ⟨AB, n * 2, none⟩ = some (.int .i64 ak.call) ∧ w'.cell? ⟨AB, n * 2 + 1, none⟩ = some (.slice AL ak.args.length cL)) 13 (by kernel_rfl) ?_
   intro X HX
   have hbX : Below V.heap.size V X := by rw [HX.out]; exact below_drew (Below.refl _ _)
   have HLX := Lib.hid (show X.cell? ⟨g, 5, none⟩ = some (.slice (some ⟨AB, 0, none⟩) (n + 1) cap) ∧ X.cell? ⟨AB, n * 2, none⟩ = some (.int .i64 ak.call) ∧ X.cell? ⟨AB, n * 2 + 1, none⟩ = some (.slice AL ak.args.length cL) from ⟨cell_up hbX c5, cell_up hbX q0, cell_up hbX q1⟩)
   have HBX := Lib.hid hbX
   clear hbX c5 q0 q1
   refine wpAnyD_tk 0 ?v_33 rfl (by kernel_rfl) (fun _ _ _ h => h) HLX.out (by rfl) ?h_33 ?r_33
   case h_33 => intro w' hS'; obtain ⟨s1, s2, s3⟩ := hS'; go_simp; try with_reducible rfl
   refine wpAnyD_tk 1 ?v_34 rfl (by kernel_rfl) (fun _ _ _ h => h) HLX.out (by rfl) ?h_34 ?r_34
   case h_34 => intro w' hS'; obtain ⟨s1, s2, s3⟩ := hS'; go_simp; try with_reducible rfl
   refine wpAnyD_tk 2 ?v_35 rfl (by kernel_rfl) (fun _ _ _ h => h) HLX.out (by rfl) ?h_35 ?r_35
   case h_35 => intro w' hS'; obtain ⟨s1, s2, s3⟩ := hS'; go_simp; try with_reducible rfl
   refine wpAnyD_tk 3 ?v_36 rfl (by kernel_rfl) (fun _ _ _ h => h) HLX.out (by rfl) ?h_36 ?r_36
   case h_36 => intro w' hS'; obtain ⟨s1, s2, s3⟩ := hS'; go_simp; try with_reducible rfl
   refine wpAnyD_tk 4 ?v_37 rfl (by kernel_rfl) (fun _ _ _ h => h) HLX.out (by rfl) ?h_37 ?r_37
   case h_37 => intro w' hS'; obtain ⟨s1, s2, s3⟩ := hS'; go_simp; try with_reducible rfl
   refine wpAnyD_tk 5 ?v_38 rfl (by kernel_rfl) (fun _ _ _ h => h) HLX.out (by rfl) ?h_38 ?r_38
   case h_38 => intro w' hS'; obtain ⟨s1, s2, s3⟩ := hS'; go_simp; try with_reducible rfl
   refine wpAnyD_tk 6 ?v_39 rfl (by kernel_rfl) (fun _ _ _ h => h) HLX.out (by rfl) ?h_39 ?r_39
   case h_39 => intro w' hS'; obtain ⟨s1, s2, s3⟩ := hS'; go_simp; try with_reducible rfl
   refine wpAnyD_tk 7 ?v_40 rfl (by kernel_rfl) (fun _ _ _ h => h) HLX.out (by rfl) ?h_40 ?r_40
   case h_40 => intro w' hS'; obtain ⟨s1, s2, s3⟩ := hS'; go_simp; try with_reducible rfl
   refine wpAnyD_tk 8 ?v_41 rfl (by kernel_rfl) (fun _ _ _ h => h) HLX.out (by rfl) ?h_41 ?r_41
   case h_41 => intro w' hS'; obtain ⟨s1, s2, s3⟩ := hS'; go_simp; try with_reducible rfl
   refine wpAnyD_tk 9 ?v_42 rfl (by kernel_rfl) (fun _ _ _ h => h) HLX.out (by rfl) ?h_42 ?r_42
   case h_42 => intro w' hS'; obtain ⟨s1, s2, s3⟩ := hS'; go_simp; try with_reducible rfl
   refine wpAnyD_tk 10 ?v_43 rfl (by kernel_rfl) (fun _ _ _ h => h) HLX.out (by rfl) ?h_43 ?r_43
   case h_43 => intro w' hS'; obtain ⟨s1, s2, s3⟩ := hS'; go_simp; try with_reducible rfl
   refine wpAnyD_tk 11 ?v_44 rfl (by kernel_rfl) (fun _ _ _ h => h) HLX.out (by rfl) ?h_44 ?r_44
   case h_44 => intro w' hS'; obtain ⟨s1, s2, s3⟩ := hS'; go_simp; try with_reducible rfl
   refine wpAnyD_one (i := 12) (by kernel_rfl) rfl (fun K hK => ?_)
   go_simp
   have hba := below_alloc (Below.refl X.heap.size X) (.cells #[.int .i64 0, .slice none 0 0] 81)
   have HL1 := Lib.hid (show (X.alloc (.cells #[.int .i64 0, .slice none 0 0] 81)).cell? ⟨g, 5, none⟩ = some (.slice (some ⟨AB, 0, none⟩) (n + 1) cap) ∧ (X.alloc (.cells #[.int .i64 0, .slice none 0 0] 81)).cell? ⟨AB, n * 2, none⟩ = some (.int .i64 ak.call) ∧ (X.alloc (.cells #[.int .i64 0, .slice none 0 0] 81)).cell? ⟨AB, n * 2 + 1, none⟩ = some (.slice AL ak.args.length cL) from ⟨cell_up hba HLX.out.1, cell_up hba HLX.out.2.1, cell_up hba HLX.out.2.2⟩)
   refine hK _ _ (.inr HL1.out) ?_
   clear hK K
   refine wpAnyD_one (i := 13) (by kernel_rfl) rfl (fun K hK => ?_)
   go_simp
   refine hK _ _ (.inl rfl) ?_
   clear hK K
   refine wpAnyD_done (by kernel_rfl) ?_ _
   obtain ⟨b4, hb4⟩ : ∃ b4, b4 = X.heap.size := ⟨_, rfl⟩
   obtain ⟨V4, hV4⟩ : ∃ V4, V4 = X.alloc (.cells #[.int .i64 ak.call, .slice AL ak.args.length cL] 81) := ⟨_, rfl⟩
   have hX4 : V4.heap[b4]? = some (.cells #[.int .i64 ak.call, .slice AL ak.args.length cL] 81 (0, 0)) := by rw [hb4, hV4]; exact heap_alloc_new X _
   have hB4 : Below V.heap.size V V4 := by rw [hV4]; exact below_next HBX.out (below_alloc (Below.refl _ _) _)
   have hb24 : ¬ b2 = b4 := by have := HBX.out.size; omega
   rw [← hb4, ← hV4]
   have p0 : V4.cell? ⟨b4, 0, none⟩ = some (.int .i64 ak.call) := (blk_cell hX4 0).trans rfl
   have p1 : V4.cell? ⟨b4, 1, none⟩ = some (.slice AL ak.args.length cL) := (blk_cell hX4 1).trans rfl
   have HB4 := Lib.hid hB4
   have HCL := Lib.hid (fun w' (hb : Below V4.heap.size V4 w') => clInt_any AL cL ak.args w' (Kd.C_below (Kd.C_below HQ3.out hB4) hb) (by omega))
   clear hb4 hV4 hX4 hB4
   go_wp2_with fail
   refine wp_region_D (fun w' => w'.cell? ⟨b4, 0, none⟩ = some (.int .i64 ak.call) ∧ w'.cell? ⟨b4, 1, none⟩ = some (.slice AL ak.args.length cL)) 7 (by kernel_rfl) ?_
   intro Y HY
   have hbY : Below V4.heap.size V4 Y := by rw [HY.out]; exact below_drew (Below.refl _ _)
   have HLY := Lib.hid (show Y.cell? ⟨b4, 0, none⟩ = some (.int .i64 ak.call) ∧ Y.cell? ⟨b4, 1, none⟩ = some (.slice AL ak.args.length cL) from ⟨cell_up hbY p0, cell_up hbY p1⟩)
   have HBY := Lib.hid hbY
   have HP0 := Lib.hid p0
   have HP1 := Lib.hid p1
   clear hbY p0 p1
   refine wpAnyD_tk 0 ?v_45 rfl (by kernel_rfl) (fun _ _ _ h => h) HLY.out (by rfl) ?h_45 ?r_45
   case h_45 => intro w' hS'; obtain ⟨s1, s2⟩ := hS'; go_simp; try with_reducible rfl
   refine wpAnyD_tk 1 ?v_46 rfl (by kernel_rfl) (fun _ _ _ h => h) HLY.out (by rfl) ?h_46 ?r_46
   case h_46 => intro w' hS'; obtain ⟨s1, s2⟩ := hS'; go_simp; try with_reducible rfl
   refine wpAnyD_tk 2 ?v_47 rfl (by kernel_rfl) (fun _ _ _ h => h) HLY.out (by rfl) ?h_47 ?r_47
   case h_47 => intro w' hS'; obtain ⟨s1, s2⟩ := hS'; go_simp; try with_reducible rfl
   refine wpAnyD_tk 3 ?v_48 rfl (by kernel_rfl) (fun _ _ _ h => h) HLY.out (by rfl) ?h_48 ?r_48
   case h_48 => intro w' hS'; obtain ⟨s1, s2⟩ := hS'; go_simp; try with_reducible rfl
   refine wpAnyD_one (i := 4) (by kernel_rfl) rfl (fun K hK => ?_)
   go_simp
   refine (HCL.out _ HBY.out).mono ?_
   rintro e w5 ⟨vL, rfl, hvL, hbL⟩
   obtain ⟨AN, cN, rfl⟩ := Kd.R_slice hvL
   have hb5 : Below V4.heap.size V4 w5 := below_next HBY.out hbL
   have HV5 := Lib.hid (Kd.R_lower hvL HBY.out.size)
   have HB5 := Lib.hid (below_next HB4.out hb5)
   have x0 := cell_up HB5.out HX0.out
   have x1 := cell_up HB5.out HX1.out
   have y0 : w5.frozen? ⟨b2, 0, none⟩ = false := frozen_up HB5.out HX0.out HY0.out
   have y1 : w5.frozen? ⟨b2, 1, none⟩ = false := frozen_up HB5.out HX1.out HY1.out
   have HX5 := Lib.hid ((HB5.out.block b2 n2).trans HXC.out)
   have HL5 := Lib.hid (show w5.cell? ⟨b4, 0, none⟩ = some (.int .i64 ak.call) ∧ w5.cell? ⟨b4, 1, none⟩ = some (.slice AL ak.args.length cL) from ⟨cell_up hb5 HP0.out, cell_up hb5 HP1.out⟩)
   clear hvL hbL hb5
   refine hK _ _ (.inr HL5.out) ?_
   clear hK K
   refine wpAnyD_one (i := 5) (by kernel_rfl) rfl (fun K hK => ?_)
   go_simp
   refine hK _ _ (.inr HL5.out) ?_
   clear hK K
   refine wpAnyD_one (i := 6) (by kernel_rfl) rfl (fun K hK => ?_)
   go_simp
   have HL6 := Lib.hid (show ((w5.setCell ⟨b2, 0, none⟩ (.int .i64 ak.call)).setCell ⟨b2, 1, none⟩ (.slice AN ak.args.length cN)).cell? ⟨b4, 0, none⟩ = some (.int .i64 ak.call) ∧ ((w5.setCell ⟨b2, 0, none⟩ (.int .i64 ak.call)).setCell ⟨b2, 1, none⟩ (.slice AN ak.args.length cN)).cell? ⟨b4, 1, none⟩ = some (.slice AL ak.args.length cL) from ⟨(cell_eq ((Below.heap_setCell _ _ _ _ (fun e => hb24 e.symm)).trans (Below.heap_setCell _ _ _ _ (fun e => hb24 e.symm))) 0).trans HL5.out.1, (cell_eq ((Below.heap_setCell _ _ _ _ (fun e => hb24 e.symm)).trans (Below.heap_setCell _ _ _ _ (fun e => hb24 e.symm))) 1).trans HL5.out.2⟩)
   refine hK _ _ (.inr HL6.out) ?_
   clear hK K
   refine wpAnyD_one (i := 7) (by kernel_rfl) rfl (fun K hK => ?_)
   go_simp
   refine hK _ _ (.inl rfl) ?_
   clear hK K
   refine wpAnyD_done (by kernel_rfl) ?_ _
   go_wp2_with fail
   (try simp only [Exit.inBlock, Exit.then])
   refine bodyPost_ret (results_ct rfl _ _ b2 81 #[.int .i64 ak.call, .slice AN ak.args.length cN] (0, 0) _ rfl (blk_put (blk_put HX5.out 0 (.int .i64 ak.call) rfl) 1 (.slice AN ak.args.length cN) rfl) Tryz.underlying81 rfl (by kernel_rfl)) rfl ?_
   have hW2 : W.heap.size ≤ V.heap.size := HS.out.size
   have hR5 : (Kd.int .i64).R 3 w5 W.heap.size (fun k => V4.heap.size ≤ k) (.slice AN ak.args.length cN) ak.args := Kd.R_lower (Kd.R_mono (Kd.R_bound HV5.out) (fun k hk => hk.2.1)) (Nat.le_trans hW2 HB4.out.size)
   have hne : ∀ k, V4.heap.size ≤ k → k ≠ b2 := fun k hk e => by have := HB4.out.size; omega
   exact ⟨_, F1, _, _, _, _, by rw [HWF.out]; rfl, ((HR.out.below HB5.out).far HF2.out hgb 0 _).far HF2.out hgb 1 _, ((HS.out.trans (Stp.below HB5.out)).far (by rw [HB2.out]; exact Nat.le_refl _) 0 _).far (by rw [HB2.out]; exact Nat.le_refl _) 1 _, .slice AN ak.args.length cN, by rw [HAK.out], by
    rw [HAK.out]
    exact Kd.R_mono (Kd.R_far (p := ⟨b2, 1, none⟩) (Kd.R_far (p := ⟨b2, 0, none⟩) hR5 hne _) hne _) (fun k hk => ⟨HFC.out k (Nat.le_trans HB4.out.size hk), Nat.le_trans hW2 (Nat.le_trans HB4.out.size hk)⟩)⟩
/-! ### Reply -/
def resR (s : SRun) : Int := (sysA (s.asks.getD (s.asks.length - 1) zAsk).call).f2
def replyR (v : Int) (tr : Bool) (s : SRun) : SRun :=
 if s.waits = false then s
 else if tr = true then { s with waits := false, ended := true, trap := 5 }
 else if resR s = 0 then { s with waits := false }
 else if resR s = 3 then ({ s with waits := false } : SRun).put (bitV (v != 0))
 else ({ s with waits := false } : SRun).put v
theorem rreply_any (B mb fb g : Nat) (W : World) (f : Nat → Nat) (vS vF vK vA : Value) (s : SRun) (h : RUN B mb fb W g f vS vF vK vA s) (hB : B ≤ W.heap.size) (x : SImage) (AG : Option Addr) (cG cF : Nat) (AS : Option Addr) (cS : Nat) (W0 : World) (hM : MACH W0 mb fb x AG cG cF AS cS) (hB0 : B = W0.heap.size) (hBe : Below W0.heap.size W0 W)
  (Inv : SRun → Prop) (hO : InvOK x Inv) (hI : Inv s) (v : Int) (tr : Bool) :
  Calls Tryz.prog 29 #[.pointer (some ⟨g, 0, none⟩), .agg #[.int .i64 v, .bool tr]] W fun e w' => e = .returned (.int .i64 (if s.waits = true then 0 else 1)) ∧ RP B mb fb g W f (replyR v tr s) w' := by
 have hba := below_alloc (Below.refl W.heap.size W) (.cells #[.int .i64 v, .bool tr] 71)
 have hbx := heap_alloc_new W (.cells #[.int .i64 v, .bool tr] 71)
 have hgl := blk_lt h.blk
 cases hw : s.waits
 ·have c6 : W.cell? ⟨g, 6, none⟩ = some (.bool false) := (blk_cell h.blk 6).trans (by rw [← hw]; rfl)
  have HW := Lib.hid hw
  have HR := Lib.hid (h.below hba)
  clear h hM hO hI hw hba hbx hB0 hBe hB
  go_enter Tryz.func29, Tryz.ntmps29
  go_wp2_with fail
  go_ret
  refine ⟨rfl, ?_⟩
  unfold replyR
  rw [if_pos HW.out]
  exact ⟨_, _, _, _, f, HR.out, Stp.below (below_alloc (Below.refl _ _) _)⟩
 ·have c6 : W.cell? ⟨g, 6, none⟩ = some (.bool true) := (blk_cell h.blk 6).trans (by rw [← hw]; rfl)
  have f6 : W.frozen? ⟨g, 6, none⟩ = false := blk_frozen h.blk 6
  obtain ⟨r1, p1⟩ := h.clean.fld 6 (.bool false) { s with waits := false } rfl rfl rfl rfl rfl
  have hszW : (W.setCell ⟨g, 6, none⟩ (.bool false)).heap.size = W.heap.size := by simp
  have hba2 := below_alloc (Below.refl (W.setCell ⟨g, 6, none⟩ (.bool false)).heap.size (W.setCell ⟨g, 6, none⟩ (.bool false))) (.cells #[.int .i64 v, .bool tr] 71)
  have HW := Lib.hid hw
  have HR1 := Lib.hid (r1.below hba2)
  have HS1 := Lib.hid (((Stp.clean g W f).trans p1).trans (Stp.below hba2))
  have hbx2 : ((W.setCell ⟨g, 6, none⟩ (.bool false)).alloc (.cells #[.int .i64 v, .bool tr] 71)).heap[W.heap.size]? = some (.cells #[.int .i64 v, .bool tr] 71 (0, 0)) := by rw [← hszW]; exact heap_alloc_new _ _
  have b0 : (W.alloc (.cells #[.int .i64 v, .bool tr] 71)).cell? ⟨W.heap.size, 0, none⟩ = some (.int .i64 v) := (blk_cell hbx 0).trans rfl
  have b1 : (W.alloc (.cells #[.int .i64 v, .bool tr] 71)).cell? ⟨W.heap.size, 1, none⟩ = some (.bool tr) := (blk_cell hbx 1).trans rfl
  have hng : ¬ W.heap.size = g := by omega
  cases tr
  ·have hpos := hO.asks s hI hw
   obtain ⟨n, hn⟩ : ∃ n, s.asks.length = n + 1 := ⟨s.asks.length - 1, by omega⟩
   obtain ⟨cn, hcn, hcl⟩ := hO.acall s hI hw
   have hsk := hO.sk s hI
   have hal := hO.alen s hI
   have hsk2 : s.stack.length ≤ 1073741824 := by omega
   obtain ⟨V, hV⟩ : ∃ V, V = (W.setCell ⟨g, 6, none⟩ (.bool false)).alloc (.cells #[.int .i64 v, .bool false] 71) := ⟨_, rfl⟩
   rw [← hV] at HR1 HS1 hbx2
   obtain ⟨AB, cap, hvA, _⟩ := Kd.S_form HR1.out.asks hpos
   have hrd := (Kd.S_reads' (by have h := HR1.out.asks; rw [hvA] at h; exact h : Kd.S kAsk 81 V B (fun k => cleanT W.heap.size f k = 4) (.slice (some ⟨AB, 0, none⟩) s.asks.length cap) s.asks)).2.2
   obtain ⟨AL, cL, q0, _, _, _⟩ := at_Ask hrd n (by omega)
   have hcn2 : (s.asks.getD n zAsk).call = (cn : Int) := by rw [hn] at hcn; exact hcn
   rw [hcn2] at q0
   have hBe2 : Below W0.heap.size W0 V := HS1.out.low hBe (by rw [← hB0]; exact h.gB) (by rw [← hB0]; exact h.fB) (Nat.le_refl _)
   have d2 : V.cell? ⟨mb, 2, none⟩ = some (.slice AS callsL.length cS) := cell_up hBe2 ((blk_cell hM.blk 2).trans rfl)
   obtain ⟨ad, A1, cc1, hAS, g0, g1, g2, _, _⟩ := at_TSys (Kd.C_below hM.calls hBe2) (cn : Int) (by omega) (by omega)
   subst hAS
   have hrs : (rd_TSys callsL (cn : Int)).f2 = resR s := by unfold resR sysA; rw [hn]; show _ = (callsL.getD (s.asks.getD n zAsk).call.toNat zSys).f2; rw [hcn2]; rfl
   rw [hrs] at g2
   simp only [Int.toNat_natCast] at g2
   have c0 : V.cell? ⟨g, 0, none⟩ = some (.pointer (some ⟨mb, 0, none⟩)) := HR1.out.at_.1
   have c5 : V.cell? ⟨g, 5, none⟩ = some (.slice (some ⟨AB, 0, none⟩) (n + 1) cap) := (blk_cell HR1.out.blk 5).trans (by rw [← hn, ← hvA]; rfl)
   have bv0 : V.cell? ⟨W.heap.size, 0, none⟩ = some (.int .i64 v) := (blk_cell hbx2 0).trans rfl
   have bv1 : V.cell? ⟨W.heap.size, 1, none⟩ = some (.bool false) := (blk_cell hbx2 1).trans rfl
   obtain ⟨cl, hcle⟩ : ∃ cl, cl = callsL.length := ⟨_, rfl⟩
   rw [← hcle] at d2 hcl
   have hcl2 : cl ≤ 1000 := by rw [hcle]; decide
   obtain ⟨rs, hrse⟩ : ∃ rs, rs = resR s := ⟨_, rfl⟩
   rw [← hrse] at g2
   have HRS := Lib.hid hrse
   have hwn : IntKind.i64.wrap (n : Int) = n := by unfold IntKind.wrap; simp [IntKind.bits, IntKind.signed]; omega
   have h0 : (0 : Int) ≤ (n : Int) := by omega
   have h1 : (n : Int) < (n : Int) + 1 := by omega
   have hk0 : (0 : Int) ≤ (cn : Int) := by omega
   have hk1 : (cn : Int) < (cl : Int) := by omega
   have HBV := Lib.hid (Nat.le_trans hB HS1.out.size)
   clear h hM hO hI hw hba hbx hbx2 hba2 hszW hrd hvA r1 p1 hcn hcn2 hpos hn hsk hrs hrse hcle hBe hBe2 g0 g1 hB hB0
   go_enter Tryz.func29, Tryz.ntmps29
   go_wp2_with fail
   rw [← hV]
   clear hV c6 f6
   go_quiet (fail)
   have HR2 := Lib.hid (HR1.out.below (pw_below_drewN (Below.refl _ _) nq))
   have HS2 := Lib.hid (HS1.out.trans (Stp.below (f := cleanT W.heap.size f) (g := g) (pw_below_drewN (Below.refl V.heap.size V) nq)))
   have e0 := cell_up (pw_below_drewN (Below.refl V.heap.size V) nq) bv0
   obtain ⟨V2, hV2⟩ : ∃ V2, V2 = V.drewN nq := ⟨_, rfl⟩
   rw [← hV2] at HR2 HS2 e0 ⊢
   have HB2 := Lib.hid (Nat.le_trans HBV.out (show V.heap.size ≤ V2.heap.size by rw [hV2]; simp))
   clear hV2 c0 c5 d2 g2 q0 bv0 bv1 HBV HR1 HS1
   by_cases hr0 : rs = 0
   ·have HF := Lib.hid (show replyR v false s = { s with waits := false } from by unfold replyR; rw [if_neg (by rw [HW.out]; decide), if_neg (by decide), if_pos (by rw [← HRS.out]; exact hr0)])
    subst hr0
    go_wp2_with fail
    go_ret
    exact ⟨rfl, by rw [HF.out]; exact ⟨_, _, _, _, _, HR2.out, HS2.out⟩⟩
   ·by_cases hr3 : rs = 3
    ·have HF := Lib.hid (show replyR v false s = ({ s with waits := false } : SRun).put (bitV (v != 0)) from by unfold replyR; rw [if_neg (by rw [HW.out]; decide), if_neg (by decide), if_neg (by rw [← HRS.out]; exact hr0), if_pos (by rw [← HRS.out]; exact hr3)])
     clear hr0
     subst hr3
     go_wp2_with (first
      | (go_at_call 56; refine (vbit_any (v != 0) _).mono ?_; rintro e w3 ⟨rfl, nd, rfl⟩)
      | (go_at_call 55; go_loud (refine (rpush_rp (HR2.out.below (pw_below_drewN (Below.refl _ _) nd)) HB2.out hsk2 _).mono ?_; rintro e w4 ⟨rfl, hr⟩; have HR := Lib.hid (RP.of_below (pw_below_drewN (Below.refl _ _) nd) hr); clear hr)))
     go_ret
     exact ⟨rfl, by rw [HF.out]; exact RP.of_stp HS2.out HR.out⟩
    ·have HF := Lib.hid (show replyR v false s = ({ s with waits := false } : SRun).put v from by unfold replyR; rw [if_neg (by rw [HW.out]; decide), if_neg (by decide), if_neg (by rw [← HRS.out]; exact hr0), if_neg (by rw [← HRS.out]; exact hr3)])
     have hz0 : (rs == 0) = false := by simpa using hr0
     have hz3 : (rs == 3) = false := by simpa using hr3
     go_wp2_with (go_at_call 55; refine (rpush_rp HR2.out HB2.out hsk2 _).mono ?_; rintro e w4 ⟨rfl, hr⟩; have HR := Lib.hid hr; clear hr)
     go_ret
     exact ⟨rfl, by rw [HF.out]; exact RP.of_stp HS2.out HR.out⟩
  ·obtain ⟨V, hV⟩ : ∃ V, V = (W.setCell ⟨g, 6, none⟩ (.bool false)).alloc (.cells #[.int .i64 v, .bool true] 71) := ⟨_, rfl⟩
   clear hM hO hI hw hba hba2 hszW hbx hB0 hBe hB
   obtain ⟨r7, p7⟩ := r1.fld 7 (.bool true) { s with waits := false, ended := true } rfl rfl rfl rfl rfl
   obtain ⟨r8, p8⟩ := r7.fld 8 (.int .i64 5) { s with waits := false, ended := true, trap := 5 } rfl rfl rfl rfl rfl
   have HR8 := Lib.hid (r8.below (below_alloc (Below.refl _ _) (.cells #[.int .i64 v, .bool true] 71)))
   have HS8 := Lib.hid (((((Stp.clean g W f).trans p1).trans p7).trans p8).trans (Stp.below (below_alloc (Below.refl _ _) (.cells #[.int .i64 v, .bool true] 71))))
   have HF := Lib.hid (show replyR v true s = { s with waits := false, ended := true, trap := 5 } from by unfold replyR; rw [if_neg (by rw [HW.out]; decide), if_pos rfl])
   have c7 : W.cell? ⟨g, 7, none⟩ = some (.bool s.ended) := (blk_cell h.blk 7).trans rfl
   have c8 : W.cell? ⟨g, 8, none⟩ = some (.int .i64 s.trap) := (blk_cell h.blk 8).trans rfl
   have f7 : W.frozen? ⟨g, 7, none⟩ = false := blk_frozen h.blk 7
   have f8 : W.frozen? ⟨g, 8, none⟩ = false := blk_frozen h.blk 8
   clear h hbx2 r1 p1 r7 p7 r8 p8 HR1 HS1 hV V
   go_enter Tryz.func29, Tryz.ntmps29
   go_wp2_with fail
   go_ret
   exact ⟨rfl, by rw [HF.out]; exact ⟨_, _, _, _, _, HR8.out, HS8.out⟩⟩
/-! ### End -/
structure SEnd where
 trap : Int
 value : Int
 fuel : Int
 state : List (List Int)
 asks : List SAsk
def endR (s : SRun) : SEnd := ⟨s.trap, if s.trap = 0 then s.value else 0, s.fuel, s.state, s.asks⟩
/-- an end under way: its block; h: 1 the state's blocks, 2 the asks' -/
structure ENDB (base : Nat) (w : World) (b : Nat) (h : Nat → Nat) (vs va : Value) (e : SEnd) : Prop where
 blk : w.heap[b]? = some (.cells #[.int .i64 e.trap, .int .i64 e.value, .int .i64 e.fuel, vs, va] 36 (0, 0))
 hb : h b = 0
 bB : base ≤ b
 state : Kd.S kInts 27 w base (fun k => h k = 1) vs e.state
 asks : Kd.S kAsk 81 w base (fun k => h k = 2) va e.asks
theorem ENDB.turnS {base b : Nat} {w w' : World} {h : Nat → Nat} {vs va vs' : Value} {e : SEnd} {ys : List (List Int)} (E : ENDB base w b h vs va e)
  (hk : ∀ k, k < w.heap.size → k ≠ b → h k ≠ 1 → w'.heap[k]? = w.heap[k]?) (hb : w'.heap[b]? = some (.cells #[.int .i64 e.trap, .int .i64 e.value, .int .i64 e.fuel, vs', va] 36 (0, 0)))
  (hS : Kd.S kInts 27 w' base (fun k => retag w.heap.size 1 h k = 1) vs' ys) : ENDB base w' b (retag w.heap.size 1 h) vs' va { e with state := ys } :=
 ⟨hb, (retag_lt (blk_lt E.blk)).trans E.hb, E.bB, hS, S_over E.asks (by decide) (by decide) E.hb hk⟩
theorem ENDB.turnA {base b : Nat} {w w' : World} {h : Nat → Nat} {vs va va' : Value} {e : SEnd} {ys : List SAsk} (E : ENDB base w b h vs va e)
  (hk : ∀ k, k < w.heap.size → k ≠ b → h k ≠ 2 → w'.heap[k]? = w.heap[k]?) (hb : w'.heap[b]? = some (.cells #[.int .i64 e.trap, .int .i64 e.value, .int .i64 e.fuel, vs, va'] 36 (0, 0)))
  (hA : Kd.S kAsk 81 w' base (fun k => retag w.heap.size 2 h k = 2) va' ys) : ENDB base w' b (retag w.heap.size 2 h) vs va' { e with asks := ys } :=
 ⟨hb, (retag_lt (blk_lt E.blk)).trans E.hb, E.bB, S_over E.state (by decide) (by decide) E.hb hk, hA⟩
/-- an end that is handed out: its rows are the call's own -/
def EndV (base : Nat) (w : World) (v : Value) (e : SEnd) : Prop := ∃ (vs va : Value) (h : Nat → Nat), v = .agg #[.int .i64 e.trap, .int .i64 e.value, .int .i64 e.fuel, vs, va] ∧ Kd.S kInts 27 w base (fun k => h k = 1) vs e.state ∧ Kd.S kAsk 81 w base (fun k => h k = 2) va e.asks
theorem rend_any (B mb fb g : Nat) (W : World) (f : Nat → Nat) (vS vF vK vA : Value) (s : SRun) (h : RUN B mb fb W g f vS vF vK vA s) (he : s.ended = true) (hsl : s.state.length ≤ 1000000) (hrl : ∀ r ∈ s.state, r.length ≤ 1000000) (hal : s.asks.length ≤ 4000000) (haa : ∀ a ∈ s.asks, a.args.length ≤ 1000) :
  Calls Tryz.prog 30 #[.pointer (some ⟨g, 0, none⟩)] W fun e w' => ∃ v, e = .returned (.tuple #[v, .bool true]) ∧ EndV W.heap.size w' v (endR s) ∧ Below W.heap.size W w' := by
 obtain ⟨W1, hW1⟩ : ∃ W1, W1 = W.alloc (.cells #[.int .i64 0, .int .i64 0, .int .i64 0, .slice none 0 0, .slice none 0 0] 36) := ⟨_, rfl⟩
 have hba : Below W.heap.size W W1 := by rw [hW1]; exact below_alloc (Below.refl _ _) _
 have hbx : W1.heap[W.heap.size]? = some (.cells #[.int .i64 0, .int .i64 0, .int .i64 0, .slice none 0 0, .slice none 0 0] 36 (0, 0)) := by rw [hW1]; exact heap_alloc_new W _
 have HR := Lib.hid (h.below hba)
 obtain ⟨sA, sC, hvS, hsC, hSC⟩ := Kd.S_reads HR.out.state
 obtain ⟨aA, aC, hvA, haC, hAC⟩ := Kd.S_reads HR.out.asks
 have HAF := Lib.hid (show 0 < s.asks.length → ∃ AB, aA = some ⟨AB, 0, none⟩ from fun h0 => by
  obtain ⟨AB, cap, e, _⟩ := Kd.S_form HR.out.asks h0
  rw [hvA] at e
  injection e with e _ _
  exact ⟨AB, e⟩)
 have HSC := Lib.hid hSC
 have HAC := Lib.hid hAC
 have HRL := Lib.hid hrl
 have HAA := Lib.hid haa
 have HBX := Lib.hid hbx
 have HBA := Lib.hid hba
 obtain ⟨tr, htr⟩ : ∃ tr, tr = s.trap := ⟨_, rfl⟩
 obtain ⟨va, hva⟩ : ∃ va, va = s.value := ⟨_, rfl⟩
 obtain ⟨fu, hfu⟩ : ∃ fu, fu = s.fuel := ⟨_, rfl⟩
 obtain ⟨state, hst⟩ : ∃ state, state = s.state := ⟨_, rfl⟩
 obtain ⟨asks, hask⟩ : ∃ asks, asks = s.asks := ⟨_, rfl⟩
 have HE := Lib.hid (show endR s = ⟨tr, if tr = 0 then va else 0, fu, state, asks⟩ from by rw [htr, hva, hfu, hst, hask]; rfl)
 have c7 : W1.cell? ⟨g, 7, none⟩ = some (.bool true) := (blk_cell HR.out.blk 7).trans (by rw [← he]; rfl)
 have c8 : W1.cell? ⟨g, 8, none⟩ = some (.int .i64 tr) := (blk_cell HR.out.blk 8).trans (by rw [htr]; rfl)
 have c9 : W1.cell? ⟨g, 9, none⟩ = some (.int .i64 va) := (blk_cell HR.out.blk 9).trans (by rw [hva]; rfl)
 have c2 : W1.cell? ⟨g, 2, none⟩ = some (.int .i64 fu) := (blk_cell HR.out.blk 2).trans (by rw [hfu]; rfl)
 have c1 : W1.cell? ⟨g, 1, none⟩ = some (.slice sA state.length sC) := (blk_cell HR.out.blk 1).trans (by rw [hst, ← hvS]; rfl)
 have c5 : W1.cell? ⟨g, 5, none⟩ = some (.slice aA asks.length aC) := (blk_cell HR.out.blk 5).trans (by rw [hask, ← hvA]; rfl)
 rw [← hst] at hsl HSC hsC HRL
 rw [← hask] at hal HAC haC HAA HAF
 have hgl := blk_lt HR.out.blk
 have HC1 := Lib.hid c1
 have HC5 := Lib.hid c5
 have HC8 := Lib.hid c8
 have HGR := Lib.hid (show g < W.heap.size from blk_lt h.blk)
 subst hW1
 clear h he hrl haa hba hbx hvS hvA hSC hAC htr hva hfu hst hask
 go_enter Tryz.func30, Tryz.ntmps30
 go_wp2_with fail
 generalize hW1 : W.alloc (.cells #[.int .i64 0, .int .i64 0, .int .i64 0, .slice none 0 0, .slice none 0 0] 36) = W1 at *
 refine wp_region_D (fun w' => w'.cell? ⟨g, 8, none⟩ = some (.int .i64 tr) ∧ w'.cell? ⟨g, 9, none⟩ = some (.int .i64 va) ∧ w'.cell? ⟨g, 2, none⟩ = some (.int .i64 fu)) 14 (by kernel_rfl) ?_
 intro X HX
 have hbX : Below W1.heap.size W1 X := by rw [HX.out]; exact below_drew (Below.refl _ _)
 have HLX := Lib.hid (show X.cell? ⟨g, 8, none⟩ = some (.int .i64 tr) ∧ X.cell? ⟨g, 9, none⟩ = some (.int .i64 va) ∧ X.cell? ⟨g, 2, none⟩ = some (.int .i64 fu) from ⟨cell_up hbX c8, cell_up hbX c9, cell_up hbX c2⟩)
 have HBX1 := Lib.hid hbX
 clear hbX c8 c9 c2 c1 c5 c7
 refine wpAnyD_tk 0 ?v_1 rfl (by kernel_rfl) (fun _ _ _ h => h) HLX.out (by rfl) ?h_1 ?r_1
 case h_1 => intro w' hS'; obtain ⟨s1, s2, s3⟩ := hS'; go_simp; try with_reducible rfl
 refine wpAnyD_tk 1 ?v_2 rfl (by kernel_rfl) (fun _ _ _ h => h) HLX.out (by rfl) ?h_2 ?r_2
 case h_2 => intro w' hS'; obtain ⟨s1, s2, s3⟩ := hS'; go_simp; try with_reducible rfl
 refine wpAnyD_tk 2 ?v_3 rfl (by kernel_rfl) (fun _ _ _ h => h) HLX.out (by rfl) ?h_3 ?r_3
 case h_3 => intro w' hS'; obtain ⟨s1, s2, s3⟩ := hS'; go_simp; try with_reducible rfl
 refine wpAnyD_tk 3 ?v_4 rfl (by kernel_rfl) (fun _ _ _ h => h) HLX.out (by rfl) ?h_4 ?r_4
 case h_4 => intro w' hS'; obtain ⟨s1, s2, s3⟩ := hS'; go_simp; try with_reducible rfl
 refine wpAnyD_tk 4 ?v_5 rfl (by kernel_rfl) (fun _ _ _ h => h) HLX.out (by rfl) ?h_5 ?r_5
 case h_5 => intro w' hS'; obtain ⟨s1, s2, s3⟩ := hS'; go_simp; try with_reducible rfl
 refine wpAnyD_tk 5 ?v_6 rfl (by kernel_rfl) (fun _ _ _ h => h) HLX.out (by rfl) ?h_6 ?r_6
 case h_6 => intro w' hS'; obtain ⟨s1, s2, s3⟩ := hS'; go_simp; try with_reducible rfl
 refine wpAnyD_tk 6 ?v_7 rfl (by kernel_rfl) (fun _ _ _ h => h) HLX.out (by rfl) ?h_7 ?r_7
 case h_7 => intro w' hS'; obtain ⟨s1, s2, s3⟩ := hS'; go_simp; try with_reducible rfl
 refine wpAnyD_tk 7 ?v_8 rfl (by kernel_rfl) (fun _ _ _ h => h) HLX.out (by rfl) ?h_8 ?r_8
 case h_8 => intro w' hS'; obtain ⟨s1, s2, s3⟩ := hS'; go_simp; try with_reducible rfl
 refine wpAnyD_tk 8 ?v_9 rfl (by kernel_rfl) (fun _ _ _ h => h) HLX.out (by rfl) ?h_9 ?r_9
 case h_9 => intro w' hS'; obtain ⟨s1, s2, s3⟩ := hS'; go_simp; try with_reducible rfl
 refine wpAnyD_tk 9 ?v_10 rfl (by kernel_rfl) (fun _ _ _ h => h) HLX.out (by rfl) ?h_10 ?r_10
 case h_10 => intro w' hS'; obtain ⟨s1, s2, s3⟩ := hS'; go_simp; try with_reducible rfl
 refine wpAnyD_tk 10 ?v_11 rfl (by kernel_rfl) (fun _ _ _ h => h) HLX.out (by rfl) ?h_11 ?r_11
 case h_11 => intro w' hS'; obtain ⟨s1, s2, s3⟩ := hS'; go_simp; try with_reducible rfl
 refine wpAnyD_tk 11 ?v_12 rfl (by kernel_rfl) (fun _ _ _ h => h) HLX.out (by rfl) ?h_12 ?r_12
 case h_12 => intro w' hS'; obtain ⟨s1, s2, s3⟩ := hS'; go_simp; try with_reducible rfl
 refine wpAnyD_tk 12 ?v_13 rfl (by kernel_rfl) (fun _ _ _ h => h) HLX.out (by rfl) ?h_13 ?r_13
 case h_13 => intro w' hS'; obtain ⟨s1, s2, s3⟩ := hS'; go_simp; try with_reducible rfl
 refine wpAnyD_one (i := 13) (by kernel_rfl) rfl (fun K hK => ?_)
 go_simp
 have hba := below_alloc (Below.refl X.heap.size X) (.cells #[.int .i64 0, .int .i64 0, .int .i64 0, .slice none 0 0, .slice none 0 0] 36)
 have HL1 := Lib.hid (show (X.alloc (.cells #[.int .i64 0, .int .i64 0, .int .i64 0, .slice none 0 0, .slice none 0 0] 36)).cell? ⟨g, 8, none⟩ = some (.int .i64 tr) ∧ (X.alloc (.cells #[.int .i64 0, .int .i64 0, .int .i64 0, .slice none 0 0, .slice none 0 0] 36)).cell? ⟨g, 9, none⟩ = some (.int .i64 va) ∧ (X.alloc (.cells #[.int .i64 0, .int .i64 0, .int .i64 0, .slice none 0 0, .slice none 0 0] 36)).cell? ⟨g, 2, none⟩ = some (.int .i64 fu) from ⟨cell_up hba HLX.out.1, cell_up hba HLX.out.2.1, cell_up hba HLX.out.2.2⟩)
 refine hK _ _ (.inr HL1.out) ?_
 clear hK K
 refine wpAnyD_one (i := 14) (by kernel_rfl) rfl (fun K hK => ?_)
 go_simp
 refine hK _ _ (.inl rfl) ?_
 clear hK K
 refine wpAnyD_done (by kernel_rfl) ?_ _
 obtain ⟨v2, hv2⟩ : ∃ v2, v2 = if tr = 0 then va else 0 := ⟨_, rfl⟩
 rw [← hv2] at HE
 have c1 : X.cell? ⟨g, 1, none⟩ = some (.slice sA state.length sC) := cell_up HBX1.out HC1.out
 have c8 : X.cell? ⟨g, 8, none⟩ = some (.int .i64 tr) := cell_up HBX1.out HC8.out
 have hgX := cell_lt c1
 obtain ⟨b4, hb4⟩ : ∃ b4, b4 = X.heap.size := ⟨_, rfl⟩
 have HV0 := Lib.hid (show ENDB W1.heap.size (X.alloc (.cells #[.int .i64 tr, .int .i64 v2, .int .i64 fu, .slice none 0 0, .slice none 0 0] 36)) b4 (fun _ => 0) (.slice none 0 0) (.slice none 0 0) ⟨tr, v2, fu, [], []⟩ from ⟨by rw [hb4]; exact heap_alloc_new X _, rfl, by rw [hb4]; exact HBX1.out.size, Kd.S_nil _ _ _ _ _, Kd.S_nil _ _ _ _ _⟩)
 have HB0 := Lib.hid (show Below W1.heap.size W1 (X.alloc (.cells #[.int .i64 tr, .int .i64 v2, .int .i64 fu, .slice none 0 0, .slice none 0 0] 36)) from below_next HBX1.out (below_alloc (Below.refl _ _) _))
 have hgb4 : ¬ b4 = g := by omega
 have HX4 := Lib.hid (show (X.alloc (.cells #[.int .i64 tr, .int .i64 va, .int .i64 fu, .slice none 0 0, .slice none 0 0] 36)).heap[b4]? = some (.cells #[.int .i64 tr, .int .i64 va, .int .i64 fu, .slice none 0 0, .slice none 0 0] 36 (0, 0)) from by rw [hb4]; exact heap_alloc_new X _)
 have HB40 := Lib.hid (show W1.heap.size ≤ b4 from by rw [hb4]; exact HBX1.out.size)
 rw [← hb4]
 clear hb4
 by_cases htr : tr = 0
 ·have hv3 : va = v2 := by rw [hv2, if_pos htr]
  have hz : (tr != 0) = false := by rw [htr]; rfl
  rw [hv3]
  clear hv2 hv3 htr
  go_wp2_with fail
  generalize hV : X.alloc (.cells #[.int .i64 tr, .int .i64 v2, .int .i64 fu, .slice none 0 0, .slice none 0 0] 36) = V at *
  clear hV c1 c8 hgX
  go_loopw [39] (fun i w' => ∃ k : Nat, k ≤ state.length ∧ i = .int .i64 k ∧ Hid (∃ h vs, ENDB W1.heap.size w' b4 h vs (.slice none 0 0) ⟨tr, v2, fu, state.take k, []⟩) ∧ Hid (Below W1.heap.size W1 w')) (fun i _ => state.length - (intOf i).toNat)
  case atStart => exact ⟨0, by omega, rfl, by rw [List.take_zero]; exact ⟨_, _, HV0.out⟩, HB0.out⟩
  case round =>
   obtain ⟨k, hk, rfl, HEN, HBw⟩ := hrel
   obtain ⟨h, vs, hEN⟩ := HEN.out
   clear HEN
   by_cases hlt : k < state.length
   ·obtain ⟨adS, A0, c0', hAS, q0, q1, q2⟩ := at_Ints (Kd.C_below HSC.out HBw.out) (k : Int) (by omega) (by omega)
    subst hAS
    obtain ⟨row, hrow⟩ : ∃ row, row = rd_Ints state (k : Int) := ⟨_, rfl⟩
    rw [← hrow] at q0 q1 q2
    simp only [Int.toNat_natCast] at q0
    have HROW := Lib.hid (show row = state.getD k [] from hrow)
    have hrl : row.length ≤ 1000000 := HRL.out _ (getD_mem state [] k hlt _ HROW.out)
    have HCL := Lib.hid (fun w' (hb : Below wr.heap.size wr w') => clInt_any A0 c0' row w' (Kd.C_below q2 hb) (by omega))
    have c3 : wr.cell? ⟨b4, 3, none⟩ = some vs := (blk_cell hEN.blk 3).trans rfl
    have hbl := blk_lt hEN.blk
    have HEN := Lib.hid hEN
    have HBs := Lib.hid (show W1.heap.size ≤ wr.heap.size from HBw.out.size)
    have HTK := Lib.hid (show state.take (k + 1) = state.take k ++ [row] from by
     rw [List.take_add_one, List.getElem?_eq_getElem hlt, HROW.out, List.getD_eq_getElem?_getD, List.getElem?_eq_getElem hlt]; rfl)
    clear hrow q2 hEN
    go_wp2_with fail
    have C3 := Lib.hid c3
    refine wp_region_D (fun w' => w'.cell? ⟨b4, 3, none⟩ = some vs ∧ True) 7 (by kernel_rfl) ?_
    intro Y HY
    have hbY : Below wr.heap.size wr Y := by rw [HY.out]; exact below_drew (Below.refl _ _)
    have HLY := Lib.hid (show Y.cell? ⟨b4, 3, none⟩ = some vs ∧ True from ⟨cell_up hbY c3, trivial⟩)
    have HBY := Lib.hid hbY
    clear hbY c3
    refine wpAnyD_tk 0 ?v_14 rfl (by kernel_rfl) (fun _ _ _ h => h) HLY.out (by rfl) ?h_14 ?r_14
    case h_14 => intro w' hS'; obtain ⟨s1, _⟩ := hS'; go_simp; try with_reducible rfl
    refine wpAnyD_tk 1 ?v_15 rfl (by kernel_rfl) (fun _ _ _ h => h) HLY.out (by rfl) ?h_15 ?r_15
    case h_15 => intro w' hS'; obtain ⟨s1, _⟩ := hS'; go_simp; try with_reducible rfl
    refine wpAnyD_tk 2 ?v_16 rfl (by kernel_rfl) (fun _ _ _ h => h) HLY.out (by rfl) ?h_16 ?r_16
    case h_16 => intro w' hS'; obtain ⟨s1, _⟩ := hS'; go_simp; try with_reducible rfl
    refine wpAnyD_one (i := 3) (by kernel_rfl) rfl (fun K hK => ?_)
    go_simp
    refine (HCL.out _ HBY.out).mono ?_
    rintro e w2 ⟨vL, rfl, hvL, hbL⟩
    obtain ⟨AN, cN, rfl⟩ := Kd.R_slice hvL
    have hb2 : Below wr.heap.size wr w2 := below_next HBY.out hbL
    have HV2 := Lib.hid (Kd.R_lower hvL HBY.out.size)
    have HB2 := Lib.hid hb2
    have HM1 := Lib.hid (show kInts.M w2 W1.heap.size (fun q => some q = (Value.slice AN row.length cN).ownBlock) row [.slice AN row.length cN] from ⟨_, rfl, Kd.R_tight rfl (Kd.R_lower HV2.out HBs.out)⟩)
    have HM2 := Lib.hid (fun q (hq : some q = (Value.slice AN row.length cN).ownBlock) => (⟨retag_ge (Kd.R_base HV2.out q hq.symm), fun e => by have h1 : wr.heap.size ≤ q := Kd.R_base HV2.out q hq.symm; have h2 := Kd.S_lt HEN.out.state q e.symm; omega⟩ : retag wr.heap.size 1 h q = 1 ∧ some q ≠ vs.ownBlock))
    have HM3 := Lib.hid (Kd.S_below (Kd.S_mono (Kd.S_bound HEN.out.state) (fun q hq => (⟨by rw [retag_lt hq.2.2.1]; exact hq.1, fun e => by have h1 : wr.heap.size ≤ q := Kd.R_base HV2.out q e.symm; have h2 := hq.2.2.1; omega⟩ : retag wr.heap.size 1 h q = 1 ∧ ¬ some q = (Value.slice AN row.length cN).ownBlock))) hb2)
    have HBK2 := Lib.hid ((hb2.block b4 hbl).trans HEN.out.blk)
    have hb42 : b4 < w2.heap.size := Nat.lt_of_lt_of_le hbl hb2.size
    have HL1 := Lib.hid (show w2.cell? ⟨b4, 3, none⟩ = some vs ∧ True from ⟨cell_up hb2 C3.out, trivial⟩)
    clear hvL hbL hb2
    refine hK _ _ (.inr HL1.out) ?_
    clear hK K
    refine wpAnyD_one (i := 4) (by kernel_rfl) rfl (fun K hK => ?_)
    go_simp
    have hba := below_alloc (Below.refl w2.heap.size w2) (.cells #[.slice AN row.length cN] 27)
    refine hK _ _ (.inr ⟨cell_up hba HL1.out.1, trivial⟩) ?_
    clear hK K
    clear hba
    refine wpAnyD_one (i := 5) (by kernel_rfl) rfl (fun K hK => ?_)
    refine Kd.S_append_step kInts (w0 := w2) (W := w2) W1.heap.size (by rfl) _ _ 26 27 (.slice none 0 0) 24 rfl Tryz.underlying26 infoInts rfl (show 0 < 1 by decide) (by decide) vs (state.take k) row [.slice AN row.length cN] (fun q => retag wr.heap.size 1 h q = 1) (fun q => some q = (Value.slice AN row.length cN).ownBlock) rfl rfl HM1.out HM2.out (fun q hq => retag_ge (Nat.le_trans HB2.out.size hq)) HM3.out (Below.refl _ _) (Nat.le_trans HBs.out HB2.out.size) (by rw [List.length_take]; omega) ?_
    intro v1 w3 hv1 hb1 hg1 hat1
    obtain ⟨A', c', rfl⟩ := Kd.S_slice hv1
    have hbk := (hg1.block b4 hb42 (S_notg HEN.out.state (by decide) HEN.out.hb)).trans HBK2.out
    have HL2 := Lib.hid (show w3.cell? ⟨b4, 3, none⟩ = some vs ∧ True from ⟨(blk_cell hbk 3).trans rfl, trivial⟩)
    have hf2 : w3.frozen? ⟨b4, 3, none⟩ = false := blk_frozen hbk 3
    have hc2 : w3.cell? ⟨b4, 3, none⟩ = some vs := HL2.out.1
    have HBK := Lib.hid hbk
    have HV1 := Lib.hid hv1
    have HG1 := Lib.hid hg1
    have HB3 := Lib.hid (show Below W1.heap.size W1 w3 from (below_then HBw.out (by exact HBs.out) HB2.out).grown hg1 (Nat.le_trans HBs.out HB2.out.size) (fun q hq => by exact Kd.S_base HEN.out.state q hq))
    clear hbk hv1 hb1 hg1 hat1
    refine hK _ _ (.inr HL2.out) ?_
    clear hK K
    refine wpAnyD_one (i := 6) (by kernel_rfl) rfl (fun K hK => ?_)
    go_simp
    refine hK _ _ (.inr HL2.out) ?_
    clear hK K
    refine wpAnyD_one (i := 7) (by kernel_rfl) rfl (fun K hK => ?_)
    go_simp
    refine hK _ _ (.inl rfl) ?_
    clear hK K
    refine wpAnyD_done (by kernel_rfl) ?_ _
    obtain ⟨v1, hv1⟩ : ∃ v1, v1 = Value.slice A' (k + 1) c' := ⟨_, rfl⟩
    have hR1 : Kd.S kInts 27 w3 W1.heap.size (fun q => retag wr.heap.size 1 h q = 1) v1 (state.take k ++ [row]) := by
     have h := HV1.out
     rw [show (state.take k ++ [row]).length = k + 1 by simp; omega] at h
     rw [hv1]; exact h
    have HR2 := Lib.hid (HEN.out.turnS (w' := w3.setCell ⟨b4, 3, none⟩ v1) (vs' := v1) (ys := state.take k ++ [row])
     (fun q h1 h2 h3 => by
      rw [Below.heap_setCell _ _ _ q h2]
      exact (HG1.out.block q (Nat.lt_of_lt_of_le h1 HB2.out.size) (fun e => h3 ((Kd.S_R HEN.out.state).1 q e.symm))).trans (HB2.out.block q h1))
     (blk_put HBK.out 3 v1 rfl) (Kd.S_step hR1 (fun q ho hlt => Below.heap_setCell _ _ _ q (fun e => by rw [e, retag_lt hbl, HEN.out.hb] at ho; omega))))
    rw [← HTK.out] at HR2
    have HB4 := Lib.hid (show Below W1.heap.size W1 (w3.setCell ⟨b4, 3, none⟩ v1) from below_set HB3.out HEN.out.bB)
    rw [← hv1]
    clear hR1 hv1
    go_wp2_with fail
    go_roundw
    case rel => exact ⟨k + 1, by omega, by go_num, ⟨_, _, HR2.out⟩, HB4.out⟩
    case measure => simp [intOf]; omega
   ·obtain rfl : k = state.length := by omega
    rw [List.take_length] at hEN
    have c5 : wr.cell? ⟨g, 5, none⟩ = some (.slice aA asks.length aC) := cell_up HBw.out HC5.out
    have HEN0 := Lib.hid hEN
    have HB00 := Lib.hid HBw.out
    clear hEN HBw
    go_wp2_with fail
    clear c5
    go_loopw [56] (fun i w' => ∃ k : Nat, k ≤ asks.length ∧ i = .int .i64 k ∧ Hid (∃ h vs va2, ENDB W1.heap.size w' b4 h vs va2 ⟨tr, v2, fu, state, asks.take k⟩) ∧ Hid (Below W1.heap.size W1 w')) (fun i _ => asks.length - (intOf i).toNat)
    case atStart => exact ⟨0, by omega, rfl, by rw [List.take_zero]; exact ⟨_, _, _, HEN0.out⟩, HB00.out⟩
    case round =>
     clear HEN0 HB00
     obtain ⟨k, hk, rfl, HEN, HBw⟩ := hrel
     obtain ⟨h, vs, va2, hEN⟩ := HEN.out
     clear HEN
     by_cases hlt : k < asks.length
     ·obtain ⟨AB, hAB⟩ := HAF.out (by omega)
      have hac2 := HAC.out
      rw [hAB] at hac2
      obtain ⟨AL, cL, q0, q1, q2, q3⟩ := at_Ask (Kd.C_below hac2 HBw.out) k hlt
      obtain ⟨ak, hak⟩ : ∃ ak, ak = asks.getD k zAsk := ⟨_, rfl⟩
      rw [← hak] at q0 q1 q2 q3
      subst hAB
      have HAKe := Lib.hid hak
      have hal2 : ak.args.length ≤ 1000 := HAA.out _ (getD_mem asks zAsk k hlt _ hak)
      have HCL := Lib.hid (fun w' (hb : Below wr.heap.size wr w') => clInt_any AL cL ak.args w' (Kd.C_below q3 hb) (by omega))
      have c4 : wr.cell? ⟨b4, 4, none⟩ = some va2 := (blk_cell hEN.blk 4).trans rfl
      have hbl := blk_lt hEN.blk
      have HEN := Lib.hid hEN
      have HBs := Lib.hid (show W1.heap.size ≤ wr.heap.size from HBw.out.size)
      have HTK := Lib.hid (show asks.take (k + 1) = asks.take k ++ [ak] from by
       rw [List.take_add_one, List.getElem?_eq_getElem hlt, HAKe.out, List.getD_eq_getElem?_getD, List.getElem?_eq_getElem hlt]; rfl)
      have C4 := Lib.hid c4
      have q4 := Lib.hid q3
      have hX8 := heap_alloc_new wr (.cells #[.int .i64 ak.call, .slice AL ak.args.length cL] 81)
      have hB8 := below_alloc (Below.refl wr.heap.size wr) (.cells #[.int .i64 ak.call, .slice AL ak.args.length cL] 81)
      clear hak q2 q3 hEN c4
      go_wp2_with fail
      generalize hV8 : wr.alloc (.cells #[.int .i64 ak.call, .slice AL ak.args.length cL] 81) = V8 at *
      obtain ⟨b8, hb8⟩ : ∃ b8, b8 = wr.heap.size := ⟨_, rfl⟩
      rw [← hb8] at hX8 ⊢
      have HP0 := Lib.hid ((blk_cell hX8 0).trans rfl : V8.cell? ⟨b8, 0, none⟩ = some (.int .i64 ak.call))
      have HP1 := Lib.hid ((blk_cell hX8 1).trans rfl : V8.cell? ⟨b8, 1, none⟩ = some (.slice AL ak.args.length cL))
      have HB8 := Lib.hid hB8
      have hn48 : ¬ b8 = b4 := by omega
      have HB8N := Lib.hid (show wr.heap.size ≤ b8 by omega)
      clear hV8 hX8 hB8 hb8 q0 q1
      refine wp_region_D (fun w' => w'.cell? ⟨b4, 4, none⟩ = some va2 ∧ w'.cell? ⟨b8, 0, none⟩ = some (.int .i64 ak.call) ∧ w'.cell? ⟨b8, 1, none⟩ = some (.slice AL ak.args.length cL)) 11 (by kernel_rfl) ?_
      intro Y HY
      have hbY : Below V8.heap.size V8 Y := by rw [HY.out]; exact below_drew (Below.refl _ _)
      have HLY := Lib.hid (show Y.cell? ⟨b4, 4, none⟩ = some va2 ∧ Y.cell? ⟨b8, 0, none⟩ = some (.int .i64 ak.call) ∧ Y.cell? ⟨b8, 1, none⟩ = some (.slice AL ak.args.length cL) from ⟨cell_up (below_next HB8.out hbY) C4.out, cell_up hbY HP0.out, cell_up hbY HP1.out⟩)
      have HBY := Lib.hid (below_next HB8.out hbY)
      have HBY8 := Lib.hid hbY
      clear hbY
      refine wpAnyD_tk 0 ?v_17 rfl (by kernel_rfl) (fun _ _ _ h => h) HLY.out (by rfl) ?h_17 ?r_17
      case h_17 => intro w' hS'; obtain ⟨s1, s2, s3⟩ := hS'; go_simp; try with_reducible rfl
      refine wpAnyD_tk 1 ?v_18 rfl (by kernel_rfl) (fun _ _ _ h => h) HLY.out (by rfl) ?h_18 ?r_18
      case h_18 => intro w' hS'; obtain ⟨s1, s2, s3⟩ := hS'; go_simp; try with_reducible rfl
      refine wpAnyD_tk 2 ?v_19 rfl (by kernel_rfl) (fun _ _ _ h => h) HLY.out (by rfl) ?h_19 ?r_19
      case h_19 => intro w' hS'; obtain ⟨s1, s2, s3⟩ := hS'; go_simp; try with_reducible rfl
      refine wpAnyD_tk 3 ?v_20 rfl (by kernel_rfl) (fun _ _ _ h => h) HLY.out (by rfl) ?h_20 ?r_20
      case h_20 => intro w' hS'; obtain ⟨s1, s2, s3⟩ := hS'; go_simp; try with_reducible rfl
      refine wpAnyD_tk 4 ?v_21 rfl (by kernel_rfl) (fun _ _ _ h => h) HLY.out (by rfl) ?h_21 ?r_21
      case h_21 => intro w' hS'; obtain ⟨s1, s2, s3⟩ := hS'; go_simp; try with_reducible rfl
      refine wpAnyD_tk 5 ?v_22 rfl (by kernel_rfl) (fun _ _ _ h => h) HLY.out (by rfl) ?h_22 ?r_22
      case h_22 => intro w' hS'; obtain ⟨s1, s2, s3⟩ := hS'; go_simp; try with_reducible rfl
      refine wpAnyD_one (i := 6) (by kernel_rfl) rfl (fun K hK => ?_)
      go_simp
      refine (HCL.out _ HBY.out).mono ?_
      rintro e w2 ⟨vL, rfl, hvL, hbL⟩
      obtain ⟨AN, cN, rfl⟩ := Kd.R_slice hvL
      have hb2 : Below wr.heap.size wr w2 := below_next HBY.out hbL
      have HV2 := Lib.hid (Kd.R_lower hvL HBY.out.size)
      have HB2 := Lib.hid hb2
      have HM1 := Lib.hid (show kAsk.M w2 W1.heap.size (fun q => some q = (Value.slice AN ak.args.length cN).ownBlock) ak [.int .i64 ak.call, .slice AN ak.args.length cN] from kAsk_mkM w2 _ _ ak (Kd.R_tight rfl (Kd.R_lower HV2.out HBs.out)))
      have HM2 := Lib.hid (fun q (hq : some q = (Value.slice AN ak.args.length cN).ownBlock) => (⟨retag_ge (Kd.R_base HV2.out q hq.symm), fun e => by have h1 : wr.heap.size ≤ q := Kd.R_base HV2.out q hq.symm; have h2 := Kd.S_lt HEN.out.asks q e.symm; omega⟩ : retag wr.heap.size 2 h q = 2 ∧ some q ≠ va2.ownBlock))
      have HM3 := Lib.hid (Kd.S_below (Kd.S_mono (Kd.S_bound HEN.out.asks) (fun q hq => (⟨by rw [retag_lt hq.2.2.1]; exact hq.1, fun e => by have h1 : wr.heap.size ≤ q := Kd.R_base HV2.out q e.symm; have h2 := hq.2.2.1; omega⟩ : retag wr.heap.size 2 h q = 2 ∧ ¬ some q = (Value.slice AN ak.args.length cN).ownBlock))) hb2)
      have HBK2 := Lib.hid ((hb2.block b4 hbl).trans HEN.out.blk)
      have hb42 : b4 < w2.heap.size := Nat.lt_of_lt_of_le hbl hb2.size
      have HL1 := Lib.hid (show w2.cell? ⟨b4, 4, none⟩ = some va2 ∧ w2.cell? ⟨b8, 0, none⟩ = some (.int .i64 ak.call) ∧ w2.cell? ⟨b8, 1, none⟩ = some (.slice AL ak.args.length cL) from ⟨cell_up hb2 C4.out, cell_up (below_next HBY8.out hbL) HP0.out, cell_up (below_next HBY8.out hbL) HP1.out⟩)
      clear hvL hbL hb2
      refine hK _ _ (.inr HL1.out) ?_
      clear hK K
      refine wpAnyD_one (i := 7) (by kernel_rfl) rfl (fun K hK => ?_)
      go_simp
      refine hK _ _ (.inr HL1.out) ?_
      clear hK K
      refine wpAnyD_one (i := 8) (by kernel_rfl) rfl (fun K hK => ?_)
      go_simp
      have hba := below_alloc (Below.refl w2.heap.size w2) (.cells #[.int .i64 ak.call, .slice AN ak.args.length cN] 81)
      refine hK _ _ (.inr ⟨cell_up hba HL1.out.1, cell_up hba HL1.out.2.1, cell_up hba HL1.out.2.2⟩) ?_
      clear hK K
      clear hba
      have HNB := Lib.hid (show some b8 ≠ va2.ownBlock from fun e => by have h1 := Kd.S_lt HEN.out.asks b8 e.symm; have h2 := HB8N.out; omega)
      refine wpAnyD_one (i := 9) (by kernel_rfl) rfl (fun K hK => ?_)
      refine Kd.S_append_step kAsk (w0 := w2) (W := w2) W1.heap.size (by rfl) _ _ 34 81 (.agg #[.int .i64 0, .slice none 0 0]) 32 rfl Tryz.underlying34 infoAsk rfl (show 0 < 2 by decide) (by decide) va2 (asks.take k) ak [.int .i64 ak.call, .slice AN ak.args.length cN] (fun q => retag wr.heap.size 2 h q = 2) (fun q => some q = (Value.slice AN ak.args.length cN).ownBlock) rfl rfl HM1.out HM2.out (fun q hq => retag_ge (Nat.le_trans HB2.out.size hq)) HM3.out (Below.refl _ _) (Nat.le_trans HBs.out HB2.out.size) (by rw [List.length_take]; omega) ?_
      intro v1 w3 hv1 hb1 hg1 hat1
      obtain ⟨A', c', rfl⟩ := Kd.S_slice hv1
      have hbk := (hg1.block b4 hb42 (S_notg HEN.out.asks (by decide) HEN.out.hb)).trans HBK2.out
      have HL2 := Lib.hid (show w3.cell? ⟨b4, 4, none⟩ = some va2 ∧ w3.cell? ⟨b8, 0, none⟩ = some (.int .i64 ak.call) ∧ w3.cell? ⟨b8, 1, none⟩ = some (.slice AL ak.args.length cL) from ⟨(blk_cell hbk 4).trans rfl, (cell_eq (hg1.block b8 (cell_lt HL1.out.2.1) (fun e => HNB.out e)) 0).trans HL1.out.2.1, (cell_eq (hg1.block b8 (cell_lt HL1.out.2.1) (fun e => HNB.out e)) 1).trans HL1.out.2.2⟩)
      have hf2 : w3.frozen? ⟨b4, 4, none⟩ = false := blk_frozen hbk 4
      have hc2 : w3.cell? ⟨b4, 4, none⟩ = some va2 := HL2.out.1
      have HBK := Lib.hid hbk
      have HV1 := Lib.hid hv1
      have HG1 := Lib.hid hg1
      have HB3 := Lib.hid (show Below W1.heap.size W1 w3 from (below_then HBw.out (by exact HBs.out) HB2.out).grown hg1 (Nat.le_trans HBs.out HB2.out.size) (fun q hq => by exact Kd.S_base HEN.out.asks q hq))
      clear hbk hv1 hb1 hg1 hat1
      refine hK _ _ (.inr HL2.out) ?_
      clear hK K
      refine wpAnyD_one (i := 10) (by kernel_rfl) rfl (fun K hK => ?_)
      go_simp
      refine hK _ _ (.inr HL2.out) ?_
      clear hK K
      refine wpAnyD_one (i := 11) (by kernel_rfl) rfl (fun K hK => ?_)
      go_simp
      refine hK _ _ (.inl rfl) ?_
      clear hK K
      refine wpAnyD_done (by kernel_rfl) ?_ _
      obtain ⟨v1, hv1⟩ : ∃ v1, v1 = Value.slice A' (k + 1) c' := ⟨_, rfl⟩
      have hR1 : Kd.S kAsk 81 w3 W1.heap.size (fun q => retag wr.heap.size 2 h q = 2) v1 (asks.take k ++ [ak]) := by
       have h := HV1.out
       rw [show (asks.take k ++ [ak]).length = k + 1 by simp; omega] at h
       rw [hv1]; exact h
      have HR2 := Lib.hid (HEN.out.turnA (w' := w3.setCell ⟨b4, 4, none⟩ v1) (va' := v1) (ys := asks.take k ++ [ak])
       (fun q h1 h2 h3 => by
        rw [Below.heap_setCell _ _ _ q h2]
        exact (HG1.out.block q (Nat.lt_of_lt_of_le h1 HB2.out.size) (fun e => h3 ((Kd.S_R HEN.out.asks).1 q e.symm))).trans (HB2.out.block q h1))
       (blk_put HBK.out 4 v1 rfl) (Kd.S_step hR1 (fun q ho hlt => Below.heap_setCell _ _ _ q (fun e => by rw [e, retag_lt hbl, HEN.out.hb] at ho; omega))))
      rw [← HTK.out] at HR2
      have HB4 := Lib.hid (show Below W1.heap.size W1 (w3.setCell ⟨b4, 4, none⟩ v1) from below_set HB3.out HEN.out.bB)
      rw [← hv1]
      clear hR1 hv1
      go_wp2_with fail
      go_roundw
      case rel => exact ⟨k + 1, by omega, by go_num, ⟨_, _, _, HR2.out⟩, HB4.out⟩
      case measure => simp [intOf]; omega
     ·obtain rfl : k = asks.length := by omega
      rw [List.take_length] at hEN
      obtain ⟨Av, cv, rfl⟩ := Kd.S_slice hEN.state
      obtain ⟨Aw, cw, rfl⟩ := Kd.S_slice hEN.asks
      have e0 : wr.cell? ⟨b4, 0, none⟩ = some (.int .i64 tr) := (blk_cell hEN.blk 0).trans rfl
      have e1 : wr.cell? ⟨b4, 1, none⟩ = some (.int .i64 v2) := (blk_cell hEN.blk 1).trans rfl
      have e2 : wr.cell? ⟨b4, 2, none⟩ = some (.int .i64 fu) := (blk_cell hEN.blk 2).trans rfl
      have e3 : wr.cell? ⟨b4, 3, none⟩ = some (.slice Av state.length cv) := (blk_cell hEN.blk 3).trans rfl
      have e4 : wr.cell? ⟨b4, 4, none⟩ = some (.slice Aw asks.length cw) := (blk_cell hEN.blk 4).trans rfl
      obtain ⟨b2, hb2⟩ : ∃ b2, b2 = W.heap.size := ⟨_, rfl⟩
      have hbz : wr.heap[b2]? = some (.cells #[.int .i64 0, .int .i64 0, .int .i64 0, .slice none 0 0, .slice none 0 0] 36 (0, 0)) := by rw [hb2]; exact (HBw.out.block W.heap.size (blk_lt HBX.out)).trans HBX.out
      have z0 : wr.cell? ⟨b2, 0, none⟩ = some (.int .i64 0) := (blk_cell hbz 0).trans rfl
      have z1 : wr.cell? ⟨b2, 1, none⟩ = some (.int .i64 0) := (blk_cell hbz 1).trans rfl
      have z2 : wr.cell? ⟨b2, 2, none⟩ = some (.int .i64 0) := (blk_cell hbz 2).trans rfl
      have z3 : wr.cell? ⟨b2, 3, none⟩ = some (.slice none 0 0) := (blk_cell hbz 3).trans rfl
      have z4 : wr.cell? ⟨b2, 4, none⟩ = some (.slice none 0 0) := (blk_cell hbz 4).trans rfl
      have f0 := blk_frozen hbz 0
      have f1 := blk_frozen hbz 1
      have f2 := blk_frozen hbz 2
      have f3 := blk_frozen hbz 3
      have f4 := blk_frozen hbz 4
      have HBZ := Lib.hid hbz
      have HEN := Lib.hid hEN
      have hne : ¬ b4 = b2 := by have h1 := hEN.bB; have h2 := blk_lt HBX.out; omega
      have HB2W := Lib.hid hb2
      have HBF := Lib.hid (below_next HBA.out HBw.out)
      have HW1s := Lib.hid (show W.heap.size < W1.heap.size from blk_lt HBX.out)
      rw [← hb2]
      clear hbz hEN hb2
      go_wp2_with fail
      (try simp only [Exit.inBlock, Exit.then])
      refine bodyPost_ret (results_ct rfl _ _ b2 36 #[.int .i64 tr, .int .i64 v2, .int .i64 fu, .slice Av state.length cv, .slice Aw asks.length cw] (0, 0) _ rfl (blk_put (blk_put (blk_put (blk_put (blk_put HBZ.out 0 (.int .i64 tr) rfl) 1 (.int .i64 v2) rfl) 2 (.int .i64 fu) rfl) 3 (.slice Av state.length cv) rfl) 4 (.slice Aw asks.length cw) rfl) Tryz.underlying36 rfl (by kernel_rfl)) rfl ?_
      have hst : ∀ k, k ≠ b2 → (((((wr.setCell ⟨b2, 0, none⟩ (.int .i64 tr)).setCell ⟨b2, 1, none⟩ (.int .i64 v2)).setCell ⟨b2, 2, none⟩ (.int .i64 fu)).setCell ⟨b2, 3, none⟩ (.slice Av state.length cv)).setCell ⟨b2, 4, none⟩ (.slice Aw asks.length cw)).heap[k]? = wr.heap[k]? := fun k hk => (Below.heap_setCell _ _ _ k hk).trans ((Below.heap_setCell _ _ _ k hk).trans ((Below.heap_setCell _ _ _ k hk).trans ((Below.heap_setCell _ _ _ k hk).trans (Below.heap_setCell _ _ _ k hk))))
      have hkb : ∀ k, W1.heap.size ≤ k → k ≠ b2 := fun k hk e => by have h1 := HB2W.out; have h2 := HW1s.out; omega
      have hbb : W.heap.size ≤ b2 := by rw [HB2W.out]; exact Nat.le_refl _
      have hS1 := Kd.S_lower (Kd.S_mono (Kd.S_step (Kd.S_bound HEN.out.state) (fun k hk _ => hst k (hkb k hk.2.1))) (fun k hk => hk.1)) (Nat.le_of_lt HW1s.out)
      have hA1 := Kd.S_lower (Kd.S_mono (Kd.S_step (Kd.S_bound HEN.out.asks) (fun k hk _ => hst k (hkb k hk.2.1))) (fun k hk => hk.1)) (Nat.le_of_lt HW1s.out)
      exact ⟨_, rfl, by rw [HE.out]; exact ⟨_, _, h, rfl, hS1, hA1⟩, below_set (below_set (below_set (below_set (below_set HBF.out hbb) hbb) hbb) hbb) hbb⟩
 ·have hv3 : v2 = 0 := by rw [hv2, if_neg htr]
  have hz : (tr != 0) = true := by simpa using htr
  clear hv2 htr HV0 HB0
  subst hv3
  have HV0 := Lib.hid (show ENDB W1.heap.size ((X.alloc (.cells #[.int .i64 tr, .int .i64 va, .int .i64 fu, .slice none 0 0, .slice none 0 0] 36)).setCell ⟨b4, 1, none⟩ (.int .i64 0)) b4 (fun _ => 0) (.slice none 0 0) (.slice none 0 0) ⟨tr, 0, fu, [], []⟩ from ⟨blk_put HX4.out 1 _ rfl, rfl, HB40.out, Kd.S_nil _ _ _ _ _, Kd.S_nil _ _ _ _ _⟩)
  have HB0 := Lib.hid (show Below W1.heap.size W1 ((X.alloc (.cells #[.int .i64 tr, .int .i64 va, .int .i64 fu, .slice none 0 0, .slice none 0 0] 36)).setCell ⟨b4, 1, none⟩ (.int .i64 0)) from below_set (below_next HBX1.out (below_alloc (Below.refl _ _) _)) HB40.out)
  have y1 : (X.alloc (.cells #[.int .i64 tr, .int .i64 va, .int .i64 fu, .slice none 0 0, .slice none 0 0] 36)).cell? ⟨b4, 1, none⟩ = some (.int .i64 va) := (blk_cell HX4.out 1).trans rfl
  have y2 : (X.alloc (.cells #[.int .i64 tr, .int .i64 va, .int .i64 fu, .slice none 0 0, .slice none 0 0] 36)).frozen? ⟨b4, 1, none⟩ = false := blk_frozen HX4.out 1
  go_wp2_with fail
  clear y1 y2
  generalize hV : (X.alloc (.cells #[.int .i64 tr, .int .i64 va, .int .i64 fu, .slice none 0 0, .slice none 0 0] 36)).setCell ⟨b4, 1, none⟩ (.int .i64 0) = V at *
  clear hV c1 c8 hgX
  go_loopw [39] (fun i w' => ∃ k : Nat, k ≤ state.length ∧ i = .int .i64 k ∧ Hid (∃ h vs, ENDB W1.heap.size w' b4 h vs (.slice none 0 0) ⟨tr, (0 : Int), fu, state.take k, []⟩) ∧ Hid (Below W1.heap.size W1 w')) (fun i _ => state.length - (intOf i).toNat)
  case atStart => exact ⟨0, by omega, rfl, by rw [List.take_zero]; exact ⟨_, _, HV0.out⟩, HB0.out⟩
  case round =>
   obtain ⟨k, hk, rfl, HEN, HBw⟩ := hrel
   obtain ⟨h, vs, hEN⟩ := HEN.out
   clear HEN
   by_cases hlt : k < state.length
   ·obtain ⟨adS, A0, c0', hAS, q0, q1, q2⟩ := at_Ints (Kd.C_below HSC.out HBw.out) (k : Int) (by omega) (by omega)
    subst hAS
    obtain ⟨row, hrow⟩ : ∃ row, row = rd_Ints state (k : Int) := ⟨_, rfl⟩
    rw [← hrow] at q0 q1 q2
    simp only [Int.toNat_natCast] at q0
    have HROW := Lib.hid (show row = state.getD k [] from hrow)
    have hrl : row.length ≤ 1000000 := HRL.out _ (getD_mem state [] k hlt _ HROW.out)
    have HCL := Lib.hid (fun w' (hb : Below wr.heap.size wr w') => clInt_any A0 c0' row w' (Kd.C_below q2 hb) (by omega))
    have c3 : wr.cell? ⟨b4, 3, none⟩ = some vs := (blk_cell hEN.blk 3).trans rfl
    have hbl := blk_lt hEN.blk
    have HEN := Lib.hid hEN
    have HBs := Lib.hid (show W1.heap.size ≤ wr.heap.size from HBw.out.size)
    have HTK := Lib.hid (show state.take (k + 1) = state.take k ++ [row] from by
     rw [List.take_add_one, List.getElem?_eq_getElem hlt, HROW.out, List.getD_eq_getElem?_getD, List.getElem?_eq_getElem hlt]; rfl)
    clear hrow q2 hEN
    go_wp2_with fail
    have C3 := Lib.hid c3
    refine wp_region_D (fun w' => w'.cell? ⟨b4, 3, none⟩ = some vs ∧ True) 7 (by kernel_rfl) ?_
    intro Y HY
    have hbY : Below wr.heap.size wr Y := by rw [HY.out]; exact below_drew (Below.refl _ _)
    have HLY := Lib.hid (show Y.cell? ⟨b4, 3, none⟩ = some vs ∧ True from ⟨cell_up hbY c3, trivial⟩)
    have HBY := Lib.hid hbY
    clear hbY c3
    refine wpAnyD_tk 0 ?v_23 rfl (by kernel_rfl) (fun _ _ _ h => h) HLY.out (by rfl) ?h_23 ?r_23
    case h_23 => intro w' hS'; obtain ⟨s1, _⟩ := hS'; go_simp; try with_reducible rfl
    refine wpAnyD_tk 1 ?v_24 rfl (by kernel_rfl) (fun _ _ _ h => h) HLY.out (by rfl) ?h_24 ?r_24
    case h_24 => intro w' hS'; obtain ⟨s1, _⟩ := hS'; go_simp; try with_reducible rfl
    refine wpAnyD_tk 2 ?v_25 rfl (by kernel_rfl) (fun _ _ _ h => h) HLY.out (by rfl) ?h_25 ?r_25
    case h_25 => intro w' hS'; obtain ⟨s1, _⟩ := hS'; go_simp; try with_reducible rfl
    refine wpAnyD_one (i := 3) (by kernel_rfl) rfl (fun K hK => ?_)
    go_simp
    refine (HCL.out _ HBY.out).mono ?_
    rintro e w2 ⟨vL, rfl, hvL, hbL⟩
    obtain ⟨AN, cN, rfl⟩ := Kd.R_slice hvL
    have hb2 : Below wr.heap.size wr w2 := below_next HBY.out hbL
    have HV2 := Lib.hid (Kd.R_lower hvL HBY.out.size)
    have HB2 := Lib.hid hb2
    have HM1 := Lib.hid (show kInts.M w2 W1.heap.size (fun q => some q = (Value.slice AN row.length cN).ownBlock) row [.slice AN row.length cN] from ⟨_, rfl, Kd.R_tight rfl (Kd.R_lower HV2.out HBs.out)⟩)
    have HM2 := Lib.hid (fun q (hq : some q = (Value.slice AN row.length cN).ownBlock) => (⟨retag_ge (Kd.R_base HV2.out q hq.symm), fun e => by have h1 : wr.heap.size ≤ q := Kd.R_base HV2.out q hq.symm; have h2 := Kd.S_lt HEN.out.state q e.symm; omega⟩ : retag wr.heap.size 1 h q = 1 ∧ some q ≠ vs.ownBlock))
    have HM3 := Lib.hid (Kd.S_below (Kd.S_mono (Kd.S_bound HEN.out.state) (fun q hq => (⟨by rw [retag_lt hq.2.2.1]; exact hq.1, fun e => by have h1 : wr.heap.size ≤ q := Kd.R_base HV2.out q e.symm; have h2 := hq.2.2.1; omega⟩ : retag wr.heap.size 1 h q = 1 ∧ ¬ some q = (Value.slice AN row.length cN).ownBlock))) hb2)
    have HBK2 := Lib.hid ((hb2.block b4 hbl).trans HEN.out.blk)
    have hb42 : b4 < w2.heap.size := Nat.lt_of_lt_of_le hbl hb2.size
    have HL1 := Lib.hid (show w2.cell? ⟨b4, 3, none⟩ = some vs ∧ True from ⟨cell_up hb2 C3.out, trivial⟩)
    clear hvL hbL hb2
    refine hK _ _ (.inr HL1.out) ?_
    clear hK K
    refine wpAnyD_one (i := 4) (by kernel_rfl) rfl (fun K hK => ?_)
    go_simp
    have hba := below_alloc (Below.refl w2.heap.size w2) (.cells #[.slice AN row.length cN] 27)
    refine hK _ _ (.inr ⟨cell_up hba HL1.out.1, trivial⟩) ?_
    clear hK K
    clear hba
    refine wpAnyD_one (i := 5) (by kernel_rfl) rfl (fun K hK => ?_)
    refine Kd.S_append_step kInts (w0 := w2) (W := w2) W1.heap.size (by rfl) _ _ 26 27 (.slice none 0 0) 24 rfl Tryz.underlying26 infoInts rfl (show 0 < 1 by decide) (by decide) vs (state.take k) row [.slice AN row.length cN] (fun q => retag wr.heap.size 1 h q = 1) (fun q => some q = (Value.slice AN row.length cN).ownBlock) rfl rfl HM1.out HM2.out (fun q hq => retag_ge (Nat.le_trans HB2.out.size hq)) HM3.out (Below.refl _ _) (Nat.le_trans HBs.out HB2.out.size) (by rw [List.length_take]; omega) ?_
    intro v1 w3 hv1 hb1 hg1 hat1
    obtain ⟨A', c', rfl⟩ := Kd.S_slice hv1
    have hbk := (hg1.block b4 hb42 (S_notg HEN.out.state (by decide) HEN.out.hb)).trans HBK2.out
    have HL2 := Lib.hid (show w3.cell? ⟨b4, 3, none⟩ = some vs ∧ True from ⟨(blk_cell hbk 3).trans rfl, trivial⟩)
    have hf2 : w3.frozen? ⟨b4, 3, none⟩ = false := blk_frozen hbk 3
    have hc2 : w3.cell? ⟨b4, 3, none⟩ = some vs := HL2.out.1
    have HBK := Lib.hid hbk
    have HV1 := Lib.hid hv1
    have HG1 := Lib.hid hg1
    have HB3 := Lib.hid (show Below W1.heap.size W1 w3 from (below_then HBw.out (by exact HBs.out) HB2.out).grown hg1 (Nat.le_trans HBs.out HB2.out.size) (fun q hq => by exact Kd.S_base HEN.out.state q hq))
    clear hbk hv1 hb1 hg1 hat1
    refine hK _ _ (.inr HL2.out) ?_
    clear hK K
    refine wpAnyD_one (i := 6) (by kernel_rfl) rfl (fun K hK => ?_)
    go_simp
    refine hK _ _ (.inr HL2.out) ?_
    clear hK K
    refine wpAnyD_one (i := 7) (by kernel_rfl) rfl (fun K hK => ?_)
    go_simp
    refine hK _ _ (.inl rfl) ?_
    clear hK K
    refine wpAnyD_done (by kernel_rfl) ?_ _
    obtain ⟨v1, hv1⟩ : ∃ v1, v1 = Value.slice A' (k + 1) c' := ⟨_, rfl⟩
    have hR1 : Kd.S kInts 27 w3 W1.heap.size (fun q => retag wr.heap.size 1 h q = 1) v1 (state.take k ++ [row]) := by
     have h := HV1.out
     rw [show (state.take k ++ [row]).length = k + 1 by simp; omega] at h
     rw [hv1]; exact h
    have HR2 := Lib.hid (HEN.out.turnS (w' := w3.setCell ⟨b4, 3, none⟩ v1) (vs' := v1) (ys := state.take k ++ [row])
     (fun q h1 h2 h3 => by
      rw [Below.heap_setCell _ _ _ q h2]
      exact (HG1.out.block q (Nat.lt_of_lt_of_le h1 HB2.out.size) (fun e => h3 ((Kd.S_R HEN.out.state).1 q e.symm))).trans (HB2.out.block q h1))
     (blk_put HBK.out 3 v1 rfl) (Kd.S_step hR1 (fun q ho hlt => Below.heap_setCell _ _ _ q (fun e => by rw [e, retag_lt hbl, HEN.out.hb] at ho; omega))))
    rw [← HTK.out] at HR2
    have HB4 := Lib.hid (show Below W1.heap.size W1 (w3.setCell ⟨b4, 3, none⟩ v1) from below_set HB3.out HEN.out.bB)
    rw [← hv1]
    clear hR1 hv1
    go_wp2_with fail
    go_roundw
    case rel => exact ⟨k + 1, by omega, by go_num, ⟨_, _, HR2.out⟩, HB4.out⟩
    case measure => simp [intOf]; omega
   ·obtain rfl : k = state.length := by omega
    rw [List.take_length] at hEN
    have c5 : wr.cell? ⟨g, 5, none⟩ = some (.slice aA asks.length aC) := cell_up HBw.out HC5.out
    have HEN0 := Lib.hid hEN
    have HB00 := Lib.hid HBw.out
    clear hEN HBw
    go_wp2_with fail
    clear c5
    go_loopw [56] (fun i w' => ∃ k : Nat, k ≤ asks.length ∧ i = .int .i64 k ∧ Hid (∃ h vs va2, ENDB W1.heap.size w' b4 h vs va2 ⟨tr, (0 : Int), fu, state, asks.take k⟩) ∧ Hid (Below W1.heap.size W1 w')) (fun i _ => asks.length - (intOf i).toNat)
    case atStart => exact ⟨0, by omega, rfl, by rw [List.take_zero]; exact ⟨_, _, _, HEN0.out⟩, HB00.out⟩
    case round =>
     clear HEN0 HB00
     obtain ⟨k, hk, rfl, HEN, HBw⟩ := hrel
     obtain ⟨h, vs, va2, hEN⟩ := HEN.out
     clear HEN
     by_cases hlt : k < asks.length
     ·obtain ⟨AB, hAB⟩ := HAF.out (by omega)
      have hac2 := HAC.out
      rw [hAB] at hac2
      obtain ⟨AL, cL, q0, q1, q2, q3⟩ := at_Ask (Kd.C_below hac2 HBw.out) k hlt
      obtain ⟨ak, hak⟩ : ∃ ak, ak = asks.getD k zAsk := ⟨_, rfl⟩
      rw [← hak] at q0 q1 q2 q3
      subst hAB
      have HAKe := Lib.hid hak
      have hal2 : ak.args.length ≤ 1000 := HAA.out _ (getD_mem asks zAsk k hlt _ hak)
      have HCL := Lib.hid (fun w' (hb : Below wr.heap.size wr w') => clInt_any AL cL ak.args w' (Kd.C_below q3 hb) (by omega))
      have c4 : wr.cell? ⟨b4, 4, none⟩ = some va2 := (blk_cell hEN.blk 4).trans rfl
      have hbl := blk_lt hEN.blk
      have HEN := Lib.hid hEN
      have HBs := Lib.hid (show W1.heap.size ≤ wr.heap.size from HBw.out.size)
      have HTK := Lib.hid (show asks.take (k + 1) = asks.take k ++ [ak] from by
       rw [List.take_add_one, List.getElem?_eq_getElem hlt, HAKe.out, List.getD_eq_getElem?_getD, List.getElem?_eq_getElem hlt]; rfl)
      have C4 := Lib.hid c4
      have q4 := Lib.hid q3
      have hX8 := heap_alloc_new wr (.cells #[.int .i64 ak.call, .slice AL ak.args.length cL] 81)
      have hB8 := below_alloc (Below.refl wr.heap.size wr) (.cells #[.int .i64 ak.call, .slice AL ak.args.length cL] 81)
      clear hak q2 q3 hEN c4
      go_wp2_with fail
      generalize hV8 : wr.alloc (.cells #[.int .i64 ak.call, .slice AL ak.args.length cL] 81) = V8 at *
      obtain ⟨b8, hb8⟩ : ∃ b8, b8 = wr.heap.size := ⟨_, rfl⟩
      rw [← hb8] at hX8 ⊢
      have HP0 := Lib.hid ((blk_cell hX8 0).trans rfl : V8.cell? ⟨b8, 0, none⟩ = some (.int .i64 ak.call))
      have HP1 := Lib.hid ((blk_cell hX8 1).trans rfl : V8.cell? ⟨b8, 1, none⟩ = some (.slice AL ak.args.length cL))
      have HB8 := Lib.hid hB8
      have hn48 : ¬ b8 = b4 := by omega
      have HB8N := Lib.hid (show wr.heap.size ≤ b8 by omega)
      clear hV8 hX8 hB8 hb8 q0 q1
      refine wp_region_D (fun w' => w'.cell? ⟨b4, 4, none⟩ = some va2 ∧ w'.cell? ⟨b8, 0, none⟩ = some (.int .i64 ak.call) ∧ w'.cell? ⟨b8, 1, none⟩ = some (.slice AL ak.args.length cL)) 11 (by kernel_rfl) ?_
      intro Y HY
      have hbY : Below V8.heap.size V8 Y := by rw [HY.out]; exact below_drew (Below.refl _ _)
      have HLY := Lib.hid (show Y.cell? ⟨b4, 4, none⟩ = some va2 ∧ Y.cell? ⟨b8, 0, none⟩ = some (.int .i64 ak.call) ∧ Y.cell? ⟨b8, 1, none⟩ = some (.slice AL ak.args.length cL) from ⟨cell_up (below_next HB8.out hbY) C4.out, cell_up hbY HP0.out, cell_up hbY HP1.out⟩)
      have HBY := Lib.hid (below_next HB8.out hbY)
      have HBY8 := Lib.hid hbY
      clear hbY
      refine wpAnyD_tk 0 ?v_26 rfl (by kernel_rfl) (fun _ _ _ h => h) HLY.out (by rfl) ?h_26 ?r_26
      case h_26 => intro w' hS'; obtain ⟨s1, s2, s3⟩ := hS'; go_simp; try with_reducible rfl
      refine wpAnyD_tk 1 ?v_27 rfl (by kernel_rfl) (fun _ _ _ h => h) HLY.out (by rfl) ?h_27 ?r_27
      case h_27 => intro w' hS'; obtain ⟨s1, s2, s3⟩ := hS'; go_simp; try with_reducible rfl
      refine wpAnyD_tk 2 ?v_28 rfl (by kernel_rfl) (fun _ _ _ h => h) HLY.out (by rfl) ?h_28 ?r_28
      case h_28 => intro w' hS'; obtain ⟨s1, s2, s3⟩ := hS'; go_simp; try with_reducible rfl
      refine wpAnyD_tk 3 ?v_29 rfl (by kernel_rfl) (fun _ _ _ h => h) HLY.out (by rfl) ?h_29 ?r_29
      case h_29 => intro w' hS'; obtain ⟨s1, s2, s3⟩ := hS'; go_simp; try with_reducible rfl
      refine wpAnyD_tk 4 ?v_30 rfl (by kernel_rfl) (fun _ _ _ h => h) HLY.out (by rfl) ?h_30 ?r_30
      case h_30 => intro w' hS'; obtain ⟨s1, s2, s3⟩ := hS'; go_simp; try with_reducible rfl
      refine wpAnyD_tk 5 ?v_31 rfl (by kernel_rfl) (fun _ _ _ h => h) HLY.out (by rfl) ?h_31 ?r_31
      case h_31 => intro w' hS'; obtain ⟨s1, s2, s3⟩ := hS'; go_simp; try with_reducible rfl
      refine wpAnyD_one (i := 6) (by kernel_rfl) rfl (fun K hK => ?_)
      go_simp
      refine (HCL.out _ HBY.out).mono ?_
      rintro e w2 ⟨vL, rfl, hvL, hbL⟩
      obtain ⟨AN, cN, rfl⟩ := Kd.R_slice hvL
      have hb2 : Below wr.heap.size wr w2 := below_next HBY.out hbL
      have HV2 := Lib.hid (Kd.R_lower hvL HBY.out.size)
      have HB2 := Lib.hid hb2
      have HM1 := Lib.hid (show kAsk.M w2 W1.heap.size (fun q => some q = (Value.slice AN ak.args.length cN).ownBlock) ak [.int .i64 ak.call, .slice AN ak.args.length cN] from kAsk_mkM w2 _ _ ak (Kd.R_tight rfl (Kd.R_lower HV2.out HBs.out)))
      have HM2 := Lib.hid (fun q (hq : some q = (Value.slice AN ak.args.length cN).ownBlock) => (⟨retag_ge (Kd.R_base HV2.out q hq.symm), fun e => by have h1 : wr.heap.size ≤ q := Kd.R_base HV2.out q hq.symm; have h2 := Kd.S_lt HEN.out.asks q e.symm; omega⟩ : retag wr.heap.size 2 h q = 2 ∧ some q ≠ va2.ownBlock))
      have HM3 := Lib.hid (Kd.S_below (Kd.S_mono (Kd.S_bound HEN.out.asks) (fun q hq => (⟨by rw [retag_lt hq.2.2.1]; exact hq.1, fun e => by have h1 : wr.heap.size ≤ q := Kd.R_base HV2.out q e.symm; have h2 := hq.2.2.1; omega⟩ : retag wr.heap.size 2 h q = 2 ∧ ¬ some q = (Value.slice AN ak.args.length cN).ownBlock))) hb2)
      have HBK2 := Lib.hid ((hb2.block b4 hbl).trans HEN.out.blk)
      have hb42 : b4 < w2.heap.size := Nat.lt_of_lt_of_le hbl hb2.size
      have HL1 := Lib.hid (show w2.cell? ⟨b4, 4, none⟩ = some va2 ∧ w2.cell? ⟨b8, 0, none⟩ = some (.int .i64 ak.call) ∧ w2.cell? ⟨b8, 1, none⟩ = some (.slice AL ak.args.length cL) from ⟨cell_up hb2 C4.out, cell_up (below_next HBY8.out hbL) HP0.out, cell_up (below_next HBY8.out hbL) HP1.out⟩)
      clear hvL hbL hb2
      refine hK _ _ (.inr HL1.out) ?_
      clear hK K
      refine wpAnyD_one (i := 7) (by kernel_rfl) rfl (fun K hK => ?_)
      go_simp
      refine hK _ _ (.inr HL1.out) ?_
      clear hK K
      refine wpAnyD_one (i := 8) (by kernel_rfl) rfl (fun K hK => ?_)
      go_simp
      have hba := below_alloc (Below.refl w2.heap.size w2) (.cells #[.int .i64 ak.call, .slice AN ak.args.length cN] 81)
      refine hK _ _ (.inr ⟨cell_up hba HL1.out.1, cell_up hba HL1.out.2.1, cell_up hba HL1.out.2.2⟩) ?_
      clear hK K
      clear hba
      have HNB := Lib.hid (show some b8 ≠ va2.ownBlock from fun e => by have h1 := Kd.S_lt HEN.out.asks b8 e.symm; have h2 := HB8N.out; omega)
      refine wpAnyD_one (i := 9) (by kernel_rfl) rfl (fun K hK => ?_)
      refine Kd.S_append_step kAsk (w0 := w2) (W := w2) W1.heap.size (by rfl) _ _ 34 81 (.agg #[.int .i64 0, .slice none 0 0]) 32 rfl Tryz.underlying34 infoAsk rfl (show 0 < 2 by decide) (by decide) va2 (asks.take k) ak [.int .i64 ak.call, .slice AN ak.args.length cN] (fun q => retag wr.heap.size 2 h q = 2) (fun q => some q = (Value.slice AN ak.args.length cN).ownBlock) rfl rfl HM1.out HM2.out (fun q hq => retag_ge (Nat.le_trans HB2.out.size hq)) HM3.out (Below.refl _ _) (Nat.le_trans HBs.out HB2.out.size) (by rw [List.length_take]; omega) ?_
      intro v1 w3 hv1 hb1 hg1 hat1
      obtain ⟨A', c', rfl⟩ := Kd.S_slice hv1
      have hbk := (hg1.block b4 hb42 (S_notg HEN.out.asks (by decide) HEN.out.hb)).trans HBK2.out
      have HL2 := Lib.hid (show w3.cell? ⟨b4, 4, none⟩ = some va2 ∧ w3.cell? ⟨b8, 0, none⟩ = some (.int .i64 ak.call) ∧ w3.cell? ⟨b8, 1, none⟩ = some (.slice AL ak.args.length cL) from ⟨(blk_cell hbk 4).trans rfl, (cell_eq (hg1.block b8 (cell_lt HL1.out.2.1) (fun e => HNB.out e)) 0).trans HL1.out.2.1, (cell_eq (hg1.block b8 (cell_lt HL1.out.2.1) (fun e => HNB.out e)) 1).trans HL1.out.2.2⟩)
      have hf2 : w3.frozen? ⟨b4, 4, none⟩ = false := blk_frozen hbk 4
      have hc2 : w3.cell? ⟨b4, 4, none⟩ = some va2 := HL2.out.1
      have HBK := Lib.hid hbk
      have HV1 := Lib.hid hv1
      have HG1 := Lib.hid hg1
      have HB3 := Lib.hid (show Below W1.heap.size W1 w3 from (below_then HBw.out (by exact HBs.out) HB2.out).grown hg1 (Nat.le_trans HBs.out HB2.out.size) (fun q hq => by exact Kd.S_base HEN.out.asks q hq))
      clear hbk hv1 hb1 hg1 hat1
      refine hK _ _ (.inr HL2.out) ?_
      clear hK K
      refine wpAnyD_one (i := 10) (by kernel_rfl) rfl (fun K hK => ?_)
      go_simp
      refine hK _ _ (.inr HL2.out) ?_
      clear hK K
      refine wpAnyD_one (i := 11) (by kernel_rfl) rfl (fun K hK => ?_)
      go_simp
      refine hK _ _ (.inl rfl) ?_
      clear hK K
      refine wpAnyD_done (by kernel_rfl) ?_ _
      obtain ⟨v1, hv1⟩ : ∃ v1, v1 = Value.slice A' (k + 1) c' := ⟨_, rfl⟩
      have hR1 : Kd.S kAsk 81 w3 W1.heap.size (fun q => retag wr.heap.size 2 h q = 2) v1 (asks.take k ++ [ak]) := by
       have h := HV1.out
       rw [show (asks.take k ++ [ak]).length = k + 1 by simp; omega] at h
       rw [hv1]; exact h
      have HR2 := Lib.hid (HEN.out.turnA (w' := w3.setCell ⟨b4, 4, none⟩ v1) (va' := v1) (ys := asks.take k ++ [ak])
       (fun q h1 h2 h3 => by
        rw [Below.heap_setCell _ _ _ q h2]
        exact (HG1.out.block q (Nat.lt_of_lt_of_le h1 HB2.out.size) (fun e => h3 ((Kd.S_R HEN.out.asks).1 q e.symm))).trans (HB2.out.block q h1))
       (blk_put HBK.out 4 v1 rfl) (Kd.S_step hR1 (fun q ho hlt => Below.heap_setCell _ _ _ q (fun e => by rw [e, retag_lt hbl, HEN.out.hb] at ho; omega))))
      rw [← HTK.out] at HR2
      have HB4 := Lib.hid (show Below W1.heap.size W1 (w3.setCell ⟨b4, 4, none⟩ v1) from below_set HB3.out HEN.out.bB)
      rw [← hv1]
      clear hR1 hv1
      go_wp2_with fail
      go_roundw
      case rel => exact ⟨k + 1, by omega, by go_num, ⟨_, _, _, HR2.out⟩, HB4.out⟩
      case measure => simp [intOf]; omega
     ·obtain rfl : k = asks.length := by omega
      rw [List.take_length] at hEN
      obtain ⟨Av, cv, rfl⟩ := Kd.S_slice hEN.state
      obtain ⟨Aw, cw, rfl⟩ := Kd.S_slice hEN.asks
      have e0 : wr.cell? ⟨b4, 0, none⟩ = some (.int .i64 tr) := (blk_cell hEN.blk 0).trans rfl
      have e1 : wr.cell? ⟨b4, 1, none⟩ = some (.int .i64 0) := (blk_cell hEN.blk 1).trans rfl
      have e2 : wr.cell? ⟨b4, 2, none⟩ = some (.int .i64 fu) := (blk_cell hEN.blk 2).trans rfl
      have e3 : wr.cell? ⟨b4, 3, none⟩ = some (.slice Av state.length cv) := (blk_cell hEN.blk 3).trans rfl
      have e4 : wr.cell? ⟨b4, 4, none⟩ = some (.slice Aw asks.length cw) := (blk_cell hEN.blk 4).trans rfl
      obtain ⟨b2, hb2⟩ : ∃ b2, b2 = W.heap.size := ⟨_, rfl⟩
      have hbz : wr.heap[b2]? = some (.cells #[.int .i64 0, .int .i64 0, .int .i64 0, .slice none 0 0, .slice none 0 0] 36 (0, 0)) := by rw [hb2]; exact (HBw.out.block W.heap.size (blk_lt HBX.out)).trans HBX.out
      have z0 : wr.cell? ⟨b2, 0, none⟩ = some (.int .i64 0) := (blk_cell hbz 0).trans rfl
      have z1 : wr.cell? ⟨b2, 1, none⟩ = some (.int .i64 0) := (blk_cell hbz 1).trans rfl
      have z2 : wr.cell? ⟨b2, 2, none⟩ = some (.int .i64 0) := (blk_cell hbz 2).trans rfl
      have z3 : wr.cell? ⟨b2, 3, none⟩ = some (.slice none 0 0) := (blk_cell hbz 3).trans rfl
      have z4 : wr.cell? ⟨b2, 4, none⟩ = some (.slice none 0 0) := (blk_cell hbz 4).trans rfl
      have f0 := blk_frozen hbz 0
      have f1 := blk_frozen hbz 1
      have f2 := blk_frozen hbz 2
      have f3 := blk_frozen hbz 3
      have f4 := blk_frozen hbz 4
      have HBZ := Lib.hid hbz
      have HEN := Lib.hid hEN
      have hne : ¬ b4 = b2 := by have h1 := hEN.bB; have h2 := blk_lt HBX.out; omega
      have HB2W := Lib.hid hb2
      have HBF := Lib.hid (below_next HBA.out HBw.out)
      have HW1s := Lib.hid (show W.heap.size < W1.heap.size from blk_lt HBX.out)
      rw [← hb2]
      clear hbz hEN hb2
      go_wp2_with fail
      (try simp only [Exit.inBlock, Exit.then])
      refine bodyPost_ret (results_ct rfl _ _ b2 36 #[.int .i64 tr, .int .i64 0, .int .i64 fu, .slice Av state.length cv, .slice Aw asks.length cw] (0, 0) _ rfl (blk_put (blk_put (blk_put (blk_put (blk_put HBZ.out 0 (.int .i64 tr) rfl) 1 (.int .i64 0) rfl) 2 (.int .i64 fu) rfl) 3 (.slice Av state.length cv) rfl) 4 (.slice Aw asks.length cw) rfl) Tryz.underlying36 rfl (by kernel_rfl)) rfl ?_
      have hst : ∀ k, k ≠ b2 → (((((wr.setCell ⟨b2, 0, none⟩ (.int .i64 tr)).setCell ⟨b2, 1, none⟩ (.int .i64 0)).setCell ⟨b2, 2, none⟩ (.int .i64 fu)).setCell ⟨b2, 3, none⟩ (.slice Av state.length cv)).setCell ⟨b2, 4, none⟩ (.slice Aw asks.length cw)).heap[k]? = wr.heap[k]? := fun k hk => (Below.heap_setCell _ _ _ k hk).trans ((Below.heap_setCell _ _ _ k hk).trans ((Below.heap_setCell _ _ _ k hk).trans ((Below.heap_setCell _ _ _ k hk).trans (Below.heap_setCell _ _ _ k hk))))
      have hkb : ∀ k, W1.heap.size ≤ k → k ≠ b2 := fun k hk e => by have h1 := HB2W.out; have h2 := HW1s.out; omega
      have hbb : W.heap.size ≤ b2 := by rw [HB2W.out]; exact Nat.le_refl _
      have hS1 := Kd.S_lower (Kd.S_mono (Kd.S_step (Kd.S_bound HEN.out.state) (fun k hk _ => hst k (hkb k hk.2.1))) (fun k hk => hk.1)) (Nat.le_of_lt HW1s.out)
      have hA1 := Kd.S_lower (Kd.S_mono (Kd.S_step (Kd.S_bound HEN.out.asks) (fun k hk _ => hst k (hkb k hk.2.1))) (fun k hk => hk.1)) (Nat.le_of_lt HW1s.out)
      exact ⟨_, rfl, by rw [HE.out]; exact ⟨_, _, h, rfl, hS1, hA1⟩, below_set (below_set (below_set (below_set (below_set HBF.out hbb) hbb) hbb) hbb) hbb⟩
end Go.Proofs.YtedmncldelcbfaaGreatDoor.E
