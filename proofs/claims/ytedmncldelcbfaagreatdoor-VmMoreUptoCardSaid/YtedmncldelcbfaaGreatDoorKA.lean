import Derived.Test.YtedmncldelcbfaaGreatDoorProg
import Derived.Below
import Derived.Deep.Draws
import Derived.Deep.AppendLies
import Derived.Maps.AppendAt
import Derived.OwnWalk
import Derived.Laws.BytesArg
import Derived.Laws.MakeOwn
import Derived.Laws.OwnMore
import Derived.Deep.OwnRows
import Derived.Tactics
import Derived.Lib.ConvBytes
import Derived.Laws.Slices
import Derived.WalkKit
import Derived.KernelRfl
import Derived.RowKit3
import Derived.Deep.LoopGhost
import Derived.Deep.QuietTactic
import Derived.BigQuiet
import Derived.WideLaws
import Derived.Deep.DeepCutAuto
import Derived.Deep.CutBlock
import Derived.Deep.RegionHeld3
import Derived.Laws.Rows
import Derived.Lib.AppendStr
import Derived.ArgAppend
import Derived.Laws.IdiomCopy
import Derived.OrdersHeld
import Derived.Laws.BitsLemmas
import Derived.RowKit
import Derived.Test.YtedmncldelcbfaaGreatDoorKW
import Derived.Lib.Hide
import Derived.WalkMore
import Derived.ScopeJumps
import Derived.Deep.RegionLaw
import Derived.Lib.SlBytesConst
/- Contracts of the packages image and wire: no statement of its own. -/
namespace Go.Proofs.YtedmncldelcbfaaGreatDoor.E
open Go.RowKit Go.Proofs.YtedmncldelcbfaaGreatDoorW.PrintWords Go.Proofs.YtedmncldelcbfaaGreatDoorW.PrintLast Go.Proofs.YtedmncldelcbfaaGreatDoorW.PrintMore
attribute [local go_sem] max2_int min2_int max_two min_two max_three min_three max_four min_four   -- for this text's walks alone
set_option linter.unusedVariables false
set_option linter.unusedSimpArgs false
theorem infoInt : (Tryz.prog.info? 3).map (fun i => (i.zero, i.size, i.bytes)) = some (some (.int .i64 0), 1, 8) := by kernel_rfl
theorem infoFn : (Tryz.prog.info? 54).map (fun i => (i.zero, i.size, i.bytes)) = some (some (.agg #[(.string ⟨#[]⟩), (.slice none 0 0), (.int .i64 0), (.slice none 0 0), (.slice none 0 0)]), 5, 96) := by kernel_rfl
theorem infoInstr : (Tryz.prog.info? 56).map (fun i => (i.zero, i.size, i.bytes)) = some (some (.agg #[(.int .i64 0), (.int .i64 0), (.int .i64 0)]), 3, 24) := by kernel_rfl
theorem infoGlob : (Tryz.prog.info? 88).map (fun i => (i.zero, i.size, i.bytes)) = some (some (.agg #[(.int .i64 0), (.int .i64 0), (.int .i64 0)]), 3, 24) := by kernel_rfl
-- the values' own types
def rd_Bytes (xs : List (List Int)) (i : Int) : (List Int) := xs.getD i.toNat ([] : List Int)
theorem at_Bytes {w : World} {A : Option Addr} {n : Nat} {xs : List (List Int)} (h : Kd.C (Kd.slice 5 (Kd.int .u8)) w A n xs) (i : Int) (h0 : 0 ≤ i) (h1 : i < n) : ∃ ad A0 c0, A = some ad ∧ w.cell? (ad.add i.toNat) = some (.slice A0 (rd_Bytes xs i).length c0) ∧ (rd_Bytes xs i).length ≤ c0 ∧ (Kd.int .u8).C w A0 (rd_Bytes xs i).length (rd_Bytes xs i) := by
 obtain ⟨ad, c, e, _, hK, hc0⟩ := Kd.C_get h ([] : List Int) i h0 h1
 have hc : ∀ j u, c[j]? = some u → w.cell? (ad.add (i.toNat * 1 + j)) = some u := hc0
 obtain ⟨A0, c0, rfl, l0, g0⟩ := hK
 exact ⟨ad, A0, c0, e, by have hq := hc 0 _ rfl; rwa [Nat.mul_one, Nat.add_zero] at hq, l0, g0⟩
def rd_Ints (xs : List (List Int)) (i : Int) : (List Int) := xs.getD i.toNat ([] : List Int)
theorem at_Ints {w : World} {A : Option Addr} {n : Nat} {xs : List (List Int)} (h : Kd.C (Kd.slice 3 (Kd.int .i64)) w A n xs) (i : Int) (h0 : 0 ≤ i) (h1 : i < n) : ∃ ad A0 c0, A = some ad ∧ w.cell? (ad.add i.toNat) = some (.slice A0 (rd_Ints xs i).length c0) ∧ (rd_Ints xs i).length ≤ c0 ∧ (Kd.int .i64).C w A0 (rd_Ints xs i).length (rd_Ints xs i) := by
 obtain ⟨ad, c, e, _, hK, hc0⟩ := Kd.C_get h ([] : List Int) i h0 h1
 have hc : ∀ j u, c[j]? = some u → w.cell? (ad.add (i.toNat * 1 + j)) = some u := hc0
 obtain ⟨A0, c0, rfl, l0, g0⟩ := hK
 exact ⟨ad, A0, c0, e, by have hq := hc 0 _ rfl; rwa [Nat.mul_one, Nat.add_zero] at hq, l0, g0⟩
/-! #### struct type 119 -/
structure SSys where
 f0 : ByteArray
 f1 : (List Int)
 f2 : Int
def zSys : SSys := ⟨(⟨#[]⟩ : ByteArray), ([] : List Int), (0 : Int)⟩
def kSys : Kd SSys := Kd.iso (Kd.pair Kd.string (Kd.pair (Kd.slice 3 (Kd.int .i64)) (Kd.int .i64))) (fun x : SSys => (x.f0, x.f1, x.f2))
theorem kSys_open {w : World} {x : SSys} {cs : List Value} (h : kSys.K w x cs) : ∃ A1 c1, cs = [.string x.f0, .slice A1 x.f1.length c1, .int .i64 x.f2] ∧ x.f1.length ≤ c1 ∧ (Kd.int .i64).C w A1 x.f1.length x.f1 := by
 obtain ⟨_, _, rfl, rfl, ⟨_, _, rfl, ⟨A1, c1, rfl, l1, g1⟩, rfl⟩⟩ := h
 exact ⟨A1, c1, rfl, l1, g1⟩
theorem kSys_mk (w : World) (x : SSys) {A1 : Option Addr} {c1 : Nat} (l1 : x.f1.length ≤ c1) (g1 : (Kd.int .i64).C w A1 x.f1.length x.f1) : kSys.K w x [.string x.f0, .slice A1 x.f1.length c1, .int .i64 x.f2] := ⟨[.string x.f0], [.slice A1 x.f1.length c1, .int .i64 x.f2], rfl, rfl, ⟨[.slice A1 x.f1.length c1], [.int .i64 x.f2], rfl, ⟨A1, c1, rfl, l1, g1⟩, rfl⟩⟩
theorem kSys_mkF (W : World) (ok : Nat → Prop) (x : SSys) {A1 : Option Addr} {c1 : Nat} (l1 : x.f1.length ≤ c1) (g1 : Kd.F (Kd.int .i64) W ok A1 x.f1.length x.f1) : Kd.FK kSys W ok x [.string x.f0, .slice A1 x.f1.length c1, .int .i64 x.f2] := fun W2 hW => kSys_mk W2 x l1 (g1 W2 hW)
def rd_TSys (xs : List SSys) (i : Int) : SSys := xs.getD i.toNat zSys
theorem at_TSys {w : World} {A : Option Addr} {n : Nat} {xs : List SSys} (h : Kd.C kSys w A n xs) (i : Int) (h0 : 0 ≤ i) (h1 : i < n) : ∃ ad A1 c1, A = some ad ∧ w.cell? (ad.add (i.toNat * 3)) = some (.string (rd_TSys xs i).f0) ∧ w.cell? ⟨(ad.add (i.toNat * 3)).block, (ad.add (i.toNat * 3)).off + 1, none⟩ = some (.slice A1 (rd_TSys xs i).f1.length c1) ∧ w.cell? ⟨(ad.add (i.toNat * 3)).block, (ad.add (i.toNat * 3)).off + 2, none⟩ = some (.int .i64 (rd_TSys xs i).f2) ∧ (rd_TSys xs i).f1.length ≤ c1 ∧ (Kd.int .i64).C w A1 (rd_TSys xs i).f1.length (rd_TSys xs i).f1 := by
 obtain ⟨ad, c, e, _, hK, hc0⟩ := Kd.C_get h zSys i h0 h1
 have hc : ∀ j u, c[j]? = some u → w.cell? (ad.add (i.toNat * 3 + j)) = some u := hc0
 obtain ⟨A1, c1, rfl, l1, g1⟩ := kSys_open hK
 exact ⟨ad, A1, c1, e, hc 0 _ rfl, by rw [← add_field _ _ 1 (by omega)]; exact hc 1 _ rfl, by rw [← add_field _ _ 2 (by omega)]; exact hc 2 _ rfl, l1, g1⟩
/-! #### struct type 56 -/
structure SInstr where
 f0 : Int
 f1 : Int
 f2 : Int
def zInstr : SInstr := ⟨(0 : Int), (0 : Int), (0 : Int)⟩
def kInstr : Kd SInstr := Kd.iso (Kd.pair (Kd.int .i64) (Kd.pair (Kd.int .i64) (Kd.int .i64))) (fun x : SInstr => (x.f0, x.f1, x.f2))
theorem kInstr_open {w : World} {x : SInstr} {cs : List Value} (h : kInstr.K w x cs) : cs = [.int .i64 x.f0, .int .i64 x.f1, .int .i64 x.f2] := by
 obtain ⟨_, _, rfl, rfl, ⟨_, _, rfl, rfl, rfl⟩⟩ := h
 exact rfl
theorem kInstr_mk (w : World) (x : SInstr)  : kInstr.K w x [.int .i64 x.f0, .int .i64 x.f1, .int .i64 x.f2] := ⟨[.int .i64 x.f0], [.int .i64 x.f1, .int .i64 x.f2], rfl, rfl, ⟨[.int .i64 x.f1], [.int .i64 x.f2], rfl, rfl, rfl⟩⟩
theorem kInstr_mkM (w : World) (base : Nat) (ok : Nat → Prop) (x : SInstr)  : kInstr.M w base ok x [.int .i64 x.f0, .int .i64 x.f1, .int .i64 x.f2] := ⟨[.int .i64 x.f0], [.int .i64 x.f1, .int .i64 x.f2], rfl, rfl, ⟨[.int .i64 x.f1], [.int .i64 x.f2], rfl, rfl, rfl⟩⟩
def rd_TInstr (xs : List SInstr) (i : Int) : SInstr := xs.getD i.toNat zInstr
theorem at_TInstr {w : World} {A : Option Addr} {n : Nat} {xs : List SInstr} (h : Kd.C kInstr w A n xs) (i : Int) (h0 : 0 ≤ i) (h1 : i < n) : ∃ ad , A = some ad ∧ w.cell? (ad.add (i.toNat * 3)) = some (.int .i64 (rd_TInstr xs i).f0) ∧ w.cell? ⟨(ad.add (i.toNat * 3)).block, (ad.add (i.toNat * 3)).off + 1, none⟩ = some (.int .i64 (rd_TInstr xs i).f1) ∧ w.cell? ⟨(ad.add (i.toNat * 3)).block, (ad.add (i.toNat * 3)).off + 2, none⟩ = some (.int .i64 (rd_TInstr xs i).f2) := by
 obtain ⟨ad, c, e, _, hK, hc0⟩ := Kd.C_get h zInstr i h0 h1
 have hc : ∀ j u, c[j]? = some u → w.cell? (ad.add (i.toNat * 3 + j)) = some u := hc0
 obtain rfl := kInstr_open hK
 exact ⟨ad, e, hc 0 _ rfl, by rw [← add_field _ _ 1 (by omega)]; exact hc 1 _ rfl, by rw [← add_field _ _ 2 (by omega)]; exact hc 2 _ rfl⟩
/-! #### struct type 54 -/
structure SFn where
 f0 : ByteArray
 f1 : (List Int)
 f2 : Int
 f3 : (List Int)
 f4 : (List SInstr)
def zFn : SFn := ⟨(⟨#[]⟩ : ByteArray), ([] : List Int), (0 : Int), ([] : List Int), ([] : List SInstr)⟩
def kFn : Kd SFn := Kd.iso (Kd.pair Kd.string (Kd.pair (Kd.slice 3 (Kd.int .i64)) (Kd.pair (Kd.int .i64) (Kd.pair (Kd.slice 3 (Kd.int .i64)) (Kd.slice 56 kInstr))))) (fun x : SFn => (x.f0, x.f1, x.f2, x.f3, x.f4))
theorem kFn_open {w : World} {x : SFn} {cs : List Value} (h : kFn.K w x cs) : ∃ A1 c1 A3 c3 A4 c4, cs = [.string x.f0, .slice A1 x.f1.length c1, .int .i64 x.f2, .slice A3 x.f3.length c3, .slice A4 x.f4.length c4] ∧ x.f1.length ≤ c1 ∧ (Kd.int .i64).C w A1 x.f1.length x.f1 ∧ x.f3.length ≤ c3 ∧ (Kd.int .i64).C w A3 x.f3.length x.f3 ∧ x.f4.length ≤ c4 ∧ kInstr.C w A4 x.f4.length x.f4 := by
 obtain ⟨_, _, rfl, rfl, ⟨_, _, rfl, ⟨A1, c1, rfl, l1, g1⟩, ⟨_, _, rfl, rfl, ⟨_, _, rfl, ⟨A3, c3, rfl, l3, g3⟩, ⟨A4, c4, rfl, l4, g4⟩⟩⟩⟩⟩ := h
 exact ⟨A1, c1, A3, c3, A4, c4, rfl, l1, g1, l3, g3, l4, g4⟩
theorem kFn_mk (w : World) (x : SFn) {A1 : Option Addr} {c1 : Nat} (l1 : x.f1.length ≤ c1) (g1 : (Kd.int .i64).C w A1 x.f1.length x.f1) {A3 : Option Addr} {c3 : Nat} (l3 : x.f3.length ≤ c3) (g3 : (Kd.int .i64).C w A3 x.f3.length x.f3) {A4 : Option Addr} {c4 : Nat} (l4 : x.f4.length ≤ c4) (g4 : kInstr.C w A4 x.f4.length x.f4) : kFn.K w x [.string x.f0, .slice A1 x.f1.length c1, .int .i64 x.f2, .slice A3 x.f3.length c3, .slice A4 x.f4.length c4] := ⟨[.string x.f0], [.slice A1 x.f1.length c1, .int .i64 x.f2, .slice A3 x.f3.length c3, .slice A4 x.f4.length c4], rfl, rfl, ⟨[.slice A1 x.f1.length c1], [.int .i64 x.f2, .slice A3 x.f3.length c3, .slice A4 x.f4.length c4], rfl, ⟨A1, c1, rfl, l1, g1⟩, ⟨[.int .i64 x.f2], [.slice A3 x.f3.length c3, .slice A4 x.f4.length c4], rfl, rfl, ⟨[.slice A3 x.f3.length c3], [.slice A4 x.f4.length c4], rfl, ⟨A3, c3, rfl, l3, g3⟩, ⟨A4, c4, rfl, l4, g4⟩⟩⟩⟩⟩
theorem kFn_mkM (w : World) (base : Nat) (ok : Nat → Prop) (x : SFn) {v1 : Value} (g1 : (Kd.int .i64).R 3 w base ok v1 x.f1) {v3 : Value} (g3 : (Kd.int .i64).R 3 w base ok v3 x.f3) {v4 : Value} (g4 : kInstr.R 56 w base ok v4 x.f4) : kFn.M w base ok x [.string x.f0, v1, .int .i64 x.f2, v3, v4] := ⟨[.string x.f0], [v1, .int .i64 x.f2, v3, v4], rfl, rfl, ⟨[v1], [.int .i64 x.f2, v3, v4], rfl, ⟨v1, rfl, g1⟩, ⟨[.int .i64 x.f2], [v3, v4], rfl, rfl, ⟨[v3], [v4], rfl, ⟨v3, rfl, g3⟩, ⟨v4, rfl, g4⟩⟩⟩⟩⟩
def rd_TFn (xs : List SFn) (i : Int) : SFn := xs.getD i.toNat zFn
theorem at_TFn {w : World} {A : Option Addr} {n : Nat} {xs : List SFn} (h : Kd.C kFn w A n xs) (i : Int) (h0 : 0 ≤ i) (h1 : i < n) : ∃ ad A1 c1 A3 c3 A4 c4, A = some ad ∧ w.cell? (ad.add (i.toNat * 5)) = some (.string (rd_TFn xs i).f0) ∧ w.cell? ⟨(ad.add (i.toNat * 5)).block, (ad.add (i.toNat * 5)).off + 1, none⟩ = some (.slice A1 (rd_TFn xs i).f1.length c1) ∧ w.cell? ⟨(ad.add (i.toNat * 5)).block, (ad.add (i.toNat * 5)).off + 2, none⟩ = some (.int .i64 (rd_TFn xs i).f2) ∧ w.cell? ⟨(ad.add (i.toNat * 5)).block, (ad.add (i.toNat * 5)).off + 3, none⟩ = some (.slice A3 (rd_TFn xs i).f3.length c3) ∧ w.cell? ⟨(ad.add (i.toNat * 5)).block, (ad.add (i.toNat * 5)).off + 4, none⟩ = some (.slice A4 (rd_TFn xs i).f4.length c4) ∧ (rd_TFn xs i).f1.length ≤ c1 ∧ (Kd.int .i64).C w A1 (rd_TFn xs i).f1.length (rd_TFn xs i).f1 ∧ (rd_TFn xs i).f3.length ≤ c3 ∧ (Kd.int .i64).C w A3 (rd_TFn xs i).f3.length (rd_TFn xs i).f3 ∧ (rd_TFn xs i).f4.length ≤ c4 ∧ kInstr.C w A4 (rd_TFn xs i).f4.length (rd_TFn xs i).f4 := by
 obtain ⟨ad, c, e, _, hK, hc0⟩ := Kd.C_get h zFn i h0 h1
 have hc : ∀ j u, c[j]? = some u → w.cell? (ad.add (i.toNat * 5 + j)) = some u := hc0
 obtain ⟨A1, c1, A3, c3, A4, c4, rfl, l1, g1, l3, g3, l4, g4⟩ := kFn_open hK
 exact ⟨ad, A1, c1, A3, c3, A4, c4, e, hc 0 _ rfl, by rw [← add_field _ _ 1 (by omega)]; exact hc 1 _ rfl, by rw [← add_field _ _ 2 (by omega)]; exact hc 2 _ rfl, by rw [← add_field _ _ 3 (by omega)]; exact hc 3 _ rfl, by rw [← add_field _ _ 4 (by omega)]; exact hc 4 _ rfl, l1, g1, l3, g3, l4, g4⟩
/-! #### struct type 88 -/
structure SGlob where
 f0 : Int
 f1 : Int
 f2 : Int
def zGlob : SGlob := ⟨(0 : Int), (0 : Int), (0 : Int)⟩
def kGlob : Kd SGlob := Kd.iso (Kd.pair (Kd.int .i64) (Kd.pair (Kd.int .i64) (Kd.int .i64))) (fun x : SGlob => (x.f0, x.f1, x.f2))
theorem kGlob_open {w : World} {x : SGlob} {cs : List Value} (h : kGlob.K w x cs) : cs = [.int .i64 x.f0, .int .i64 x.f1, .int .i64 x.f2] := by
 obtain ⟨_, _, rfl, rfl, ⟨_, _, rfl, rfl, rfl⟩⟩ := h
 exact rfl
theorem kGlob_mk (w : World) (x : SGlob)  : kGlob.K w x [.int .i64 x.f0, .int .i64 x.f1, .int .i64 x.f2] := ⟨[.int .i64 x.f0], [.int .i64 x.f1, .int .i64 x.f2], rfl, rfl, ⟨[.int .i64 x.f1], [.int .i64 x.f2], rfl, rfl, rfl⟩⟩
theorem kGlob_mkM (w : World) (base : Nat) (ok : Nat → Prop) (x : SGlob)  : kGlob.M w base ok x [.int .i64 x.f0, .int .i64 x.f1, .int .i64 x.f2] := ⟨[.int .i64 x.f0], [.int .i64 x.f1, .int .i64 x.f2], rfl, rfl, ⟨[.int .i64 x.f1], [.int .i64 x.f2], rfl, rfl, rfl⟩⟩
def rd_TGlob (xs : List SGlob) (i : Int) : SGlob := xs.getD i.toNat zGlob
theorem at_TGlob {w : World} {A : Option Addr} {n : Nat} {xs : List SGlob} (h : Kd.C kGlob w A n xs) (i : Int) (h0 : 0 ≤ i) (h1 : i < n) : ∃ ad , A = some ad ∧ w.cell? (ad.add (i.toNat * 3)) = some (.int .i64 (rd_TGlob xs i).f0) ∧ w.cell? ⟨(ad.add (i.toNat * 3)).block, (ad.add (i.toNat * 3)).off + 1, none⟩ = some (.int .i64 (rd_TGlob xs i).f1) ∧ w.cell? ⟨(ad.add (i.toNat * 3)).block, (ad.add (i.toNat * 3)).off + 2, none⟩ = some (.int .i64 (rd_TGlob xs i).f2) := by
 obtain ⟨ad, c, e, _, hK, hc0⟩ := Kd.C_get h zGlob i h0 h1
 have hc : ∀ j u, c[j]? = some u → w.cell? (ad.add (i.toNat * 3 + j)) = some u := hc0
 obtain rfl := kGlob_open hK
 exact ⟨ad, e, hc 0 _ rfl, by rw [← add_field _ _ 1 (by omega)]; exact hc 1 _ rfl, by rw [← add_field _ _ 2 (by omega)]; exact hc 2 _ rfl⟩
open Go
set_option maxRecDepth 100000
set_option maxHeartbeats 2000000
/-- the function K is entered when it is called -/
def Enters (K : Nat) : Prop := ∀ (args : Array Value) (w : World), (callFunc K args).run Tryz.prog w = .ok (.enter K args) w
/-- a call of a predicate handed over as a value -/
def PCalls (K : Nat) (caps : Array Value) (v : Value) (w : World) (b : Bool) : Prop :=
 Calls Tryz.prog K (#[v] ++ caps) w fun e w' => e = .returned (.bool b) ∧ Below w.heap.size w w'
theorem below_next {w W : World} (h : Below w.heap.size w W) {W' : World} (h' : Below W.heap.size W W') : Below w.heap.size w W' := below_then h h.size h'
theorem int_at {w : World} {A : Option Addr} {l : List Int} (h : Kd.C (Kd.int .i64) w A l.length l) (k : Nat) (hk : k < l.length) : ∃ ad x, A = some ad ∧ w.cell? (ad.add k) = some (.int .i64 x) ∧ Hid (x = l.getD k 0) := by
 obtain ⟨ad, c, e, _, hK, hc⟩ := Kd.C_get h 0 (k : Int) (by omega) (by omega)
 have := hc 0 _ (by rw [show c = [.int .i64 (l.getD k 0)] from hK]; rfl)
 refine ⟨ad, _, e, ?_, rfl⟩
 rw [← this]
 congr 2
 simp [Kd.int, Kd.scalar]
/-- how a list is gone through: none so far, the next is no -/
theorem any_snoc {α : Type} (p : α → Bool) (d : α) (l : List α) (k : Nat) (h : ∀ j, j < k → p (l.getD j d) = false) (hk : p (l.getD k d) = false) : ∀ j, j < k + 1 → p (l.getD j d) = false := by
 intro j hj
 by_cases e : j = k
 ·exact e ▸ hk
 ·exact h j (by omega)
theorem getD_mem {α : Type} (l : List α) (d : α) (k : Nat) (hk : k < l.length) (x : α) (hx : x = l.getD k d) : x ∈ l := by
 subst hx
 simp [List.getD_eq_getElem?_getD, hk]
theorem any_none {α : Type} (p : α → Bool) (d : α) (l : List α) (h : ∀ j, j < l.length → p (l.getD j d) = false) : l.any p = false := by
 rw [List.any_eq_false]
 intro x hx
 obtain ⟨j, hj, rfl⟩ := List.getElem_of_mem hx
 have := h j hj
 simp [List.getD_eq_getElem?_getD, hj] at this
 simp [this]
theorem any_some {α : Type} (p : α → Bool) (d : α) (l : List α) (k : Nat) (hk : k < l.length) (h : p (l.getD k d) = true) : l.any p = true := by
 rw [List.any_eq_true]
 refine ⟨l[k], List.getElem_mem hk, ?_⟩
 simpa [List.getD_eq_getElem?_getD, hk] using h
theorem idxInt_any (K : Nat) (p : Int → Bool) (A : Option Addr) (c : Nat) (l : List Int) (w : World) (he : Enters K)
  (hp : ∀ x w, PCalls K #[] (.int .i64 x) w (p x)) (hr : Kd.C (Kd.int .i64) w A l.length l) (hl : l.length ≤ 9223372036854775806) :
  Calls Tryz.prog 155 #[.slice A l.length c, .func (.func K) #[] #[]] w fun e w' => ∃ r : Int, e = .returned (.int .i64 r) ∧ (r = -1 ∧ l.any p = false ∨ 0 ≤ r ∧ l.any p = true) ∧ Below w.heap.size w w' := by
 have HP := Lib.hid hp; clear hp
 have HR := Lib.hid hr; clear hr
 unfold Enters at he
 go_enter Tryz.func155, Tryz.ntmps155
 go_wp2
 go_loopw [8] (fun i w' => ∃ k : Nat, k ≤ l.length ∧ i = .int .i64 k ∧ Hid (∀ j, j < k → p (l.getD j 0) = false) ∧ Hid (Below w.heap.size w w')) (fun i _ => l.length - (intOf i).toNat)
 case atStart => exact ⟨0, by omega, rfl, fun j hj => by omega, Below.refl _ _⟩
 case round =>
  obtain ⟨k, hk, rfl, HJ, HB⟩ := hrel
  by_cases hlt : k < l.length
  ·obtain ⟨ad, x, rfl, hc, HX⟩ := int_at (Kd.C_below HR.out HB.out) k hlt
   go_wp2_with fail
   refine (HP.out x _).mono ?_
   rintro e w1 ⟨rfl, hb⟩
   have HB1 := Lib.hid hb; clear hb
   by_cases hpk : p x = true
   ·have HY := Lib.hid (any_some p 0 l k hlt (HX.out ▸ hpk))
    rw [hpk]
    clear hpk
    go_wp2_with fail
    go_ret
    exact ⟨k, rfl, .inr ⟨by omega, HY.out⟩, below_next HB.out HB1.out⟩
   ·have hpk' := Bool.eq_false_iff.2 hpk
    have HY := Lib.hid (any_snoc p 0 l k HJ.out (HX.out ▸ hpk'))
    rw [hpk']
    clear hpk hpk'
    go_wp2_with fail
    go_roundw
    case rel => exact ⟨k + 1, by omega, by go_num, HY.out, below_next HB.out HB1.out⟩
    case measure => simp [intOf]; omega
  ·obtain rfl : k = l.length := by omega
   have HY := Lib.hid (any_none p 0 l HJ.out)
   go_wp2
   go_ret
   exact ⟨-1, rfl, .inl ⟨rfl, HY.out⟩, HB.out⟩
/-- the value of an element, read in w -/
def VGlob (w : World) (x : SGlob) (v : Value) : Prop := v = .agg #[.int .i64 x.f0, .int .i64 x.f1, .int .i64 x.f2]
theorem idxGlob_any (K : Nat) (caps : Array Value) (p : SGlob → Bool) (A : Option Addr) (c : Nat) (l : List SGlob) (w : World) (he : Enters K)
  (hp : ∀ x v w', x ∈ l → Below w.heap.size w w' → VGlob w' x v → PCalls K caps v w' (p x)) (hr : Kd.C kGlob w A l.length l) (hl : l.length ≤ 9223372036854775806) :
  Calls Tryz.prog 186 #[.slice A l.length c, .func (.func K) #[] caps] w fun e w' => ∃ r : Int, e = .returned (.int .i64 r) ∧ (r = -1 ∧ l.any p = false ∨ 0 ≤ r ∧ l.any p = true) ∧ Below w.heap.size w w' := by
 have HP := Lib.hid hp; clear hp
 have HR := Lib.hid hr; clear hr
 unfold Enters at he
 go_enter Tryz.func186, Tryz.ntmps186
 go_wp2
 go_loopw [8] (fun i w' => ∃ k : Nat, k ≤ l.length ∧ i = .int .i64 k ∧ Hid (∀ j, j < k → p (l.getD j zGlob) = false) ∧ Hid (Below w.heap.size w w')) (fun i _ => l.length - (intOf i).toNat)
 case atStart => exact ⟨0, by omega, rfl, fun j hj => by omega, Below.refl _ _⟩
 case round =>
  obtain ⟨k, hk, rfl, HJ, HB⟩ := hrel
  by_cases hlt : k < l.length
  ·obtain ⟨ad, rfl, h0, h1, h2⟩ := at_TGlob (Kd.C_below HR.out HB.out) (k : Int) (by omega) (by omega)
   obtain ⟨x, hx⟩ : ∃ x, x = rd_TGlob l (k : Int) := ⟨_, rfl⟩
   rw [← hx] at h0 h1 h2 
   simp only [Int.toNat_natCast] at h0 h1 h2
   have HX : Hid (x = l.getD k zGlob) := by rw [hx]; rfl
   clear hx
   go_wp2_with fail
   refine (HP.out x _ _ (getD_mem l zGlob k hlt x HX.out) HB.out rfl).mono ?_
   rintro e w1 ⟨rfl, hb⟩
   have HB1 := Lib.hid hb; clear hb
   by_cases hpk : p x = true
   ·have HY := Lib.hid (any_some p zGlob l k hlt (HX.out ▸ hpk))
    rw [hpk]
    clear hpk
    go_wp2_with fail
    go_ret
    exact ⟨k, rfl, .inr ⟨by omega, HY.out⟩, below_next HB.out HB1.out⟩
   ·have hpk' := Bool.eq_false_iff.2 hpk
    have HY := Lib.hid (any_snoc p zGlob l k HJ.out (HX.out ▸ hpk'))
    rw [hpk']
    clear hpk hpk'
    go_wp2_with fail
    go_roundw
    case rel => exact ⟨k + 1, by omega, by go_num, HY.out, below_next HB.out HB1.out⟩
    case measure => simp [intOf]; omega
  ·obtain rfl : k = l.length := by omega
   have HY := Lib.hid (any_none p zGlob l HJ.out)
   go_wp2
   go_ret
   exact ⟨-1, rfl, .inl ⟨rfl, HY.out⟩, HB.out⟩
/-- the value of an element, read in w -/
def VInstr (w : World) (x : SInstr) (v : Value) : Prop := v = .agg #[.int .i64 x.f0, .int .i64 x.f1, .int .i64 x.f2]
theorem idxInstr_any (K : Nat) (caps : Array Value) (p : SInstr → Bool) (A : Option Addr) (c : Nat) (l : List SInstr) (w : World) (he : Enters K)
  (hp : ∀ x v w', x ∈ l → Below w.heap.size w w' → VInstr w' x v → PCalls K caps v w' (p x)) (hr : Kd.C kInstr w A l.length l) (hl : l.length ≤ 9223372036854775806) :
  Calls Tryz.prog 211 #[.slice A l.length c, .func (.func K) #[] caps] w fun e w' => ∃ r : Int, e = .returned (.int .i64 r) ∧ (r = -1 ∧ l.any p = false ∨ 0 ≤ r ∧ l.any p = true) ∧ Below w.heap.size w w' := by
 have HP := Lib.hid hp; clear hp
 have HR := Lib.hid hr; clear hr
 unfold Enters at he
 go_enter Tryz.func211, Tryz.ntmps211
 go_wp2
 go_loopw [8] (fun i w' => ∃ k : Nat, k ≤ l.length ∧ i = .int .i64 k ∧ Hid (∀ j, j < k → p (l.getD j zInstr) = false) ∧ Hid (Below w.heap.size w w')) (fun i _ => l.length - (intOf i).toNat)
 case atStart => exact ⟨0, by omega, rfl, fun j hj => by omega, Below.refl _ _⟩
 case round =>
  obtain ⟨k, hk, rfl, HJ, HB⟩ := hrel
  by_cases hlt : k < l.length
  ·obtain ⟨ad, rfl, h0, h1, h2⟩ := at_TInstr (Kd.C_below HR.out HB.out) (k : Int) (by omega) (by omega)
   obtain ⟨x, hx⟩ : ∃ x, x = rd_TInstr l (k : Int) := ⟨_, rfl⟩
   rw [← hx] at h0 h1 h2 
   simp only [Int.toNat_natCast] at h0 h1 h2
   have HX : Hid (x = l.getD k zInstr) := by rw [hx]; rfl
   clear hx
   go_wp2_with fail
   refine (HP.out x _ _ (getD_mem l zInstr k hlt x HX.out) HB.out rfl).mono ?_
   rintro e w1 ⟨rfl, hb⟩
   have HB1 := Lib.hid hb; clear hb
   by_cases hpk : p x = true
   ·have HY := Lib.hid (any_some p zInstr l k hlt (HX.out ▸ hpk))
    rw [hpk]
    clear hpk
    go_wp2_with fail
    go_ret
    exact ⟨k, rfl, .inr ⟨by omega, HY.out⟩, below_next HB.out HB1.out⟩
   ·have hpk' := Bool.eq_false_iff.2 hpk
    have HY := Lib.hid (any_snoc p zInstr l k HJ.out (HX.out ▸ hpk'))
    rw [hpk']
    clear hpk hpk'
    go_wp2_with fail
    go_roundw
    case rel => exact ⟨k + 1, by omega, by go_num, HY.out, below_next HB.out HB1.out⟩
    case measure => simp [intOf]; omega
  ·obtain rfl : k = l.length := by omega
   have HY := Lib.hid (any_none p zInstr l HJ.out)
   go_wp2
   go_ret
   exact ⟨-1, rfl, .inl ⟨rfl, HY.out⟩, HB.out⟩
/-- the value of an element, read in w -/
def VFn (w : World) (x : SFn) (v : Value) : Prop := ∃ A1 c1, ∃ A3 c3, ∃ A4 c4, v = .agg #[.string x.f0, .slice A1 x.f1.length c1, .int .i64 x.f2, .slice A3 x.f3.length c3, .slice A4 x.f4.length c4] ∧ x.f1.length ≤ c1 ∧ (Kd.int .i64).C w A1 x.f1.length x.f1 ∧ x.f3.length ≤ c3 ∧ (Kd.int .i64).C w A3 x.f3.length x.f3 ∧ x.f4.length ≤ c4 ∧ kInstr.C w A4 x.f4.length x.f4
theorem idxFn_any (K : Nat) (caps : Array Value) (p : SFn → Bool) (A : Option Addr) (c : Nat) (l : List SFn) (w : World) (he : Enters K)
  (hp : ∀ x v w', x ∈ l → Below w.heap.size w w' → VFn w' x v → PCalls K caps v w' (p x)) (hr : Kd.C kFn w A l.length l) (hl : l.length ≤ 9223372036854775806) :
  Calls Tryz.prog 46 #[.slice A l.length c, .func (.func K) #[] caps] w fun e w' => ∃ r : Int, e = .returned (.int .i64 r) ∧ (r = -1 ∧ l.any p = false ∨ 0 ≤ r ∧ l.any p = true) ∧ Below w.heap.size w w' := by
 have HP := Lib.hid hp; clear hp
 have HR := Lib.hid hr; clear hr
 unfold Enters at he
 go_enter Tryz.func46, Tryz.ntmps46
 go_wp2
 go_loopw [8] (fun i w' => ∃ k : Nat, k ≤ l.length ∧ i = .int .i64 k ∧ Hid (∀ j, j < k → p (l.getD j zFn) = false) ∧ Hid (Below w.heap.size w w')) (fun i _ => l.length - (intOf i).toNat)
 case atStart => exact ⟨0, by omega, rfl, fun j hj => by omega, Below.refl _ _⟩
 case round =>
  obtain ⟨k, hk, rfl, HJ, HB⟩ := hrel
  by_cases hlt : k < l.length
  ·obtain ⟨ad, A1, c1, A3, c3, A4, c4, rfl, h0, h1, h2, h3, h4, l1, g1, l3, g3, l4, g4⟩ := at_TFn (Kd.C_below HR.out HB.out) (k : Int) (by omega) (by omega)
   obtain ⟨x, hx⟩ : ∃ x, x = rd_TFn l (k : Int) := ⟨_, rfl⟩
   rw [← hx] at h0 h1 h2 h3 h4 l1 g1 l3 g3 l4 g4
   simp only [Int.toNat_natCast] at h0 h1 h2 h3 h4
   have HX : Hid (x = l.getD k zFn) := by rw [hx]; rfl
   clear hx
   have G1 := Lib.hid g1; clear g1
   have G3 := Lib.hid g3; clear g3
   have G4 := Lib.hid g4; clear g4
   go_wp2_with fail
   refine (HP.out x _ _ (getD_mem l zFn k hlt x HX.out) HB.out ⟨A1, c1, A3, c3, A4, c4, rfl, l1, G1.out, l3, G3.out, l4, G4.out⟩).mono ?_
   rintro e w1 ⟨rfl, hb⟩
   have HB1 := Lib.hid hb; clear hb
   by_cases hpk : p x = true
   ·have HY := Lib.hid (any_some p zFn l k hlt (HX.out ▸ hpk))
    rw [hpk]
    clear hpk
    go_wp2_with fail
    go_ret
    exact ⟨k, rfl, .inr ⟨by omega, HY.out⟩, below_next HB.out HB1.out⟩
   ·have hpk' := Bool.eq_false_iff.2 hpk
    have HY := Lib.hid (any_snoc p zFn l k HJ.out (HX.out ▸ hpk'))
    rw [hpk']
    clear hpk hpk'
    go_wp2_with fail
    go_roundw
    case rel => exact ⟨k + 1, by omega, by go_num, HY.out, below_next HB.out HB1.out⟩
    case measure => simp [intOf]; omega
  ·obtain rfl : k = l.length := by omega
   have HY := Lib.hid (any_none p zFn l HJ.out)
   go_wp2
   go_ret
   exact ⟨-1, rfl, .inl ⟨rfl, HY.out⟩, HB.out⟩
/-- the value of an element, read in w -/
def VSys (w : World) (x : SSys) (v : Value) : Prop := ∃ A1 c1, v = .agg #[.string x.f0, .slice A1 x.f1.length c1, .int .i64 x.f2] ∧ x.f1.length ≤ c1 ∧ (Kd.int .i64).C w A1 x.f1.length x.f1
theorem idxSys_any (K : Nat) (caps : Array Value) (p : SSys → Bool) (A : Option Addr) (c : Nat) (l : List SSys) (w : World) (he : Enters K)
  (hp : ∀ x v w', x ∈ l → Below w.heap.size w w' → VSys w' x v → PCalls K caps v w' (p x)) (hr : Kd.C kSys w A l.length l) (hl : l.length ≤ 9223372036854775806) :
  Calls Tryz.prog 91 #[.slice A l.length c, .func (.func K) #[] caps] w fun e w' => ∃ r : Int, e = .returned (.int .i64 r) ∧ (r = -1 ∧ l.any p = false ∨ 0 ≤ r ∧ l.any p = true) ∧ Below w.heap.size w w' := by
 have HP := Lib.hid hp; clear hp
 have HR := Lib.hid hr; clear hr
 unfold Enters at he
 go_enter Tryz.func91, Tryz.ntmps91
 go_wp2
 go_loopw [8] (fun i w' => ∃ k : Nat, k ≤ l.length ∧ i = .int .i64 k ∧ Hid (∀ j, j < k → p (l.getD j zSys) = false) ∧ Hid (Below w.heap.size w w')) (fun i _ => l.length - (intOf i).toNat)
 case atStart => exact ⟨0, by omega, rfl, fun j hj => by omega, Below.refl _ _⟩
 case round =>
  obtain ⟨k, hk, rfl, HJ, HB⟩ := hrel
  by_cases hlt : k < l.length
  ·obtain ⟨ad, A1, c1, rfl, h0, h1, h2, l1, g1⟩ := at_TSys (Kd.C_below HR.out HB.out) (k : Int) (by omega) (by omega)
   obtain ⟨x, hx⟩ : ∃ x, x = rd_TSys l (k : Int) := ⟨_, rfl⟩
   rw [← hx] at h0 h1 h2 l1 g1
   simp only [Int.toNat_natCast] at h0 h1 h2
   have HX : Hid (x = l.getD k zSys) := by rw [hx]; rfl
   clear hx
   have G1 := Lib.hid g1; clear g1
   go_wp2_with fail
   refine (HP.out x _ _ (getD_mem l zSys k hlt x HX.out) HB.out ⟨A1, c1, rfl, l1, G1.out⟩).mono ?_
   rintro e w1 ⟨rfl, hb⟩
   have HB1 := Lib.hid hb; clear hb
   by_cases hpk : p x = true
   ·have HY := Lib.hid (any_some p zSys l k hlt (HX.out ▸ hpk))
    rw [hpk]
    clear hpk
    go_wp2_with fail
    go_ret
    exact ⟨k, rfl, .inr ⟨by omega, HY.out⟩, below_next HB.out HB1.out⟩
   ·have hpk' := Bool.eq_false_iff.2 hpk
    have HY := Lib.hid (any_snoc p zSys l k HJ.out (HX.out ▸ hpk'))
    rw [hpk']
    clear hpk hpk'
    go_wp2_with fail
    go_roundw
    case rel => exact ⟨k + 1, by omega, by go_num, HY.out, below_next HB.out HB1.out⟩
    case measure => simp [intOf]; omega
  ·obtain rfl : k = l.length := by omega
   have HY := Lib.hid (any_none p zSys l HJ.out)
   go_wp2
   go_ret
   exact ⟨-1, rfl, .inl ⟨rfl, HY.out⟩, HB.out⟩
theorem conInt_any (K : Nat) (p : Int → Bool) (A : Option Addr) (c : Nat) (l : List Int) (w : World) (he : Enters K)
  (hp : ∀ x w, PCalls K #[] (.int .i64 x) w (p x)) (hr : Kd.C (Kd.int .i64) w A l.length l) (hl : l.length ≤ 9223372036854775806) :
  Calls Tryz.prog 105 #[.slice A l.length c, .func (.func K) #[] #[]] w fun e w' => e = .returned (.bool (l.any p)) ∧ Below w.heap.size w w' := by
 have HC := Lib.hid (idxInt_any K p A c l w he hp hr hl); clear hp hr he
 go_enter Tryz.func105, Tryz.ntmps105
 go_wp2_with fail
 refine HC.out.mono ?_
 rintro e w1 ⟨r, rfl, hr, hb⟩
 have HB := Lib.hid hb; clear hb HC
 have HR := Lib.hid hr; clear hr
 by_cases h0 : 0 ≤ r
 ·have HY : Hid (l.any p = true) := by have := HR.out; rcases this with h | h; omega; exact h.2
  go_wp2_with fail
  go_ret
  exact ⟨by rw [HY.out]; first | rfl | (simp; omega), HB.out⟩
 ·have HY : Hid (l.any p = false) := by have := HR.out; rcases this with h | h; exact h.2; omega
  go_wp2_with fail
  go_ret
  exact ⟨by rw [HY.out]; first | rfl | (simp; omega), HB.out⟩
theorem conGlob_any (K : Nat) (caps : Array Value) (p : SGlob → Bool) (A : Option Addr) (c : Nat) (l : List SGlob) (w : World) (he : Enters K)
  (hp : ∀ x v w', x ∈ l → Below w.heap.size w w' → VGlob w' x v → PCalls K caps v w' (p x)) (hr : Kd.C kGlob w A l.length l) (hl : l.length ≤ 9223372036854775806) :
  Calls Tryz.prog 163 #[.slice A l.length c, .func (.func K) #[] caps] w fun e w' => e = .returned (.bool (l.any p)) ∧ Below w.heap.size w w' := by
 have HC := Lib.hid (idxGlob_any K caps p A c l w he hp hr hl); clear hp hr he
 go_enter Tryz.func163, Tryz.ntmps163
 go_wp2_with fail
 refine HC.out.mono ?_
 rintro e w1 ⟨r, rfl, hr, hb⟩
 have HB := Lib.hid hb; clear hb HC
 have HR := Lib.hid hr; clear hr
 by_cases h0 : 0 ≤ r
 ·have HY : Hid (l.any p = true) := by have := HR.out; rcases this with h | h; omega; exact h.2
  go_wp2_with fail
  go_ret
  exact ⟨by rw [HY.out]; first | rfl | (simp; omega), HB.out⟩
 ·have HY : Hid (l.any p = false) := by have := HR.out; rcases this with h | h; exact h.2; omega
  go_wp2_with fail
  go_ret
  exact ⟨by rw [HY.out]; first | rfl | (simp; omega), HB.out⟩
theorem conInstr_any (K : Nat) (caps : Array Value) (p : SInstr → Bool) (A : Option Addr) (c : Nat) (l : List SInstr) (w : World) (he : Enters K)
  (hp : ∀ x v w', x ∈ l → Below w.heap.size w w' → VInstr w' x v → PCalls K caps v w' (p x)) (hr : Kd.C kInstr w A l.length l) (hl : l.length ≤ 9223372036854775806) :
  Calls Tryz.prog 190 #[.slice A l.length c, .func (.func K) #[] caps] w fun e w' => e = .returned (.bool (l.any p)) ∧ Below w.heap.size w w' := by
 have HC := Lib.hid (idxInstr_any K caps p A c l w he hp hr hl); clear hp hr he
 go_enter Tryz.func190, Tryz.ntmps190
 go_wp2_with fail
 refine HC.out.mono ?_
 rintro e w1 ⟨r, rfl, hr, hb⟩
 have HB := Lib.hid hb; clear hb HC
 have HR := Lib.hid hr; clear hr
 by_cases h0 : 0 ≤ r
 ·have HY : Hid (l.any p = true) := by have := HR.out; rcases this with h | h; omega; exact h.2
  go_wp2_with fail
  go_ret
  exact ⟨by rw [HY.out]; first | rfl | (simp; omega), HB.out⟩
 ·have HY : Hid (l.any p = false) := by have := HR.out; rcases this with h | h; exact h.2; omega
  go_wp2_with fail
  go_ret
  exact ⟨by rw [HY.out]; first | rfl | (simp; omega), HB.out⟩
theorem conFn_any (K : Nat) (caps : Array Value) (p : SFn → Bool) (A : Option Addr) (c : Nat) (l : List SFn) (w : World) (he : Enters K)
  (hp : ∀ x v w', x ∈ l → Below w.heap.size w w' → VFn w' x v → PCalls K caps v w' (p x)) (hr : Kd.C kFn w A l.length l) (hl : l.length ≤ 9223372036854775806) :
  Calls Tryz.prog 166 #[.slice A l.length c, .func (.func K) #[] caps] w fun e w' => e = .returned (.bool (l.any p)) ∧ Below w.heap.size w w' := by
 have HC := Lib.hid (idxFn_any K caps p A c l w he hp hr hl); clear hp hr he
 go_enter Tryz.func166, Tryz.ntmps166
 go_wp2_with fail
 refine HC.out.mono ?_
 rintro e w1 ⟨r, rfl, hr, hb⟩
 have HB := Lib.hid hb; clear hb HC
 have HR := Lib.hid hr; clear hr
 by_cases h0 : 0 ≤ r
 ·have HY : Hid (l.any p = true) := by have := HR.out; rcases this with h | h; omega; exact h.2
  go_wp2_with fail
  go_ret
  exact ⟨by rw [HY.out]; first | rfl | (simp; omega), HB.out⟩
 ·have HY : Hid (l.any p = false) := by have := HR.out; rcases this with h | h; exact h.2; omega
  go_wp2_with fail
  go_ret
  exact ⟨by rw [HY.out]; first | rfl | (simp; omega), HB.out⟩
theorem conSys_any (K : Nat) (caps : Array Value) (p : SSys → Bool) (A : Option Addr) (c : Nat) (l : List SSys) (w : World) (he : Enters K)
  (hp : ∀ x v w', x ∈ l → Below w.heap.size w w' → VSys w' x v → PCalls K caps v w' (p x)) (hr : Kd.C kSys w A l.length l) (hl : l.length ≤ 9223372036854775806) :
  Calls Tryz.prog 62 #[.slice A l.length c, .func (.func K) #[] caps] w fun e w' => e = .returned (.bool (l.any p)) ∧ Below w.heap.size w w' := by
 have HC := Lib.hid (idxSys_any K caps p A c l w he hp hr hl); clear hp hr he
 go_enter Tryz.func62, Tryz.ntmps62
 go_wp2_with fail
 refine HC.out.mono ?_
 rintro e w1 ⟨r, rfl, hr, hb⟩
 have HB := Lib.hid hb; clear hb HC
 have HR := Lib.hid hr; clear hr
 by_cases h0 : 0 ≤ r
 ·have HY : Hid (l.any p = true) := by have := HR.out; rcases this with h | h; omega; exact h.2
  go_wp2_with fail
  go_ret
  exact ⟨by rw [HY.out]; first | rfl | (simp; omega), HB.out⟩
 ·have HY : Hid (l.any p = false) := by have := HR.out; rcases this with h | h; exact h.2; omega
  go_wp2_with fail
  go_ret
  exact ⟨by rw [HY.out]; first | rfl | (simp; omega), HB.out⟩
theorem ret_bool {a b : Bool} (h : a = b) : Ending.returned (.bool a) = .returned (.bool b) := by rw [h]
theorem ret_int64 {a b : Int} (h : a = b) : Ending.returned (.int .i64 a) = .returned (.int .i64 b) := by rw [h]
/-- a call's Bool under a name, what is known of it hidden -/
theorem asB {f : FuncId} {args : Array Value} {w : World} {B : Bool} {R : World → Prop} (h : Calls Tryz.prog f args w fun e w' => e = .returned (.bool B) ∧ R w') :
  Calls Tryz.prog f args w fun e w' => ∃ b, e = .returned (.bool b) ∧ Hid (b = B) ∧ Hid (R w') := h.mono fun e w' ⟨he, hr⟩ => ⟨B, he, rfl, hr⟩
theorem asI {f : FuncId} {args : Array Value} {w : World} {k : IntKind} {n : Int} {R : World → Prop} (h : Calls Tryz.prog f args w fun e w' => e = .returned (.int k n) ∧ R w') :
  Calls Tryz.prog f args w fun e w' => ∃ m, e = .returned (.int k m) ∧ Hid (m = n) ∧ Hid (R w') := h.mono fun e w' ⟨he, hr⟩ => ⟨n, he, rfl, hr⟩
def typedB (t : Int) : Bool := decide (1 ≤ t ∧ t ≤ 4)
def letterB (c : Int) : Bool := decide (97 ≤ c ∧ c ≤ 122) || c == 95
def digitB (c : Int) : Bool := decide (48 ≤ c ∧ c ≤ 57)
def inNameB (c : Int) : Bool := letterB c || digitB c
theorem typed_any (t : Int) (w : World) : Calls Tryz.prog 187 #[.int .i64 t] w fun e w' => e = .returned (.bool (typedB t)) ∧ w = w' := by
 go_enter Tryz.func187, Tryz.ntmps187
 go_wp2
 all_goals go_ret
 all_goals exact ⟨ret_bool (by unfold typedB; rw [Bool.eq_iff_iff]; simp; try omega), rfl⟩
theorem letter_any (t : Int) (w : World) : Calls Tryz.prog 206 #[.int .u8 t] w fun e w' => e = .returned (.bool (letterB t)) ∧ w = w' := by
 go_enter Tryz.func206, Tryz.ntmps206
 go_wp2
 all_goals go_ret
 all_goals exact ⟨ret_bool (by unfold letterB; rw [Bool.eq_iff_iff]; simp; try omega), rfl⟩
theorem digit_any (t : Int) (w : World) : Calls Tryz.prog 216 #[.int .u8 t] w fun e w' => e = .returned (.bool (digitB t)) ∧ w = w' := by
 go_enter Tryz.func216, Tryz.ntmps216
 go_wp2
 all_goals go_ret
 all_goals exact ⟨ret_bool (by unfold digitB; rw [Bool.eq_iff_iff]; simp; try omega), rfl⟩
theorem inName_any (t : Int) (w : World) : Calls Tryz.prog 208 #[.int .u8 t] w fun e w' => e = .returned (.bool (inNameB t)) ∧ w = w' := by
 cases hl : letterB t
 all_goals
  have HL := Lib.hid hl
  clear hl
  go_enter Tryz.func208, Tryz.ntmps208
  go_wp2_with (first | (go_at_call 206; refine (letter_any _ _).mono ?_; rintro e w' ⟨rfl, rfl⟩; rw [HL.out]) | (go_at_call 216; refine (digit_any _ _).mono ?_; rintro e w' ⟨rfl, rfl⟩))
  go_ret
  exact ⟨ret_bool (by unfold inNameB; rw [HL.out]; simp), rfl⟩
def wordB (s : ByteArray) : Bool := s.toList == [98, 111, 111, 108] || s.toList == [101, 108, 115, 101] || s.toList == [101, 110, 116] || s.toList == [102, 97, 108, 115, 101] || s.toList == [102, 105, 120] || s.toList == [102, 110] || s.toList == [105, 102] || s.toList == [105, 110, 116] || s.toList == [108, 101, 116] || s.toList == [110, 117, 108, 108] || s.toList == [114, 101, 116, 117, 114, 110] || s.toList == [116, 114, 117, 101] || s.toList == [118, 97, 114] || s.toList == [119, 104, 105, 108, 101]
theorem word_any (s : ByteArray) (w : World) : Calls Tryz.prog 209 #[.string s] w fun e w' => e = .returned (.bool (wordB s)) ∧ w = w' := by
 go_enter Tryz.func209, Tryz.ntmps209
 go_wp2
 all_goals go_ret
 all_goals exact ⟨ret_bool (by unfold wordB; simp_all), rfl⟩
/-- how many bytes from the front on may be -/
def runN (p : Int → Bool) : List UInt8 → Nat
 | [] => 0
 | c :: r => if p c.toNat then runN p r + 1 else 0
theorem runN_at (p : Int → Bool) (l : List UInt8) (k : Nat) (hk : k < l.length) (h : ∀ j (hj : j < l.length), j < k → p (l[j].toNat) = true) (hs : p (l[k].toNat) = false) : runN p l = k := by
 induction l generalizing k with
 | nil => simp at hk
 | cons c r ih =>
  cases k with
  | zero => simp at hs; simp [runN, hs]
  | succ k =>
   have h0 := h 0 (by simp) (by omega)
   simp at h0
   have := ih k (by simpa using hk) (fun j hj hjk => by have q := h (j + 1) (by simpa using hj) (by omega); rwa [List.getElem_cons_succ] at q) (by simpa using hs)
   simp [runN, h0, this]
theorem runN_all (p : Int → Bool) (l : List UInt8) (h : ∀ j (hj : j < l.length), p (l[j].toNat) = true) : runN p l = l.length := by
 induction l with
 | nil => rfl
 | cons c r ih =>
  have h0 := h 0 (by simp)
  simp at h0
  have := ih (fun j hj => by have q := h (j + 1) (by simpa using hj); rwa [List.getElem_cons_succ] at q)
  simp [runN, h0, this]
theorem run_any (K : Nat) (caps : Array Value) (p : Int → Bool) (s : ByteArray) (w : World) (he : Enters K) (hp : ∀ x w, PCalls K caps (.int .u8 x) w (p x)) (hs : s.size ≤ 9223372036854775806) :
  Calls Tryz.prog 207 #[.string s, .func (.func K) #[] caps] w fun e w' => e = .returned (.int .i64 (runN p s.data.toList)) ∧ Below w.heap.size w w' := by
 have HP := Lib.hid hp; clear hp
 unfold Enters at he
 go_enter Tryz.func207, Tryz.ntmps207
 go_wp2
 go_loopw [8] (fun i w' => ∃ k : Nat, k ≤ s.size ∧ i = .int .i64 k ∧ Hid (∀ j (hj : j < s.data.toList.length), j < k → p (s.data.toList[j].toNat) = true) ∧ Hid (Below w.heap.size w w')) (fun i _ => s.size - (intOf i).toNat)
 case atStart => exact ⟨0, by omega, rfl, fun j _ hj => by omega, Below.refl _ _⟩
 case round =>
  obtain ⟨k, hk, rfl, HJ, HB⟩ := hrel
  by_cases hlt : k < s.size
  ·go_wp2_with fail
   refine (HP.out _ _).mono ?_
   rintro e w1 ⟨rfl, hb⟩
   have HB1 := Lib.hid hb; clear hb
   have hat : s.data.toList[k]'(by simpa using hlt) = s[k] := rfl
   by_cases hpk : p (s[k].toNat) = true
   ·have HY : Hid (∀ j (hj : j < s.data.toList.length), j < k + 1 → p (s.data.toList[j].toNat) = true) := by
     intro j hj hjk
     by_cases e : j = k
     ·subst e; rw [hat]; exact hpk
     ·exact HJ.out j hj (by omega)
    rw [hpk]
    clear hpk hat
    go_wp2_with fail
    go_roundw
    case rel => exact ⟨k + 1, by omega, by go_num, HY.out, below_next HB.out HB1.out⟩
    case measure => simp [intOf]; omega
   ·have hpk' := Bool.eq_false_iff.2 hpk
    have HY : Hid (runN p s.data.toList = k) := runN_at p _ k (by simpa using hlt) HJ.out (by rw [hat]; exact hpk')
    rw [hpk']
    clear hpk hpk' hat
    go_wp2_with fail
    go_ret
    exact ⟨ret_int64 (by rw [HY.out]), below_next HB.out HB1.out⟩
  ·obtain rfl : k = s.size := by omega
   go_wp2_with fail
   go_ret
   exact ⟨ret_int64 (by rw [runN_all p _ (fun j hj => HJ.out j hj (by simpa using hj))]; simp), HB.out⟩
theorem en_inName : Enters 208 := fun args w => enters_ Tryz.func208 (by kernel_rfl) rfl args w
def nameB (s : ByteArray) : Bool := decide (0 < s.size) && decide (s.size ≤ 24) && letterB (bt s 0) && (runN inNameB s.data.toList == s.size) && !wordB s
theorem inName_p (x : Int) (w : World) : PCalls 208 #[] (.int .u8 x) w (inNameB x) := (inName_any x w).mono fun e w' ⟨he, hw⟩ => ⟨he, hw ▸ Below.refl _ _⟩
theorem size_pos_ne (s : ByteArray) (h : 0 < s.size) : (s.toList == []) = false ∧ s.toList.isEmpty = false := by
 have : s.toList ≠ [] := by
  intro e
  rw [ByteArray.toList_eq] at e
  have h2 : s.data.toList.length = 0 := by rw [e]; rfl
  have h3 : s.data.size = 0 := by simpa using h2
  exact absurd (show s.size = 0 from h3) (by omega)
 exact ⟨by simpa using this, by simpa using this⟩
theorem Name_any (s : ByteArray) (w : World) (hs : s.size ≤ 9223372036854775806) : Calls Tryz.prog 188 #[.string s] w fun e w' => e = .returned (.bool (nameB s)) ∧ Below w.heap.size w w' := by
  have HB := Lib.hid (Below.refl w.heap.size w)
  by_cases h0 : 0 < s.size
  · obtain ⟨hn, ho⟩ := size_pos_ne s h0
    by_cases h24 : s.size ≤ 24
    · have hq : ((s[0].toNat : Nat) : Int) = bt s 0 := bt_at s 0 h0
      have HQ := Lib.hid hq; clear hq
      go_enter Tryz.func188, Tryz.ntmps188
      go_wp2_with fail
      refine (asB (letter_any _ _)).mono ?_
      rintro e w1 ⟨b, rfl, HL, HW⟩
      obtain rfl := HW.out
      clear HW
      cases b
      · have HN := Lib.hid (show nameB s = false from by unfold nameB; rw [← HQ.out, ← HL.out]; simp)
        go_wp2_with fail
        go_ret
        exact ⟨ret_bool (by rw [HN.out]), HB.out⟩
      · go_wp2_with fail
        refine (asI (run_any 208 #[] inNameB s _ en_inName inName_p hs)).mono ?_
        rintro e w2 ⟨n, rfl, HR, HB2⟩
        by_cases hr : n = s.size
        · have hr' : (n == (s.size : Int)) = true := by simpa using hr
          have HR' := Lib.hid hr; clear hr
          go_wp2_with fail
          refine (asB (word_any s _)).mono ?_
          rintro e w3 ⟨b, rfl, HW, HE⟩
          obtain rfl := HE.out
          clear HE
          have HN := Lib.hid (show nameB s = !b from by unfold nameB; rw [← HQ.out, ← HL.out, ← HW.out]; have := HR.out; have := HR'.out; have hz : runN inNameB s.data.toList = s.size := by omega
                                                        simp [hz, h0, h24])
          go_wp2_with fail
          go_ret
          exact ⟨ret_bool (by rw [HN.out]), HB2.out⟩
        · have hr' : (n == (s.size : Int)) = false := by simpa using hr
          have HN := Lib.hid (show nameB s = false from by unfold nameB; have := HR.out; have hz : ¬ runN inNameB s.data.toList = s.size := by omega
                                                           simp [hz])
          clear hr
          go_wp2_with fail
          go_ret
          exact ⟨ret_bool (by rw [HN.out]), HB2.out⟩
    · have HN := Lib.hid (show nameB s = false from by unfold nameB; simp [h24])
      go_enter Tryz.func188, Tryz.ntmps188
      go_wp2_with fail
      go_ret
      exact ⟨ret_bool (by rw [HN.out]), HB.out⟩
  · have HN := Lib.hid (show nameB s = false from by unfold nameB; simp [h0])
    obtain rfl : s = ⟨#[]⟩ := by
      have : s.data.size = 0 := by simpa using h0
      have := Array.eq_empty_of_size_eq_zero this
      cases s
      simp_all
    go_enter Tryz.func188, Tryz.ntmps188
    go_wp2_with fail
    go_ret
    exact ⟨ret_bool (by rw [HN.out]), HB.out⟩
theorem en_types1 : Enters 210 := fun args w => enters_ Tryz.func210 (by kernel_rfl) rfl args w
theorem types1_any (t : Int) (w : World) : Calls Tryz.prog 210 #[.int .i64 t] w fun e w' => e = .returned (.bool (!typedB t)) ∧ w = w' := by
 go_enter Tryz.func210, Tryz.ntmps210
 go_wp2_with (go_at_call 187; refine (typed_any _ _).mono ?_; rintro e w' ⟨rfl, rfl⟩)
 go_ret
 exact ⟨rfl, rfl⟩
def typesB (l : List Int) : Bool := !l.any fun t => !typedB t
theorem types_any (A : Option Addr) (c : Nat) (l : List Int) (w : World) (hr : Kd.C (Kd.int .i64) w A l.length l) (hl : l.length ≤ 9223372036854775806) :
  Calls Tryz.prog 189 #[.slice A l.length c] w fun e w' => e = .returned (.bool (typesB l)) ∧ Below w.heap.size w w' := by
 have HC := Lib.hid (conInt_any 210 (fun t => !typedB t) A c l w en_types1 (fun x w => (types1_any x w).mono fun e w' ⟨he, hw⟩ => ⟨he, hw ▸ Below.refl _ _⟩) hr hl)
 clear hr
 go_enter Tryz.func189, Tryz.ntmps189
 go_wp2_with fail
 refine (asB HC.out).mono ?_
 rintro e w1 ⟨b, rfl, HBB, HW⟩
 go_wp2_with fail
 go_ret
 exact ⟨ret_bool (by unfold typesB; rw [← HBB.out]), HW.out⟩
def globB (g : SGlob) : Bool := typedB g.f0 && decide (0 ≤ g.f1 ∧ g.f1 ≤ 256) && (!(decide (0 < g.f1 ∨ g.f0 = 4 ∨ g.f0 = 3)) || decide (0 ≤ g.f2 ∧ g.f2 ≤ if 0 < g.f1 ∨ g.f0 = 4 then 0 else 1))
theorem glob_any (g : SGlob) (w : World) : Calls Tryz.prog 165 #[.agg #[.int .i64 g.f0, .int .i64 g.f1, .int .i64 g.f2]] w fun e w' => e = .returned (.bool (globB g)) ∧ Below w.heap.size w w' := by
 obtain ⟨a, b, c⟩ := g
 simp only
 by_cases h1 : 0 < b
 ·go_enter Tryz.func165, Tryz.ntmps165
  go_wp2_with (go_at_call 187; refine (asB (typed_any _ _)).mono ?_; rintro e w' ⟨bb, rfl, HT, HW⟩; obtain rfl := HW.out; cases bb)
  all_goals go_ret
  all_goals exact ⟨ret_bool (by unfold globB; rw [← HT.out, Bool.eq_iff_iff]; simp; try omega), below_alloc (Below.refl _ _) _⟩
 ·by_cases h4 : a = 4
  ·subst h4
   go_enter Tryz.func165, Tryz.ntmps165
   go_wp2_with (go_at_call 187; refine (asB (typed_any _ _)).mono ?_; rintro e w' ⟨bb, rfl, HT, HW⟩; obtain rfl := HW.out; cases bb)
   all_goals go_ret
   all_goals exact ⟨ret_bool (by unfold globB; rw [← HT.out, Bool.eq_iff_iff]; simp; try omega), below_alloc (Below.refl _ _) _⟩
  ·by_cases h3 : a = 3
   ·subst h3
    go_enter Tryz.func165, Tryz.ntmps165
    go_wp2_with (go_at_call 187; refine (asB (typed_any _ _)).mono ?_; rintro e w' ⟨bb, rfl, HT, HW⟩; obtain rfl := HW.out; cases bb)
    all_goals go_ret
    all_goals exact ⟨ret_bool (by unfold globB; rw [← HT.out, Bool.eq_iff_iff]; simp; try omega), below_alloc (Below.refl _ _) _⟩
   ·have e4 : (a == 4) = false := by simpa using h4
    have e3 : (a == 3) = false := by simpa using h3
    have H4 := Lib.hid h4
    have H3 := Lib.hid h3
    clear h4 h3
    go_enter Tryz.func165, Tryz.ntmps165
    go_wp2_with (go_at_call 187; refine (asB (typed_any _ _)).mono ?_; rintro e w' ⟨bb, rfl, HT, HW⟩; obtain rfl := HW.out; cases bb)
    all_goals go_ret
    all_goals exact ⟨ret_bool (by have := H4.out; have := H3.out; unfold globB; rw [← HT.out, Bool.eq_iff_iff]; simp; try omega), below_alloc (Below.refl _ _) _⟩
theorem en_ok1 : Enters 164 := fun args w => enters_ Tryz.func164 (by kernel_rfl) rfl args w
theorem ok1_any (g : SGlob) (v : Value) (w : World) (hv : VGlob w g v) : Calls Tryz.prog 164 #[v] w fun e w' => e = .returned (.bool (!globB g)) ∧ Below w.heap.size w w' := by
 obtain rfl := hv
 go_enter Tryz.func164, Tryz.ntmps164
 go_wp2_with fail
 refine (asB (glob_any g _)).mono ?_
 rintro e w1 ⟨b, rfl, HB, HW⟩
 go_wp2_with fail
 go_ret
 exact ⟨ret_bool (by rw [← HB.out]), below_next (below_alloc (Below.refl _ _) _) HW.out⟩
def instrB (x : SInstr) : Bool := decide (1 ≤ x.f0 ∧ x.f0 ≤ 33 ∧ 0 ≤ x.f2 ∧ x.f2 ≤ 4)
theorem en_fn1 : Enters 191 := fun args w => enters_ Tryz.func191 (by kernel_rfl) rfl args w
theorem fn1_any (g : SInstr) (v : Value) (w : World) (hv : VInstr w g v) : Calls Tryz.prog 191 #[v] w fun e w' => e = .returned (.bool (!instrB g)) ∧ Below w.heap.size w w' := by
 obtain rfl := hv
 obtain ⟨a, b, c⟩ := g
 simp only
 go_enter Tryz.func191, Tryz.ntmps191
 go_wp2_with fail
 all_goals go_ret
 all_goals exact ⟨ret_bool (by unfold instrB; rw [Bool.eq_iff_iff]; simp; try omega), below_alloc (Below.refl _ _) _⟩
/-- what was there reads as before: two rules for the walk -/
theorem bcell {W w1 : World} (hb : Below W.heap.size W w1) : (∀ b o, b < W.heap.size → w1.cell? ⟨b, o, none⟩ = W.cell? ⟨b, o, none⟩) ∧ (∀ b o, b < W.heap.size → w1.frozen? ⟨b, o, none⟩ = W.frozen? ⟨b, o, none⟩) :=
 ⟨fun b o h => hb.cell (p := ⟨b, o, none⟩) h, fun b o h => hb.frozen (p := ⟨b, o, none⟩) h⟩
theorem drawn_below {w w' : World} (h : ∃ n, w' = w.drewN n) : Below w.heap.size w w' := by
 obtain ⟨n, rfl⟩ := h
 exact pw_below_drewN (Below.refl _ _) n
theorem drawn_more {w w' : World} (h : ∃ n, w' = w.drewN n) (m : Nat) : ∃ n, w'.drewN m = w.drewN n := by
 obtain ⟨n, rfl⟩ := h
 exact ⟨n + m, World.drewN_drewN ..⟩
/-- A region that draws its order, whose operations read and whose calls may make memory: one walk in the order of the text. -/
theorem wp_region_below {P : Program} {id : Nat} {Q : Exit → Act → World → Prop} {a : Act} {w : World} {l : List Oper} (hm : P.follows .mixedOrders = true) (hB : Region.lexB .any l.toArray = true)
  (h : wpQuiet P l.toArray (fun w' => Below w.heap.size w w') (fun a' => ∀ w', Below w.heap.size w w' → Q .normal a' w') l a) : (Code.region id l.toArray true).wp P Q a w :=
 wp_region_quiet (C := fun w' => Below w.heap.size w w') hm hB (below_drew (Below.refl _ _)) (by simpa using h)
theorem q_skip {P : Program} {ops : Array Oper} {C : World → Prop} {Q : Act → Prop} {a : Act} {o : Oper} {rest : List Oper} (hw : Region.wanted o (yielded ops a.tmps) = false) (h : wpQuiet P ops C Q rest (a.put o.dst undef)) : wpQuiet P ops C Q (o :: rest) a :=
 wpQuiet_step fun K hK => by rw [if_neg (by rw [hw]; exact Bool.false_ne_true)]; exact hK _ h
theorem q_run {P : Program} {ops : Array Oper} {C : World → Prop} {Q : Act → Prop} {a : Act} {o : Oper} {rest : List Oper} {v : Value} (hw : Region.wanted o (yielded ops a.tmps) = true) (hr : ∀ w', C w' → (execOp a.eval o).run P w' = .ok (.value v) w')
  (h : wpQuiet P ops C Q rest (a.put o.dst v)) : wpQuiet P ops C Q (o :: rest) a :=
 wpQuiet_step fun K hK => by rw [if_pos hw]; exact ⟨v, fun w' hC => by unfold Oper.quietAt; rw [hr w' hC]; exact ⟨rfl, rfl⟩, hK _ h⟩
theorem q_call {P : Program} {ops : Array Oper} {C : World → Prop} {Q : Act → Prop} {a : Act} {o : Oper} {rest : List Oper} {v : Value} {f : FuncId} {fn : Func} {xs : Array Operand} {ts : Array TypeId} (args : Array Value) (hw : Region.wanted o (yielded ops a.tmps) = true)
  (hf : P.funcs[f]? = some fn) (hname : (fn.name == "runtime.NumGoroutine") = false) (hb : fn.body.isSome = true) (hop : o.op = .call { callee := .value (.func f), args := xs, argTypes := ts }) (hargs : xs.map a.eval = args)
  (hc : ∀ w', C w' → Calls P f args w' fun e w'' => e = .returned v ∧ C w'')
  (h : wpQuiet P ops C Q rest (a.put o.dst v)) : wpQuiet P ops C Q (o :: rest) a :=
 wpQuiet_step fun K hK => by
  rw [if_pos hw]
  refine ⟨v, fun w' hC => ?_, hK _ h⟩
  have he := enters_ hf hname hb args w'
  have hrun : (execOp a.eval o).run P w' = .ok (.enter f args) w' := by
   unfold execOp
   simp [hop, resolve, Deferred.ofValue, invoke, Act.eval, hargs, he]
  unfold Oper.quietAt
  rw [hrun]
  exact ⟨rfl, hc w' hC⟩
theorem eqs_snoc (l m : List Int) (k : Nat) (h : ∀ j, j < k → l.getD j 0 = m.getD j 0) (x : Int) (hx : x = l.getD k 0) (hy : x = m.getD k 0) : ∀ j, j < k + 1 → l.getD j 0 = m.getD j 0 := by
 intro j hj
 by_cases e : j = k
 ·subst e; rw [← hx, hy]
 ·exact h j (by omega)
theorem eqs_all (l m : List Int) (hl : l.length = m.length) (h : ∀ j, j < l.length → l.getD j 0 = m.getD j 0) : l = m := by
 refine List.ext_getElem hl fun j h1 h2 => ?_
 have := h j h1
 simpa [List.getD_eq_getElem?_getD, h1, h2] using this
theorem eqInt_any (A B : Option Addr) (c d : Nat) (l m : List Int) (w : World) (hr : Kd.C (Kd.int .i64) w A l.length l) (hs : Kd.C (Kd.int .i64) w B m.length m) (hl : l.length ≤ 9223372036854775806) :
  Calls Tryz.prog 65 #[.slice A l.length c, .slice B m.length d] w fun e w' => e = .returned (.bool (l == m)) ∧ ∃ n, w' = w.drewN n := by
 have HR := Lib.hid hr; clear hr
 have HS := Lib.hid hs; clear hs
 by_cases hlen : l.length = m.length
 ·have hb : ((l.length : Int) != (m.length : Int)) = false := by simp [hlen]
  have HL := Lib.hid hlen; clear hlen
  go_enter Tryz.func65, Tryz.ntmps65
  go_wp2_with fail
  go_loopw [13] (fun i w' => ∃ k : Nat, k ≤ l.length ∧ i = .int .i64 k ∧ Hid (∀ j, j < k → l.getD j 0 = m.getD j 0) ∧ Hid (∃ n, w' = w.drewN n)) (fun i _ => l.length - (intOf i).toNat)
  case atStart => exact ⟨0, by omega, rfl, fun j hj => by omega, 0, rfl⟩
  case round =>
   obtain ⟨k, hk, rfl, HJ, HB⟩ := hrel
   by_cases hlt : k < l.length
   ·have hlt2 : k < m.length := by have := HL.out; omega
    obtain ⟨ad, x, rfl, hc, HX⟩ := int_at (Kd.C_below HR.out (drawn_below HB.out)) k hlt
    obtain ⟨ad2, y, rfl, hc2, HY⟩ := int_at (Kd.C_below HS.out (drawn_below HB.out)) k hlt2
    by_cases hxy : x = y
    ·have hb2 : (x != y) = false := by simp [hxy]
     have HZ := Lib.hid (eqs_snoc l m k HJ.out x HX.out (hxy.trans HY.out))
     clear hxy
     go_wp2_with fail
     go_quiet (fail)
     go_wp2_with fail
     go_roundw
     case rel => exact ⟨k + 1, by omega, by go_num, HZ.out, drawn_more HB.out _⟩
     case measure => simp [intOf]; omega
    ·have hb2 : (x != y) = true := by simp [hxy]
     have HN := Lib.hid (show (l == m) = false from by
      rw [beq_eq_false_iff_ne]; rintro rfl; exact hxy (HX.out.trans HY.out.symm))
     clear hxy
     go_wp2_with fail
     go_quiet (fail)
     go_wp2_with fail
     go_ret
     exact ⟨ret_bool (by rw [HN.out]), drawn_more HB.out _⟩
   ·obtain rfl : k = l.length := by omega
    have HN := Lib.hid (show (l == m) = true from by rw [beq_iff_eq]; exact eqs_all l m HL.out HJ.out)
    go_wp2_with fail
    go_ret
    exact ⟨ret_bool (by rw [HN.out]), HB.out⟩
 ·have hb : ((l.length : Int) != (m.length : Int)) = true := by simp; omega
  have HN := Lib.hid (show (l == m) = false from by rw [beq_eq_false_iff_ne]; rintro rfl; exact hlen rfl)
  clear hlen
  go_enter Tryz.func65, Tryz.ntmps65
  go_wp2_with fail
  go_ret
  exact ⟨ret_bool (by rw [HN.out]), 0, rfl⟩
def fnHeadB (f : SFn) : Bool := nameB f.f0 && decide (f.f1.length ≤ 8) && decide (f.f3.length ≤ 32) && decide (f.f4.length ≤ 32768) && typesB f.f3 && (f.f2 == 0 || typedB f.f2)
def fnB (f : SFn) : Bool := fnHeadB f && (decide (f.f1.length ≤ f.f3.length) && (f.f1 == f.f3.take f.f1.length && !f.f4.any fun x => !instrB x))
theorem eqInt_at (b : Bool) (A B : Option Addr) (c d : Nat) (l m : List Int) (w : World) (hr : Kd.C (Kd.int .i64) w A l.length l) (hs : Kd.C (Kd.int .i64) w B m.length m) (hl : l.length ≤ 9223372036854775806) (n : Nat) (hn : n = m.length) (hb : (l == m) = b) :
  Calls Tryz.prog 65 #[.slice A l.length c, .slice B n d] w fun e w' => e = .returned (.bool b) ∧ ∃ n, w' = w.drewN n := by
 subst hn hb
 exact eqInt_any A B c d l m w hr hs hl
theorem fn_any (f : SFn) (v : Value) (w : World) (hv : VFn w f v) (hs : f.f0.size ≤ 9223372036854775806) (hl : f.f1.length ≤ 9223372036854775806) (hl3 : f.f3.length ≤ 9223372036854775806) (hl4 : f.f4.length ≤ 9223372036854775806) :
  Calls Tryz.prog 168 #[v] w fun e w' => e = .returned (.bool (fnB f)) ∧ Below w.heap.size w w' := by
 obtain ⟨A1, c1, A3, c3, A4, c4, rfl, l1, g1, l3, g3, l4, g4⟩ := hv
 have G1 := Lib.hid g1; clear g1
 have G3 := Lib.hid g3; clear g3
 have G4 := Lib.hid g4; clear g4
 by_cases hr : f.f2 = 0
 ·have hr' : (f.f2 == 0) = true := by simpa using hr
  have HR := Lib.hid hr; clear hr
  go_enter Tryz.func168, Tryz.ntmps168
  go_wp2_with (first
   | (go_at_call 188; refine (asB (Name_any f.f0 _ hs)).mono ?_; rintro e wn ⟨bb, rfl, HN, HWN⟩; obtain ⟨hcN, hfN⟩ := bcell HWN.out; cases bb)
   | (go_at_call 189; refine (asB (types_any A3 c3 f.f3 _ (Kd.C_below G3.out (below_next (below_alloc (Below.refl _ _) _) HWN.out)) hl3)).mono ?_; rintro e wt ⟨bb, rfl, HT, HWT⟩; have HWS := Lib.hid (below_next HWN.out HWT.out); clear hcN hfN HWT; obtain ⟨hcT, hfT⟩ := bcell HWS.out; cases bb))
  any_goals
   go_quiet (fail)
   go_wp2_with fail
   go_ret
   refine ⟨ret_bool (Eq.symm ?_), ?_⟩
   ·unfold fnB fnHeadB
    first
     | (rw [← HN.out]; simp; done)
     | (rw [← HT.out]; simp; done)
     | (have hz : ¬ f.f1.length ≤ 8 := (by omega); simp [hz]; done)
     | (have hz : ¬ f.f3.length ≤ 32 := (by omega); simp [hz]; done)
     | (have hz : ¬ f.f4.length ≤ 32768 := (by omega); simp [hz]; done)
   ·first
     | exact pw_below_drewN (below_next (below_alloc (Below.refl _ _) _) HWS.out) _
     | exact pw_below_drewN (below_next (below_alloc (Below.refl _ _) _) HWN.out) _
  have HHD := Lib.hid (show fnHeadB f = true from by
   unfold fnHeadB; rw [← HN.out, ← HT.out, HR.out]
   have z1 : f.f1.length ≤ 8 := by omega
   have z2 : f.f3.length ≤ 32 := by omega
   have z3 : f.f4.length ≤ 32768 := by omega
   simp [z1, z2, z3])
  have HBT := Lib.hid (below_next (below_alloc (Below.refl w.heap.size w) _) HWS.out)
  by_cases hle : f.f1.length ≤ f.f3.length
  ·cases hq : (f.f1 == f.f3.take f.f1.length)
   ·have HQ := Lib.hid hq
    clear hq
    have C1 := Lib.hid (Kd.C_below (Kd.C_below G1.out (below_alloc (Below.refl w.heap.size w) _)) HWS.out)
    have C3 := Lib.hid (Kd.C_take (m := f.f1.length) (Kd.C_below (Kd.C_below G3.out (below_alloc (Below.refl w.heap.size w) _)) HWS.out) hle)
    have hln : f.f1.length = (f.f3.take f.f1.length).length := by rw [List.length_take]; omega
    have HLN := Lib.hid hln
    clear hln
    go_quiet ((go_at_call 65; refine Calls.quiet_of (eqInt_at false A1 A3 c1 c3 f.f1 (f.f3.take f.f1.length) _ (Kd.C_below C1.out (pw_below_drewN (Below.refl _ _) _)) (Kd.C_below C3.out (pw_below_drewN (Below.refl _ _) _)) hl _ HLN.out HQ.out)))
    go_wp2_with fail
    go_ret
    exact ⟨ret_bool (by unfold fnB; rw [HQ.out]; simp), pw_below_drewN HBT.out _⟩
   ·have HQ := Lib.hid hq
    clear hq
    have C1 := Lib.hid (Kd.C_below (Kd.C_below G1.out (below_alloc (Below.refl w.heap.size w) _)) HWS.out)
    have C3 := Lib.hid (Kd.C_take (m := f.f1.length) (Kd.C_below (Kd.C_below G3.out (below_alloc (Below.refl w.heap.size w) _)) HWS.out) hle)
    have C4 := Lib.hid (Kd.C_below (Kd.C_below G4.out (below_alloc (Below.refl w.heap.size w) _)) HWS.out)
    have hln : f.f1.length = (f.f3.take f.f1.length).length := by rw [List.length_take]; omega
    have HLN := Lib.hid hln
    clear hln
    refine wp_region_below (by kernel_rfl) (by kernel_rfl) ?_
    have hzT : w.heap.size < wt.heap.size := by have := HWS.out.size; simp at this; omega
    have hi2 : f.f1.length ≤ c3 := by omega
    iterate 15 (refine q_run (by rfl) (fun w' hC => by have hq := (bcell hC).1; go_simp; with_reducible rfl) ?_; go_simp)
    refine q_call #[.slice A1 f.f1.length c1, .slice A3 f.f1.length c3] (by rfl) Tryz.func65 (by kernel_rfl) rfl rfl (by simp only [List.map_toArray, List.map_cons, List.map_nil]; rfl) (fun w' hC => (eqInt_at true A1 A3 c1 c3 f.f1 (f.f3.take f.f1.length) _ (Kd.C_below C1.out hC) (Kd.C_below C3.out hC) hl _ HLN.out HQ.out).mono (by rintro e w1 ⟨rfl, nq, rfl⟩; exact ⟨rfl, pw_below_drewN hC _⟩)) ?_
    go_simp
    repeat (refine q_run (by rfl) (fun w' hC => by have hq := (bcell hC).1; go_simp; with_reducible rfl) ?_; go_simp)
    refine q_call #[.slice A4 f.f4.length c4, .func (.func 191) #[] #[]] (by rfl) Tryz.func190 (by kernel_rfl) rfl rfl (by simp only [List.map_toArray, List.map_cons, List.map_nil]; rfl) (fun w' hC => (conInstr_any 191 #[] (fun x => !instrB x) A4 c4 f.f4 _ en_fn1 (fun x v w' _ _ h => fn1_any x v w' h) (Kd.C_below C4.out hC) hl4).mono (by rintro e w1 ⟨rfl, hb⟩; exact ⟨rfl, below_next hC hb⟩)) ?_
    go_simp
    repeat (refine q_run (by rfl) (fun w' hC => by have hq := (bcell hC).1; go_simp; with_reducible rfl) ?_; go_simp)
    refine wpQuiet_nil ?_
    intro w2 hw2
    have HW2 := Lib.hid hw2
    clear hw2
    go_wp2_with fail
    go_ret
    exact ⟨ret_bool (by unfold fnB; rw [HHD.out, HQ.out]; simp [hle]), below_next HBT.out HW2.out⟩
  ·go_quiet (fail)
   go_wp2_with fail
   go_ret
   exact ⟨ret_bool (by unfold fnB; simp [hle]), pw_below_drewN HBT.out _⟩
 ·have hr' : (f.f2 == 0) = false := by simpa using hr
  have HR := Lib.hid hr; clear hr
  go_enter Tryz.func168, Tryz.ntmps168
  go_wp2_with (first
   | (go_at_call 188; refine (asB (Name_any f.f0 _ hs)).mono ?_; rintro e wn ⟨bb, rfl, HN, HWN⟩; obtain ⟨hcN, hfN⟩ := bcell HWN.out; cases bb)
   | (go_at_call 189; refine (asB (types_any A3 c3 f.f3 _ (Kd.C_below G3.out (below_next (below_alloc (Below.refl _ _) _) HWN.out)) hl3)).mono ?_; rintro e wt ⟨bb, rfl, HT, HWT⟩; have HWS := Lib.hid (below_next HWN.out HWT.out); clear hcN hfN HWT; obtain ⟨hcT, hfT⟩ := bcell HWS.out; cases bb)
   | (go_at_call 187; refine (asB (typed_any _ _)).mono ?_; rintro e w' ⟨bb, rfl, HY, HW⟩; obtain rfl := HW.out; clear HW; cases bb))
  any_goals
   go_quiet (fail)
   go_wp2_with fail
   go_ret
   refine ⟨ret_bool (Eq.symm ?_), ?_⟩
   ·unfold fnB fnHeadB
    first
     | (rw [← HN.out]; simp; done)
     | (rw [← HT.out]; simp; done)
     | (rw [← HY.out]; have := HR.out; simp [this]; done)
     | (have hz : ¬ f.f1.length ≤ 8 := (by omega); simp [hz]; done)
     | (have hz : ¬ f.f3.length ≤ 32 := (by omega); simp [hz]; done)
     | (have hz : ¬ f.f4.length ≤ 32768 := (by omega); simp [hz]; done)
   ·first
     | exact pw_below_drewN (below_next (below_alloc (Below.refl _ _) _) HWS.out) _
     | exact pw_below_drewN (below_next (below_alloc (Below.refl _ _) _) HWN.out) _
  have HHD := Lib.hid (show fnHeadB f = true from by
   unfold fnHeadB; rw [← HN.out, ← HT.out, ← HY.out]
   have z1 : f.f1.length ≤ 8 := by omega
   have z2 : f.f3.length ≤ 32 := by omega
   have z3 : f.f4.length ≤ 32768 := by omega
   simp [z1, z2, z3])
  have HBT := Lib.hid (below_next (below_alloc (Below.refl w.heap.size w) _) HWS.out)
  by_cases hle : f.f1.length ≤ f.f3.length
  ·cases hq : (f.f1 == f.f3.take f.f1.length)
   ·have HQ := Lib.hid hq
    clear hq
    have C1 := Lib.hid (Kd.C_below (Kd.C_below G1.out (below_alloc (Below.refl w.heap.size w) _)) HWS.out)
    have C3 := Lib.hid (Kd.C_take (m := f.f1.length) (Kd.C_below (Kd.C_below G3.out (below_alloc (Below.refl w.heap.size w) _)) HWS.out) hle)
    have hln : f.f1.length = (f.f3.take f.f1.length).length := by rw [List.length_take]; omega
    have HLN := Lib.hid hln
    clear hln
    go_quiet ((go_at_call 65; refine Calls.quiet_of (eqInt_at false A1 A3 c1 c3 f.f1 (f.f3.take f.f1.length) _ (Kd.C_below C1.out (pw_below_drewN (Below.refl _ _) _)) (Kd.C_below C3.out (pw_below_drewN (Below.refl _ _) _)) hl _ HLN.out HQ.out)))
    go_wp2_with fail
    go_ret
    exact ⟨ret_bool (by unfold fnB; rw [HQ.out]; simp), pw_below_drewN HBT.out _⟩
   ·have HQ := Lib.hid hq
    clear hq
    have C1 := Lib.hid (Kd.C_below (Kd.C_below G1.out (below_alloc (Below.refl w.heap.size w) _)) HWS.out)
    have C3 := Lib.hid (Kd.C_take (m := f.f1.length) (Kd.C_below (Kd.C_below G3.out (below_alloc (Below.refl w.heap.size w) _)) HWS.out) hle)
    have C4 := Lib.hid (Kd.C_below (Kd.C_below G4.out (below_alloc (Below.refl w.heap.size w) _)) HWS.out)
    have hln : f.f1.length = (f.f3.take f.f1.length).length := by rw [List.length_take]; omega
    have HLN := Lib.hid hln
    clear hln
    refine wp_region_below (by kernel_rfl) (by kernel_rfl) ?_
    have hzT : w.heap.size < wt.heap.size := by have := HWS.out.size; simp at this; omega
    have hi2 : f.f1.length ≤ c3 := by omega
    iterate 15 (refine q_run (by rfl) (fun w' hC => by have hq := (bcell hC).1; go_simp; with_reducible rfl) ?_; go_simp)
    refine q_call #[.slice A1 f.f1.length c1, .slice A3 f.f1.length c3] (by rfl) Tryz.func65 (by kernel_rfl) rfl rfl (by simp only [List.map_toArray, List.map_cons, List.map_nil]; rfl) (fun w' hC => (eqInt_at true A1 A3 c1 c3 f.f1 (f.f3.take f.f1.length) _ (Kd.C_below C1.out hC) (Kd.C_below C3.out hC) hl _ HLN.out HQ.out).mono (by rintro e w1 ⟨rfl, nq, rfl⟩; exact ⟨rfl, pw_below_drewN hC _⟩)) ?_
    go_simp
    repeat (refine q_run (by rfl) (fun w' hC => by have hq := (bcell hC).1; go_simp; with_reducible rfl) ?_; go_simp)
    refine q_call #[.slice A4 f.f4.length c4, .func (.func 191) #[] #[]] (by rfl) Tryz.func190 (by kernel_rfl) rfl rfl (by simp only [List.map_toArray, List.map_cons, List.map_nil]; rfl) (fun w' hC => (conInstr_any 191 #[] (fun x => !instrB x) A4 c4 f.f4 _ en_fn1 (fun x v w' _ _ h => fn1_any x v w' h) (Kd.C_below C4.out hC) hl4).mono (by rintro e w1 ⟨rfl, hb⟩; exact ⟨rfl, below_next hC hb⟩)) ?_
    go_simp
    repeat (refine q_run (by rfl) (fun w' hC => by have hq := (bcell hC).1; go_simp; with_reducible rfl) ?_; go_simp)
    refine wpQuiet_nil ?_
    intro w2 hw2
    have HW2 := Lib.hid hw2
    clear hw2
    go_wp2_with fail
    go_ret
    exact ⟨ret_bool (by unfold fnB; rw [HHD.out, HQ.out]; simp [hle]), below_next HBT.out HW2.out⟩
  ·go_quiet (fail)
   go_wp2_with fail
   go_ret
   exact ⟨ret_bool (by unfold fnB; simp [hle]), pw_below_drewN HBT.out _⟩
/-- bytes of the call's own -/
def BR (w : World) (base : Nat) (v : Value) (xs : List Int) : Prop := (Kd.int .u8).R 5 w base (fun _ => True) v xs
theorem infoByte : (Tryz.prog.info? 5).map (fun i => (i.zero, i.size, i.bytes)) = some (some (.int .u8 0), 1, 1) := by kernel_rfl
theorem growB_any (n : Int) (w : World) (h0 : 0 ≤ n) (h1 : n ≤ 1099511627776) :
  Calls Tryz.prog 192 #[.slice none 0 0, .int .i64 n] w fun e w' => ∃ v, e = .returned v ∧ BR w' w.heap.size v [] ∧ Below w.heap.size w w' := by
 have HN : Hid (BR w w.heap.size (.slice none 0 0) []) := Kd.R_nil _ _ _ _ _
 have HB := Lib.hid (Below.refl w.heap.size w)
 by_cases hp : 0 < n
 ·go_enter Tryz.func192, Tryz.ntmps192
  go_wp2_with (at_builtin; refine Kd.R_append_zeros (Kd.int .u8) (w0 := w) w.heap.size rfl _ _ 99 3 5 (.int .u8 0) 1 rfl Tryz.underlying99 Tryz.underlying3 infoByte rfl (by decide) (by decide) _ [] 0 _ (fun _ => True) rfl rfl rfl (fun _ _ => trivial) HN.out h0 HB.out (Nat.le_refl _) (by simp; omega) ?_; intro v1 w1 hr hb hg hat; obtain ⟨A, c, rfl⟩ := Kd.R_slice hr; have HR := Lib.hid hr; have HBB := Lib.hid hb; clear hr hb hg hat)
  go_ret
  exact ⟨_, rfl, Kd.R_take (m := 0) HR.out (Nat.zero_le _), HBB.out⟩
 ·obtain rfl : n = 0 := by omega
  go_enter Tryz.func192, Tryz.ntmps192
  go_wp2_with fail
  go_ret
  exact ⟨_, rfl, HN.out, HB.out⟩
def sumLen (l : List (List Int)) : Nat := (l.map List.length).sum
theorem sumLen_snoc (l : List (List Int)) (k : Nat) (x : List Int) (hk : k < l.length) (hx : x = rd_Bytes l k) : sumLen (l.take (k + 1)) = sumLen (l.take k) + x.length ∧ (l.take (k + 1)).flatten = (l.take k).flatten ++ x := by
 subst hx
 have hq : rd_Bytes l (k : Int) = l[k] := by simp [rd_Bytes, List.getD_eq_getElem?_getD, hk]
 rw [hq]
 unfold sumLen
 rw [List.take_succ_eq_append_getElem hk, List.map_append, List.sum_append, List.flatten_append]
 simp
theorem sumLen_le (l : List (List Int)) (k : Nat) : sumLen (l.take k) ≤ sumLen l := by
 unfold sumLen
 have h := congrArg (fun q => (q.map List.length).sum) (List.take_append_drop k l)
 simp only [List.map_append, List.sum_append] at h
 omega
theorem sumLen_flat (l : List (List Int)) : l.flatten.length = sumLen l := by unfold sumLen; simp
theorem concat_any (A : Option Addr) (c : Nat) (l : List (List Int)) (w : World) (hr : Kd.C (Kd.slice 5 (Kd.int .u8)) w A l.length l) (hs : sumLen l ≤ 1099511627776) (hl : l.length ≤ 1099511627776) :
  Calls Tryz.prog 173 #[.slice A l.length c] w fun e w' => ∃ v, e = .returned v ∧ BR w' w.heap.size v l.flatten ∧ Below w.heap.size w w' := by
 have HR := Lib.hid hr; clear hr
 go_enter Tryz.func173, Tryz.ntmps173
 go_wp2_with fail
 go_loop [3, 11] (fun t i => ∃ k : Nat, k ≤ l.length ∧ i = .int .i64 k ∧ t = .int .i64 (sumLen (l.take k))) (fun _ i => l.length - (intOf i).toNat)
 case atStart => exact ⟨0, by omega, rfl, rfl⟩
 case round =>
  obtain ⟨k, hk, rfl, rfl⟩ := hrel
  by_cases hlt : k < l.length
  ·obtain ⟨ad, A0, c0, rfl, hc, hl0, hC⟩ := at_Bytes HR.out (k : Int) (by omega) (by omega)
   obtain ⟨x, hx⟩ : ∃ x, x = rd_Bytes l (k : Int) := ⟨_, rfl⟩
   rw [← hx] at hc hl0 hC
   simp only [Int.toNat_natCast] at hc
   have hsn := (sumLen_snoc l k x hlt hx).1
   have hle := sumLen_le l (k + 1)
   have HSN := Lib.hid hsn
   have hb1 : sumLen (l.take k) + x.length ≤ 1099511627776 := by omega
   clear hx hC hsn hle
   go_wp2_with fail
   go_round
   case rel => exact ⟨k + 1, by omega, by go_num, by rw [HSN.out]; go_num⟩
   case measure => simp [intOf]; omega
  ·obtain rfl : k = l.length := by omega
   have ht : l.take l.length = l := List.take_length
   rw [ht]
   clear ht
   go_wp2_with fail
   refine (growB_any _ _ (by omega) (by omega)).mono ?_
   rintro e w1 ⟨v, rfl, hv, hb⟩
   have HV := Lib.hid hv
   have HB := Lib.hid hb
   clear hv hb
   go_wp2_with fail
   go_loopw [6, 27] (fun t i wr => ∃ k : Nat, k ≤ l.length ∧ i = .int .i64 k ∧ Hid (BR wr w.heap.size t (l.take k).flatten) ∧ Hid (Below w.heap.size w wr)) (fun _ i _ => l.length - (intOf i).toNat)
   case atStart => exact ⟨0, by omega, rfl, HV.out, HB.out⟩
   case round =>
    obtain ⟨k, hk, rfl, HV2, HB2⟩ := hrel
    by_cases hlt : k < l.length
    ·obtain ⟨ad, A0, c0, rfl, hc, hl0, hC⟩ := at_Bytes (Kd.C_below HR.out HB2.out) (k : Int) (by omega) (by omega)
     obtain ⟨x, hx⟩ : ∃ x, x = rd_Bytes l (k : Int) := ⟨_, rfl⟩
     rw [← hx] at hc hl0 hC
     simp only [Int.toNat_natCast] at hc
     have HSN := Lib.hid (sumLen_snoc l k x hlt hx)
     have hle := sumLen_le l (k + 1)
     have hfl := sumLen_flat (l.take k)
     have HQ := Lib.hid (show ((l.take k).flatten.length + x.length) * 1 ≤ 140737488355328 from by have := HSN.out.1; omega)
     have HC := Lib.hid hC
     clear hx hC hle hfl
     go_wp2_with (at_builtin; go_loud (refine Kd.R_append_rows (Kd.int .u8) (w0 := w) w.heap.size rfl _ _ 99 5 (.int .u8 0) 1 rfl Tryz.underlying99 infoByte rfl (by decide) (by decide) _ (l.take k).flatten x A0 x.length c0 (fun _ => True) (fun _ => False) rfl rfl HV2.out HC.out (fun _ _ h => h) (fun _ h => h.elim) (fun _ _ => trivial) HB2.out HB2.out.size HQ.out ?_); intro v1 w2 hv1 hb1 hg1 hat1; have HV3 := Lib.hid hv1; have HB3 := Lib.hid hb1; clear hv1 hb1 hg1 hat1)
     go_roundw
     case rel => exact ⟨k + 1, by omega, by go_num, by rw [HSN.out.2]; exact HV3.out, HB3.out⟩
     case measure => simp [intOf]; omega
    ·obtain rfl : k = l.length := by omega
     have ht : l.take l.length = l := List.take_length
     rw [ht] at HV2
     clear ht
     go_wp2_with fail
     go_ret
     exact ⟨_, rfl, HV2.out, HB2.out⟩
/-- how many bytes a number takes, seven bits each -/
def varLen (z : Nat) : Nat := if z < 128 then 1 else varLen (z / 128) + 1
theorem varLen_pos (z : Nat) : 1 ≤ varLen z := by unfold varLen; split <;> omega
/-- A loop made of a label and a goto: what holds at each jump, one walk of the round, and the way to the label. -/
theorem wp_scope_back {P : Program} {a : Act} {w : World} {Q : Exit → Act → World → Prop} {c r : Code} (l : Nat) (J : Act → World → Prop) (μ : Act → World → Nat) (hf : findLabel c l = some (Code.skip.seq r))
  (pass : ∀ a w, J a w → r.wp P (Exit.jump l (fun a' w' => J a' w' ∧ μ a' w' < μ a w) Q) a w)
  (first : (∀ a w, J a w → r.wp P (Exit.jump l J Q) a w) → c.wp P (Exit.jump l J Q) a w) : (Code.scope c).wp P Q a w := by
 refine wp_scope_jumps (rest := Code.skip.seq r) l J μ hf (first fun a w h => Code.wp_mono ?_ (pass a w h)) (fun a w h => wp_seq (wp_skip (pass a w h)))
 intro e a w h
 cases e <;> first | exact h | exact ⟨h.1, h.2.1⟩
theorem arr_set (ys : List Int) (k : Nat) (n : Int) : (ys.map (Value.int .u8)).toArray.setIfInBounds k (.int .u8 n) = ((ys.set k n).map (Value.int .u8)).toArray := by simp [List.map_set]
theorem arr10_cut (g : Nat) (n : Int) (h0 : 0 ≤ n) (h1 : n ≤ 10) (W : World) : (Instr.sliceAt 238 (.pointer (some ⟨g, 0, none⟩)) none (some (.int .i64 n)) none).run Tryz.prog W = .ok (.slice (some ⟨g, 0, none⟩) n.toNat 10) W := by
 have hal : Tryz.prog.arrayLen 238 = 10 := by kernel_rfl
 have hel : Tryz.prog.elem 238 = 5 := by kernel_rfl
 obtain ⟨i0, hi, hzz⟩ := Option.map_eq_some_iff.1 infoByte
 simp only [Prod.mk.injEq] at hzz
 rw [run_sliceAt_array_h (P := Tryz.prog) (w := W) (a := ⟨g, 0, none⟩) (t := 238) (by rw [hal, hel]; exact Tryz.underlying238) .i64 n h0 (by rw [hal]; exact h1), hel, hal]
 simp [slicedAt, sizeOf, typeInfo, hi, hzz.2.1, Result.andThen, Addr.add]
theorem C_two {W : World} {g t : Nat} {fr : Nat × Nat} {A0 A1 : Option Addr} {l0 l1 : List Int} {c0 c1 : Nat} (hblk : W.heap[g]? = some (.cells #[.slice A0 l0.length c0, .slice A1 l1.length c1] t fr)) (h0 : (Kd.int .u8).C W A0 l0.length l0) (hc0 : l0.length ≤ c0) (h1 : (Kd.int .u8).C W A1 l1.length l1) (hc1 : l1.length ≤ c1) :
  Kd.C (Kd.slice 5 (Kd.int .u8)) W (some ⟨g, 0, none⟩) [l0, l1].length [l0, l1] := by
 refine ⟨rfl, by simp, fun _ => ⟨_, rfl, fun j p hj => ?_⟩⟩
 have hcell : ∀ i, W.cell? ⟨g, i, none⟩ = (#[Value.slice A0 l0.length c0, .slice A1 l1.length c1])[i]? := fun i => cell_of_row W g i _ t fr hblk
 rcases j with _ | _ | j
 ·obtain rfl : l0 = p := by simpa using hj
  refine ⟨_, rfl, ⟨A0, c0, rfl, hc0, h0⟩, fun i u hu => ?_⟩
  rcases i with _ | i
  ·have hu' : Value.slice A0 l0.length c0 = u := by simpa using hu
   rw [add_plain, hcell, ← hu']; rfl
  ·simp at hu
 ·obtain rfl : l1 = p := by simpa using hj
  refine ⟨_, rfl, ⟨A1, c1, rfl, hc1, h1⟩, fun i u hu => ?_⟩
  rcases i with _ | i
  ·have hu' : Value.slice A1 l1.length c1 = u := by simpa using hu
   rw [add_plain, hcell, ← hu']; rfl
  ·simp at hu
 ·simp at hj
theorem C_blk {W : World} {g t : Nat} {fr : Nat × Nat} (k : IntKind) (ys : List Int) (hblk : W.heap[g]? = some (.cells (ys.map (Value.int k)).toArray t fr)) (m : Nat) (hm : m ≤ ys.length) (hmax : ys.length ≤ 9223372036854775807) :
  (Kd.int k).C W (some ⟨g, 0, none⟩) (ys.take m).length (ys.take m) := by
 refine ⟨rfl, by rw [List.length_take]; omega, fun _ => ⟨_, rfl, fun j p hj => ?_⟩⟩
 refine ⟨_, rfl, rfl, fun i u hu => ?_⟩
 rcases i with _ | i
 ·have hu' : Value.int k p = u := by simpa using hu
  rw [add_plain, cell_of_row W g _ _ t fr hblk, ← hu']
  have hj2 : ys[j]? = some p := by
   rw [List.getElem?_take] at hj
   split at hj
   ·exact hj
   ·cases hj
  simp [Kd.int, Kd.scalar, hj2]
 ·simp at hu
/-- after k bytes: z' is left, block g holds ten bytes -/
def PutAt (w : World) (z : Int) (k : Nat) (z' : Int) (g : Nat) (w' : World) : Prop :=
 0 ≤ z' ∧ z' * 128 ^ k ≤ z ∧ (k = 0 ∨ 0 < z') ∧ varLen z.toNat = k + varLen z'.toNat ∧ w.heap.size ≤ g ∧ Below w.heap.size w w' ∧
  ∃ ys : List Int, ys.length = 10 ∧ w'.heap[g]? = some (.cells ((ys.map (Value.int .u8)).toArray) 238 (0, 0))
theorem put_any (A : Option Addr) (c : Nat) (xs : List Int) (z : Int) (w : World) (hr : Kd.C (Kd.int .u8) w A xs.length xs) (hc : xs.length ≤ c) (hl : xs.length ≤ 1099511627000) (h0 : 0 ≤ z) (h1 : z < 18446744073709551616) :
  Calls Tryz.prog 171 #[.slice A xs.length c, .int .u64 z] w fun e w' => ∃ v ys, e = .returned v ∧ BR w' w.heap.size v ys ∧ ys.length = xs.length + varLen z.toNat ∧ Below w.heap.size w w' := by
 go_enter Tryz.func171, Tryz.ntmps171
 go_wp2_with fail
 refine wp_scope_back 0 (fun a' w' => ∃ (k : Nat) (z' : Int) (g : Nat) (u7 u8 u9 u10 u11 u12 u13 u14 u15 u16 u17 u18 u19 u20 u21 u22 u23 u24 u25 u26 u27 u28 : Value),
  a' = { tmps := #[.slice A xs.length c, .int .u64 z', undef, undef, .slice none 0 0, .pointer (some ⟨g, 0, none⟩), .int .i64 k, u7, u8, u9, u10, u11, u12, u13, u14, u15, u16, u17, u18, u19, u20, u21, u22, u23, u24, u25, u26, u27, u28], defers := [] } ∧ PutAt w z k z' g w') (fun a' _ => (intOf (a'.tmps.getD 1 undef)).toNat) rfl ?pass ?first
 case first =>
  intro again
  have AG := Lib.hid again
  clear again
  go_wp2_with fail
  go_step3
  rename_i K hK
  exact hK _ _ (AG.out _ _ ⟨0, z, w.heap.size, _, _, _, _, _, _, _, _, _, _, _, _, _, _, _, _, _, _, _, _, _, _, rfl, h0, by omega, .inl rfl, by simp, Nat.le_refl _, below_alloc (Below.refl _ _) _, List.replicate 10 0, rfl, heap_alloc_new w _⟩)
 case pass =>
  rintro a' w1 ⟨k, z', g, u7, u8, u9, u10, u11, u12, u13, u14, u15, u16, u17, u18, u19, u20, u21, u22, u23, u24, u25, u26, u27, u28, rfl, hz0, hzk, hk0, hvl, hg, hb, ys, hys, hblk⟩
  have hk : k ≤ 9 := by
   rcases hk0 with rfl | hp
   ·omega
   ·by_cases hk : k ≤ 9
    ·exact hk
    ·exfalso
     have h2 : (128 : Int) ^ 10 ≤ 128 ^ k := by
      obtain ⟨j, rfl⟩ : ∃ j, k = 10 + j := ⟨k - 10, by omega⟩
      rw [Int.pow_add]
      have hj : (1 : Int) ≤ 128 ^ j := by have := Int.pow_pos (n := (128 : Int)) (m := j) (by omega); omega
      have := Int.mul_le_mul_of_nonneg_left hj (show (0 : Int) ≤ 128 ^ 10 by decide)
      omega
     have h3 : (128 : Int) ^ k ≤ z' * 128 ^ k := by
      have := Int.mul_le_mul_of_nonneg_right (show (1 : Int) ≤ z' by omega) (show (0 : Int) ≤ 128 ^ k by exact Int.pow_nonneg (by omega))
      omega
     have : (128 : Int) ^ 10 = 1180591620717411303424 := by decide
     omega
  have HP := Lib.hid (show (k = 0 ∨ 0 < z') ∧ z' * 128 ^ k ≤ z ∧ varLen z.toNat = k + varLen z'.toNat ∧ w.heap.size ≤ g ∧ Below w.heap.size w w1 from ⟨hk0, hzk, hvl, hg, hb⟩)
  obtain ⟨y, hy⟩ : ∃ y, ys[k]? = some y := ⟨ys[k]'(by omega), List.getElem?_eq_getElem (by omega)⟩
  have hc : w1.cell? ⟨g, k, none⟩ = some (.int .u8 y) := (blk_cell hblk k).trans (by simp [hy])
  have hf : w1.frozen? ⟨g, k, none⟩ = false := blk_frozen hblk k
  have HBK := Lib.hid hblk
  clear hblk hk0 hzk hvl hb hy
  have hsl := arr10_cut g ((k : Int) + 1) (by omega) (by omega)
  have ht1 : ((k : Int) + 1).toNat = k + 1 := by omega
  rw [ht1] at hsl
  clear ht1
  by_cases hz : 0 < z' / 128
  ·have HZ := Lib.hid (show varLen z'.toNat = 1 + varLen (z' / 128).toNat from by
    rw [varLen, if_neg (by omega)]
    have : (z' / 128).toNat = z'.toNat / 128 := by omega
    rw [this]; omega)
   go_wp2_with fail
   go_step3
   obtain ⟨hk0, hzk, hvl, hg, hb⟩ := HP.out
   refine ⟨rfl, ⟨k + 1, z' / 128, g, _, _, _, _, _, _, _, _, _, _, _, _, _, _, _, _, _, _, _, _, _, _, by rfl, by omega, ?_, .inr hz, by have := HZ.out; omega, hg, ?_, _, ?_, blk_put (blk_put HBK.out k _ (arr_set _ _ _)) k _ (arr_set _ _ _)⟩, ?_⟩
   ·rw [Int.pow_succ]
    have h128 : z' / 128 * 128 ≤ z' := by omega
    have := Int.mul_le_mul_of_nonneg_right h128 (show (0 : Int) ≤ 128 ^ k by exact Int.pow_nonneg (by omega))
    have e : z' / 128 * (128 ^ k * 128) = z' / 128 * 128 * 128 ^ k := by rw [Int.mul_comm (128 ^ k) 128, Int.mul_assoc]
    omega
   ·exact below_set (below_set hb hg) hg
   ·simp [hys]
   ·simp [intOf]; omega
  ·go_wp2_with fail
   obtain ⟨hk0, hzk, hvl, hg, hb⟩ := HP.out
   have hB1 := below_set (j := k) (v := .int .u8 (bits .and .u8 0 0)) hb hg
   obtain ⟨ys2, hys2, hblk2⟩ : ∃ ys2 : List Int, ys2.length = 10 ∧ (w1.setCell ⟨g, k, none⟩ (.int .u8 (bits .and .u64 z' 127 % 256))).heap[g]? = some (.cells (ys2.map (Value.int .u8)).toArray 238 (0, 0)) :=
    ⟨_, by simp [hys], blk_put HBK.out k _ (arr_set _ _ _)⟩
   have hB2 : Below w.heap.size w (w1.setCell ⟨g, k, none⟩ (.int .u8 (bits .and .u64 z' 127 % 256))) := below_set hb hg
   have hsz : (w1.setCell ⟨g, k, none⟩ (.int .u8 (bits .and .u64 z' 127 % 256))).heap.size = w1.heap.size := by simp
   generalize w1.setCell ⟨g, k, none⟩ (.int .u8 (bits .and .u64 z' 127 % 256)) = w2 at *
   have hlt : (ys2.take (k + 1)).length = k + 1 := by rw [List.length_take]; omega
   have hB3 : Below w.heap.size w (w2.alloc (.cells #[.slice A xs.length c, .slice (some ⟨g, 0, none⟩) (k + 1) 10] 99)) := below_alloc hB2 _
   have hC := concat_any (some ⟨w1.heap.size, 0, none⟩) 2 [xs, ys2.take (k + 1)] (w2.alloc (.cells #[.slice A xs.length c, .slice (some ⟨g, 0, none⟩) (k + 1) 10] 99)) ?c1 ?c2 ?c3
   case c1 =>
    refine C_two (c1 := 10) (by rw [hlt, ← hsz]; exact heap_alloc_new w2 _) (Kd.C_below hr hB3) ‹_› (C_blk .u8 ys2 (blk_alloc hblk2 _) (k + 1) (by omega) (by omega)) (by rw [hlt]; omega)
   case c2 => simp [sumLen]; omega
   case c3 => simp
   refine hC.mono ?_
   rintro e w3 ⟨v, rfl, hv, hb3⟩
   have HV := Lib.hid hv
   have HB3 := Lib.hid (below_then hB3 hB3.size hb3)
   have HSZ := Lib.hid hB3.size
   have HL := Lib.hid (show [xs, ys2.take (k + 1)].flatten.length = xs.length + varLen z.toNat from by
    have hz1 : varLen z'.toNat = 1 := by rw [varLen, if_pos (by omega)]
    simp only [List.flatten_cons, List.flatten_nil, List.append_nil, List.length_append, hlt]; omega)
   clear hv hb3 hB3 hC hB2 hblk2 hsz hlt hys2 hB1 hb hk0 hzk hvl
   go_wp2_with fail
   simp only [Exit.jump]
   go_ret
   exact ⟨_, _, rfl, Kd.R_lower HV.out HSZ.out, HL.out, HB3.out⟩
/-- what a call that may write into v's row leaves, v' being the row behind it -/
def Fr (w : World) (v : Value) (w' : World) (v' : Value) : Prop := w.grownBy w' v.ownBlock ∧ (v'.ownBlock = v.ownBlock ∨ ∃ b, v'.ownBlock = some b ∧ w.heap.size ≤ b)
theorem Fr.refl (w : World) (v : Value) : Fr w v w v := ⟨World.grownBy.refl w _, .inl rfl⟩
theorem Fr.trans {w w1 w2 : World} {v v1 v2 : Value} (h : Fr w v w1 v1) (h' : Fr w1 v1 w2 v2) : Fr w v w2 v2 := by
 obtain ⟨g, o⟩ := h
 obtain ⟨g', o'⟩ := h'
 refine ⟨⟨g'.os.trans g.os, g'.tape.trans g.tape, g'.output.trans g.output, Nat.le_trans g.size g'.size, fun k hk hne => ?_⟩, ?_⟩
 ·rw [g'.block k (Nat.lt_of_lt_of_le hk g.size) ?_, g.block k hk hne]
  rcases o with o | ⟨b, o, hb⟩
  ·rw [o]; exact hne
  ·rw [o]; intro e; injection e; omega
 ·rcases o' with o' | ⟨b, o', hb⟩
  ·rw [o']; exact o
  ·exact .inr ⟨b, o', Nat.le_trans g.size hb⟩
theorem Fr.after {w w1 w2 : World} {v v1 : Value} (h : Fr w v w1 v1) (h' : Below w1.heap.size w1 w2) : Fr w v w2 v1 := by
 obtain ⟨g, o⟩ := h
 exact ⟨⟨h'.os.trans g.os, h'.tape.trans g.tape, h'.output.trans g.output, Nat.le_trans g.size h'.size, fun k hk hne => (h'.block k (Nat.lt_of_lt_of_le hk g.size)).trans (g.block k hk hne)⟩, o⟩
theorem Fr.ahead {w w1 w2 : World} {v v2 : Value} (h : Below w.heap.size w w1) (h' : Fr w1 v w2 v2) : Fr w v w2 v2 := by
 obtain ⟨g, o⟩ := h'
 refine ⟨⟨g.os.trans h.os, g.tape.trans h.tape, g.output.trans h.output, Nat.le_trans h.size g.size, fun k hk hne => (g.block k (Nat.lt_of_lt_of_le hk h.size) hne).trans (h.block k hk)⟩, ?_⟩
 rcases o with o | ⟨b, o, hb⟩
 ·exact .inl o
 ·exact .inr ⟨b, o, Nat.le_trans h.size hb⟩
theorem Fr.below {w w' : World} {v v' : Value} {base : Nat} {xs : List Int} (h : Fr w v w' v') (hr : BR w base v xs) (hb : base ≤ w.heap.size) : Below base w w' :=
 ⟨h.1.os, h.1.tape, h.1.output, h.1.size, fun k hk => h.1.block k (by omega) (fun e => by have := Kd.R_base hr k e.symm; omega)⟩
/-- what lay there, not in v's row, reads as before -/
theorem Fr.cell {w w' : World} {v v' : Value} (h : Fr w v w' v') (b : Nat) (hb : b < w.heap.size) (hne : some b ≠ v.ownBlock) : w'.heap[b]? = w.heap[b]? := h.1.block b hb hne
theorem Fr.away {w w' : World} {v v' : Value} (h : Fr w v w' v') (b : Nat) (hb : b < w.heap.size) (hne : some b ≠ v.ownBlock) : some b ≠ v'.ownBlock := by
 rcases h.2 with o | ⟨c, o, hc⟩
 ·rw [o]; exact hne
 ·rw [o]; intro e; injection e; omega
theorem BR_away {w : World} {base : Nat} {v : Value} {xs : List Int} (h : BR w base v xs) : some w.heap.size ≠ v.ownBlock := fun e => by have := Kd.R_lt h _ e.symm; omega
theorem BR_below {w w' : World} {base : Nat} {v : Value} {xs : List Int} (h : BR w base v xs) (hb : Below w.heap.size w w') : BR w' base v xs := Kd.R_below h hb
theorem own_of_BR {w : World} {base : Nat} {v : Value} {xs : List Int} (h : BR w base v xs) : w.ownsRow base 5 1 v xs.length (nums .u8 xs) := Kd.own_of_R (enc := Value.int .u8) (h1 := fun _ => rfl) h
theorem BR_of_own {w : World} {base : Nat} {v : Value} {xs : List Int} (h : w.ownsRow base 5 1 v xs.length (nums .u8 xs)) : BR w base v xs := Kd.R_of_own (enc := Value.int .u8) (h1 := fun _ => rfl) h (fun _ _ => trivial)
theorem C_none (w : World) : (Kd.int .u8).C w none ([] : List Int).length [] := Kd.C_nil _ w
theorem Num_any (n : Int) (w : World) (h0 : 0 ≤ n) (h1 : n < 9223372036854775808) :
  Calls Tryz.prog 170 #[.slice none 0 0, .int .i64 n] w fun e w' => ∃ v ys, e = .returned (.tuple #[v, .int .i64 0]) ∧ BR w' w.heap.size v ys ∧ ys.length = varLen n.toNat ∧ Below w.heap.size w w' := by
 have hn : ¬ n < 0 := by omega
 have HP := Lib.hid (put_any none 0 [] n w (C_none w) (Nat.le_refl _) (by simp) h0 (by omega))
 go_enter Tryz.func170, Tryz.ntmps170
 go_wp2_with fail
 refine HP.out.mono ?_
 rintro e w1 ⟨v, ys, rfl, hv, hl, hb⟩
 have HV := Lib.hid hv
 have HL := Lib.hid hl
 have HB := Lib.hid hb
 clear hv hl hb
 go_wp2_with fail
 go_ret2
 exact ⟨_, _, rfl, HV.out, by have := HL.out; simpa using this, HB.out⟩
theorem xor_range (a b : Int) : 0 ≤ bits .xor .u64 a b ∧ bits .xor .u64 a b < 18446744073709551616 := by
 unfold bits
 simp only [IntKind.wrap, IntKind.bits, IntKind.signed]
 simp
 omega
/-- what is written of any number -/
def zz (n : Int) : Int := bits .xor .u64 (IntKind.u64.wrap (IntKind.u64.wrap n * 2)) (IntKind.u64.wrap (n / 9223372036854775808))
theorem Int_any (n : Int) (w : World) :
  Calls Tryz.prog 169 #[.slice none 0 0, .int .i64 n] w fun e w' => ∃ v ys, e = .returned v ∧ BR w' w.heap.size v ys ∧ ys.length = varLen (zz n).toNat ∧ Below w.heap.size w w' := by
 have hz := xor_range (IntKind.u64.wrap (IntKind.u64.wrap n * 2)) (IntKind.u64.wrap (n / 9223372036854775808))
 have HP := Lib.hid (put_any none 0 [] (zz n) w (C_none w) (Nat.le_refl _) (by simp) hz.1 hz.2)
 clear hz
 go_enter Tryz.func169, Tryz.ntmps169
 go_wp2_with fail
 refine HP.out.mono ?_
 rintro e w1 ⟨v, ys, rfl, hv, hl, hb⟩
 have HV := Lib.hid hv
 have HL := Lib.hid hl
 have HB := Lib.hid hb
 clear hv hl hb
 go_wp2_with fail
 go_ret
 exact ⟨_, _, rfl, HV.out, by have := HL.out; simpa using this, HB.out⟩
theorem varLen_le (k : Nat) : ∀ z, z < 128 ^ (k + 1) → varLen z ≤ k + 1 := by
 induction k with
 | zero => intro z hz; rw [varLen, if_pos (by omega)]; omega
 | succ k ih =>
  intro z hz
  by_cases h : z < 128
  ·rw [varLen, if_pos h]; omega
  ·rw [varLen, if_neg h]
   have := ih (z / 128) (by rw [Nat.div_lt_iff_lt_mul (by omega)]; rw [Nat.pow_succ] at hz; exact hz)
   omega
theorem varLen_10 (z : Nat) (h : z < 18446744073709551616) : varLen z ≤ 10 := varLen_le 9 z (Nat.lt_of_lt_of_le h (by decide))
theorem nat_any (v : Value) (xs : List Int) (base : Nat) (n : Int) (w : World) (hv : BR w base v xs) (hbase : base ≤ w.heap.size) (hl : xs.length ≤ 1099511627000) (h0 : 0 ≤ n) (h1 : n < 9223372036854775808) :
  Calls Tryz.prog 135 #[v, .int .i64 n] w fun e w' => ∃ v' ys, e = .returned v' ∧ BR w' base v' ys ∧ ys.length = xs.length + varLen n.toNat ∧ Fr w v w' v' := by
 have HV := Lib.hid hv; clear hv
 go_enter Tryz.func135, Tryz.ntmps135
 go_wp2_with fail
 refine (Num_any n w h0 h1).mono ?_
 rintro e w1 ⟨x, ys, rfl, hx, hy, hb⟩
 have HB := Lib.hid hb
 have HY := Lib.hid hy
 have HX := Lib.hid hx
 clear hb hx hy
 have hvl : varLen n.toNat ≤ 100 := by have := varLen_10 n.toNat (by omega); omega
 have HVL := Lib.hid hvl
 clear hvl
 obtain ⟨A, c, rfl, hlc, hC⟩ := Kd.R_reads HX.out
 have HC := Lib.hid hC
 clear hC
 go_wp2_with (at_builtin; go_loud (refine Kd.R_append_rows (Kd.int .u8) (w0 := w) base rfl _ _ 99 5 (.int .u8 0) 1 rfl Tryz.underlying99 infoByte rfl (by decide) (by decide) v xs ys A ys.length c (fun _ => True) (fun _ => False) rfl rfl (BR_below HV.out HB.out) HC.out (fun _ _ h => h) (fun _ h => h.elim) (fun _ _ => trivial) (Fr.below (Fr.after (Fr.refl w v) HB.out) HV.out hbase) (Nat.le_trans hbase HB.out.size) (by have := HY.out; have := HVL.out; omega) ?_); intro v1 w2 hv1 hb1 hg1 hat1; have HV3 := Lib.hid hv1; have HF := Lib.hid (Fr.ahead HB.out ⟨hg1, hat1⟩); clear hv1 hb1 hg1 hat1)
 go_ret
 exact ⟨_, _, rfl, HV3.out, by rw [List.length_append, HY.out], HF.out⟩
/-- behind bytes that fill their memory -/
theorem nat0_any (g : Nat) (xs : List Int) (base : Nat) (n : Int) (w : World) (hv : (Kd.int .u8).C w (some ⟨g, 0, none⟩) xs.length xs) (hbase : base ≤ w.heap.size) (hl : xs.length ≤ 1099511627000) (h0 : 0 ≤ n) (h1 : n < 9223372036854775808) :
  Calls Tryz.prog 135 #[.slice (some ⟨g, 0, none⟩) xs.length xs.length, .int .i64 n] w fun e w' => ∃ v' ys, e = .returned v' ∧ BR w' base v' ys ∧ ys.length = xs.length + varLen n.toNat ∧ Below w.heap.size w w' := by
 have HV := Lib.hid hv; clear hv
 go_enter Tryz.func135, Tryz.ntmps135
 go_wp2_with fail
 refine (Num_any n w h0 h1).mono ?_
 rintro e w1 ⟨x, ys, rfl, hx, hy, hb⟩
 have HB := Lib.hid hb
 have HY := Lib.hid hy
 have HX := Lib.hid hx
 clear hb hx hy
 have hvl : varLen n.toNat ≤ 100 := by have := varLen_10 n.toNat (by omega); omega
 have HVL := Lib.hid hvl
 clear hvl
 have hpos := varLen_pos n.toNat
 have hyp : 0 < ys.length := by have := HY.out; omega
 have HPOS := Lib.hid hyp
 clear hpos hyp
 obtain ⟨b, c, rfl, _, _⟩ := Kd.R_form HX.out HPOS.out
 obtain ⟨A', c', he, hlc, hC⟩ := Kd.R_reads HX.out
 injection he with he1 he2 he3
 subst he1 he3
 have HC := Lib.hid hC
 clear hC he2
 have HV1 := Lib.hid (Kd.C_below HV.out HB.out)
 obtain ⟨i0, hi, hzz⟩ := Option.map_eq_some_iff.1 infoByte
 simp only [Prod.mk.injEq] at hzz
 have HI := Lib.hid hzz
 clear hzz
 have HO1 : Hid (∀ j u, (nums .u8 xs)[j]? = some u → w1.cell? ((⟨g, 0, none⟩ : Addr).add j) = some u) := by
  intro j u hu
  have hu' : (xs[j]?).map (Value.int .u8) = some u := by simpa [nums] using hu
  obtain ⟨x, hx, rfl⟩ := Option.map_eq_some_iff.1 hu'
  obtain ⟨ad, e, hc⟩ := HV1.out.2.2 (by have := (List.getElem?_eq_some_iff.1 hx).1; omega)
  obtain rfl : (⟨g, 0, none⟩ : Addr) = ad := by injection e
  obtain ⟨c0, _, hk, hcell⟩ := hc j x hx
  have := hcell 0 _ (by rw [show c0 = [Value.int .u8 x] from hk]; rfl)
  simpa [Kd.int, Kd.scalar] using this
 have HO2 : Hid (∀ j u, (nums .u8 ys)[j]? = some u → w1.cell? ((⟨b, 0, none⟩ : Addr).add j) = some u) := by
  intro j u hu
  have hu' : (ys[j]?).map (Value.int .u8) = some u := by simpa [nums] using hu
  obtain ⟨x, hx, rfl⟩ := Option.map_eq_some_iff.1 hu'
  obtain ⟨ad, e, hc⟩ := HC.out.2.2 (by have := (List.getElem?_eq_some_iff.1 hx).1; omega)
  obtain rfl : (⟨b, 0, none⟩ : Addr) = ad := by injection e
  obtain ⟨c0, _, hk, hcell⟩ := hc j x hx
  have := hcell 0 _ (by rw [show c0 = [Value.int .u8 x] from hk]; rfl)
  simpa [Kd.int, Kd.scalar] using this
 go_wp2_with (at_builtin; go_loud (refine wpList_append_grows _ rfl _ _ 99 rfl 5 i0 (.int .u8 0) 1 1 Tryz.underlying99 hi HI.out.1 HI.out.2.1 HI.out.2.2 rfl (by decide) (some ⟨g, 0, none⟩) xs.length xs.length (nums .u8 xs) rfl (fun e => by cases e) (by simp [nums]) (fun b e => by cases e; exact HO1.out) ⟨b, 0, none⟩ ys.length c (nums .u8 ys) rfl (by simp [nums]) HO2.out (fun u hu => by simp [nums] at hu; obtain ⟨x, _, rfl⟩ := hu; rfl) (by have := HPOS.out; omega) (by simp only [maxLen]; have := HY.out; have := HVL.out; omega) (by have := HY.out; have := HVL.out; omega) ?_); intro v1 w2 hv1 hg1; have HV3 := Lib.hid hv1; have HG := Lib.hid hg1; clear hv1 hg1)
 go_ret
 refine ⟨_, xs ++ ys, rfl, ?_, by rw [List.length_append, HY.out], below_next HB.out ⟨HG.out.os, HG.out.tape, HG.out.output, HG.out.size, fun k hk => HG.out.block k hk (by simp)⟩⟩
 refine Kd.R_lower (Kd.R_of_own (enc := Value.int .u8) (h1 := fun _ => rfl) (xs := xs ++ ys) (by have h := HV3.out; rw [List.length_append]; simpa [nums, encs] using h) (fun _ _ => trivial)) (Nat.le_trans hbase HB.out.size)
theorem whole_any (v : Value) (xs : List Int) (base : Nat) (n : Int) (w : World) (hv : BR w base v xs) (hbase : base ≤ w.heap.size) (hl : xs.length ≤ 1099511627000) :
  Calls Tryz.prog 134 #[v, .int .i64 n] w fun e w' => ∃ v' ys, e = .returned v' ∧ BR w' base v' ys ∧ ys.length = xs.length + varLen (zz n).toNat ∧ Fr w v w' v' := by
 have HV := Lib.hid hv; clear hv
 go_enter Tryz.func134, Tryz.ntmps134
 go_wp2_with fail
 refine (Int_any n w).mono ?_
 rintro e w1 ⟨x, ys, rfl, hx, hy, hb⟩
 have HB := Lib.hid hb
 have HY := Lib.hid hy
 have HX := Lib.hid hx
 clear hb hx hy
 have HVL := Lib.hid (show varLen (zz n).toNat ≤ 100 from by have := varLen_10 (zz n).toNat (by have := (xor_range (IntKind.u64.wrap (IntKind.u64.wrap n * 2)) (IntKind.u64.wrap (n / 9223372036854775808))).2; unfold zz; omega); omega)
 obtain ⟨A, c, rfl, hlc, hC⟩ := Kd.R_reads HX.out
 have HC := Lib.hid hC
 clear hC
 go_wp2_with (at_builtin; go_loud (refine Kd.R_append_rows (Kd.int .u8) (w0 := w) base rfl _ _ 99 5 (.int .u8 0) 1 rfl Tryz.underlying99 infoByte rfl (by decide) (by decide) v xs ys A ys.length c (fun _ => True) (fun _ => False) rfl rfl (BR_below HV.out HB.out) HC.out (fun _ _ h => h) (fun _ h => h.elim) (fun _ _ => trivial) (Fr.below (Fr.after (Fr.refl w v) HB.out) HV.out hbase) (Nat.le_trans hbase HB.out.size) (by have := HY.out; have := HVL.out; omega) ?_); intro v1 w2 hv1 hb1 hg1 hat1; have HV3 := Lib.hid hv1; have HF := Lib.hid (Fr.ahead HB.out ⟨hg1, hat1⟩); clear hv1 hb1 hg1 hat1)
 go_ret
 exact ⟨_, _, rfl, HV3.out, by rw [List.length_append, HY.out], HF.out⟩
theorem Text_any (s : ByteArray) (w : World) (hs : s.size ≤ 65536) :
  Calls Tryz.prog 138 #[.slice none 0 0, .string s] w fun e w' => ∃ v ys, e = .returned (.tuple #[v, .int .i64 0]) ∧ BR w' w.heap.size v ys ∧ ys.length = varLen s.size + s.size ∧ Below w.heap.size w w' := by
 have HP := Lib.hid (put_any none 0 [] s.size w (C_none w) (Nat.le_refl _) (by simp) (by omega) (by omega))
 go_enter Tryz.func138, Tryz.ntmps138
 go_wp2_with fail
 refine HP.out.mono ?_
 rintro e w1 ⟨v, ys, rfl, hv, hl, hb⟩
 have HV := Lib.hid hv
 have HL := Lib.hid (show ys.length = varLen s.size from by simpa using hl)
 have HB := Lib.hid hb
 have HVL := Lib.hid (show varLen s.size ≤ 100 from by have := varLen_10 s.size (by omega); omega)
 clear hv hl hb
 have HO := Lib.hid (own_of_BR HV.out)
 go_wp2_with (at_builtin; go_loud (refine print_append_str (w0 := w) w.heap.size rfl _ _ 99 9 5 rfl Tryz.underlying99 Tryz.underlying9 infoByte v ys s rfl rfl HO.out HB.out HB.out.size (by have := HL.out; have := HVL.out; omega) ?_); intro v1 w2 hv1 hb1 hg1; have HV3 := Lib.hid hv1; have HB3 := Lib.hid hb1; clear hv1 hb1 hg1)
 go_ret2
 exact ⟨_, _, rfl, BR_of_own HV3.out, by rw [List.length_append, bytesOf_length, HL.out], HB3.out⟩
theorem cells3 {w : World} {g t : Nat} {x y z : Value} (h : w.heap[g]? = some (.cells #[x, y, z] t (0, 0))) : w.cell? ⟨g, 0, none⟩ = some x ∧ w.cell? ⟨g, 1, none⟩ = some y ∧ w.cell? ⟨g, 2, none⟩ = some z :=
 ⟨(blk_cell h 0).trans rfl, (blk_cell h 1).trans rfl, (blk_cell h 2).trans rfl⟩
def globLen (g : SGlob) : Nat := varLen g.f0.toNat + varLen g.f1.toNat + varLen (zz g.f2).toNat
def instrLen (x : SInstr) : Nat := varLen x.f0.toNat + varLen (zz x.f1).toNat + varLen x.f2.toNat
theorem enc1_any (g : SGlob) (v : Value) (xs : List Int) (base : Nat) (w : World) (hv : BR w base v xs) (hbase : base ≤ w.heap.size) (hl : xs.length ≤ 1099511620000) (h0 : 0 ≤ g.f0 ∧ g.f0 < 9223372036854775808) (h1 : 0 ≤ g.f1 ∧ g.f1 < 9223372036854775808) :
  Calls Tryz.prog 133 #[v, .agg #[.int .i64 g.f0, .int .i64 g.f1, .int .i64 g.f2]] w fun e w' => ∃ v' ys, e = .returned v' ∧ BR w' base v' ys ∧ ys.length = xs.length + globLen g ∧ Fr w v w' v' := by
 obtain ⟨a, b, c⟩ := g
 simp only at h0 h1 ⊢
 have HV := Lib.hid hv; clear hv
 have HA := Lib.hid (BR_away HV.out)
 have HVA := Lib.hid (BR_below HV.out (below_alloc (Below.refl w.heap.size w) (.cells #[.int .i64 a, .int .i64 b, .int .i64 c] 88)))
 have HBK := Lib.hid (heap_alloc_new w (.cells #[.int .i64 a, .int .i64 b, .int .i64 c] 88))
 have h1a := varLen_10 a.toNat (by omega)
 have h1b := varLen_10 b.toNat (by omega)
 go_enter Tryz.func133, Tryz.ntmps133
 go_wp2_with fail
 go_region_held3 (fun w' => w'.cell? ⟨w.heap.size, 0, none⟩ = some (.int .i64 a) ∧ w'.cell? ⟨w.heap.size, 1, none⟩ = some (.int .i64 b) ∧ w'.cell? ⟨w.heap.size, 2, none⟩ = some (.int .i64 c)) (go_keep)
  (first
   | (go_at_call 135; ((with_reducible refine (nat_any v xs base a _ (BR_below HVA.out (below_drew1 (Below.refl _ _))) (by simp; omega) (by omega) h0.1 h0.2).mono ?_); rintro e w1 ⟨v1, y1, rfl, hv1, hy1, hf1⟩; have HV1 := Lib.hid hv1; have HY1 := Lib.hid hy1; have HF1 := Lib.hid (Fr.ahead (below_drew1 (below_alloc (Below.refl w.heap.size w) _)) hf1); have HK1 := Lib.hid ((hf1.cell w.heap.size (by simp) HA.out).trans HBK.out); obtain ⟨hx0, hx1, hx2⟩ := cells3 HK1.out; have HA1 := Lib.hid (hf1.away w.heap.size (by simp) HA.out); have HS1 := Lib.hid (show w.heap.size < w1.heap.size from by have := hf1.1.size; simp at this; omega); clear hv1 hy1 hf1))
   | (go_at_call 135; ((with_reducible refine (nat_any v1 y1 base b _ HV1.out (by have := HS1.out; omega) (by have := HY1.out; omega) h1.1 h1.2).mono ?_); rintro e w2 ⟨v2, y2, rfl, hv2, hy2, hf2⟩; have HV2 := Lib.hid hv2; have HY2 := Lib.hid hy2; have HF2 := Lib.hid (Fr.trans HF1.out hf2); have HK2 := Lib.hid ((hf2.cell w.heap.size HS1.out HA1.out).trans HK1.out); clear hx0 hx1 hx2; obtain ⟨hx0, hx1, hx2⟩ := cells3 HK2.out; have HA2 := Lib.hid (hf2.away w.heap.size HS1.out HA1.out); have HS2 := Lib.hid (show w.heap.size < w2.heap.size from by have := hf2.1.size; have := HS1.out; omega); clear hv2 hy2 hf2))
   | (go_at_call 134; ((with_reducible refine (whole_any v2 y2 base c _ HV2.out (by have := HS2.out; omega) (by have := HY1.out; have := HY2.out; omega)).mono ?_); rintro e w3 ⟨v3, y3, rfl, hv3, hy3, hf3⟩; have HV3 := Lib.hid hv3; have HY3 := Lib.hid hy3; have HF3 := Lib.hid (Fr.trans HF2.out hf3); have HK3 := Lib.hid ((hf3.cell w.heap.size HS2.out HA2.out).trans HK2.out); clear hx0 hx1 hx2; obtain ⟨hx0, hx1, hx2⟩ := cells3 HK3.out; clear hv3 hy3 hf3)))
 go_wp2_with fail
 go_ret
 exact ⟨_, _, rfl, HV3.out, by rw [HY3.out, HY2.out, HY1.out]; unfold globLen; simp only; omega, HF3.out⟩
theorem enc21_any (g : SInstr) (v : Value) (xs : List Int) (base : Nat) (w : World) (hv : BR w base v xs) (hbase : base ≤ w.heap.size) (hl : xs.length ≤ 1099511620000) (h0 : 0 ≤ g.f0 ∧ g.f0 < 9223372036854775808) (h1 : 0 ≤ g.f2 ∧ g.f2 < 9223372036854775808) :
  Calls Tryz.prog 141 #[v, .agg #[.int .i64 g.f0, .int .i64 g.f1, .int .i64 g.f2]] w fun e w' => ∃ v' ys, e = .returned v' ∧ BR w' base v' ys ∧ ys.length = xs.length + instrLen g ∧ Fr w v w' v' := by
 obtain ⟨a, b, c⟩ := g
 simp only at h0 h1 ⊢
 have HV := Lib.hid hv; clear hv
 have HA := Lib.hid (BR_away HV.out)
 have HVA := Lib.hid (BR_below HV.out (below_alloc (Below.refl w.heap.size w) (.cells #[.int .i64 a, .int .i64 b, .int .i64 c] 56)))
 have HBK := Lib.hid (heap_alloc_new w (.cells #[.int .i64 a, .int .i64 b, .int .i64 c] 56))
 have h1a := varLen_10 a.toNat (by omega)
 have h1b := varLen_10 (zz b).toNat (by have := (xor_range (IntKind.u64.wrap (IntKind.u64.wrap b * 2)) (IntKind.u64.wrap (b / 9223372036854775808))).2; unfold zz; omega)
 go_enter Tryz.func141, Tryz.ntmps141
 go_wp2_with fail
 go_region_held3 (fun w' => w'.cell? ⟨w.heap.size, 0, none⟩ = some (.int .i64 a) ∧ w'.cell? ⟨w.heap.size, 1, none⟩ = some (.int .i64 b) ∧ w'.cell? ⟨w.heap.size, 2, none⟩ = some (.int .i64 c)) (go_keep)
  (first
   | (go_at_call 135; ((with_reducible refine (nat_any v xs base a _ (BR_below HVA.out (below_drew1 (Below.refl _ _))) (by simp; omega) (by omega) h0.1 h0.2).mono ?_); rintro e w1 ⟨v1, y1, rfl, hv1, hy1, hf1⟩; have HV1 := Lib.hid hv1; have HY1 := Lib.hid hy1; have HF1 := Lib.hid (Fr.ahead (below_drew1 (below_alloc (Below.refl w.heap.size w) _)) hf1); have HK1 := Lib.hid ((hf1.cell w.heap.size (by simp) HA.out).trans HBK.out); obtain ⟨hx0, hx1, hx2⟩ := cells3 HK1.out; have HA1 := Lib.hid (hf1.away w.heap.size (by simp) HA.out); have HS1 := Lib.hid (show w.heap.size < w1.heap.size from by have := hf1.1.size; simp at this; omega); clear hv1 hy1 hf1))
   | (go_at_call 134; ((with_reducible refine (whole_any v1 y1 base b _ HV1.out (by have := HS1.out; omega) (by have := HY1.out; omega)).mono ?_); rintro e w2 ⟨v2, y2, rfl, hv2, hy2, hf2⟩; have HV2 := Lib.hid hv2; have HY2 := Lib.hid hy2; have HF2 := Lib.hid (Fr.trans HF1.out hf2); have HK2 := Lib.hid ((hf2.cell w.heap.size HS1.out HA1.out).trans HK1.out); clear hx0 hx1 hx2; obtain ⟨hx0, hx1, hx2⟩ := cells3 HK2.out; have HA2 := Lib.hid (hf2.away w.heap.size HS1.out HA1.out); have HS2 := Lib.hid (show w.heap.size < w2.heap.size from by have := hf2.1.size; have := HS1.out; omega); clear hv2 hy2 hf2))
   | (go_at_call 135; ((with_reducible refine (nat_any v2 y2 base c _ HV2.out (by have := HS2.out; omega) (by have := HY1.out; have := HY2.out; omega) h1.1 h1.2).mono ?_); rintro e w3 ⟨v3, y3, rfl, hv3, hy3, hf3⟩; have HV3 := Lib.hid hv3; have HY3 := Lib.hid hy3; have HF3 := Lib.hid (Fr.trans HF2.out hf3); have HK3 := Lib.hid ((hf3.cell w.heap.size HS2.out HA2.out).trans HK2.out); clear hx0 hx1 hx2; obtain ⟨hx0, hx1, hx2⟩ := cells3 HK3.out; clear hv3 hy3 hf3)))
 go_wp2_with fail
 go_ret
 exact ⟨_, _, rfl, HV3.out, by rw [HY3.out, HY2.out, HY1.out]; unfold instrLen; simp only; omega, HF3.out⟩
theorem sum_snoc {α : Type} (f : α → Nat) (l : List α) (d : α) (k : Nat) (hk : k < l.length) (x : α) (hx : x = l.getD k d) : ((l.take (k + 1)).map f).sum = ((l.take k).map f).sum + f x ∧ x ∈ l := by
 have hq : l.getD k d = l[k] := by simp [List.getD_eq_getElem?_getD, hk]
 subst hx
 rw [hq, List.take_succ_eq_append_getElem hk, List.map_append, List.sum_append]
 exact ⟨by simp, List.getElem_mem hk⟩
theorem rowInt_any (w0 : World) (A : Option Addr) (c : Nat) (l : List Int) (hr : Kd.C (Kd.int .i64) w0 A l.length l) (hP : ∀ x ∈ l, 0 ≤ x ∧ x < 9223372036854775808) (hll : l.length ≤ 1073741824)
  (v : Value) (xs : List Int) (w : World) (hv : BR w w0.heap.size v xs) (hB : Below w0.heap.size w0 w) (hl : xs.length + 10 + 10 * l.length ≤ 1099511620000) :
  Calls Tryz.prog 139 #[v, .slice A l.length c, .func (.func 135) #[] #[]] w fun e w' => ∃ v' ys, e = .returned v' ∧ BR w' w0.heap.size v' ys ∧ ys.length = xs.length + varLen l.length + (l.map fun x => varLen x.toNat).sum ∧ Fr w v w' v' := by
 have HV := Lib.hid hv; clear hv
 have HR := Lib.hid hr; clear hr
 have HP := Lib.hid hP; clear hP
 have h1a := varLen_10 l.length (by omega)
 go_enter Tryz.func139, Tryz.ntmps139
 go_wp2_with fail
 refine (nat_any v xs w0.heap.size l.length _ HV.out hB.size (by omega) (by omega) (by omega)).mono ?_
 rintro e w1 ⟨v1, y1, rfl, hv1, hy1, hf1⟩
 have HV1 := Lib.hid hv1
 have HY1 := Lib.hid (show y1.length = xs.length + varLen l.length from by rw [hy1]; simp)
 have HF1 := Lib.hid hf1
 have HBS := Lib.hid hB.size
 clear hv1 hy1 hf1
 go_wp2_with fail
 go_loopw [0, 15] (fun t i wr => ∃ (k : Nat) (ys : List Int), k ≤ l.length ∧ i = .int .i64 k ∧ Hid (BR wr w0.heap.size t ys) ∧ Hid (ys.length = xs.length + varLen l.length + ((l.take k).map fun x => varLen x.toNat).sum) ∧ Hid (ys.length ≤ xs.length + 10 + 10 * k) ∧ Hid (Fr w v wr t)) (fun _ i _ => l.length - (intOf i).toNat)
 case atStart => exact ⟨0, y1, by omega, rfl, HV1.out, (show y1.length = xs.length + varLen l.length + ((l.take 0).map fun x => varLen x.toNat).sum from by simpa using HY1.out), by have h := HY1.out; show y1.length ≤ _; omega, HF1.out⟩
 case round =>
  obtain ⟨k, ys, hk, rfl, HVk, HYk, HLk, HFk⟩ := hrel
  have HBk := Lib.hid (show Below w0.heap.size w0 wr from hB.trans (Fr.below HFk.out HV.out HBS.out))
  by_cases hlt : k < l.length
  ·obtain ⟨ad, x, rfl, hc, HX⟩ := int_at (Kd.C_below HR.out HBk.out) k hlt
   have HS := Lib.hid (sum_snoc (fun x : Int => varLen x.toNat) l 0 k hlt x HX.out)
   have HPx := Lib.hid (HP.out x HS.out.2)
   go_wp2_with fail
   refine (nat_any _ ys w0.heap.size x _ HVk.out HBk.out.size (by have := HLk.out; omega) HPx.out.1 HPx.out.2).mono ?_
   rintro e w2 ⟨v2, y2, rfl, hv2, hy2, hf2⟩
   have HV2 := Lib.hid hv2
   have HY2 := Lib.hid hy2
   have HF2 := Lib.hid (Fr.trans HFk.out hf2)
   have HVL := Lib.hid (varLen_10 x.toNat (by have := HPx.out; omega))
   clear hv2 hy2 hf2
   go_wp2_with fail
   go_roundw
   case rel => exact ⟨k + 1, y2, by omega, by go_num, HV2.out, by have h1 := HY2.out; have h2 := HYk.out; have h3 := HS.out.1; show y2.length = _; (try simp only at h3); omega, by have h := HY2.out; have h2 := HLk.out; have h3 := HVL.out; show y2.length ≤ _; omega, HF2.out⟩
   case measure => simp [intOf]; omega
  ·obtain rfl : k = l.length := by omega
   rw [List.take_length] at HYk
   go_wp2_with fail
   go_ret
   exact ⟨_, ys, rfl, HVk.out, HYk.out, HFk.out⟩
theorem zz_lt (n : Int) : (zz n).toNat < 18446744073709551616 := by
 have := (xor_range (IntKind.u64.wrap (IntKind.u64.wrap n * 2)) (IntKind.u64.wrap (n / 9223372036854775808))).2
 unfold zz
 omega
theorem globLen_le (g : SGlob) (h0 : g.f0 < 9223372036854775808) (h1 : g.f1 < 9223372036854775808) : globLen g ≤ 30 := by
 have := varLen_10 g.f0.toNat (by omega)
 have := varLen_10 g.f1.toNat (by omega)
 have := varLen_10 (zz g.f2).toNat (zz_lt _)
 unfold globLen; omega
theorem instrLen_le (g : SInstr) (h0 : g.f0 < 9223372036854775808) (h1 : g.f2 < 9223372036854775808) : instrLen g ≤ 30 := by
 have := varLen_10 g.f0.toNat (by omega)
 have := varLen_10 g.f2.toNat (by omega)
 have := varLen_10 (zz g.f1).toNat (zz_lt _)
 unfold instrLen; omega
theorem rowInstr_any (w0 : World) (A : Option Addr) (c : Nat) (l : List SInstr) (hr : Kd.C kInstr w0 A l.length l) (hP : ∀ x ∈ l, 0 ≤ x.f0 ∧ x.f0 < 9223372036854775808 ∧ 0 ≤ x.f2 ∧ x.f2 < 9223372036854775808) (hll : l.length ≤ 1073741824)
  (v : Value) (xs : List Int) (w : World) (hv : BR w w0.heap.size v xs) (hB : Below w0.heap.size w0 w) (hl : xs.length + 10 + 30 * l.length ≤ 1099511620000) :
  Calls Tryz.prog 140 #[v, .slice A l.length c, .func (.func 141) #[] #[]] w fun e w' => ∃ v' ys, e = .returned v' ∧ BR w' w0.heap.size v' ys ∧ ys.length = xs.length + varLen l.length + (l.map instrLen).sum ∧ Fr w v w' v' := by
 have HV := Lib.hid hv; clear hv
 have HR := Lib.hid hr; clear hr
 have HP := Lib.hid hP; clear hP
 have h1a := varLen_10 l.length (by omega)
 go_enter Tryz.func140, Tryz.ntmps140
 go_wp2_with fail
 refine (nat_any v xs w0.heap.size l.length _ HV.out hB.size (by omega) (by omega) (by omega)).mono ?_
 rintro e w1 ⟨v1, y1, rfl, hv1, hy1, hf1⟩
 have HV1 := Lib.hid hv1
 have HY1 := Lib.hid (show y1.length = xs.length + varLen l.length from by rw [hy1]; simp)
 have HF1 := Lib.hid hf1
 have HBS := Lib.hid hB.size
 clear hv1 hy1 hf1
 go_wp2_with fail
 go_loopw [0, 15] (fun t i wr => ∃ (k : Nat) (ys : List Int), k ≤ l.length ∧ i = .int .i64 k ∧ Hid (BR wr w0.heap.size t ys) ∧ Hid (ys.length = xs.length + varLen l.length + ((l.take k).map instrLen).sum) ∧ Hid (ys.length ≤ xs.length + 10 + 30 * k) ∧ Hid (Fr w v wr t)) (fun _ i _ => l.length - (intOf i).toNat)
 case atStart => exact ⟨0, y1, by omega, rfl, HV1.out, (show y1.length = xs.length + varLen l.length + ((l.take 0).map instrLen).sum from by simpa using HY1.out), by have h := HY1.out; show y1.length ≤ _; omega, HF1.out⟩
 case round =>
  obtain ⟨k, ys, hk, rfl, HVk, HYk, HLk, HFk⟩ := hrel
  have HBk := Lib.hid (show Below w0.heap.size w0 wr from hB.trans (Fr.below HFk.out HV.out HBS.out))
  by_cases hlt : k < l.length
  ·obtain ⟨ad, rfl, h0, h1, h2⟩ := at_TInstr (Kd.C_below HR.out HBk.out) (k : Int) (by omega) (by omega)
   obtain ⟨x, hx⟩ : ∃ x, x = rd_TInstr l (k : Int) := ⟨_, rfl⟩
   rw [← hx] at h0 h1 h2
   simp only [Int.toNat_natCast] at h0 h1 h2
   have HX : Hid (x = l.getD k zInstr) := by rw [hx]; rfl
   clear hx
   have HS := Lib.hid (sum_snoc (instrLen) l zInstr k hlt x HX.out)
   have HPx := Lib.hid (HP.out x HS.out.2)
   go_wp2_with fail
   refine (enc21_any x _ ys w0.heap.size _ (BR_below HVk.out (below_alloc (Below.refl _ _) _)) (by have := HBk.out.size; simp; omega) (by have := HLk.out; omega) ⟨HPx.out.1, HPx.out.2.1⟩ ⟨HPx.out.2.2.1, HPx.out.2.2.2⟩).mono ?_
   rintro e w2 ⟨v2, y2, rfl, hv2, hy2, hf2⟩
   have HV2 := Lib.hid hv2
   have HY2 := Lib.hid hy2
   have HF2 := Lib.hid (Fr.trans (Fr.after HFk.out (below_alloc (Below.refl _ _) _)) hf2)
   have HVL := Lib.hid (instrLen_le x HPx.out.2.1 HPx.out.2.2.2)
   clear hv2 hy2 hf2
   go_wp2_with fail
   go_roundw
   case rel => exact ⟨k + 1, y2, by omega, by go_num, HV2.out, by have h1 := HY2.out; have h2 := HYk.out; have h3 := HS.out.1; show y2.length = _; (try simp only at h3); omega, by have h := HY2.out; have h2 := HLk.out; have h3 := HVL.out; show y2.length ≤ _; omega, HF2.out⟩
   case measure => simp [intOf]; omega
  ·obtain rfl : k = l.length := by omega
   rw [List.take_length] at HYk
   go_wp2_with fail
   go_ret
   exact ⟨_, ys, rfl, HVk.out, HYk.out, HFk.out⟩
theorem rowGlob_any (w0 : World) (A : Option Addr) (c : Nat) (l : List SGlob) (hr : Kd.C kGlob w0 A l.length l) (hP : ∀ x ∈ l, 0 ≤ x.f0 ∧ x.f0 < 9223372036854775808 ∧ 0 ≤ x.f1 ∧ x.f1 < 9223372036854775808) (hll : l.length ≤ 1073741824)
  (gb : Nat) (xs : List Int) (w : World) (hv : (Kd.int .u8).C w (some ⟨gb, 0, none⟩) xs.length xs) (hB : Below w0.heap.size w0 w) (hl : xs.length + 10 + 30 * l.length ≤ 1099511620000) :
  Calls Tryz.prog 132 #[.slice (some ⟨gb, 0, none⟩) xs.length xs.length, .slice A l.length c, .func (.func 133) #[] #[]] w fun e w' => ∃ v' ys, e = .returned v' ∧ BR w' w.heap.size v' ys ∧ ys.length = xs.length + varLen l.length + (l.map globLen).sum ∧ Below w.heap.size w w' := by
 have HV := Lib.hid hv; clear hv
 have HR := Lib.hid hr; clear hr
 have HP := Lib.hid hP; clear hP
 have h1a := varLen_10 l.length (by omega)
 go_enter Tryz.func132, Tryz.ntmps132
 go_wp2_with fail
 refine (nat0_any gb xs w.heap.size l.length _ HV.out (Nat.le_refl _) (by omega) (by omega) (by omega)).mono ?_
 rintro e w1 ⟨v1, y1, rfl, hv1, hy1, hf1⟩
 have HV1 := Lib.hid hv1
 have HY1 := Lib.hid (show y1.length = xs.length + varLen l.length from by rw [hy1]; simp)
 have HF1 := Lib.hid (Fr.refl w1 v1)
 have HB01 := Lib.hid hf1
 have HBS := Lib.hid hB.size
 clear hv1 hy1 hf1
 go_wp2_with fail
 go_loopw [0, 15] (fun t i wr => ∃ (k : Nat) (ys : List Int), k ≤ l.length ∧ i = .int .i64 k ∧ Hid (BR wr w.heap.size t ys) ∧ Hid (ys.length = xs.length + varLen l.length + ((l.take k).map globLen).sum) ∧ Hid (ys.length ≤ xs.length + 10 + 30 * k) ∧ Hid (Fr w1 v1 wr t)) (fun _ i _ => l.length - (intOf i).toNat)
 case atStart => exact ⟨0, y1, by omega, rfl, HV1.out, (show y1.length = xs.length + varLen l.length + ((l.take 0).map globLen).sum from by simpa using HY1.out), by have h := HY1.out; show y1.length ≤ _; omega, HF1.out⟩
 case round =>
  obtain ⟨k, ys, hk, rfl, HVk, HYk, HLk, HFk⟩ := hrel
  have HBw := Lib.hid (show Below w.heap.size w wr from HB01.out.trans (Fr.below HFk.out HV1.out HB01.out.size))
  have HBk := Lib.hid (below_then hB hB.size HBw.out)
  by_cases hlt : k < l.length
  ·obtain ⟨ad, rfl, h0, h1, h2⟩ := at_TGlob (Kd.C_below HR.out HBk.out) (k : Int) (by omega) (by omega)
   obtain ⟨x, hx⟩ : ∃ x, x = rd_TGlob l (k : Int) := ⟨_, rfl⟩
   rw [← hx] at h0 h1 h2
   simp only [Int.toNat_natCast] at h0 h1 h2
   have HX : Hid (x = l.getD k zGlob) := by rw [hx]; rfl
   clear hx
   have HS := Lib.hid (sum_snoc (globLen) l zGlob k hlt x HX.out)
   have HPx := Lib.hid (HP.out x HS.out.2)
   go_wp2_with fail
   refine (enc1_any x _ ys w.heap.size _ (BR_below HVk.out (below_alloc (Below.refl _ _) _)) (by have := HBw.out.size; simp; omega) (by have := HLk.out; omega) ⟨HPx.out.1, HPx.out.2.1⟩ ⟨HPx.out.2.2.1, HPx.out.2.2.2⟩).mono ?_
   rintro e w2 ⟨v2, y2, rfl, hv2, hy2, hf2⟩
   have HV2 := Lib.hid hv2
   have HY2 := Lib.hid hy2
   have HF2 := Lib.hid (Fr.trans (Fr.after HFk.out (below_alloc (Below.refl _ _) _)) hf2)
   have HVL := Lib.hid (globLen_le x HPx.out.2.1 HPx.out.2.2.2)
   clear hv2 hy2 hf2
   go_wp2_with fail
   go_roundw
   case rel => exact ⟨k + 1, y2, by omega, by go_num, HV2.out, by have h1 := HY2.out; have h2 := HYk.out; have h3 := HS.out.1; show y2.length = _; (try simp only at h3); omega, by have h := HY2.out; have h2 := HLk.out; have h3 := HVL.out; show y2.length ≤ _; omega, HF2.out⟩
   case measure => simp [intOf]; omega
  ·obtain rfl : k = l.length := by omega
   rw [List.take_length] at HYk
   go_wp2_with fail
   go_ret
   exact ⟨_, ys, rfl, HVk.out, HYk.out, HBw.out⟩
theorem cells5 {w : World} {g t : Nat} {x y z u s : Value} (h : w.heap[g]? = some (.cells #[x, y, z, u, s] t (0, 0))) : w.cell? ⟨g, 0, none⟩ = some x ∧ w.cell? ⟨g, 1, none⟩ = some y ∧ w.cell? ⟨g, 2, none⟩ = some z ∧ w.cell? ⟨g, 3, none⟩ = some u ∧ w.cell? ⟨g, 4, none⟩ = some s :=
 ⟨(blk_cell h 0).trans rfl, (blk_cell h 1).trans rfl, (blk_cell h 2).trans rfl, (blk_cell h 3).trans rfl, (blk_cell h 4).trans rfl⟩
def intsLen (l : List Int) : Nat := varLen l.length + (l.map fun x => varLen x.toNat).sum
def fnLen (f : SFn) : Nat := varLen f.f0.size + f.f0.size + intsLen f.f1 + varLen f.f2.toNat + intsLen (f.f3.drop f.f1.length) + varLen f.f4.length + (f.f4.map instrLen).sum
def fnBound (f : SFn) : Prop := f.f0.size ≤ 24 ∧ f.f1.length ≤ 8 ∧ f.f3.length ≤ 32 ∧ f.f1.length ≤ f.f3.length ∧ f.f4.length ≤ 32768 ∧ (0 ≤ f.f2 ∧ f.f2 ≤ 4) ∧ (∀ x ∈ f.f1, 1 ≤ x ∧ x ≤ 4) ∧ (∀ x ∈ f.f3, 1 ≤ x ∧ x ≤ 4) ∧ ∀ x ∈ f.f4, 1 ≤ x.f0 ∧ x.f0 ≤ 33 ∧ 0 ≤ x.f2 ∧ x.f2 ≤ 4
theorem rowInt_at (w0 : World) (A : Option Addr) (c n : Nat) (l : List Int) (hn : n = l.length) (hr : Kd.C (Kd.int .i64) w0 A l.length l) (hP : ∀ x ∈ l, 1 ≤ x ∧ x ≤ 4) (hll : l.length ≤ 1073741824)
  (v : Value) (xs : List Int) (w : World) (hv : BR w w0.heap.size v xs) (hB : Below w0.heap.size w0 w) (hl : xs.length + 10 + 10 * l.length ≤ 1099511620000) :
  Calls Tryz.prog 139 #[v, .slice A n c, .func (.func 135) #[] #[]] w fun e w' => ∃ v' ys, e = .returned v' ∧ BR w' w0.heap.size v' ys ∧ ys.length = xs.length + intsLen l ∧ Fr w v w' v' := by
 subst hn
 refine (rowInt_any w0 A c l hr (fun x hx => by have := hP x hx; omega) hll v xs w hv hB hl).mono ?_
 rintro e w' ⟨v', ys, rfl, h1, h2, h3⟩
 exact ⟨v', ys, rfl, h1, by unfold intsLen; omega, h3⟩
theorem intsLen_le (l : List Int) (h : ∀ x ∈ l, 1 ≤ x ∧ x ≤ 4) (hl : l.length ≤ 1000) : intsLen l ≤ 10 + 10 * l.length := by
 unfold intsLen
 have h1 := varLen_10 l.length (by omega)
 have h2 : (l.map fun x => varLen x.toNat).sum ≤ 10 * l.length := by
  clear hl h1
  induction l with
  | nil => simp
  | cons x l ih =>
   have hx := h x (by simp)
   have := varLen_10 x.toNat (by omega)
   have := ih (fun y hy => h y (by simp [hy]))
   simp only [List.map_cons, List.sum_cons, List.length_cons]
   omega
 omega
theorem enc2_any (f : SFn) (hf : fnBound f) (w0 : World) (fv : Value) (hfv : VFn w0 f fv) (v : Value) (xs : List Int) (w : World) (hv : BR w w0.heap.size v xs) (hB : Below w0.heap.size w0 w) (hl : xs.length ≤ 1099500000000) :
  Calls Tryz.prog 137 #[v, fv] w fun e w' => ∃ v' ys, e = .returned v' ∧ BR w' w0.heap.size v' ys ∧ ys.length = xs.length + fnLen f ∧ Fr w v w' v' := by
 obtain ⟨A1, c1, A3, c3, A4, c4, rfl, l1, g1, l3, g3, l4, g4⟩ := hfv
 have G1 := Lib.hid g1; clear g1
 have G3 := Lib.hid g3; clear g3
 have G4 := Lib.hid g4; clear g4
 have HV := Lib.hid hv; clear hv
 have HA := Lib.hid (BR_away HV.out)
 obtain ⟨h24, h8, h32, h13, hcd, hres, hp1, hp3, hpc⟩ := hf
 have HP1 := Lib.hid hp1; clear hp1
 have HP3 := Lib.hid hp3; clear hp3
 have HPC := Lib.hid hpc; clear hpc
 have HRES := Lib.hid hres; clear hres
 go_enter Tryz.func137, Tryz.ntmps137
 go_wp2_with fail
 refine (Text_any f.f0 _ (by omega)).mono ?_
 rintro e w1 ⟨vt, yt, rfl, hvt, hyt, hbt⟩
 have HVT := Lib.hid hvt
 have HYT := Lib.hid hyt
 have HBT := Lib.hid hbt
 have HK1 := Lib.hid ((hbt.block w.heap.size (by simp)).trans (heap_alloc_new w _))
 have HV1 := Lib.hid (BR_below (BR_below HV.out (below_alloc (Below.refl w.heap.size w) _)) hbt)
 have HF1 := Lib.hid (Fr.after (Fr.after (Fr.refl w v) (below_alloc (Below.refl w.heap.size w) _)) hbt)
 have HS1 := Lib.hid (show w.heap.size < w1.heap.size from by have := hbt.size; simp at this; omega)
 clear hvt hyt hbt
 obtain ⟨At, ct, rfl, hlt, hCt⟩ := Kd.R_reads HVT.out
 have HCT := Lib.hid hCt
 clear hCt
 obtain ⟨hx0, hx1, hx2, hx3, hx4⟩ := cells5 HK1.out
 go_wp2_with fail
 have HBW1 := Lib.hid (hB.trans (Fr.below HF1.out HV.out hB.size))
 have HL1 := Lib.hid (show (xs ++ yt).length = xs.length + varLen f.f0.size + f.f0.size ∧ varLen f.f0.size ≤ 10 from ⟨by rw [List.length_append, HYT.out]; omega, varLen_10 _ (by omega)⟩)
 have HI1 := Lib.hid (intsLen_le f.f1 HP1.out (by omega))
 go_region_held3 (fun w' => w'.cell? ⟨w.heap.size, 1, none⟩ = some (.slice A1 f.f1.length c1)) (go_keep)
  (first
   | (go_loud (refine Kd.R_append_rows_step (Kd.int .u8) (w0 := w0) w0.heap.size (by rfl) _ _ 99 5 (.int .u8 0) 1 rfl Tryz.underlying99 infoByte rfl (by decide) (by decide) v xs yt At yt.length ct (fun _ => True) (fun _ => False) rfl rfl (BR_below HV1.out (below_drew1 (Below.refl _ _))) (Kd.C_below HCT.out (below_drew1 (Below.refl _ _))) (fun _ _ h => h) (fun _ h => h.elim) (fun _ _ => trivial) (below_drew1 HBW1.out) HBW1.out.size (by have := HL1.out; simp at this; omega) ?_); intro v1 w2 hv1 hb1 hg1 hat1; have HV2 := Lib.hid (show BR w2 w0.heap.size v1 (xs ++ yt) from hv1); have HBW2 := Lib.hid hb1; have HFa := Lib.hid (Fr.ahead (below_drew1 (Below.refl w1.heap.size w1)) ⟨hg1, hat1⟩); have HF2 := Lib.hid (Fr.trans HF1.out HFa.out); have HA1 := Lib.hid (HF1.out.away w.heap.size); have HK2 := Lib.hid ((HFa.out.cell w.heap.size HS1.out HA.out).trans HK1.out); have HA2 := Lib.hid (HFa.out.away w.heap.size HS1.out HA.out); have HS2 := Lib.hid (show w.heap.size < w2.heap.size from by have := HFa.out.1.size; have := HS1.out; omega); clear hx0 hx1 hx2 hx3 hx4 hv1 hb1 hg1 hat1; obtain ⟨hx0, hx1, hx2, hx3, hx4⟩ := cells5 HK2.out)
   | (go_at_call 139; ((with_reducible refine (rowInt_at w0 A1 c1 f.f1.length f.f1 rfl G1.out HP1.out (by omega) v1 (xs ++ yt) _ HV2.out HBW2.out (by have := HL1.out; omega)).mono ?_); rintro e w3 ⟨v3, y3, rfl, hv3, hy3, hf3⟩; have HV3 := Lib.hid hv3; have HY3 := Lib.hid hy3; have HF3 := Lib.hid (Fr.trans HF2.out hf3); have HK3 := Lib.hid ((hf3.cell w.heap.size HS2.out HA2.out).trans HK2.out); have HA3 := Lib.hid (hf3.away w.heap.size HS2.out HA2.out); have HS3 := Lib.hid (show w.heap.size < w3.heap.size from by have := hf3.1.size; have := HS2.out; omega); clear hx0 hx1 hx2 hx3 hx4 hv3 hy3 hf3; obtain ⟨hx0, hx1, hx2, hx3, hx4⟩ := cells5 HK3.out)))
 have HBW3 := Lib.hid (hB.trans (Fr.below HF3.out HV.out hB.size))
 have HL3 := Lib.hid (show y3.length ≤ xs.length + 200 from by have := HL1.out; have := HI1.out; have := HY3.out; omega)
 have HP3d := Lib.hid (show ∀ x ∈ f.f3.drop f.f1.length, 1 ≤ x ∧ x ≤ 4 from fun x hx => HP3.out x (List.mem_of_mem_drop hx))
 have HI3 := Lib.hid (intsLen_le (f.f3.drop f.f1.length) HP3d.out (by rw [List.length_drop]; omega))
 have HVR := Lib.hid (varLen_10 f.f2.toNat (by have := HRES.out; omega))
 obtain ⟨i3, hi3, hz3⟩ := info_parts infoInt
 obtain ⟨AD, hAD⟩ : ∃ AD, AD = (if c3 = f.f1.length then A3 else A3.map (·.add (f.f1.length * 1))) := ⟨_, rfl⟩
 have hcut := cut_from (P := Tryz.prog) 27 3 .i64 Tryz.underlying27 hi3 1 hz3.2.1 A3 f.f3.length c3 (f.f1.length : Int) (by omega) (by omega)
 simp only [Int.toNat_natCast] at hcut
 rw [← hAD] at hcut
 have HCD := Lib.hid (show Kd.C (Kd.int .i64) w0 AD (f.f3.drop f.f1.length).length (f.f3.drop f.f1.length) from by rw [hAD]; exact Kd.C_drop (k := Kd.int .i64) G3.out h13 l3)
 clear hAD hi3 hz3
 go_wp2_with fail
 go_region_held3 (fun w' => w'.cell? ⟨w.heap.size, 1, none⟩ = some (.slice A1 f.f1.length c1) ∧ w'.cell? ⟨w.heap.size, 2, none⟩ = some (.int .i64 f.f2) ∧ w'.cell? ⟨w.heap.size, 3, none⟩ = some (.slice A3 f.f3.length c3)) (go_keep)
  (first
   | (go_at_call 135; ((with_reducible refine (nat_any v3 y3 w0.heap.size f.f2 _ (BR_below HV3.out (below_drew1 (Below.refl _ _))) (by have := HBW3.out.size; simpa using this) (by have := HL3.out; omega) HRES.out.1 (by have := HRES.out; omega)).mono ?_); rintro e w4 ⟨v4, y4, rfl, hv4, hy4, hf4⟩; have HV4 := Lib.hid hv4; have HY4 := Lib.hid hy4; have HFb := Lib.hid (Fr.ahead (below_drew1 (Below.refl w3.heap.size w3)) hf4); have HF4 := Lib.hid (Fr.trans HF3.out HFb.out); have HK4 := Lib.hid ((HFb.out.cell w.heap.size HS3.out HA3.out).trans HK3.out); have HA4 := Lib.hid (HFb.out.away w.heap.size HS3.out HA3.out); have HS4 := Lib.hid (show w.heap.size < w4.heap.size from by have := HFb.out.1.size; have := HS3.out; omega); have HBW4 := Lib.hid (hB.trans (Fr.below HF4.out HV.out hB.size)); clear hx0 hx1 hx2 hx3 hx4 hv4 hy4 hf4; obtain ⟨hx0, hx1, hx2, hx3, hx4⟩ := cells5 HK4.out))
   | (go_at_call 139; ((with_reducible refine (rowInt_at w0 AD (c3 - f.f1.length) (f.f3.length - f.f1.length) (f.f3.drop f.f1.length) List.length_drop.symm HCD.out HP3d.out (by rw [List.length_drop]; omega) v4 y4 _ HV4.out HBW4.out (by rw [List.length_drop]; have := HL3.out; have := HY4.out; have := HVR.out; omega)).mono ?_); rintro e w5 ⟨v5, y5, rfl, hv5, hy5, hf5⟩; have HV5 := Lib.hid hv5; have HY5 := Lib.hid hy5; have HF5 := Lib.hid (Fr.trans HF4.out hf5); have HK5 := Lib.hid ((hf5.cell w.heap.size HS4.out HA4.out).trans HK4.out); have HA5 := Lib.hid (hf5.away w.heap.size HS4.out HA4.out); have HS5 := Lib.hid (show w.heap.size < w5.heap.size from by have := hf5.1.size; have := HS4.out; omega); clear hx0 hx1 hx2 hx3 hx4 hv5 hy5 hf5; obtain ⟨hx0, hx1, hx2, hx3, hx4⟩ := cells5 HK5.out)))
 have HBW5 := Lib.hid (hB.trans (Fr.below HF5.out HV.out hB.size))
 go_wp2_with fail
 refine (rowInstr_any w0 A4 c4 f.f4 G4.out (fun x hx => by have := HPC.out x hx; omega) (by omega) v5 y5 _ HV5.out HBW5.out (by have := HL3.out; have := HY4.out; have := HVR.out; have := HY5.out; have := HI3.out; have : (f.f3.drop f.f1.length).length ≤ 32 := (by rw [List.length_drop]; omega); omega)).mono ?_
 rintro e w6 ⟨v6, y6, rfl, hv6, hy6, hf6⟩
 have HV6 := Lib.hid hv6
 have HY6 := Lib.hid hy6
 have HF6 := Lib.hid (Fr.trans HF5.out hf6)
 clear hv6 hy6 hf6
 go_wp2_with fail
 go_ret
 refine ⟨_, y6, rfl, HV6.out, ?_, HF6.out⟩
 have h1 := HY6.out
 have h2 := HY5.out
 have h3 := HY4.out
 have h4 := HY3.out
 have h5 := HL1.out.1
 unfold fnLen
 omega
theorem sum_le {α : Type} (f : α → Nat) (B : Nat) (l : List α) (h : ∀ x ∈ l, f x ≤ B) : (l.map f).sum ≤ B * l.length := by
 induction l with
 | nil => simp
 | cons x l ih =>
  have h1 := h x (by simp)
  have h2 := ih (fun y hy => h y (by simp [hy]))
  simp only [List.map_cons, List.sum_cons, List.length_cons, Nat.mul_succ]
  omega
theorem fnLen_le (f : SFn) (h : fnBound f) : fnLen f ≤ 2000000 := by
 obtain ⟨h24, h8, h32, h13, hcd, hres, hp1, hp3, hpc⟩ := h
 have a1 := varLen_10 f.f0.size (by omega)
 have a2 := intsLen_le f.f1 hp1 (by omega)
 have a3 := varLen_10 f.f2.toNat (by omega)
 have a4 := intsLen_le (f.f3.drop f.f1.length) (fun x hx => hp3 x (List.mem_of_mem_drop hx)) (by rw [List.length_drop]; omega)
 have a5 : (f.f3.drop f.f1.length).length ≤ 32 := by rw [List.length_drop]; omega
 have a6 := varLen_10 f.f4.length (by omega)
 have a7 := sum_le instrLen 30 f.f4 (fun x hx => instrLen_le x (by have := hpc x hx; omega) (by have := hpc x hx; omega))
 unfold fnLen
 omega
theorem rowFn_any (w0 : World) (A : Option Addr) (c : Nat) (l : List SFn) (hr : Kd.C kFn w0 A l.length l) (hP : ∀ x ∈ l, fnBound x) (hll : l.length ≤ 64)
  (v : Value) (xs : List Int) (w : World) (hv : BR w w0.heap.size v xs) (hB : Below w0.heap.size w0 w) (hl : xs.length + 10 + 2000000 * l.length ≤ 1000000000) :
  Calls Tryz.prog 136 #[v, .slice A l.length c, .func (.func 137) #[] #[]] w fun e w' => ∃ v' ys, e = .returned v' ∧ BR w' w0.heap.size v' ys ∧ ys.length = xs.length + varLen l.length + (l.map fnLen).sum ∧ Fr w v w' v' := by
 have HV := Lib.hid hv; clear hv
 have HR := Lib.hid hr; clear hr
 have HP := Lib.hid hP; clear hP
 have h1a := varLen_10 l.length (by omega)
 go_enter Tryz.func136, Tryz.ntmps136
 go_wp2_with fail
 refine (nat_any v xs w0.heap.size l.length _ HV.out hB.size (by omega) (by omega) (by omega)).mono ?_
 rintro e w1 ⟨v1, y1, rfl, hv1, hy1, hf1⟩
 have HV1 := Lib.hid hv1
 have HY1 := Lib.hid (show y1.length = xs.length + varLen l.length from by rw [hy1]; simp)
 have HF1 := Lib.hid hf1
 have HBS := Lib.hid hB.size
 clear hv1 hy1 hf1
 go_wp2_with fail
 go_loopw [0, 15] (fun t i wr => ∃ (k : Nat) (ys : List Int), k ≤ l.length ∧ i = .int .i64 k ∧ Hid (BR wr w0.heap.size t ys) ∧ Hid (ys.length = xs.length + varLen l.length + ((l.take k).map fnLen).sum) ∧ Hid (ys.length ≤ xs.length + 10 + 2000000 * k) ∧ Hid (Fr w v wr t)) (fun _ i _ => l.length - (intOf i).toNat)
 case atStart => exact ⟨0, y1, by omega, rfl, HV1.out, (show y1.length = xs.length + varLen l.length + ((l.take 0).map fnLen).sum from by simpa using HY1.out), by have h := HY1.out; show y1.length ≤ _; omega, HF1.out⟩
 case round =>
  obtain ⟨k, ys, hk, rfl, HVk, HYk, HLk, HFk⟩ := hrel
  have HBk := Lib.hid (show Below w0.heap.size w0 wr from hB.trans (Fr.below HFk.out HV.out HBS.out))
  by_cases hlt : k < l.length
  ·obtain ⟨ad, A1, c1, A3, c3, A4, c4, rfl, h0, h1, h2, h3, h4, l1, g1, l3, g3, l4, g4⟩ := at_TFn HR.out (k : Int) (by omega) (by omega)
   obtain ⟨x, hx⟩ : ∃ x, x = rd_TFn l (k : Int) := ⟨_, rfl⟩
   rw [← hx] at h0 h1 h2 h3 h4 l1 g1 l3 g3 l4 g4
   simp only [Int.toNat_natCast] at h0 h1 h2 h3 h4
   replace h0 := pw_cell_below HBk.out h0
   replace h1 := pw_cell_below HBk.out h1
   replace h2 := pw_cell_below HBk.out h2
   replace h3 := pw_cell_below HBk.out h3
   replace h4 := pw_cell_below HBk.out h4
   have HX : Hid (x = l.getD k zFn) := by rw [hx]; rfl
   have HVF := Lib.hid (show VFn w0 x (.agg #[.string x.f0, .slice A1 x.f1.length c1, .int .i64 x.f2, .slice A3 x.f3.length c3, .slice A4 x.f4.length c4]) from ⟨A1, c1, A3, c3, A4, c4, rfl, l1, g1, l3, g3, l4, g4⟩)
   clear hx g1 g3 g4
   have HS := Lib.hid (sum_snoc (fnLen) l zFn k hlt x HX.out)
   have HPx := Lib.hid (HP.out x HS.out.2)
   go_wp2_with fail
   refine (enc2_any x HPx.out w0 _ HVF.out _ ys _ (BR_below HVk.out (below_alloc (Below.refl _ _) _)) (below_alloc HBk.out _) (by have := HLk.out; omega)).mono ?_
   rintro e w2 ⟨v2, y2, rfl, hv2, hy2, hf2⟩
   have HV2 := Lib.hid hv2
   have HY2 := Lib.hid hy2
   have HF2 := Lib.hid (Fr.trans (Fr.after HFk.out (below_alloc (Below.refl _ _) _)) hf2)
   have HVL := Lib.hid (fnLen_le x HPx.out)
   clear hv2 hy2 hf2
   go_wp2_with fail
   go_roundw
   case rel => exact ⟨k + 1, y2, by omega, by go_num, HV2.out, by have h1 := HY2.out; have h2 := HYk.out; have h3 := HS.out.1; show y2.length = _; (try simp only at h3); omega, by have h := HY2.out; have h2 := HLk.out; have h3 := HVL.out; show y2.length ≤ _; omega, HF2.out⟩
   case measure => simp [intOf]; omega
  ·obtain rfl : k = l.length := by omega
   rw [List.take_length] at HYk
   go_wp2_with fail
   go_ret
   exact ⟨_, ys, rfl, HVk.out, HYk.out, HFk.out⟩
theorem and15 (x : Int) : 0 ≤ bits .and .u32 x 15 ∧ bits .and .u32 x 15 < 16 := by
 have h : (BitVec.ofInt 32 x &&& BitVec.ofInt 32 15).toNat ≤ 15 := by
  rw [BitVec.toNat_and]
  exact Nat.le_trans Nat.and_le_right (by decide)
 show 0 ≤ IntKind.u32.wrap ((BitVec.ofInt 32 x &&& BitVec.ofInt 32 15).toNat : Int) ∧ IntKind.u32.wrap ((BitVec.ofInt 32 x &&& BitVec.ofInt 32 15).toNat : Int) < 16
 generalize (BitVec.ofInt 32 x &&& BitVec.ofInt 32 15).toNat = z at h ⊢
 rw [IntKind.wrap_u32]
 omega
/-- the table of sums is there -/
def Nib (w : World) : Prop := ∃ T : Nat → Int, ∀ j, j < 16 → w.cell? ⟨3, j, none⟩ = some (.int .u32 (T j))
theorem Nib.below {w w' : World} (h : Nib w) (hb : Below w.heap.size w w') : Nib w' := by
 obtain ⟨T, hT⟩ := h
 exact ⟨T, fun j hj => pw_cell_below hb (hT j hj)⟩
theorem Sum_any (A : Option Addr) (c : Nat) (xs : List Int) (w : World) (hr : Kd.C (Kd.int .u8) w A xs.length xs) (hG : Nib w) (hl : xs.length ≤ 1099511620000) :
  Calls Tryz.prog 172 #[.slice A xs.length c] w fun e w' => ∃ n : Int, e = .returned (.int .i64 n) ∧ ∃ m, w' = w.drewN m := by
 have HR := Lib.hid hr; clear hr
 obtain ⟨T, hT⟩ := hG
 have HT := Lib.hid hT; clear hT
 go_enter Tryz.func172, Tryz.ntmps172
 go_wp2_with fail
 go_loopw [3, 8] (fun s i wr => ∃ (k : Nat) (x : Int), k ≤ xs.length ∧ i = .int .i64 k ∧ s = .int .u32 x ∧ Hid (∃ m, wr = w.drewN m)) (fun _ i _ => xs.length - (intOf i).toNat)
 case atStart => exact ⟨0, _, by omega, rfl, rfl, 0, rfl⟩
 case round =>
  obtain ⟨k, x, hk, rfl, rfl, HB⟩ := hrel
  by_cases hlt : k < xs.length
  ·have hT := HT.out
   obtain ⟨ad, e, hc⟩ := (Kd.C_below HR.out (drawn_below HB.out)).2.2 (by omega)
   subst e
   obtain ⟨y, hy⟩ : ∃ y, xs[k]? = some y := ⟨xs[k], List.getElem?_eq_getElem hlt⟩
   have hcy : wr.cell? (ad.add k) = some (.int .u8 y) := by
    obtain ⟨c0, _, hk0, hcell⟩ := hc k y hy
    have := hcell 0 _ (by rw [show c0 = [Value.int .u8 y] from hk0]; rfl)
    simpa [Kd.int, Kd.scalar] using this
   have hi0 : ∀ x : Int, 0 ≤ bits .and .u32 x 15 := fun x => (and15 x).1
   have hi1 : ∀ x : Int, bits .and .u32 x 15 < 16 := fun x => (and15 x).2
   have hct : ∀ x : Int, wr.cell? ⟨3, (bits .and .u32 x 15).toNat, none⟩ = some (.int .u32 (T (bits .and .u32 x 15).toNat)) := fun x => pw_cell_below (drawn_below HB.out) (hT _ (by have := and15 x; omega))
   clear hc hy hT
   go_wp2_with fail
   go_roundw
   case rel => exact ⟨k + 1, _, by omega, by go_num, rfl, HB.out⟩
   case measure => simp [intOf]; omega
  ·go_wp2_with fail
   go_ret
   exact ⟨⟨_, rfl⟩, HB.out⟩
theorem Frame_any (v : Value) (xs : List Int) (base : Nat) (w : World) (hv : BR w base v xs) (hG : Nib w) (hl : xs.length ≤ 1099511620000) :
  Calls Tryz.prog 142 #[v] w fun e w' => ∃ v' ys, e = .returned v' ∧ BR w' w.heap.size v' ys ∧ ys.length = xs.length + 4 ∧ Below w.heap.size w w' := by
 obtain ⟨A, c, rfl, hlc, hC⟩ := Kd.R_reads hv
 have HC := Lib.hid hC; clear hC
 have HG := Lib.hid hG; clear hG
 go_enter Tryz.func142, Tryz.ntmps142
 go_wp2_with fail
 refine (Sum_any A c xs _ HC.out HG.out hl).mono ?_
 rintro e w1 ⟨n, rfl, m, rfl⟩
 go_wp2_with fail
 have hB1 : Below w.heap.size w (w.drewN m) := pw_below_drewN (Below.refl _ _) m
 have hB2 := below_alloc hB1 (.cells #[.int .u8 (n % 256), .int .u8 (n / 256 % 256), .int .u8 (n / 65536 % 256), .int .u8 (n / 16777216 % 256)] 5)
 have hB3 := below_alloc hB2 (.cells #[.slice A xs.length c, .slice (some ⟨w.heap.size, 0, none⟩) 4 4] 99)
 have hk1 : ((w.drewN m).alloc (.cells #[.int .u8 (n % 256), .int .u8 (n / 256 % 256), .int .u8 (n / 65536 % 256), .int .u8 (n / 16777216 % 256)] 5)).heap[w.heap.size]? = some (.cells (([n % 256, n / 256 % 256, n / 65536 % 256, n / 16777216 % 256] : List Int).map (Value.int .u8)).toArray 5 (0, 0)) := heap_alloc_new (w.drewN m) _
 have hs1 : ((w.drewN m).alloc (.cells #[.int .u8 (n % 256), .int .u8 (n / 256 % 256), .int .u8 (n / 65536 % 256), .int .u8 (n / 16777216 % 256)] 5)).heap.size = w.heap.size + 1 := by simp
 generalize (w.drewN m).alloc (.cells #[.int .u8 (n % 256), .int .u8 (n / 256 % 256), .int .u8 (n / 65536 % 256), .int .u8 (n / 16777216 % 256)] 5) = w2 at *
 have HCC := Lib.hid (concat_any (some ⟨w.heap.size + 1, 0, none⟩) 2 [xs, [n % 256, n / 256 % 256, n / 65536 % 256, n / 16777216 % 256]] (w2.alloc (.cells #[.slice A xs.length c, .slice (some ⟨w.heap.size, 0, none⟩) 4 4] 99))
  (C_two (c1 := 4) (by rw [← hs1]; exact heap_alloc_new w2 _) (Kd.C_below HC.out hB3) hlc (C_blk .u8 [n % 256, n / 256 % 256, n / 65536 % 256, n / 16777216 % 256] (blk_alloc hk1 _) 4 (by simp) (by simp)) (by simp)) (by simp [sumLen]; omega) (by simp))
 have HB3 := Lib.hid hB3
 clear hB1 hB2 hB3 hk1 hs1
 refine HCC.out.mono ?_
 rintro e w3 ⟨v, rfl, hv, hb⟩
 have HV := Lib.hid hv
 have HBB := Lib.hid (below_next HB3.out hb)
 clear hv hb
 go_wp2_with fail
 go_ret
 exact ⟨_, _, rfl, Kd.R_lower HV.out HB3.out.size, by simp, HBB.out⟩
/-- an image; how long its rows may be -/
structure SImage where
 globs : List SGlob
 fns : List SFn
def fnSmall (B : Nat) (f : SFn) : Prop := f.f0.size ≤ B ∧ f.f1.length ≤ B ∧ f.f3.length ≤ B ∧ f.f4.length ≤ B
def imgSmall (B : Nat) (x : SImage) : Prop := x.globs.length ≤ B ∧ x.fns.length ≤ B ∧ ∀ f ∈ x.fns, fnSmall B f
/-- the value of an image, read in w -/
def VImage (w : World) (x : SImage) (v : Value) : Prop := ∃ A0 c0 A1 c1, v = .agg #[.slice A0 x.globs.length c0, .slice A1 x.fns.length c1] ∧ x.globs.length ≤ c0 ∧ kGlob.C w A0 x.globs.length x.globs ∧ x.fns.length ≤ c1 ∧ kFn.C w A1 x.fns.length x.fns
theorem en_ok2 : Enters 167 := fun args w => enters_ Tryz.func167 (by kernel_rfl) rfl args w
theorem ok2_any (f : SFn) (v : Value) (w : World) (hv : VFn w f v) (hs : fnSmall 1099511620000 f) : Calls Tryz.prog 167 #[v] w fun e w' => e = .returned (.bool (!fnB f)) ∧ Below w.heap.size w w' := by
 obtain ⟨A1, c1, A3, c3, A4, c4, rfl, l1, g1, l3, g3, l4, g4⟩ := hv
 obtain ⟨s0, s1, s3, s4⟩ := hs
 have hb := below_alloc (Below.refl w.heap.size w) (.cells #[.string f.f0, .slice A1 f.f1.length c1, .int .i64 f.f2, .slice A3 f.f3.length c3, .slice A4 f.f4.length c4] 54)
 have HC := Lib.hid (fn_any f (.agg #[.string f.f0, .slice A1 f.f1.length c1, .int .i64 f.f2, .slice A3 f.f3.length c3, .slice A4 f.f4.length c4]) (w.alloc (.cells #[.string f.f0, .slice A1 f.f1.length c1, .int .i64 f.f2, .slice A3 f.f3.length c3, .slice A4 f.f4.length c4] 54)) ⟨A1, c1, A3, c3, A4, c4, rfl, l1, Kd.C_below g1 hb, l3, Kd.C_below g3 hb, l4, Kd.C_below g4 hb⟩ (by omega) (by omega) (by omega) (by omega))
 have HB := Lib.hid hb
 clear g1 g3 g4 hb
 go_enter Tryz.func167, Tryz.ntmps167
 go_wp2_with fail
 refine (asB HC.out).mono ?_
 rintro e w1 ⟨b, rfl, HBB, HW⟩
 go_wp2_with fail
 go_ret
 exact ⟨ret_bool (by rw [← HBB.out]), below_next HB.out HW.out⟩
def okB (x : SImage) : Bool := decide (x.globs.length ≤ 64) && decide (x.fns.length ≤ 64) && !(x.globs.any fun g => !globB g) && !(x.fns.any fun f => !fnB f)
theorem ok_any (x : SImage) (v : Value) (w : World) (hv : VImage w x v) (hs : imgSmall 1099511620000 x) :
  Calls Tryz.prog 131 #[v] w fun e w' => e = .returned (.bool (okB x)) ∧ Below w.heap.size w w' := by
 obtain ⟨A0, c0, A1, c1, rfl, l0, g0, l1, g1⟩ := hv
 obtain ⟨hs0, hs1, hs2⟩ := hs
 have hb := below_alloc (Below.refl w.heap.size w) (.cells #[.slice A0 x.globs.length c0, .slice A1 x.fns.length c1] 25)
 have G0 := Lib.hid (Kd.C_below g0 hb)
 have G1 := Lib.hid (Kd.C_below g1 hb)
 have HS2 := Lib.hid hs2
 have HB := Lib.hid hb
 have HK := Lib.hid (heap_alloc_new w (.cells #[.slice A0 x.globs.length c0, .slice A1 x.fns.length c1] 25))
 clear g0 g1 hb hs2
 by_cases h1 : x.globs.length ≤ 64
 ·by_cases h2 : x.fns.length ≤ 64
  ·go_enter Tryz.func131, Tryz.ntmps131
   go_wp2_with fail
   refine (asB (conGlob_any 164 #[] (fun g => !globB g) A0 c0 x.globs _ en_ok1 (fun g v w' _ _ h => ok1_any g v w' h) G0.out (by omega))).mono ?_
   rintro e w1 ⟨b, rfl, HBB, HW⟩
   have HW1 := Lib.hid (below_next HB.out HW.out)
   cases b
   ·have HK1 := Lib.hid ((HW.out.block w.heap.size (by simp)).trans HK.out)
    have hx1 : w1.cell? ⟨w.heap.size, 1, none⟩ = some (.slice A1 x.fns.length c1) := (blk_cell HK1.out 1).trans rfl
    go_wp2_with fail
    refine (asB (conFn_any 167 #[] (fun f => !fnB f) A1 c1 x.fns _ en_ok2 (fun f v w' hm _ h => ok2_any f v w' h (HS2.out f hm)) (Kd.C_below G1.out HW.out) (by omega))).mono ?_
    rintro e w2 ⟨b, rfl, HBF, HW2⟩
    go_wp2_with fail
    go_ret
    exact ⟨ret_bool (by unfold okB; rw [← HBB.out, ← HBF.out]; simp [h1, h2]), below_next HW1.out HW2.out⟩
   ·go_wp2_with fail
    go_ret
    exact ⟨ret_bool (by unfold okB; rw [← HBB.out]; simp), HW1.out⟩
  ·go_enter Tryz.func131, Tryz.ntmps131
   go_wp2_with fail
   go_ret
   exact ⟨ret_bool (by unfold okB; simp [h2]), HB.out⟩
 ·go_enter Tryz.func131, Tryz.ntmps131
  go_wp2_with fail
  go_ret
  exact ⟨ret_bool (by unfold okB; simp [h1]), HB.out⟩
theorem okB_bounds (x : SImage) (h : okB x = true) : x.globs.length ≤ 64 ∧ x.fns.length ≤ 64 ∧ (∀ g ∈ x.globs, globB g = true) ∧ ∀ f ∈ x.fns, fnB f = true := by
 unfold okB at h
 simp only [Bool.and_eq_true, decide_eq_true_eq, Bool.not_eq_true', List.any_eq_false] at h
 exact ⟨h.1.1.1, h.1.1.2, fun g hg => by simpa using h.1.2 g hg, fun f hf => by simpa using h.2 f hf⟩
theorem typesB_all (l : List Int) (h : typesB l = true) : ∀ t ∈ l, 1 ≤ t ∧ t ≤ 4 := by
 intro t ht
 unfold typesB at h
 simp only [Bool.not_eq_true', List.any_eq_false] at h
 have := h t ht
 simpa [typedB] using this
theorem fnB_bound (f : SFn) (h : fnB f = true) : fnBound f := by
 unfold fnB fnHeadB at h
 simp only [Bool.and_eq_true, decide_eq_true_eq, Bool.not_eq_true', Bool.or_eq_true, beq_iff_eq, List.any_eq_false] at h
 obtain ⟨⟨⟨⟨⟨⟨hn, h8⟩, h32⟩, hc⟩, ht⟩, hr⟩, hle, heq, hi⟩ := h
 have hn24 : f.f0.size ≤ 24 := by
  unfold nameB at hn
  simp only [Bool.and_eq_true, decide_eq_true_eq] at hn
  exact hn.1.1.1.2
 have hT := typesB_all f.f3 ht
 refine ⟨hn24, h8, h32, hle, hc, ?_, fun x hx => hT x (by rw [heq] at hx; exact List.mem_of_mem_take hx), hT, fun x hx => ?_⟩
 ·rcases hr with hr | hr
  ·omega
  ·unfold typedB at hr; simp at hr; omega
 ·have := hi x hx
  unfold instrB at this
  simp at this
  omega
theorem globB_bound (g : SGlob) (h : globB g = true) : 1 ≤ g.f0 ∧ g.f0 ≤ 4 ∧ 0 ≤ g.f1 ∧ g.f1 ≤ 256 := by
 unfold globB typedB at h
 simp only [Bool.and_eq_true, decide_eq_true_eq] at h
 omega
/-- how many bytes an image takes -/
def imgLen (x : SImage) : Nat := 8 + (varLen x.globs.length + (x.globs.map globLen).sum) + (varLen x.fns.length + (x.fns.map fnLen).sum)
/-- what is wrong with an image: 0, 150 or 2 -/
def rightE (x : SImage) : Int := if okB x then (if 1048576 < imgLen x then 2 else 0) else 150
theorem Encode_any (x : SImage) (v : Value) (w : World) (hv : VImage w x v) (hs : imgSmall 1099511620000 x) (hG : Nib w) :
  Calls Tryz.prog 90 #[v] w fun e w' => ∃ vb, e = .returned (.tuple #[vb, .int .i64 (rightE x)]) ∧ Below w.heap.size w w' := by
 have hv0 := hv
 obtain ⟨A0, c0, A1, c1, rfl, l0, g0, l1, g1⟩ := hv
 have hb := below_alloc (Below.refl w.heap.size w) (.cells #[.slice A0 x.globs.length c0, .slice A1 x.fns.length c1] 25)
 have HOK := Lib.hid (ok_any x (.agg #[.slice A0 x.globs.length c0, .slice A1 x.fns.length c1]) (w.alloc (.cells #[.slice A0 x.globs.length c0, .slice A1 x.fns.length c1] 25)) ⟨A0, c0, A1, c1, rfl, l0, Kd.C_below g0 hb, l1, Kd.C_below g1 hb⟩ hs)
 have HB := Lib.hid hb
 have HG0 := Lib.hid g0
 have HG1 := Lib.hid g1
 have HN := Lib.hid hG
 have HK := Lib.hid (heap_alloc_new w (.cells #[.slice A0 x.globs.length c0, .slice A1 x.fns.length c1] 25))
 have HS := Lib.hid hs
 clear hb g0 g1 hG hv0 hs
 have kc := fun (w : World) (C : Array Value) (n c : Nat) => Lib.run_convert_bytes_const (P := Tryz.prog) w 99 5 C n c Tryz.underlying99 Tryz.underlying5
 go_enter Tryz.func90, Tryz.ntmps90
 go_wp2_with fail
 refine (asB HOK.out).mono ?_
 rintro e w1 ⟨b, rfl, HBB, HW⟩
 have HW1 := Lib.hid (below_next HB.out HW.out)
 cases b
 ·go_wp2_with fail
  go_ret2
  exact ⟨_, by unfold rightE; rw [← HBB.out]; rfl, HW1.out⟩
 ·have HK1 := Lib.hid ((HW.out.block w.heap.size (by simp)).trans HK.out)
  have hx0 := Lib.cell?_alloc_marked (W := w1) (a := ⟨w.heap.size, 0, none⟩) (v := .slice A0 x.globs.length c0) (.cells #[.int .u8 84, .int .u8 73, .int .u8 76, .int .u8 84] 5 (4, 5)) ((blk_cell HK1.out 0).trans rfl)
  have HBD := Lib.hid (okB_bounds x HBB.out.symm)
  have hb2 := below_alloc HW1.out (.cells #[.int .u8 84, .int .u8 73, .int .u8 76, .int .u8 84] 5 (4, 5))
  have HW2 := Lib.hid hb2
  have HRG := Lib.hid (rowGlob_any w A0 c0 x.globs HG0.out (fun g hg => by have := globB_bound g (HBD.out.2.2.1 g hg); omega) (by have := HBD.out.1; omega) w1.heap.size [84, 73, 76, 84] (w1.alloc (.cells #[.int .u8 84, .int .u8 73, .int .u8 76, .int .u8 84] 5 (4, 5)))
   (C_blk (g := w1.heap.size) (t := 5) (fr := (4, 5)) .u8 [84, 73, 76, 84] (heap_alloc_new w1 (.cells #[.int .u8 84, .int .u8 73, .int .u8 76, .int .u8 84] 5 (4, 5))) 4 (by simp) (by simp)) hb2 (by have := HBD.out.1; simp; omega))
  have HK2 := Lib.hid ((Below.heap_alloc w1 (.cells #[.int .u8 84, .int .u8 73, .int .u8 76, .int .u8 84] 5 (4, 5)) w.heap.size (by have := HW.out.size; simp at this; omega)).trans HK1.out)
  clear hb2
  go_wp2_with fail
  refine HRG.out.mono ?_
  rintro e w3 ⟨v3, y3, rfl, hv3, hy3, hb3⟩
  have HL3 := Lib.hid (show y3.length = 4 + varLen x.globs.length + (x.globs.map globLen).sum from hy3)
  have HS1 := Lib.hid (show w.heap.size < w1.heap.size from by have := HW.out.size; simp at this; omega)
  have HW3 := Lib.hid (below_then HW2.out HW2.out.size hb3)
  have HK3 := Lib.hid ((hb3.block w.heap.size (by have := HS1.out; simp; omega)).trans HK2.out)
  have hv3' : BR w3 w.heap.size v3 y3 := Kd.R_lower hv3 HW2.out.size
  have HV3 := Lib.hid hv3'
  have HA3 := Lib.hid (show some w.heap.size ≠ v3.ownBlock from fun e => by have h1 := Kd.R_base hv3 w.heap.size e.symm; have h2 := HS1.out; have h3 : (w1.alloc (.cells #[.int .u8 84, .int .u8 73, .int .u8 76, .int .u8 84] 5 (4, 5))).heap.size = w1.heap.size + 1 := (by simp); omega)
  have HGS := Lib.hid (sum_le globLen 30 x.globs (fun g hg => by have := globB_bound g (HBD.out.2.2.1 g hg); exact globLen_le g (by omega) (by omega)))
  have HVL := Lib.hid (varLen_10 x.globs.length (by have := HBD.out.1; omega))
  have hx1 : w3.cell? ⟨w.heap.size, 1, none⟩ = some (.slice A1 x.fns.length c1) := (blk_cell HK3.out 1).trans rfl
  clear hv3 hy3 hb3 hv3' hx0
  go_wp2_with fail
  refine (rowFn_any w A1 c1 x.fns HG1.out (fun f hf => fnB_bound f (HBD.out.2.2.2 f hf)) (by have := HBD.out.2.1; omega) v3 y3 w3 HV3.out HW3.out (by have := HBD.out.2.1; have := HBD.out.1; have := HL3.out; have := HGS.out; have := HVL.out; omega)).mono ?_
  rintro e w4 ⟨v4, y4, rfl, hv4, hy4, hf4⟩
  have HV4 := Lib.hid hv4
  have HY4 := Lib.hid hy4
  have HW4 := Lib.hid (HW3.out.trans (Fr.below hf4 HV3.out HW3.out.size))
  have HFS := Lib.hid (sum_le fnLen 2000000 x.fns (fun f hf => fnLen_le f (fnB_bound f (HBD.out.2.2.2 f hf))))
  have HVL2 := Lib.hid (varLen_10 x.fns.length (by have := HBD.out.2.1; omega))
  clear hv4 hy4 hf4 hx1
  go_wp2_with fail
  refine (Frame_any v4 y4 w.heap.size w4 HV4.out (HN.out.below HW4.out) (by have := HBD.out.2.1; have := HBD.out.1; have := HL3.out; have := HGS.out; have := HVL.out; have := HY4.out; have := HFS.out; have := HVL2.out; omega)).mono ?_
  rintro e w5 ⟨v5, y5, rfl, hv5, hy5, hb5⟩
  obtain ⟨A5, c5, rfl⟩ := Kd.R_slice hv5
  have HY5 := Lib.hid (show y5.length = imgLen x from by have h1 := HY4.out; have h2 := HL3.out; unfold imgLen; omega)
  have HW5 := Lib.hid (below_then HW4.out HW4.out.size hb5)
  clear hv5 hy5 hb5
  by_cases hbig : 1048576 < y5.length
  ·have HR := Lib.hid (show rightE x = 2 from by unfold rightE; rw [← HBB.out, ← HY5.out]; simp [hbig])
   go_wp2_with fail
   go_ret2
   exact ⟨_, by rw [HR.out]; rfl, HW5.out⟩
  ·have HR := Lib.hid (show rightE x = 0 from by unfold rightE; rw [← HBB.out, ← HY5.out]; simp [hbig])
   go_wp2_with fail
   go_ret2
   exact ⟨_, by rw [HR.out]; rfl, HW5.out⟩
theorem Right_any (x : SImage) (v : Value) (w : World) (hv : VImage w x v) (hs : imgSmall 1099511620000 x) (hG : Nib w) :
  Calls Tryz.prog 61 #[v] w fun e w' => e = .returned (.int .i64 (rightE x)) ∧ Below w.heap.size w w' := by
 obtain ⟨A0, c0, A1, c1, rfl, l0, g0, l1, g1⟩ := hv
 have hb := below_alloc (Below.refl w.heap.size w) (.cells #[.slice A0 x.globs.length c0, .slice A1 x.fns.length c1] 25)
 have HC := Lib.hid (Encode_any x (.agg #[.slice A0 x.globs.length c0, .slice A1 x.fns.length c1]) _ ⟨A0, c0, A1, c1, rfl, l0, Kd.C_below g0 hb, l1, Kd.C_below g1 hb⟩ hs (hG.below hb))
 have HB := Lib.hid hb
 clear g0 g1 hb hG
 go_enter Tryz.func61, Tryz.ntmps61
 go_wp2_with fail
 refine HC.out.mono ?_
 rintro e w1 ⟨vb, rfl, hb1⟩
 have HB1 := Lib.hid (below_next HB.out hb1)
 clear hb1
 go_wp2_with fail
 go_ret
 exact ⟨rfl, HB1.out⟩
end Go.Proofs.YtedmncldelcbfaaGreatDoor.E
