import Derived.Test.YtedmncldelcbfaaGreatDoorKA
import Derived.DataReads
import Derived.Test.YtedmncldelcbfaaGreatDoorRows
import Derived.Deep.Slices
import Derived.ChangeArms
import Derived.ChangeSame
import Derived.Test.YtedmncldelcbfaaGreatDoorKG
import Derived.Lib.LaidU8
import Derived.Test.YtedmncldelcbfaaGreatDoorKF
import Derived.Test.YtedmncldelcbfaaGreatDoorCards
import Derived.Test.YtedmncldelcbfaaGreatDoorTie
import Derived.WalkKit
import Derived.ProofKit
import Derived.OpenShut
import Derived.Deep.DeepHandedRow
import Derived.Carry
/- The law VmMore returns true at every argument, and leaves what was there as it was; on the condition that the arguments are of bulk 1048576 at most, and that the two tables which the program lays at its start hold what it lays there. -/
namespace Go.Proofs.YtedmncldelcbfaaGreatDoor.E
open Go Go.Proofs Go.RowKit Go.Deep Go.ChangeShapes Go.WideShapes Go.Proofs.YtedmncldelcbfaaGreatDoorW.PrintWords Go.Proofs.YtedmncldelcbfaaGreatDoorW.PrintLast Go.Proofs.YtedmncldelcbfaaGreatDoorW.PrintMore
set_option linter.unusedVariables false
set_option linter.unusedSimpArgs false
set_option maxRecDepth 100000
set_option maxHeartbeats 2000000
theorem bulk_pos {H : Type} (d : DataW H) : 1 ≤ Rows.uptoBulk d := by
 cases d with
 | lit l => cases l <;> simp [Rows.uptoBulk]
 | nil => simp [Rows.uptoBulk]
 | ptr => simp [Rows.uptoBulk]
 | slice => simp [Rows.uptoBulk]
 | agg => simp [Rows.uptoBulk]
 | iface => simp [Rows.uptoBulk]
 | map => simp [Rows.uptoBulk]
 | held => simp [Rows.uptoBulk]
theorem bulk_all_len {H : Type} : ∀ l : List (DataW H), l.length ≤ Rows.uptoBulkAll l
 | [] => by simp [Rows.uptoBulkAll]
 | d :: r => by have := bulk_pos d; have := bulk_all_len r; simp [Rows.uptoBulkAll]; omega
theorem bulk_all_mem {H : Type} : ∀ (l : List (DataW H)) (d : DataW H), d ∈ l → Rows.uptoBulk d ≤ Rows.uptoBulkAll l
 | [], d, h => by simp at h
 | e :: r, d, h => by
  rcases List.mem_cons.1 h with rfl | h
  ·simp [Rows.uptoBulkAll]
  ·have := bulk_all_mem r d h; simp [Rows.uptoBulkAll]; omega
/-- what reads as a datum is of this kind, and no longer than the datum's bulk -/
def Opn {α : Type} (d : Kd α) (t : TypeId) (bd : Nat → α → Prop) : Prop :=
 ∀ (H : Type) (enc : TypeId × Value → H) (W : World) (fuel : Nat) (cs : List Value) (y : DataW H × List MemPlace), DataW.trod enc Tryz.prog W 0 (fun _ => true) true fuel t cs = some y → ∃ x, d.K W x cs ∧ bd (Rows.uptoBulk y.1) x
/-- in 64 bits -/
def I64 (v : Int) : Prop := -9223372036854775808 ≤ v ∧ v ≤ 9223372036854775807
theorem wf_i64 {n : Int} (h : (Lit.int .i64 n).wf = true) : I64 n := by
 simp only [Lit.wf, IntKind.min, IntKind.max, IntKind.signed, IntKind.bits, Bool.and_eq_true, decide_eq_true_eq] at h
 unfold I64
 simpa using h
theorem opn_int {t : TypeId} (ht : Tryz.prog.underlying t = some (.int .i64)) : Opn (Kd.int .i64) t (fun _ => I64) := by
 intro H enc W fuel cs y h
 obtain ⟨n, rfl, rfl, hw⟩ := DataW.trod_int ht h
 exact ⟨n, rfl, wf_i64 hw⟩
theorem opn_string {t : TypeId} (ht : Tryz.prog.underlying t = some .string) : Opn Kd.string t (fun n s => s.size + 1 ≤ n) := by
 intro H enc W fuel cs y h
 obtain ⟨s, rfl, rfl, _⟩ := DataW.trod_string ht h
 exact ⟨s, rfl, by simp [Rows.uptoBulk]⟩
theorem opn_slice {α : Type} {d : Kd α} {t e : TypeId} {bd : Nat → α → Prop} (ht : Tryz.prog.underlying t = some (.slice e)) (hsz : Tryz.prog.cellsOf e = d.sz) (he : Opn d e bd) :
  Opn (Kd.slice e d) t (fun n l => l.length ≤ n ∧ ∀ x ∈ l, ∃ m, m ≤ n ∧ bd m x) := by
 intro H enc W fuel cs y h
 rcases open_slice ht h with ⟨rfl, rfl⟩ | ⟨a, len, cap, m, n, D, Pl, rfl, hb, hl, hm, hmm, rfl, hel⟩
 ·exact ⟨[], ⟨none, 0, rfl, by simp, Kd.C_nil _ _⟩, by simp, by simp⟩
 ·have hml : len ≤ m := by rw [hmm]; simp; exact hl
  have hx : ∀ i, i < len → ∃ x, ∃ cs', W.cells? 0 (a.add (i * d.sz)) d.sz = some cs' ∧ d.K W x cs' ∧ bd (Rows.uptoBulk (D i)) x := by
   intro i hi
   obtain ⟨cs', h1, h2⟩ := hel i (by omega)
   obtain ⟨x, hx1, hx2⟩ := he H enc W n cs' _ h2
   rw [hsz] at h1
   exact ⟨x, cs', h1, hx1, hx2⟩
  have hml2 : maxLen ≤ 9223372036854775807 := by unfold maxLen; omega
  have hbk : Rows.uptoBulk (DataW.slice ((List.range len).map D) ((List.range (m - len)).map fun j => D (len + j))) = Rows.uptoBulkAll ((List.range len).map D) + Rows.uptoBulkAll ((List.range (m - len)).map fun j => D (len + j)) + 1 := by simp [Rows.uptoBulk]
  refine ⟨List.ofFn (fun i : Fin len => Classical.choose (hx i i.2)), ⟨some a, cap, by simp, by simp; exact hl, ?_⟩, ?_, ?_⟩
  ·refine ⟨rfl, by simp; omega, fun _ => ⟨a, rfl, fun j p hj => ?_⟩⟩
   have hjl : j < len := by
    have := (List.getElem?_eq_some_iff.1 hj).1
    simpa using this
   have hp : p = Classical.choose (hx j hjl) := by
    rw [List.getElem?_ofFn] at hj
    simp [hjl] at hj
    exact hj.symm
   obtain ⟨cs', h1, h2, h3⟩ := Classical.choose_spec (hx j hjl)
   rw [← hp] at h2
   obtain ⟨_, hlen, hc⟩ := World.cells?_some h1
   refine ⟨cs', hlen, h2, fun i u hu => ?_⟩
   have hi : i < d.sz := by rw [← hlen]; exact (List.getElem?_eq_some_iff.1 hu).1
   have := hc i hi
   rw [hu] at this
   rw [← this]
   rw [Go.Deep.add_add]
  ·have h1 := bulk_all_len ((List.range len).map D)
   simp only [List.length_map, List.length_range] at h1
   simp only [List.length_ofFn]
   rw [hbk]; omega
  ·intro x hxm
   obtain ⟨i, rfl⟩ := (List.mem_ofFn).1 hxm
   obtain ⟨cs', h1, h2, h3⟩ := Classical.choose_spec (hx i i.2)
   have h4 := bulk_all_mem ((List.range len).map D) (D i) (List.mem_map.2 ⟨i, List.mem_range.2 i.2, rfl⟩)
   exact ⟨_, by rw [hbk]; omega, h3⟩
theorem opn_instr : Opn kInstr 56 (fun _ i => I64 i.f1) := by
 intro H enc W fuel cs y h
 have hu : Tryz.prog.underlying 56 = some _ := Tryz.underlying56
 obtain ⟨xs, n, _, rfl, hl, hlen, hf⟩ := DataW.trod_struct hu h
 match xs, hlen with
 | [y0, y1, y2], _ =>
  have h0 := hf 0 _ rfl
  have h1 := hf 1 _ rfl
  have h2 := hf 2 _ rfl
  obtain ⟨a, e0, _⟩ := DataW.trod_int Tryz.underlying3 (h0.trans rfl)
  obtain ⟨b, e1, _, hw⟩ := DataW.trod_int Tryz.underlying3 (h1.trans rfl)
  obtain ⟨c, e2, _⟩ := DataW.trod_int Tryz.underlying3 (h2.trans rfl)
  have hc : Tryz.prog.cellsOf 56 = 3 := by kernel_rfl
  have hi : Tryz.prog.cellsOf 3 = 1 := by kernel_rfl
  rw [hc] at hl
  replace e0 : (cs.drop 0).take (Tryz.prog.cellsOf 3) = [.int .i64 a] := e0
  replace e1 : (cs.drop 1).take (Tryz.prog.cellsOf 3) = [.int .i64 b] := e1
  replace e2 : (cs.drop 2).take (Tryz.prog.cellsOf 3) = [.int .i64 c] := e2
  rw [hi] at e0 e1 e2
  match cs, hl with
  | [c0, c1, c2], _ =>
   simp at e0 e1 e2
   subst e0 e1 e2
   exact ⟨⟨a, b, c⟩, kInstr_mk W ⟨a, b, c⟩, wf_i64 hw⟩
theorem opn_glob : Opn kGlob 88 (fun _ g => I64 g.f2) := by
 intro H enc W fuel cs y h
 have hu : Tryz.prog.underlying 88 = some _ := Tryz.underlying88
 obtain ⟨xs, n, _, rfl, hl, hlen, hf⟩ := DataW.trod_struct hu h
 match xs, hlen with
 | [y0, y1, y2], _ =>
  have h0 := hf 0 _ rfl
  have h1 := hf 1 _ rfl
  have h2 := hf 2 _ rfl
  obtain ⟨a, e0, _⟩ := DataW.trod_int Tryz.underlying3 (h0.trans rfl)
  obtain ⟨b, e1, _⟩ := DataW.trod_int Tryz.underlying3 (h1.trans rfl)
  obtain ⟨c, e2, _, hw⟩ := DataW.trod_int Tryz.underlying3 (h2.trans rfl)
  have hc : Tryz.prog.cellsOf 88 = 3 := by kernel_rfl
  have hi : Tryz.prog.cellsOf 3 = 1 := by kernel_rfl
  rw [hc] at hl
  replace e0 : (cs.drop 0).take (Tryz.prog.cellsOf 3) = [.int .i64 a] := e0
  replace e1 : (cs.drop 1).take (Tryz.prog.cellsOf 3) = [.int .i64 b] := e1
  replace e2 : (cs.drop 2).take (Tryz.prog.cellsOf 3) = [.int .i64 c] := e2
  rw [hi] at e0 e1 e2
  match cs, hl with
  | [c0, c1, c2], _ =>
   simp at e0 e1 e2
   subst e0 e1 e2
   exact ⟨⟨a, b, c⟩, kGlob_mk W ⟨a, b, c⟩, wf_i64 hw⟩
/-- a function's parts are no longer than its bulk -/
def fnBulk (n : Nat) (f : SFn) : Prop := f.f0.size ≤ n ∧ f.f1.length ≤ n ∧ f.f3.length ≤ n ∧ f.f4.length ≤ n ∧ ∀ i ∈ f.f4, I64 i.f1
theorem opn_fn : Opn kFn 54 fnBulk := by
 intro H enc W fuel cs y h
 have hu : Tryz.prog.underlying 54 = some _ := Tryz.underlying54
 obtain ⟨xs, n, _, rfl, hl, hlen, hf⟩ := DataW.trod_struct hu h
 match xs, hlen with
 | [y0, y1, y2, y3, y4], _ =>
  have h0 := hf 0 _ rfl
  have h1 := hf 1 _ rfl
  have h2 := hf 2 _ rfl
  have h3 := hf 3 _ rfl
  have h4 := hf 4 _ rfl
  have hi : Tryz.prog.cellsOf 3 = Kd.sz (Kd.int .i64) := by kernel_rfl
  have hI : Tryz.prog.cellsOf 56 = Kd.sz kInstr := by kernel_rfl
  obtain ⟨a, k0, b0⟩ := opn_string Tryz.underlying9 H enc W n _ _ (h0.trans rfl)
  obtain ⟨b, k1, b1⟩ := opn_slice Tryz.underlying27 hi (opn_int Tryz.underlying3) H enc W n _ _ (h1.trans rfl)
  obtain ⟨c, e2, _⟩ := DataW.trod_int Tryz.underlying3 (h2.trans rfl)
  obtain ⟨d, k3, b3⟩ := opn_slice Tryz.underlying27 hi (opn_int Tryz.underlying3) H enc W n _ _ (h3.trans rfl)
  obtain ⟨e, k4, b4⟩ := opn_slice Tryz.underlying52 hI opn_instr H enc W n _ _ (h4.trans rfl)
  obtain ⟨A1, c1, e1, l1, g1⟩ := k1
  obtain ⟨A3, c3, e3, l3, g3⟩ := k3
  obtain ⟨A4, c4, e4, l4, g4⟩ := k4
  have e0 : _ = [Value.string a] := k0
  have hc : Tryz.prog.cellsOf 54 = 5 := by kernel_rfl
  rw [hc] at hl
  have q0 : Tryz.prog.cellsOf 9 = 1 := by kernel_rfl
  have q1 : Tryz.prog.cellsOf 27 = 1 := by kernel_rfl
  have q2 : Tryz.prog.cellsOf 3 = 1 := by kernel_rfl
  have q4 : Tryz.prog.cellsOf 52 = 1 := by kernel_rfl
  replace e0 : (cs.drop 0).take (Tryz.prog.cellsOf 9) = [.string a] := e0
  replace e1 : (cs.drop 1).take (Tryz.prog.cellsOf 27) = [.slice A1 b.length c1] := e1
  replace e2 : (cs.drop 2).take (Tryz.prog.cellsOf 3) = [.int .i64 c] := e2
  replace e3 : (cs.drop 3).take (Tryz.prog.cellsOf 27) = [.slice A3 d.length c3] := e3
  replace e4 : (cs.drop 4).take (Tryz.prog.cellsOf 52) = [.slice A4 e.length c4] := e4
  rw [q0] at e0
  rw [q1] at e1 e3
  rw [q2] at e2
  rw [q4] at e4
  match cs, hl with
  | [v0, v1, v2, v3, v4], _ =>
   simp at e0 e1 e2 e3 e4
   subst e0 e1 e2 e3 e4
   refine ⟨⟨a, b, c, d, e⟩, kFn_mk W ⟨a, b, c, d, e⟩ l1 g1 l3 g3 l4 g4, ?_⟩
   have hb : Rows.uptoBulk (DataW.agg (([y0, y1, y2, y3, y4] : List (DataW H × List MemPlace)).map (·.1))) = Rows.uptoBulk y0.1 + (Rows.uptoBulk y1.1 + (Rows.uptoBulk y2.1 + (Rows.uptoBulk y3.1 + (Rows.uptoBulk y4.1 + 0)))) + 1 := by simp [Rows.uptoBulk, Rows.uptoBulkAll]
   show fnBulk (Rows.uptoBulk (DataW.agg (([y0, y1, y2, y3, y4] : List (DataW H × List MemPlace)).map (·.1)))) _
   rw [hb]
   exact ⟨by show a.size ≤ _; omega, by show b.length ≤ _; omega, by show d.length ≤ _; omega, by show e.length ≤ _; omega, fun i hi => by obtain ⟨_, _, h⟩ := b4.2 i hi; exact h⟩
def imgBulk (n : Nat) (x : SImage) : Prop := x.globs.length ≤ n ∧ x.fns.length ≤ n ∧ (∀ f ∈ x.fns, fnBulk n f) ∧ ∀ g ∈ x.globs, I64 g.f2
theorem open_img (H : Type) (enc : TypeId × Value → H) (W : World) (fuel : Nat) (cs : List Value) (y : DataW H × List MemPlace) (h : DataW.trod enc Tryz.prog W 0 (fun _ => true) true fuel 25 cs = some y) :
  ∃ x A0 c0 A1 c1, cs = [.slice A0 x.globs.length c0, .slice A1 x.fns.length c1] ∧ x.globs.length ≤ c0 ∧ kGlob.C W A0 x.globs.length x.globs ∧ x.fns.length ≤ c1 ∧ kFn.C W A1 x.fns.length x.fns ∧ imgBulk (Rows.uptoBulk y.1) x := by
 have hu : Tryz.prog.underlying 25 = some _ := Tryz.underlying25
 obtain ⟨xs, n, _, rfl, hl, hlen, hf⟩ := DataW.trod_struct hu h
 match xs, hlen with
 | [y0, y1], _ =>
  have h0 := hf 0 _ rfl
  have h1 := hf 1 _ rfl
  have hG : Tryz.prog.cellsOf 88 = Kd.sz kGlob := by kernel_rfl
  have hF : Tryz.prog.cellsOf 54 = Kd.sz kFn := by kernel_rfl
  obtain ⟨a, k0, b0⟩ := opn_slice Tryz.underlying22 hG opn_glob H enc W n _ _ (h0.trans rfl)
  obtain ⟨b, k1, b1, b2⟩ := opn_slice Tryz.underlying23 hF opn_fn H enc W n _ _ (h1.trans rfl)
  obtain ⟨A0, c0, e0, l0, g0⟩ := k0
  obtain ⟨A1, c1, e1, l1, g1⟩ := k1
  have hc : Tryz.prog.cellsOf 25 = 2 := by kernel_rfl
  rw [hc] at hl
  have q0 : Tryz.prog.cellsOf 22 = 1 := by kernel_rfl
  have q1 : Tryz.prog.cellsOf 23 = 1 := by kernel_rfl
  replace e0 : (cs.drop 0).take (Tryz.prog.cellsOf 22) = [.slice A0 a.length c0] := e0
  replace e1 : (cs.drop 1).take (Tryz.prog.cellsOf 23) = [.slice A1 b.length c1] := e1
  rw [q0] at e0
  rw [q1] at e1
  match cs, hl with
  | [v0, v1], _ =>
   simp at e0 e1
   subst e0 e1
   have hb : Rows.uptoBulk (DataW.agg (([y0, y1] : List (DataW H × List MemPlace)).map (·.1))) = Rows.uptoBulk y0.1 + (Rows.uptoBulk y1.1 + 0) + 1 := by simp [Rows.uptoBulk, Rows.uptoBulkAll]
   refine ⟨⟨a, b⟩, A0, c0, A1, c1, rfl, l0, g0, l1, g1, ?_⟩
   show imgBulk (Rows.uptoBulk (DataW.agg (([y0, y1] : List (DataW H × List MemPlace)).map (·.1)))) _
   rw [hb]
   refine ⟨by show a.length ≤ _; omega, by show b.length ≤ _; omega, fun f hfm => ?_, fun g hg => by obtain ⟨_, _, h⟩ := b0.2 g hg; exact h⟩
   obtain ⟨m, hm, h5⟩ := b2 f hfm
   exact ⟨by have := h5.1; omega, by have := h5.2.1; omega, by have := h5.2.2.1; omega, by have := h5.2.2.2.1; omega, h5.2.2.2.2⟩
/-! ### The two laid tables -/
def nibL : List Int := [0, 498536548, 997073096, 651767980, 1994146192, 1802195444, 1303535960, 1342533948, 3988292384, 4027552580, 3604390888, 3412177804, 2607071920, 2262029012, 2685067896, 3183342108]
theorem gNib : Tryz.prog.globalNamed "tiltyard/wire.nibbles" = some 3 := by kernel_rfl
theorem gNibType : (Tryz.prog.globals[3]?).map (·.type) = some 239 := by kernel_rfl
theorem gPln : Tryz.prog.globalNamed "tiltyard/verify.plain" = some 0 := by kernel_rfl
theorem gPlnType : (Tryz.prog.globals[0]?).map (·.type) = some 230 := by kernel_rfl
def laidL : List (String × DataW Unit) := [("tiltyard/wire.nibbles", Rows.laid_tiltyard_wire_nibbles), ("tiltyard/verify.plain", Rows.laid_tiltyard_verify_plain)]
theorem nib_of {W : World} (h : laidMetH Tryz.prog laidL W) : Nib W := by
 have h1 : Lib.TabIs Tryz.prog W "tiltyard/wire.nibbles" .u32 nibL :=
  Lib.tabIs_of_head (rest := [("tiltyard/verify.plain", Rows.laid_tiltyard_verify_plain)]) gNib gNibType Tryz.underlying239 Tryz.underlying209 (by kernel_rfl) (by kernel_rfl) h
 exact ⟨fun j => nibL.getD j 0, fun j hj => h1.cell gNib j (by simpa [nibL] using hj)⟩
theorem pln_of {W : World} (h : laidMetH Tryz.prog laidL W) : Pln tabT W := by
 have h0 : laidMet Tryz.prog laidL W := h
 obtain ⟨g, t, cs, fuel, p, hg, ht, hv, hd⟩ := Lib.laidMet.reads h0 (n := "tiltyard/verify.plain") (d := Rows.laid_tiltyard_verify_plain) (.tail _ (.head _))
 obtain rfl := Option.some.inj (gPln.symm.trans hg)
 obtain rfl := Option.some.inj (gPlnType.symm.trans ht)
 have hd' : DataW.trod (fun _ => ()) Tryz.prog W 0 (fun _ => true) false fuel 230 cs.toList = some (.agg (tabD.map fun q => .agg [.lit (.string q.1), .lit (.string q.2)]), p) := hd
 have c1 : Tryz.prog.cellsOf 229 = 2 := by kernel_rfl
 have c2 : Tryz.prog.cellsOf 9 = 1 := by kernel_rfl
 intro j hj
 obtain ⟨f1, d1, q1, e1, t1⟩ := Lib.array_elem Tryz.underlying230 hd' j hj
 have hjl : j < tabD.length := hj
 rw [List.getElem?_map, List.getElem?_eq_getElem hjl] at e1
 obtain rfl : DataW.agg [.lit (.string (tabD[j]).1), .lit (.string (tabD[j]).2)] = d1 := by simpa using e1
 have hgd : tabD.getD j ([], []) = tabD[j] := by rw [List.getD_eq_getElem?_getD, List.getElem?_eq_getElem hjl]; rfl
 obtain ⟨f2, d2, q2, e2, t2⟩ := Lib.array_elem Tryz.underlying229 t1 0 (by omega)
 obtain ⟨f3, d3, q3, e3, t3⟩ := Lib.array_elem Tryz.underlying229 t1 1 (by omega)
 obtain ⟨s2, u2, x2, _⟩ := DataW.trod_string Tryz.underlying9 t2
 obtain ⟨s3, u3, x3, _⟩ := DataW.trod_string Tryz.underlying9 t3
 have x2' := congrArg Prod.fst x2
 have x3' := congrArg Prod.fst x3
 simp only at x2' x3'
 have k2 : (tabD[j]).1 = s2.data.toList := by
  have : d2 = .lit (.string (tabD[j]).1) := by simpa using e2.symm
  rw [this] at x2'
  injection x2' with h; injection h
 have k3 : (tabD[j]).2 = s3.data.toList := by
  have : d3 = .lit (.string (tabD[j]).2) := by simpa using e3.symm
  rw [this] at x3'
  injection x3' with h; injection h
 rw [c1, c2] at u2 u3
 have w2 : cs[j * 2]? = some (.string s2) := by
  have := congrArg (·[0]?) u2
  simp [List.getElem?_take, List.getElem?_drop] at this
  simpa using this
 have w3 : cs[j * 2 + 1]? = some (.string s3) := by
  have := congrArg (·[0]?) u3
  simp [List.getElem?_take, List.getElem?_drop] at this
  simpa using this
 have m2 : (tabT j).1 = s2 := by unfold tabT; rw [hgd, k2]
 have m3 : (tabT j).2 = s3 := by unfold tabT; rw [hgd, k3]
 rw [m2, m3]
 exact ⟨(World.var?_cell gPln hv (j * 2)).trans w2, (World.var?_cell gPln hv (j * 2 + 1)).trans w3⟩
set_option maxHeartbeats 4000000
/-! ### VmEnds: what a run's end is -/
theorem notBit_01 (v : Int) (h : v = 0 ∨ v = 1) : notBit v = false := by rcases h with rfl | rfl <;> kernel_rfl
theorem fits_of (t : Int) (l : List Int) (h : ∀ v ∈ l, VL (letterOf t) v) : fitsB t l = true := by
 unfold fitsB
 by_cases ht : t = 3
 ·have h1 : l.any notBit = false := by
   rw [List.any_eq_false]
   intro v hv
   rw [notBit_01 v ((h v hv).2 ((letter_b t).2 ht))]; decide
  rw [h1]; simp
 ·rw [show (t != 3) = true by simpa using ht]; rfl
theorem ST_right {x : SImage} {state : List (List Int)} (h : ST x.globs state) : stateR x state = true := by
 unfold stateR
 rw [firstFrom_none.2 (fun j _ hj => ?_)]
 ·rfl
 ·obtain ⟨h1, h2⟩ := h.2 j hj
  unfold stateBad
  rw [fits_of _ _ h2, h1]; simp
theorem rightR_of {x : SImage} {state state' : List (List Int)} {fn : Int} {args : List Int} {fuel : Int} (h : rightR x state fn args fuel = true) (hST : ST x.globs state') : rightR x state' fn args fuel = true := by
 unfold rightR at h ⊢
 rw [Bool.and_eq_true, Bool.and_eq_true] at h ⊢
 refine ⟨?_, ST_right hST, h.2.2⟩
 have h1 := headR_parts h.1
 unfold headR
 simp only [Bool.and_eq_true, decide_eq_true_eq]
 exact ⟨⟨⟨⟨⟨hST.1, h1.2.1⟩, h1.2.2.1⟩, h1.2.2.2.1⟩, h1.2.2.2.2.1⟩, h1.2.2.2.2.2⟩
theorem ST_in {gs : List SGlob} {state : List (List Int)} (h : ST gs state) : ∀ r ∈ state, ∀ v ∈ r, In v := by
 intro r hr v hv
 obtain ⟨i, hi, rfl⟩ := List.mem_iff_getElem.1 hr
 have h1 := (h.2 i (by rw [← h.1]; exact hi)).2 v
 rw [List.getD_eq_getElem?_getD, List.getElem?_eq_getElem hi] at h1
 exact (h1 hv).1
theorem ST_rows {gs : List SGlob} {state : List (List Int)} (h : ST gs state) (hg : ∀ g ∈ gs, g.f1 ≤ 1000) : ∀ r ∈ state, r.length ≤ 1000 := by
 intro r hr
 obtain ⟨i, hi, rfl⟩ := List.mem_iff_getElem.1 hr
 have hig : i < gs.length := by rw [← h.1]; exact hi
 have h1 := (h.2 i hig).1
 rw [List.getD_eq_getElem?_getD, List.getElem?_eq_getElem hi, List.getD_eq_getElem?_getD, List.getElem?_eq_getElem hig] at h1
 have h2 := hg gs[i] (List.getElem_mem hig)
 have h3 : state[i].length = sizeG gs[i] := h1
 rw [h3]
 unfold sizeG mx
 split <;> omega
theorem start_in {x : SImage} (h : ∀ g ∈ x.globs, In g.f2) : ∀ r ∈ startL x, ∀ v ∈ r, In v := by
 intro r hr v hv
 obtain ⟨g, hg, rfl⟩ := List.mem_map.1 hr
 unfold rowG at hv
 rcases List.mem_or_eq_of_mem_set hv with h1 | h1
 ·rw [(List.mem_replicate.1 h1).2]; exact In_0
 ·rw [h1]; exact h g hg
theorem start_rows {x : SImage} (h : ∀ g ∈ x.globs, g.f1 ≤ 1000) : ∀ r ∈ startL x, r.length ≤ 1000 := by
 intro r hr
 obtain ⟨g, hg, rfl⟩ := List.mem_map.1 hr
 have h2 := h g hg
 unfold rowG
 rw [List.length_set, List.length_replicate]
 unfold sizeG mx
 split <;> omega
theorem runX_ri {T : Nat → ByteArray × ByteArray} {x : SImage} {F0 : Nat} (hX : XOK T x) (hTB : TAB T) (hF : F0 ≤ 1048576) : ∀ (n : Nat) (rs : List SRep) (s : SRun), (∀ r ∈ rs, In r.v) → RI T x F0 s → RI T x F0 (runX x n rs s)
 | 0, _, _, _, h => h
 | n + 1, rs, s, hr, h => by
  have h1 := nextR_inv (RI.inv hX hTB hF) s h
  show RI T x F0 (if _ then _ else _)
  split
  ·refine runX_ri hX hTB hF n _ _ (fun r hm => hr r (List.mem_of_mem_tail hm)) (RI.reply hX h1 _ _ ?_)
   cases rs with
   | nil => exact In_0
   | cons a l => exact hr a (List.mem_cons_self ..)
  ·exact h1
/-- the end of a run of an image that is right -/
structure EndOK (x : SImage) (fuel : Int) (e : SEnd) : Prop where
 t0 : 0 ≤ e.trap ∧ e.trap ≤ 5
 f0 : 0 ≤ e.fuel ∧ e.fuel ≤ fuel
 tf : e.trap = 1 → e.fuel = 0
 tv : e.trap ≠ 0 → e.value = 0
 ak : (e.asks.length : Int) ≤ fuel - e.fuel
 al : e.asks.length ≤ 1048576
 aa : ∀ a ∈ e.asks, a.args.length ≤ 1000
 st : ST x.globs e.state
theorem exec_ends {T : Nat → ByteArray × ByteArray} {x : SImage} (hT : TOK T) (hTB : TAB T) (hv : (verifyS T x).1 = 0) (hin : ∀ f ∈ x.fns, ∀ i ∈ f.f4, In i.f1) (state : List (List Int)) (fn : Int) (args : List Int) (fuel : Int) (rs : List SRep) (h : rightR x state fn args fuel = true) (hs : ∀ r ∈ state, ∀ v ∈ r, In v) (ha : ∀ v ∈ args, In v) (hr : ∀ r ∈ rs, In r.v) :
  ∃ e, execR T x state fn args fuel rs = (e, 0) ∧ EndOK x fuel e := by
 have hX := XOK_of hT hv hin
 have hp : 0 ≤ fuel ∧ fuel ≤ 1048576 := by
  have h' := h
  unfold rightR at h'
  rw [Bool.and_eq_true] at h'
  have := headR_parts h'.1
  exact ⟨this.2.2.2.1, this.2.2.2.2.1⟩
 have hR := runX_ri hX hTB (F0 := fuel.toNat) (by omega) (fuel.toNat + 1) rs _ hr (RI.begin hX state fn args fuel h hs ha)
 refine ⟨_, by unfold execR; rw [if_pos hv, if_pos h], ?_⟩
 obtain ⟨s, hs2⟩ : ∃ s, s = runX x (fuel.toNat + 1) rs (beginR x state fn args fuel) := ⟨_, rfl⟩
 rw [← hs2] at hR ⊢
 have hfu := hR.rb.fu
 refine ⟨hR.rb.tr, ⟨by show (0 : Int) ≤ (s.fuel : Int); omega, by show (s.fuel : Int) ≤ fuel; omega⟩, fun e => ?_, fun e => if_neg e, ?_, ?_, hR.rb.ak, hR.rb.st⟩
 ·show (s.fuel : Int) = 0
  have := hR.rb.tf e
  omega
 ·show (s.asks.length : Int) ≤ fuel - (s.fuel : Int)
  omega
 ·show s.asks.length ≤ 1048576
  omega
/-! ### VmEnds: the law's walk -/
theorem exec_no_zero {T : Nat → ByteArray × ByteArray} {x : SImage} {state : List (List Int)} {fn : Int} {args : List Int} {fuel : Int} {rs : List SRep} (hv : (verifyS T x).1 = 0) (h : rightR x state fn args fuel = false) : execR T x state fn args fuel rs = (zEnd, 1) := by
 unfold execR
 rw [if_pos hv, h, if_neg Bool.false_ne_true]
theorem VmEnds_any (x : SImage) (v : Value) (w : World) (hv : VImage w x v) (hs : imgSmall 1099511620000 x) (hG : Nib w) (hT : Pln tabT w) (hin : ∀ f ∈ x.fns, ∀ i ∈ f.f4, In i.f1) (hgl : ∀ g ∈ x.globs, In g.f2)
  (fn : Int) (Ba : Option Addr) (d : Nat) (args : List Int) (hA : (Kd.int .i64).C w Ba args.length args) (fuel : Int) (Ar : Option Addr) (cr : Nat) (rs : List SRep) (hRs : kRep.C w Ar rs.length rs) (hrc : rs.length ≤ cr) (ha1 : args.length ≤ 2000000) (hr1 : rs.length ≤ 1000000000)
  (i2 : ∀ v ∈ args, In v) (i3 : ∀ r ∈ rs, In r.v) :
  Calls Tryz.prog 5 #[v, .agg #[.int .i64 fn, .slice Ba args.length d, .int .i64 fuel, .slice Ar rs.length cr]] w fun e w' => e = .returned (.bool true) ∧ Below w.heap.size w w' := by
 obtain ⟨A0, c0, A1, c1, hve, l0, hG0, l1, hF0⟩ := hv
 subst hve
 have HGF := Lib.hid (show VImage w x (.agg #[.slice A0 x.globs.length c0, .slice A1 x.fns.length c1]) from ⟨A0, c0, A1, c1, rfl, l0, hG0, l1, hF0⟩)
 have HG := Lib.hid hG
 have HT := Lib.hid hT
 have HS := Lib.hid hs
 have HA := Lib.hid hA
 have HR := Lib.hid hRs
 have HIN := Lib.hid hin
 have HGL := Lib.hid hgl
 have HI2 := Lib.hid i2
 have HI3 := Lib.hid i3
 have hlf := hs.2.1
 have hlg := hs.1
 obtain ⟨W0, hW0⟩ : ∃ W0, W0 = w.alloc (.cells #[.slice A0 x.globs.length c0, .slice A1 x.fns.length c1] 25) := ⟨_, rfl⟩
 have hb0 : Below w.heap.size w W0 := by rw [hW0]; exact below_alloc (Below.refl _ _) _
 have hsz0 : W0.heap.size = w.heap.size + 1 := by rw [hW0]; simp
 have hI0 : W0.heap[w.heap.size]? = some (.cells #[.slice A0 x.globs.length c0, .slice A1 x.fns.length c1] 25 (0, 0)) := by rw [hW0]; exact heap_alloc_new _ _
 obtain ⟨W1, hW1⟩ : ∃ W1, W1 = W0.alloc (.cells #[.int .i64 fn, .slice Ba args.length d, .int .i64 fuel, .slice Ar rs.length cr] 30) := ⟨_, rfl⟩
 have hb1 : Below W0.heap.size W0 W1 := by rw [hW1]; exact below_alloc (Below.refl _ _) _
 have hJ1 : W1.heap[w.heap.size + 1]? = some (.cells #[.int .i64 fn, .slice Ba args.length d, .int .i64 fuel, .slice Ar rs.length cr] 30 (0, 0)) := by rw [hW1, ← hsz0]; exact heap_alloc_new _ _
 have HB1 := Lib.hid (below_next hb0 hb1)
 have HI1 := Lib.hid ((hb1.block _ (blk_lt hI0)).trans hI0)
 have HJ1 := Lib.hid hJ1
 have HW0 := Lib.hid hW0
 have HW1 := Lib.hid hW1
 clear hG hT hG0 hF0 hs hA hRs hin hgl i2 i3 hb0 hsz0 hI0 hb1 hJ1 hW0 hW1
 go_enter Tryz.func5, Tryz.ntmps5
 go_wp2_with fail
 rw [← HW0.out, ← HW1.out]
 refine (awake17_any _ (HG.out.below HB1.out) (HT.out.below HB1.out)).mono ?_
 rintro e w2 ⟨rfl, hb2⟩
 obtain ⟨b, hb⟩ : ∃ b, b = w.heap.size := ⟨_, rfl⟩
 obtain ⟨q, hq⟩ : ∃ q, q = w.heap.size + 1 := ⟨_, rfl⟩
 have hnq : ¬ b = q := by omega
 rw [← hb] at HI1
 rw [← hq] at HJ1
 try rw [← hq]
 try rw [← hb]
 have HB2 := Lib.hid (below_next HB1.out hb2)
 have HI2b := Lib.hid ((hb2.block b (blk_lt HI1.out)).trans HI1.out)
 have HJ2 := Lib.hid ((hb2.block q (blk_lt HJ1.out)).trans HJ1.out)
 have hltI := blk_lt HI2b.out
 have hltJ := blk_lt HJ2.out
 have i0 : w2.cell? ⟨b, 0, none⟩ = some (.slice A0 x.globs.length c0) := (blk_cell HI2b.out 0).trans rfl
 have i1 : w2.cell? ⟨b, 1, none⟩ = some (.slice A1 x.fns.length c1) := (blk_cell HI2b.out 1).trans rfl
 clear hb hq hb2 HW0 HW1
 go_wp2_with fail
 by_cases hok : (verifyS tabT x).1 = 0
 ·have HOK := Lib.hid hok
  have HSM := Lib.hid (small_of hok)
  refine (new_yes tabT x _ w2 (HGF.out.below HB2.out) (small_of hok) (HG.out.below HB2.out) (HT.out.below HB2.out) tabOK hok).mono ?_
  clear hok
  rintro e w3 ⟨mb, AG, cG, AF, cF, AS, cS, rfl, hM, hb3⟩
  have HM := Lib.hid hM.mach
  have HB3 := Lib.hid (below_next HB2.out hb3)
  have HI3b := Lib.hid ((hb3.block b (blk_lt HI2b.out)).trans HI2b.out)
  have HJ3 := Lib.hid ((hb3.block q (blk_lt HJ2.out)).trans HJ2.out)
  clear hM hb3 i0 i1 hltI hltJ
  go_wp2_with fail
  refine (mStart_any w3 mb x AG cG AF cF AS cS HM.out (by have := (img_sizes HOK.out).2.1; omega) (fun g hg => (globs_le HOK.out g hg))).mono ?_
  rintro e w4 ⟨v4, rfl, hv4, hb4⟩
  obtain ⟨A4, c4, rfl, _, hC4⟩ := Kd.S_reads hv4
  have HC4 := Lib.hid hC4
  have HLS := Lib.hid (show (startL x).length = x.globs.length from by unfold startL; rw [List.length_map])
  have HB4 := Lib.hid (below_next HB3.out hb4)
  have HI4 := Lib.hid ((hb4.block b (blk_lt HI3b.out)).trans HI3b.out)
  have HJ4 := Lib.hid ((hb4.block q (blk_lt HJ3.out)).trans HJ3.out)
  have HSR := Lib.hid (start_rows (globs_le HOK.out))
  have hlg2 : (startL x).length ≤ 1000000 := by have := (img_sizes HOK.out).2.1; have := HLS.out; omega
  obtain ⟨st, hst⟩ : ∃ st, st = startL x := ⟨_, rfl⟩
  rw [← hst] at HC4 HLS HSR hlg2 ⊢
  have HST := Lib.hid hst
  have hltI := blk_lt HI4.out
  have hltJ := blk_lt HJ4.out
  have i0 : w4.cell? ⟨b, 0, none⟩ = some (.slice A0 x.globs.length c0) := (blk_cell HI4.out 0).trans rfl
  have i1 : w4.cell? ⟨b, 1, none⟩ = some (.slice A1 x.fns.length c1) := (blk_cell HI4.out 1).trans rfl
  have j0 : w4.cell? ⟨q, 0, none⟩ = some (.int .i64 fn) := (blk_cell HJ4.out 0).trans rfl
  have j1 : w4.cell? ⟨q, 1, none⟩ = some (.slice Ba args.length d) := (blk_cell HJ4.out 1).trans rfl
  have j2 : w4.cell? ⟨q, 2, none⟩ = some (.int .i64 fuel) := (blk_cell HJ4.out 2).trans rfl
  have j3 : w4.cell? ⟨q, 3, none⟩ = some (.slice Ar rs.length cr) := (blk_cell HJ4.out 3).trans rfl
  clear hv4 hC4 hb4 hst
  go_wp2_with fail
  have HEX := Lib.hid (exec_all tabT x _ w4 (HGF.out.below HB4.out) HSM.out (HG.out.below HB4.out) (HT.out.below HB4.out) tabOK tabTAB HIN.out A4 c4 st HC4.out fn Ba d args (Kd.C_below HA.out HB4.out) fuel Ar cr rs (Kd.C_below HR.out HB4.out) hrc hlg2 (fun r hr => Nat.le_trans (HSR.out r hr) (by decide)) ha1 hr1 (by rw [HST.out]; exact start_in HGL.out) HI2.out HI3.out)
  cases hrt : rightR x st fn args fuel
  ·have HE := HEX.out
   rw [exec_no_zero HOK.out hrt] at HE
   refine HE.mono ?_
   rintro e w5 ⟨v5, rfl, hE5, hb5⟩
   obtain ⟨vs5, va5, t5, rfl, hs5, ha5⟩ := hE5
   obtain ⟨sA5, sC5, rfl⟩ := Kd.S_slice hs5
   obtain ⟨aA5, aC5, rfl⟩ := Kd.S_slice ha5
   have HB5 := Lib.hid (below_next HB4.out hb5)
   clear hs5 ha5 hb5 i0 i1 j0 j1 j2 j3 hltI hltJ HEX HE hrt
   (try simp only [zEnd, List.length_nil])
   go_wp2_with fail
   go_ret
   exact ⟨rfl, by first | exact below_next HB5.out (below_alloc (Below.refl _ _) _) | exact below_alloc HB5.out _⟩
  ·obtain ⟨en, hen, heo⟩ := exec_ends tabOK tabTAB HOK.out HIN.out st fn args fuel rs hrt (by rw [HST.out]; exact start_in HGL.out) HI2.out HI3.out
   have HEO := Lib.hid heo
   have HRT := Lib.hid hrt
   have HE := HEX.out
   rw [hen] at HE
   refine HE.mono ?_
   rintro e w5 ⟨v5, rfl, hE5, hb5⟩
   obtain ⟨vs5, va5, t5, rfl, hs5, ha5⟩ := hE5
   obtain ⟨sA, sC, rfl, _, hCs⟩ := Kd.S_reads hs5
   obtain ⟨aA, aC, rfl⟩ := Kd.S_slice ha5
   have HI5 := Lib.hid ((hb5.block b (blk_lt HI4.out)).trans HI4.out)
   have HJ5 := Lib.hid ((hb5.block q (blk_lt HJ4.out)).trans HJ4.out)
   have HB5 := Lib.hid (below_next HB4.out hb5)
   have HCS := Lib.hid hCs
   have htrp := HEO.out.t0
   have hfup := HEO.out.f0
   have htfp := HEO.out.tf
   have htvp := HEO.out.tv
   have hakp := HEO.out.ak
   have hfp : 0 ≤ fuel ∧ fuel ≤ 1048576 := by
    have h' := hrt
    unfold rightR at h'
    rw [Bool.and_eq_true] at h'
    have := headR_parts h'.1
    exact ⟨this.2.2.2.1, this.2.2.2.2.1⟩
   have hsl : en.state.length = st.length := by rw [HEO.out.st.1, HLS.out]
   have HSL := Lib.hid hsl
   obtain ⟨tr, htr⟩ : ∃ n, n = en.trap := ⟨_, rfl⟩
   obtain ⟨va, hva⟩ : ∃ n, n = en.value := ⟨_, rfl⟩
   obtain ⟨fu, hfu⟩ : ∃ n, n = en.fuel := ⟨_, rfl⟩
   obtain ⟨al, hal⟩ : ∃ n, n = en.asks.length := ⟨_, rfl⟩
   obtain ⟨sl, hsl0⟩ : ∃ n, n = en.state.length := ⟨_, rfl⟩
   rw [← htr, ← hva, ← hfu, ← hal, ← hsl0]
   rw [← htr] at htrp htfp htvp
   rw [← hfu] at hfup htfp hakp
   rw [← hva] at htvp
   rw [← hal] at hakp
   have HSL0 := Lib.hid hsl0
   obtain ⟨hfp0, hfp1⟩ := hfp
   obtain ⟨hfu0, hfu1⟩ := hfup
   obtain ⟨htr0, htr1⟩ := htrp
   have z1 : ¬ tr < 0 := by omega
   have z2 : ¬ (5 : Int) < tr := by omega
   have z3 : decide (tr > (5 : Int)) = false := decide_eq_false (by omega)
   have z4 : ¬ fu < 0 := by omega
   have z5 : ¬ fuel < fu := by omega
   have z6 : decide (fu > fuel) = false := decide_eq_false (by omega)
   have z7 : ¬ fuel - fu < (al : Int) := by omega
   have z8 : decide ((al : Int) > fuel - fu) = false := decide_eq_false (by omega)
   have hcase : (tr = 1 ∧ fu = 0 ∧ va = 0) ∨ tr = 0 ∨ ((tr == 1) = false ∧ (tr != 0) = true ∧ va = 0) := by
    by_cases h1 : tr = 1
    ·exact .inl ⟨h1, htfp h1, htvp (by omega)⟩
    ·by_cases h0 : tr = 0
     ·exact .inr (.inl h0)
     ·exact .inr (.inr ⟨by simpa using h1, by simpa using h0, htvp h0⟩)
   have hltI := blk_lt HI5.out
   have hltJ := blk_lt HJ5.out
   have i0 : w5.cell? ⟨b, 0, none⟩ = some (.slice A0 x.globs.length c0) := (blk_cell HI5.out 0).trans rfl
   have i1 : w5.cell? ⟨b, 1, none⟩ = some (.slice A1 x.fns.length c1) := (blk_cell HI5.out 1).trans rfl
   have j0 : w5.cell? ⟨q, 0, none⟩ = some (.int .i64 fn) := (blk_cell HJ5.out 0).trans rfl
   have j1 : w5.cell? ⟨q, 1, none⟩ = some (.slice Ba args.length d) := (blk_cell HJ5.out 1).trans rfl
   have j2 : w5.cell? ⟨q, 2, none⟩ = some (.int .i64 fuel) := (blk_cell HJ5.out 2).trans rfl
   have j3 : w5.cell? ⟨q, 3, none⟩ = some (.slice Ar rs.length cr) := (blk_cell HJ5.out 3).trans rfl
   have HRT2 := Lib.hid (rightR_of HRT.out HEO.out.st)
   have hsl1 : sl ≤ 1000000 := by rw [hsl0, hsl]; exact hlg2
   have HEX2 := Lib.hid (fun (W : World) (hb : Below w5.heap.size w5 W) => exec_all tabT x _ W ((HGF.out.below HB5.out).below hb) HSM.out ((HG.out.below HB5.out).below hb) ((HT.out.below HB5.out).below hb) tabOK tabTAB HIN.out sA sC en.state (Kd.C_below HCS.out hb) fn Ba d args (Kd.C_below (Kd.C_below HA.out HB5.out) hb) fuel Ar cr rs (Kd.C_below (Kd.C_below HR.out HB5.out) hb) hrc (by rw [← hsl0]; exact hsl1) (fun r hr => Nat.le_trans (ST_rows HEO.out.st (globs_le HOK.out) r hr) (by decide)) ha1 hr1 (ST_in HEO.out.st) HI2.out HI3.out)
   have HN2 := Lib.hid (show ∃ e2, execR tabT x en.state fn args fuel rs = (e2, 0) ∧ e2.state.length = sl from by
    obtain ⟨e2, h1, h2⟩ := exec_ends tabOK tabTAB HOK.out HIN.out en.state fn args fuel rs HRT2.out (ST_in HEO.out.st) HI2.out HI3.out
    exact ⟨e2, h1, by rw [h2.st.1, HSL0.out, HEO.out.st.1]⟩)
   clear hs5 ha5 hb5 hCs HEX HE hen heo hrt htr hva hfu hal hsl0 hsl htfp htvp
   have hslst : st.length = sl := by rw [HSL0.out, HSL.out]
   rw [hslst]
   obtain ⟨e2, he2, hl2⟩ := HN2.out
   have HL2 := Lib.hid hl2
   have HE3 := Lib.hid (fun (W : World) (hb : Below w5.heap.size w5 W) => (by have h := HEX2.out W hb; rw [he2, ← HSL0.out] at h; exact h : Calls Tryz.prog 11 #[.agg #[.slice A0 x.globs.length c0, .slice A1 x.fns.length c1], .slice sA sl sC, .int .i64 fn, .slice Ba args.length d, .int .i64 fuel, .slice Ar rs.length cr] W (ExecPost W (e2, 0))))
   clear HEX2 HN2 he2 hl2
   rcases hcase with ⟨rfl, rfl, rfl⟩ | rfl | ⟨h1, h2, rfl⟩
   all_goals
    go_wp2_with fail
    refine (HE3.out _ (below_alloc (Below.refl _ _) _)).mono ?_
    rintro e w6 ⟨v6, rfl, hE6, hb6⟩
    obtain ⟨vs6, va6, t6, rfl, hs6, ha6⟩ := hE6
    obtain ⟨sA6, sC6, rfl⟩ := Kd.S_slice hs6
    obtain ⟨aA6, aC6, rfl⟩ := Kd.S_slice ha6
    have HB6 := Lib.hid (below_next HB5.out (below_next (below_alloc (Below.refl _ _) _) hb6))
    rw [HL2.out]
    clear hs6 ha6 hb6 i0 i1 j0 j1 j2 j3 hltI hltJ
    go_wp2_with fail
    go_ret
    exact ⟨rfl, by first | exact below_next HB6.out (below_alloc (Below.refl _ _) _) | exact below_alloc HB6.out _⟩
 ·refine (new_no tabT x _ w2 (HGF.out.below HB2.out) HS.out (HG.out.below HB2.out) (HT.out.below HB2.out) tabOK hok).mono ?_
  rintro e w3 ⟨rfl, hb3⟩
  have HB3 := Lib.hid (below_next HB2.out hb3)
  clear hok hb3 i0 i1
  go_wp2_with fail
  go_ret
  exact ⟨rfl, HB3.out⟩
/-! ### VmMore: a run with more fuel -/
def more (d : Nat) (s : SRun) : SRun := { s with fuel := s.fuel + d }
theorem plainR_more (d : Nat) (i : SInstr) (s : SRun) : plainR i (more d s) = more d (plainR i s) := by
 unfold plainR
 simp only [apply_ite (more d)]
 rfl
theorem atR_more (d A : Nat) (s : SRun) : (atR A (more d s)).1 = (atR A s).1 ∧ (atR A (more d s)).2 = more d (atR A s).2 := by
 unfold atR
 rw [show (more d s).last = s.last from rfl, show (more d s).state = s.state from rfl]
 split <;> exact ⟨rfl, rfl⟩
theorem putR_more (d A : Nat) (s : SRun) : (putR A (more d s)).1 = (putR A s).1 ∧ (putR A (more d s)).2 = more d (putR A s).2 := by
 unfold putR
 rw [show ((more d s).cut 1).last = (s.cut 1).last from rfl, show (more d s).state = s.state from rfl]
 split <;> exact ⟨rfl, rfl⟩
theorem backR_more (d : Nat) (r : Bool) (s : SRun) : (backR r (more d s)).1 = (backR r s).1 ∧ (backR r (more d s)).2 = more d (backR r s).2 := by
 unfold backR
 rw [show (more d s).frames = s.frames from rfl]
 cases r
 all_goals
  simp only
  split <;> exact ⟨rfl, rfl⟩
theorem stepI_more (x : SImage) (i : SInstr) (d : Nat) (s : SRun) : stepI x i (more d s) = more d (stepI x i s) := by
 unfold stepI
 rw [plainR_more]
 obtain ⟨a1, a2⟩ := atR_more d i.f1.toNat s
 obtain ⟨p1, p2⟩ := putR_more d i.f1.toNat s
 obtain ⟨b1, b2⟩ := backR_more d (decide ((x.fns.getD s.top.fi zFn).f2 ≠ 0)) s
 rw [a1, a2, p1, p2, show (more d s).top = s.top from rfl]
 simp only
 rw [b1, b2]
 simp only [apply_ite (more d)]
 rfl
theorem stepR_more (x : SImage) (d : Nat) (s : SRun) (h : s.fuel ≠ 0) : stepR x (more d s) = more d (stepR x s) := by
 unfold stepR
 rw [if_neg h, if_neg (show ¬ (more d s).fuel = 0 by show ¬ s.fuel + d = 0; omega)]
 rw [show (more d s).instr x = s.instr x from rfl, show (more d s).fetch = more d s.fetch from ?_, stepI_more]
 unfold SRun.fetch SRun.setTop more
 simp only
 rw [show s.fuel + d - 1 = s.fuel - 1 + d by omega]
 rfl
/-- the calls that were made stay -/
theorem plainR_asks (i : SInstr) (s : SRun) : (plainR i s).asks = s.asks := by
 unfold plainR
 repeat' split
 all_goals rfl
theorem stepI_asks (x : SImage) (i : SInstr) (s : SRun) : s.asks <+: (stepI x i s).asks := by
 unfold stepI
 split
 ·rw [plainR_asks]; exact List.prefix_refl _
 split
 ·exact List.prefix_refl _
 split
 ·unfold atR; split <;> exact List.prefix_refl _
 split
 ·unfold putR; split <;> exact List.prefix_refl _
 split
 ·split <;> exact List.prefix_refl _
 split
 ·exact List.prefix_append _ _
 split
 ·unfold backR
  cases (decide ((x.fns.getD s.top.fi zFn).f2 ≠ 0))
  all_goals
   simp only
   split <;> exact List.prefix_refl _
 split <;> exact List.prefix_refl _
theorem stepR_asks (x : SImage) (s : SRun) : s.asks <+: (stepR x s).asks := by
 unfold stepR
 split
 ·exact List.prefix_refl _
 ·exact stepI_asks x (s.instr x) s.fetch
theorem loopR_asks_le (x : SImage) : ∀ (n : Nat) (s : SRun), s.asks <+: (loopR x n s).asks
 | 0, s => List.prefix_refl _
 | n + 1, s => by
  show s.asks <+: (if (stepR x s).ended || (stepR x s).waits then stepR x s else loopR x n (stepR x s)).asks
  split
  ·exact stepR_asks x s
  ·exact (stepR_asks x s).trans (loopR_asks_le x n _)
theorem nextR_asks_le (x : SImage) (s : SRun) : s.asks <+: (nextR x s).asks := by
 unfold nextR
 split
 ·exact List.prefix_refl _
 ·exact loopR_asks_le x _ s
theorem replyR_asks (v : Int) (tr : Bool) (s : SRun) : (replyR v tr s).asks = s.asks := by
 unfold replyR
 repeat' split
 all_goals rfl
theorem runX_asks_le (x : SImage) : ∀ (n : Nat) (rs : List SRep) (s : SRun), s.asks <+: (runX x n rs s).asks
 | 0, _, s => List.prefix_refl _
 | n + 1, rs, s => by
  show s.asks <+: (if (nextR x s).waits then runX x n rs.tail (replyR (rs.headD zRep).v (rs.headD zRep).tr (nextR x s)) else nextR x s).asks
  split
  ·refine (nextR_asks_le x s).trans ?_
   have h := runX_asks_le x n rs.tail (replyR (rs.headD zRep).v (rs.headD zRep).tr (nextR x s))
   rw [replyR_asks] at h
   exact h
  ·exact nextR_asks_le x s
/-- the longer run goes as the shorter, or the shorter ends for want of fuel -/
theorem loopR_more (x : SImage) (d : Nat) : ∀ (k m : Nat) (s : SRun), s.fuel = k → s.ended = false → s.waits = false → s.fuel + d < m →
  ((loopR x (k + 1) s).trap = 1 ∧ (loopR x (k + 1) s).waits = false ∧ (loopR x (k + 1) s).asks <+: (loopR x m (more d s)).asks) ∨ loopR x m (more d s) = more d (loopR x (k + 1) s)
 | 0, m, s, hk, he, hw, hm => by
  left
  have e : stepR x s = trapR 1 s := by unfold stepR; rw [if_pos hk]
  have hu : loopR x 1 s = trapR 1 s := by
   show (if (stepR x s).ended || (stepR x s).waits then stepR x s else loopR x 0 (stepR x s)) = _
   rw [e, if_pos (by rfl)]
  rw [hu]
  exact ⟨rfl, hw, loopR_asks_le x m (more d s)⟩
 | k + 1, m, s, hk, he, hw, hm => by
  obtain ⟨m, rfl⟩ : ∃ m', m = m' + 1 := ⟨m - 1, by omega⟩
  have hf := stepR_fuel x s k hk
  have hs := stepR_more x d s (by omega)
  have hu : loopR x (k + 1 + 1) s = if (stepR x s).ended || (stepR x s).waits then stepR x s else loopR x (k + 1) (stepR x s) := rfl
  have hv : loopR x (m + 1) (more d s) = if (more d (stepR x s)).ended || (more d (stepR x s)).waits then more d (stepR x s) else loopR x m (more d (stepR x s)) := by
   show (if (stepR x (more d s)).ended || (stepR x (more d s)).waits then stepR x (more d s) else loopR x m (stepR x (more d s))) = _
   rw [hs]
  rw [hu, hv]
  cases hq : ((stepR x s).ended || (stepR x s).waits)
  ·rw [if_neg Bool.false_ne_true, show ((more d (stepR x s)).ended || (more d (stepR x s)).waits) = false from hq, if_neg Bool.false_ne_true]
   rw [Bool.or_eq_false_iff] at hq
   exact loopR_more x d k m _ hf hq.1 hq.2 (by omega)
  ·rw [if_pos rfl, show ((more d (stepR x s)).ended || (more d (stepR x s)).waits) = true from hq, if_pos rfl]
   exact .inr rfl
theorem nextR_more (x : SImage) (d : Nat) (s : SRun) :
  ((nextR x s).trap = 1 ∧ (nextR x s).waits = false ∧ (nextR x s).asks <+: (nextR x (more d s)).asks) ∨ nextR x (more d s) = more d (nextR x s) := by
 unfold nextR
 rw [show (more d s).ended = s.ended from rfl, show (more d s).waits = s.waits from rfl]
 cases hq : (s.ended || s.waits)
 ·rw [if_neg Bool.false_ne_true, if_neg Bool.false_ne_true]
  rw [Bool.or_eq_false_iff] at hq
  exact loopR_more x d s.fuel ((more d s).fuel + 1) s rfl hq.1 hq.2 (by show s.fuel + d < s.fuel + d + 1; omega)
 ·rw [if_pos rfl, if_pos rfl]
  exact .inr rfl
theorem replyR_more (d : Nat) (v : Int) (tr : Bool) (s : SRun) : replyR v tr (more d s) = more d (replyR v tr s) := by
 unfold replyR
 rw [show (more d s).waits = s.waits from rfl, show resR (more d s) = resR s from rfl]
 repeat' split
 all_goals rfl
theorem runX_bigger (x : SImage) (d : Nat) : ∀ (n m : Nat) (rs : List SRep) (s : SRun), s.waits = false → s.fuel < n → s.fuel + d < m →
  ((runX x n rs s).trap = 1 ∧ (runX x n rs s).asks <+: (runX x m rs (more d s)).asks) ∨ runX x m rs (more d s) = more d (runX x n rs s)
 | 0, m, rs, s, _, h, _ => by omega
 | n + 1, m, rs, s, hw, h, hm => by
  obtain ⟨m, rfl⟩ : ∃ m', m = m' + 1 := ⟨m - 1, by omega⟩
  have hu : runX x (n + 1) rs s = if (nextR x s).waits then runX x n rs.tail (replyR (rs.headD zRep).v (rs.headD zRep).tr (nextR x s)) else nextR x s := rfl
  have hv : runX x (m + 1) rs (more d s) = if (nextR x (more d s)).waits then runX x m rs.tail (replyR (rs.headD zRep).v (rs.headD zRep).tr (nextR x (more d s))) else nextR x (more d s) := rfl
  rcases nextR_more x d s with ⟨h1, h2, h3⟩ | h1
  ·left
   rw [hu, h2, if_neg Bool.false_ne_true, hv]
   refine ⟨h1, h3.trans ?_⟩
   split
   ·have h := runX_asks_le x m rs.tail (replyR (rs.headD zRep).v (rs.headD zRep).tr (nextR x (more d s)))
    rw [replyR_asks] at h
    exact h
   ·exact List.prefix_refl _
  ·rw [hu, hv, h1]
   cases hq : (nextR x s).waits
   ·rw [if_neg Bool.false_ne_true, show (more d (nextR x s)).waits = false from hq, if_neg Bool.false_ne_true]
    exact .inr rfl
   ·rw [if_pos rfl, show (more d (nextR x s)).waits = true from hq, if_pos rfl, replyR_more]
    have h4 := nextR_asks x s hw hq
    exact runX_bigger x d n m rs.tail _ (replyR_waits _ _ _) (by rw [replyR_fuel]; omega) (by rw [replyR_fuel]; omega)
theorem begin_more (x : SImage) (state : List (List Int)) (fn : Int) (args : List Int) (fuel d : Int) (h0 : 0 ≤ fuel) (hd : 0 ≤ d) : beginR x state fn args (fuel + d) = more d.toNat (beginR x state fn args fuel) := by
 unfold beginR s0R enterR more
 simp only
 rw [show (fuel + d).toNat = fuel.toNat + d.toNat by omega]
theorem right_more {x : SImage} {state : List (List Int)} {fn : Int} {args : List Int} {fuel d : Int} (h : rightR x state fn args fuel = true) (hd : 0 ≤ d) (hm : fuel + d ≤ 1048576) : rightR x state fn args (fuel + d) = true := by
 unfold rightR at h ⊢
 rw [Bool.and_eq_true] at h ⊢
 refine ⟨?_, h.2⟩
 have h1 := headR_parts h.1
 unfold headR
 simp only [Bool.and_eq_true, decide_eq_true_eq]
 exact ⟨⟨⟨⟨⟨h1.1, h1.2.1⟩, h1.2.2.1⟩, by omega⟩, hm⟩, h1.2.2.2.2.2⟩
/-- two ends of one call, the second with more fuel -/
theorem exec_more {T : Nat → ByteArray × ByteArray} {x : SImage} (hv : (verifyS T x).1 = 0) (state : List (List Int)) (fn : Int) (args : List Int) (fuel d : Int) (rs : List SRep) (h : rightR x state fn args fuel = true) (hd : 0 ≤ d) (hm : fuel + d ≤ 1048576) :
  ∃ a b, execR T x state fn args fuel rs = (a, 0) ∧ execR T x state fn args (fuel + d) rs = (b, 0) ∧ ((a.trap = 1 ∧ a.asks <+: b.asks) ∨ b = { a with fuel := a.fuel + d }) := by
 have h0 : 0 ≤ fuel := by
  have h' := h
  unfold rightR at h'
  rw [Bool.and_eq_true] at h'
  exact (headR_parts h'.1).2.2.2.1
 refine ⟨_, _, by unfold execR; rw [if_pos hv, if_pos h], by unfold execR; rw [if_pos hv, if_pos (right_more h hd hm)], ?_⟩
 rw [begin_more x state fn args fuel d h0 hd]
 rcases runX_bigger x d.toNat (fuel.toNat + 1) ((fuel + d).toNat + 1) rs (beginR x state fn args fuel) rfl (by show fuel.toNat < _; omega) (by show fuel.toNat + _ < _; omega) with ⟨h1, h2⟩ | h1
 ·exact .inl ⟨h1, h2⟩
 ·right
  rw [h1]
  unfold endR more
  simp only
  congr 1
  omega
/-! ### Two ends that are equal (the reference's Same) -/
theorem sameRow_any (l : List Int) (A B : Option Addr) (c d : Nat) (w : World) (hA : (Kd.int .i64).C w A l.length l) (hB : (Kd.int .i64).C w B l.length l) (hl : l.length ≤ 1000000000) :
  Calls Tryz.prog 44 #[.slice A l.length c, .slice B l.length d] w fun e w' => e = .returned (.bool true) ∧ Below w.heap.size w w' := by
 have HA := Lib.hid hA
 have HB := Lib.hid hB
 clear hA hB
 go_enter Tryz.func44, Tryz.ntmps44
 go_wp2_with fail
 go_loopw [5] (fun i wr => ∃ k : Nat, k ≤ l.length ∧ i = .int .i64 k ∧ Hid (Below w.heap.size w wr)) (fun i _ => l.length - (intOf i).toNat)
 case atStart => exact ⟨0, by omega, rfl, Below.refl _ _⟩
 case round =>
  obtain ⟨k, hk, rfl, HW⟩ := hrel
  by_cases hlt : k < l.length
  ·obtain ⟨ad1, p, rfl, p0, HP⟩ := int_at (Kd.C_below HA.out HW.out) k hlt
   obtain ⟨ad2, q, rfl, q0, HQ⟩ := int_at (Kd.C_below HB.out HW.out) k hlt
   obtain rfl : q = p := by rw [HP.out, HQ.out]
   clear HP HQ
   go_wp2_with fail
   go_quiet (fail)
   go_wp2_with fail
   go_roundw
   case rel => exact ⟨k + 1, by omega, by go_num, by first | exact HW | exact Lib.hid (below_drew HW.out) | exact Lib.hid (pw_below_drewN HW.out _)⟩
   case measure => simp [intOf]; omega
  ·obtain rfl : k = l.length := by omega
   go_wp2_with fail
   go_ret
   exact ⟨rfl, HW.out⟩
theorem sameState_any (s : List (List Int)) (A B : Option Addr) (c d : Nat) (w : World) (hA : kInts.C w A s.length s) (hB : kInts.C w B s.length s) (hl : s.length ≤ 1000000000) (hr : ∀ r ∈ s, r.length ≤ 1000000000) :
  Calls Tryz.prog 20 #[.slice A s.length c, .slice B s.length d] w fun e w' => e = .returned (.bool true) ∧ Below w.heap.size w w' := by
 have HA := Lib.hid hA
 have HB := Lib.hid hB
 have HR := Lib.hid hr
 clear hA hB hr
 go_enter Tryz.func20, Tryz.ntmps20
 go_wp2_with fail
 go_loopw [5] (fun i wr => ∃ k : Nat, k ≤ s.length ∧ i = .int .i64 k ∧ Hid (Below w.heap.size w wr)) (fun i _ => s.length - (intOf i).toNat)
 case atStart => exact ⟨0, by omega, rfl, Below.refl _ _⟩
 case round =>
  obtain ⟨k, hk, rfl, HW⟩ := hrel
  by_cases hlt : k < s.length
  ·obtain ⟨ad1, A1, c1, rfl, p0, _, p2⟩ := at_Ints (Kd.C_below HA.out HW.out) (k : Int) (by omega) (by omega)
   obtain ⟨ad2, A2, c2, rfl, q0, _, q2⟩ := at_Ints (Kd.C_below HB.out HW.out) (k : Int) (by omega) (by omega)
   obtain ⟨row, hrow⟩ : ∃ row, row = rd_Ints s (k : Int) := ⟨_, rfl⟩
   rw [← hrow] at p0 p2 q0 q2
   simp only [Int.toNat_natCast] at p0 q0
   have hrl : row.length ≤ 1000000000 := HR.out _ (getD_mem s [] k (by omega) _ (by rw [hrow]; rfl))
   have HP0 := Lib.hid p0
   have HQ0 := Lib.hid q0
   have HP2 := Lib.hid p2
   have HQ2 := Lib.hid q2
   obtain ⟨rl, hrle⟩ : ∃ rl, rl = row.length := ⟨_, rfl⟩
   have HRL := Lib.hid hrle
   clear hrow p2 q2 hrle p0 q0
   go_wp2_with fail
   refine still_tail_g 8 (by kernel_rfl) (by kernel_rfl) ?_
   intro V HV
   have hbV : Below wr.heap.size wr V := by rw [HV.out]; exact below_drew (Below.refl _ _)
   have p0 := (hbV.cell (addr_lt HP0.out)).trans HP0.out
   have q0 := (hbV.cell (addr_lt HQ0.out)).trans HQ0.out
   rw [← HRL.out] at p0 q0
   have HBV := Lib.hid hbV
   clear hbV
   simp only [List.take_succ_cons, List.take_zero, List.drop_succ_cons, List.drop_zero]
   repeat still_step
   refine wpStill_nil ?_
   go_wp2_with fail
   rw [HRL.out]
   refine (sameRow_any row _ _ _ _ _ (Kd.C_below HP2.out HBV.out) (Kd.C_below HQ2.out HBV.out) hrl).mono ?_
   rintro e w2 ⟨rfl, hb2⟩
   have HW2 := Lib.hid (below_next HW.out (below_next HBV.out hb2))
   clear hb2 p0 q0
   go_wp2_with fail
   go_roundw
   case rel => exact ⟨k + 1, by omega, by go_num, HW2⟩
   case measure => simp [intOf]; omega
  ·obtain rfl : k = s.length := by omega
   go_wp2_with fail
   go_ret
   exact ⟨rfl, HW.out⟩
theorem at_AskA {w : World} {A : Option Addr} {n : Nat} {xs : List SAsk} (h : kAsk.C w A n xs) (i : Nat) (h1 : i < n) : ∃ ad AL cL, A = some ad ∧
  w.cell? (ad.add (i * 2)) = some (.int .i64 (xs.getD i zAsk).call) ∧ w.cell? ⟨(ad.add (i * 2)).block, (ad.add (i * 2)).off + 1, none⟩ = some (.slice AL (xs.getD i zAsk).args.length cL) ∧ (xs.getD i zAsk).args.length ≤ cL ∧ (Kd.int .i64).C w AL (xs.getD i zAsk).args.length (xs.getD i zAsk).args := by
 obtain ⟨ad, c, e, _, hK, hc⟩ := Kd.C_get h zAsk (i : Int) (by omega) (by omega)
 obtain ⟨AL, cL, rfl, h2, h3⟩ := kAsk_open hK
 have q0 := hc 0 _ rfl
 have q1 := hc 1 _ rfl
 simp only [Int.toNat_natCast] at q0 q1
 rw [add_field _ _ 1 (by omega)] at q1
 exact ⟨ad, AL, cL, e, q0, q1, h2, h3⟩
theorem sameAsks_any (s : List SAsk) (A B : Option Addr) (c d : Nat) (w : World) (hA : kAsk.C w A s.length s) (hB : kAsk.C w B s.length s) (hl : s.length ≤ 1000000000) (hr : ∀ r ∈ s, r.args.length ≤ 1000000000) :
  Calls Tryz.prog 27 #[.slice A s.length c, .slice B s.length d] w fun e w' => e = .returned (.bool true) ∧ Below w.heap.size w w' := by
 have HA := Lib.hid hA
 have HB := Lib.hid hB
 have HR := Lib.hid hr
 clear hA hB hr
 go_enter Tryz.func27, Tryz.ntmps27
 go_wp2_with fail
 go_loopw [5] (fun i wr => ∃ k : Nat, k ≤ s.length ∧ i = .int .i64 k ∧ Hid (Below w.heap.size w wr)) (fun i _ => s.length - (intOf i).toNat)
 case atStart => exact ⟨0, by omega, rfl, Below.refl _ _⟩
 case round =>
  obtain ⟨k, hk, rfl, HW⟩ := hrel
  by_cases hlt : k < s.length
  ·obtain ⟨ad1, A1, c1, rfl, p0, p1, _, p2⟩ := at_AskA (Kd.C_below HA.out HW.out) k hlt
   obtain ⟨ad2, A2, c2, rfl, q0, q1, _, q2⟩ := at_AskA (Kd.C_below HB.out HW.out) k hlt
   obtain ⟨a, ha⟩ : ∃ a, a = s.getD k zAsk := ⟨_, rfl⟩
   rw [← ha] at p0 p1 p2 q0 q1 q2
   have hrl : a.args.length ≤ 1000000000 := HR.out _ (by rw [ha, List.getD_eq_getElem?_getD, List.getElem?_eq_getElem hlt]; exact List.getElem_mem hlt)
   have HP0 := Lib.hid p0
   have HQ0 := Lib.hid q0
   have HP1 := Lib.hid p1
   have HQ1 := Lib.hid q1
   have HP2 := Lib.hid p2
   have HQ2 := Lib.hid q2
   obtain ⟨rl, hrle⟩ : ∃ rl, rl = a.args.length := ⟨_, rfl⟩
   have HRL := Lib.hid hrle
   obtain ⟨ac, hac⟩ : ∃ ac, ac = a.call := ⟨_, rfl⟩
   have HAC := Lib.hid hac
   clear ha p2 q2 hrle p0 q0 p1 q1 hac
   go_wp2_with fail
   refine still_tail_g 10 (by kernel_rfl) (by kernel_rfl) ?_
   intro V HV
   have hbV : Below wr.heap.size wr V := by rw [HV.out]; exact below_drew (Below.refl _ _)
   have p1 := cell_up hbV HP1.out
   have q1 := cell_up hbV HQ1.out
   rw [← HRL.out] at p1 q1
   have HBV := Lib.hid hbV
   clear hbV
   simp only [List.take_succ_cons, List.take_zero, List.drop_succ_cons, List.drop_zero]
   repeat still_step
   refine wpStill_nil ?_
   go_wp2_with fail
   rw [HRL.out]
   refine (sameRow_any a.args _ _ _ _ _ (Kd.C_below HP2.out HBV.out) (Kd.C_below HQ2.out HBV.out) hrl).mono ?_
   rintro e w2 ⟨rfl, hb2⟩
   have p0 := ((below_next HBV.out hb2).cell (addr_lt HP0.out)).trans HP0.out
   have q0 := ((below_next HBV.out hb2).cell (addr_lt HQ0.out)).trans HQ0.out
   rw [← HAC.out] at p0 q0
   have HW2 := Lib.hid (below_next HW.out (below_next HBV.out hb2))
   clear hb2 p1 q1
   go_wp2_with fail
   go_quiet (fail)
   go_wp2_with fail
   go_roundw
   case rel => exact ⟨k + 1, by omega, by go_num, by first | exact HW2 | exact Lib.hid (below_drew HW2.out) | exact Lib.hid (pw_below_drewN HW2.out _)⟩
   case measure => simp [intOf]; omega
  ·obtain rfl : k = s.length := by omega
   go_wp2_with fail
   go_ret
   exact ⟨rfl, HW.out⟩
theorem sameEnd_any (e : SEnd) (w : World) (As Bs : Option Addr) (cs ds : Nat) (Aa Ba : Option Addr) (ca da : Nat) (h1 : kInts.C w As e.state.length e.state) (h2 : kInts.C w Bs e.state.length e.state) (h3 : kAsk.C w Aa e.asks.length e.asks) (h4 : kAsk.C w Ba e.asks.length e.asks)
  (b1 : e.state.length ≤ 1000000000) (b2 : ∀ r ∈ e.state, r.length ≤ 1000000000) (b3 : e.asks.length ≤ 1000000000) (b4 : ∀ a ∈ e.asks, a.args.length ≤ 1000000000) :
  Calls Tryz.prog 15 #[.agg #[.int .i64 e.trap, .int .i64 e.value, .int .i64 e.fuel, .slice As e.state.length cs, .slice Aa e.asks.length ca], .agg #[.int .i64 e.trap, .int .i64 e.value, .int .i64 e.fuel, .slice Bs e.state.length ds, .slice Ba e.asks.length da]] w fun r w' => r = .returned (.bool true) ∧ Below w.heap.size w w' := by
 obtain ⟨W0, hW0⟩ : ∃ W0, W0 = w.alloc (.cells #[.int .i64 e.trap, .int .i64 e.value, .int .i64 e.fuel, .slice As e.state.length cs, .slice Aa e.asks.length ca] 36) := ⟨_, rfl⟩
 have hb0 : Below w.heap.size w W0 := by rw [hW0]; exact below_alloc (Below.refl _ _) _
 have hsz0 : W0.heap.size = w.heap.size + 1 := by rw [hW0]; simp
 have hI0 : W0.heap[w.heap.size]? = some (.cells #[.int .i64 e.trap, .int .i64 e.value, .int .i64 e.fuel, .slice As e.state.length cs, .slice Aa e.asks.length ca] 36 (0, 0)) := by rw [hW0]; exact heap_alloc_new _ _
 obtain ⟨W1, hW1⟩ : ∃ W1, W1 = W0.alloc (.cells #[.int .i64 e.trap, .int .i64 e.value, .int .i64 e.fuel, .slice Bs e.state.length ds, .slice Ba e.asks.length da] 36) := ⟨_, rfl⟩
 have hb1 : Below W0.heap.size W0 W1 := by rw [hW1]; exact below_alloc (Below.refl _ _) _
 have hJ1 : W1.heap[w.heap.size + 1]? = some (.cells #[.int .i64 e.trap, .int .i64 e.value, .int .i64 e.fuel, .slice Bs e.state.length ds, .slice Ba e.asks.length da] 36 (0, 0)) := by rw [hW1, ← hsz0]; exact heap_alloc_new _ _
 have HB1 := Lib.hid (below_next hb0 hb1)
 have HI1 := Lib.hid ((hb1.block _ (blk_lt hI0)).trans hI0)
 have HJ1 := Lib.hid hJ1
 have HW0 := Lib.hid hW0
 have HW1 := Lib.hid hW1
 have H1 := Lib.hid h1
 have H2 := Lib.hid h2
 have H3 := Lib.hid h3
 have H4 := Lib.hid h4
 have P2 := Lib.hid b2
 have P4 := Lib.hid b4
 clear hb0 hsz0 hI0 hb1 hJ1 hW0 hW1 h1 h2 h3 h4 b2 b4
 go_enter Tryz.func15, Tryz.ntmps15
 go_wp2_with fail
 rw [← HW0.out, ← HW1.out]
 refine (sameState_any e.state As Bs cs ds W1 (Kd.C_below H1.out HB1.out) (Kd.C_below H2.out HB1.out) b1 P2.out).mono ?_
 rintro r w2 ⟨rfl, hb2⟩
 obtain ⟨b, hb⟩ : ∃ b, b = w.heap.size := ⟨_, rfl⟩
 obtain ⟨q, hq⟩ : ∃ q, q = w.heap.size + 1 := ⟨_, rfl⟩
 have hnq : ¬ b = q := by omega
 rw [← hb] at HI1
 rw [← hq] at HJ1
 try rw [← hq]
 try rw [← hb]
 have HB2 := Lib.hid (below_next HB1.out hb2)
 have HI2 := Lib.hid ((hb2.block b (blk_lt HI1.out)).trans HI1.out)
 have HJ2 := Lib.hid ((hb2.block q (blk_lt HJ1.out)).trans HJ1.out)
 have hltI := blk_lt HI2.out
 have hltJ := blk_lt HJ2.out
 have i4 : w2.cell? ⟨b, 4, none⟩ = some (.slice Aa e.asks.length ca) := (blk_cell HI2.out 4).trans rfl
 have j4 : w2.cell? ⟨q, 4, none⟩ = some (.slice Ba e.asks.length da) := (blk_cell HJ2.out 4).trans rfl
 clear hb hq hb2 HW0 HW1
 go_wp2_with fail
 refine (sameAsks_any e.asks Aa Ba ca da w2 (Kd.C_below H3.out HB2.out) (Kd.C_below H4.out HB2.out) b3 P4.out).mono ?_
 rintro r w3 ⟨rfl, hb3⟩
 have HB3 := Lib.hid (below_next HB2.out hb3)
 have HI3 := Lib.hid ((hb3.block b (blk_lt HI2.out)).trans HI2.out)
 have HJ3 := Lib.hid ((hb3.block q (blk_lt HJ2.out)).trans HJ2.out)
 clear hltI hltJ i4 j4 hb3
 have hltI := blk_lt HI3.out
 have hltJ := blk_lt HJ3.out
 have i0 : w3.cell? ⟨b, 0, none⟩ = some (.int .i64 e.trap) := (blk_cell HI3.out 0).trans rfl
 have i1 : w3.cell? ⟨b, 1, none⟩ = some (.int .i64 e.value) := (blk_cell HI3.out 1).trans rfl
 have i2 : w3.cell? ⟨b, 2, none⟩ = some (.int .i64 e.fuel) := (blk_cell HI3.out 2).trans rfl
 have j0 : w3.cell? ⟨q, 0, none⟩ = some (.int .i64 e.trap) := (blk_cell HJ3.out 0).trans rfl
 have j1 : w3.cell? ⟨q, 1, none⟩ = some (.int .i64 e.value) := (blk_cell HJ3.out 1).trans rfl
 have j2 : w3.cell? ⟨q, 2, none⟩ = some (.int .i64 e.fuel) := (blk_cell HJ3.out 2).trans rfl
 go_wp2_with fail
 go_ret
 exact ⟨rfl, HB3.out⟩
/-! ### VmMore: the law's walk -/
theorem and_4095 (m : Int) : 0 ≤ bits .and .i64 m 4095 ∧ bits .and .i64 m 4095 ≤ 4095 := by
 have h1 : bits .and .i64 m 4095 = IntKind.i64.wrap ((BitVec.ofInt 64 m &&& BitVec.ofInt 64 4095).toNat : Int) := rfl
 have h2 : (BitVec.ofInt 64 m &&& BitVec.ofInt 64 4095).toNat ≤ 4095 := by
  rw [BitVec.toNat_and, show (BitVec.ofInt 64 4095).toNat = 4095 from rfl]
  exact Nat.and_le_right
 rw [h1, IntKind.wrap_i64]
 omega
theorem C_prefix {α : Type} {d : Kd α} {w : World} {A : Option Addr} {n : Nat} {xs ys : List α} (h : d.C w A n ys) (hp : xs <+: ys) : d.C w A xs.length xs := by
 obtain ⟨t, rfl⟩ := hp
 obtain ⟨h1, h2, h3⟩ := h
 have hl : (xs ++ t).length = xs.length + t.length := List.length_append
 refine ⟨rfl, by omega, fun h0 => ?_⟩
 obtain ⟨ad, e, hc⟩ := h3 (by omega)
 refine ⟨ad, e, fun j p hj => hc j p ?_⟩
 have := (List.getElem?_eq_some_iff.1 hj).1
 rw [List.getElem?_append_left this]
 exact hj
/-- the same at the end of a run: bounds for the comparing -/
theorem end_rows {x : SImage} {T : Nat → ByteArray × ByteArray} {fuel : Int} {e : SEnd} (hv : (verifyS T x).1 = 0) (h : EndOK x fuel e) : e.state.length ≤ 1000000 ∧ ∀ r ∈ e.state, r.length ≤ 1000000000 := by
 refine ⟨?_, fun r hr => Nat.le_trans (ST_rows h.st (globs_le hv) r hr) (by decide)⟩
 have h1 := h.st.1
 have := (img_sizes hv).2.1
 omega
theorem end_asks {x : SImage} {fuel : Int} {e : SEnd} (h : EndOK x fuel e) : ∀ a ∈ e.asks, a.args.length ≤ 1000000000 := fun a ha => Nat.le_trans (h.aa a ha) (by decide)
theorem VmMore_any (x : SImage) (v : Value) (w : World) (hv : VImage w x v) (hs : imgSmall 1099511620000 x) (hG : Nib w) (hT : Pln tabT w) (hin : ∀ f ∈ x.fns, ∀ i ∈ f.f4, In i.f1) (hgl : ∀ g ∈ x.globs, In g.f2)
  (fn : Int) (Ba : Option Addr) (d : Nat) (args : List Int) (hA : (Kd.int .i64).C w Ba args.length args) (fuel : Int) (Ar : Option Addr) (cr : Nat) (rs : List SRep) (hRs : kRep.C w Ar rs.length rs) (hrc : rs.length ≤ cr) (ha1 : args.length ≤ 2000000) (hr1 : rs.length ≤ 1000000000)
  (i2 : ∀ v ∈ args, In v) (i3 : ∀ r ∈ rs, In r.v) (hfu : In fuel) (mo : Int) :
  Calls Tryz.prog 6 #[v, .agg #[.int .i64 fn, .slice Ba args.length d, .int .i64 fuel, .slice Ar rs.length cr], .int .i64 mo] w fun e w' => e = .returned (.bool true) ∧ Below w.heap.size w w' := by
 obtain ⟨A0, c0, A1, c1, hve, l0, hG0, l1, hF0⟩ := hv
 subst hve
 have HGF := Lib.hid (show VImage w x (.agg #[.slice A0 x.globs.length c0, .slice A1 x.fns.length c1]) from ⟨A0, c0, A1, c1, rfl, l0, hG0, l1, hF0⟩)
 have HG := Lib.hid hG
 have HT := Lib.hid hT
 have HS := Lib.hid hs
 have HA := Lib.hid hA
 have HR := Lib.hid hRs
 have HIN := Lib.hid hin
 have HGL := Lib.hid hgl
 have HI2 := Lib.hid i2
 have HI3 := Lib.hid i3
 have hlf := hs.2.1
 have hlg := hs.1
 unfold In at hfu
 obtain ⟨by_, hby⟩ : ∃ n, n = bits .and .i64 mo 4095 := ⟨_, rfl⟩
 have hby0 : 0 ≤ by_ ∧ by_ ≤ 4095 := by rw [hby]; exact and_4095 mo
 obtain ⟨hby0, hby1⟩ := hby0
 obtain ⟨W0, hW0⟩ : ∃ W0, W0 = w.alloc (.cells #[.slice A0 x.globs.length c0, .slice A1 x.fns.length c1] 25) := ⟨_, rfl⟩
 have hb0 : Below w.heap.size w W0 := by rw [hW0]; exact below_alloc (Below.refl _ _) _
 have hsz0 : W0.heap.size = w.heap.size + 1 := by rw [hW0]; simp
 have hI0 : W0.heap[w.heap.size]? = some (.cells #[.slice A0 x.globs.length c0, .slice A1 x.fns.length c1] 25 (0, 0)) := by rw [hW0]; exact heap_alloc_new _ _
 obtain ⟨W1, hW1⟩ : ∃ W1, W1 = W0.alloc (.cells #[.int .i64 fn, .slice Ba args.length d, .int .i64 fuel, .slice Ar rs.length cr] 30) := ⟨_, rfl⟩
 have hb1 : Below W0.heap.size W0 W1 := by rw [hW1]; exact below_alloc (Below.refl _ _) _
 have hJ1 : W1.heap[w.heap.size + 1]? = some (.cells #[.int .i64 fn, .slice Ba args.length d, .int .i64 fuel, .slice Ar rs.length cr] 30 (0, 0)) := by rw [hW1, ← hsz0]; exact heap_alloc_new _ _
 have HB1 := Lib.hid (below_next hb0 hb1)
 have HI1 := Lib.hid ((hb1.block _ (blk_lt hI0)).trans hI0)
 have HJ1 := Lib.hid hJ1
 have HW0 := Lib.hid hW0
 have HW1 := Lib.hid hW1
 have HBY := Lib.hid hby
 clear hG hT hG0 hF0 hs hA hRs hin hgl i2 i3 hb0 hsz0 hI0 hb1 hJ1 hW0 hW1 hby
 go_enter Tryz.func6, Tryz.ntmps6
 go_wp2_with fail
 rw [← HW0.out, ← HW1.out]
 refine (awake17_any _ (HG.out.below HB1.out) (HT.out.below HB1.out)).mono ?_
 rintro e w2 ⟨rfl, hb2⟩
 obtain ⟨b, hb⟩ : ∃ b, b = w.heap.size := ⟨_, rfl⟩
 obtain ⟨q, hq⟩ : ∃ q, q = w.heap.size + 1 := ⟨_, rfl⟩
 have hnq : ¬ b = q := by omega
 rw [← hb] at HI1
 rw [← hq] at HJ1
 try rw [← hq]
 try rw [← hb]
 have HB2 := Lib.hid (below_next HB1.out hb2)
 have HI2b := Lib.hid ((hb2.block b (blk_lt HI1.out)).trans HI1.out)
 have HJ2 := Lib.hid ((hb2.block q (blk_lt HJ1.out)).trans HJ1.out)
 have hltI := blk_lt HI2b.out
 have hltJ := blk_lt HJ2.out
 have i0 : w2.cell? ⟨b, 0, none⟩ = some (.slice A0 x.globs.length c0) := (blk_cell HI2b.out 0).trans rfl
 have i1 : w2.cell? ⟨b, 1, none⟩ = some (.slice A1 x.fns.length c1) := (blk_cell HI2b.out 1).trans rfl
 clear hb hq hb2 HW0 HW1
 go_wp2_with fail
 by_cases hok : (verifyS tabT x).1 = 0
 ·have HOK := Lib.hid hok
  have HSM := Lib.hid (small_of hok)
  refine (new_yes tabT x _ w2 (HGF.out.below HB2.out) (small_of hok) (HG.out.below HB2.out) (HT.out.below HB2.out) tabOK hok).mono ?_
  clear hok
  rintro e w3 ⟨mb, AG, cG, AF, cF, AS, cS, rfl, hM, hb3⟩
  have HM := Lib.hid hM.mach
  have HB3 := Lib.hid (below_next HB2.out hb3)
  have HI3b := Lib.hid ((hb3.block b (blk_lt HI2b.out)).trans HI2b.out)
  have HJ3 := Lib.hid ((hb3.block q (blk_lt HJ2.out)).trans HJ2.out)
  clear hM hb3 i0 i1 hltI hltJ
  have hltJ := blk_lt HJ3.out
  have j2 : w3.cell? ⟨q, 2, none⟩ = some (.int .i64 fuel) := (blk_cell HJ3.out 2).trans rfl
  by_cases hmf : fuel > 1048576 - by_
  ·rw [HBY.out] at hby0 hby1 hmf
   clear HBY
   go_wp2_with fail
   go_ret
   exact ⟨rfl, HB3.out⟩
  ·have hmf1 : fuel ≤ 1048576 - by_ := by omega
   have hdm : decide (fuel > 1048576 - by_) = false := decide_eq_false hmf
   have hmf0 : ¬ 1048576 - by_ < fuel := by omega
   rw [HBY.out] at hby0 hby1 hmf hdm hmf0
   go_wp2_with fail
   clear hmf hdm hmf0 j2 hltJ
   rw [← HBY.out] at hby0 hby1 ⊢
   refine (mStart_any w3 mb x AG cG AF cF AS cS HM.out (by have := (img_sizes HOK.out).2.1; omega) (fun g hg => (globs_le HOK.out g hg))).mono ?_
   rintro e w4 ⟨v4, rfl, hv4, hb4⟩
   obtain ⟨A4, c4, rfl, _, hC4⟩ := Kd.S_reads hv4
   have HC4 := Lib.hid hC4
   have HLS := Lib.hid (show (startL x).length = x.globs.length from by unfold startL; rw [List.length_map])
   have HB4 := Lib.hid (below_next HB3.out hb4)
   have HI4 := Lib.hid ((hb4.block b (blk_lt HI3b.out)).trans HI3b.out)
   have HJ4 := Lib.hid ((hb4.block q (blk_lt HJ3.out)).trans HJ3.out)
   have HSR := Lib.hid (start_rows (globs_le HOK.out))
   have hlg2 : (startL x).length ≤ 1000000 := by have := (img_sizes HOK.out).2.1; have := HLS.out; omega
   obtain ⟨st, hst⟩ : ∃ st, st = startL x := ⟨_, rfl⟩
   rw [← hst] at HC4 HLS HSR hlg2 ⊢
   have HST := Lib.hid hst
   have hltI := blk_lt HI4.out
   have hltJ := blk_lt HJ4.out
   have i0 : w4.cell? ⟨b, 0, none⟩ = some (.slice A0 x.globs.length c0) := (blk_cell HI4.out 0).trans rfl
   have i1 : w4.cell? ⟨b, 1, none⟩ = some (.slice A1 x.fns.length c1) := (blk_cell HI4.out 1).trans rfl
   have j0 : w4.cell? ⟨q, 0, none⟩ = some (.int .i64 fn) := (blk_cell HJ4.out 0).trans rfl
   have j1 : w4.cell? ⟨q, 1, none⟩ = some (.slice Ba args.length d) := (blk_cell HJ4.out 1).trans rfl
   have j2 : w4.cell? ⟨q, 2, none⟩ = some (.int .i64 fuel) := (blk_cell HJ4.out 2).trans rfl
   have j3 : w4.cell? ⟨q, 3, none⟩ = some (.slice Ar rs.length cr) := (blk_cell HJ4.out 3).trans rfl
   have HSI := Lib.hid (show ∀ r ∈ st, ∀ v ∈ r, In v from by rw [hst]; exact start_in HGL.out)
   have HEX := Lib.hid (fun (W : World) (hb : Below w4.heap.size w4 W) (fl : Int) => exec_all tabT x _ W ((HGF.out.below HB4.out).below hb) HSM.out ((HG.out.below HB4.out).below hb) ((HT.out.below HB4.out).below hb) tabOK tabTAB HIN.out A4 c4 st (Kd.C_below HC4.out hb) fn Ba d args (Kd.C_below (Kd.C_below HA.out HB4.out) hb) fl Ar cr rs (Kd.C_below (Kd.C_below HR.out HB4.out) hb) hrc hlg2 (fun r hr => Nat.le_trans (HSR.out r hr) (by decide)) ha1 hr1 HSI.out HI2.out HI3.out)
   clear hv4 hC4 hb4 hst
   go_wp2_with fail
   cases hrt : rightR x st fn args fuel
   ·have HE := HEX.out w4 (Below.refl _ _) fuel
    rw [exec_no_zero HOK.out hrt] at HE
    refine HE.mono ?_
    rintro e w5 ⟨v5, rfl, hE5, hb5⟩
    obtain ⟨vs5, va5, t5, rfl, hs5, ha5⟩ := hE5
    obtain ⟨sA5, sC5, rfl⟩ := Kd.S_slice hs5
    obtain ⟨aA5, aC5, rfl⟩ := Kd.S_slice ha5
    have HB5 := Lib.hid (below_next HB4.out hb5)
    clear hs5 ha5 hb5 i0 i1 j0 j1 j2 j3 hltI hltJ HEX HE hrt
    (try simp only [zEnd, List.length_nil])
    go_wp2_with fail
    go_ret
    exact ⟨rfl, by first | exact below_next HB5.out (below_alloc (Below.refl _ _) _) | exact below_alloc HB5.out _⟩
   ·have hp := hrt
    unfold rightR at hp
    rw [Bool.and_eq_true] at hp
    have hfp0 := (headR_parts hp.1).2.2.2.1
    clear hp
    obtain ⟨en, bn, hen, hbn, hab⟩ := exec_more HOK.out st fn args fuel by_ rs hrt hby0 (by omega)
    obtain ⟨en', hen', heo⟩ := exec_ends tabOK tabTAB HOK.out HIN.out st fn args fuel rs hrt HSI.out HI2.out HI3.out
    obtain rfl : en' = en := by rw [hen] at hen'; injection hen' with h _; exact h.symm
    obtain ⟨bn', hbn', hbo⟩ := exec_ends tabOK tabTAB HOK.out HIN.out st fn args (fuel + by_) rs (right_more hrt hby0 (by omega)) HSI.out HI2.out HI3.out
    obtain rfl : bn' = bn := by rw [hbn] at hbn'; injection hbn' with h _; exact h.symm
    have HEO := Lib.hid heo
    have HBO := Lib.hid hbo
    have HX1 := Lib.hid (show ∀ (W : World), Below w4.heap.size w4 W → Calls Tryz.prog 11 #[.agg #[.slice A0 x.globs.length c0, .slice A1 x.fns.length c1], .slice A4 st.length c4, .int .i64 fn, .slice Ba args.length d, .int .i64 fuel, .slice Ar rs.length cr] W (ExecPost W (en', 0)) from fun W hb => by have h := HEX.out W hb fuel; rw [hen] at h; exact h)
    have HX2 := Lib.hid (show ∀ (W : World), Below w4.heap.size w4 W → Calls Tryz.prog 11 #[.agg #[.slice A0 x.globs.length c0, .slice A1 x.fns.length c1], .slice A4 st.length c4, .int .i64 fn, .slice Ba args.length d, .int .i64 (fuel + by_), .slice Ar rs.length cr] W (ExecPost W (bn', 0)) from fun W hb => by have h := HEX.out W hb (fuel + by_); rw [hbn] at h; exact h)
    obtain ⟨tr, htr⟩ : ∃ n, n = en'.trap := ⟨_, rfl⟩
    obtain ⟨va, hva⟩ : ∃ n, n = en'.value := ⟨_, rfl⟩
    obtain ⟨fu, hfu2⟩ : ∃ n, n = en'.fuel := ⟨_, rfl⟩
    obtain ⟨al, hal⟩ : ∃ n, n = en'.asks.length := ⟨_, rfl⟩
    obtain ⟨sl, hsl⟩ : ∃ n, n = en'.state.length := ⟨_, rfl⟩
    obtain ⟨bt, hbt⟩ : ∃ n, n = bn'.trap := ⟨_, rfl⟩
    obtain ⟨bv, hbv⟩ : ∃ n, n = bn'.value := ⟨_, rfl⟩
    obtain ⟨bf, hbf⟩ : ∃ n, n = bn'.fuel := ⟨_, rfl⟩
    obtain ⟨bl, hbl⟩ : ∃ n, n = bn'.asks.length := ⟨_, rfl⟩
    obtain ⟨bs, hbs⟩ : ∃ n, n = bn'.state.length := ⟨_, rfl⟩
    have hcase : (tr = 1 ∧ fu = 0 ∧ al ≤ bl ∧ Hid (en'.asks <+: bn'.asks)) ∨ ((tr == 1) = false ∧ tr = bt ∧ va = bv ∧ bf = fu + by_ ∧ al = bl ∧ sl = bs ∧ Hid (bn' = { en' with fuel := en'.fuel + by_ })) := by
     by_cases h1 : tr = 1
     ·have hpre : en'.asks <+: bn'.asks := by
       rcases hab with ⟨_, h⟩ | h
       ·exact h
       ·rw [h]; exact List.prefix_refl _
      exact .inl ⟨h1, by rw [hfu2]; exact heo.tf (by rw [← htr]; exact h1), by rw [hal, hbl]; exact hpre.length_le, Lib.hid hpre⟩
     ·rcases hab with ⟨h, _⟩ | h
      ·exact absurd (htr.trans h) h1
      ·exact .inr ⟨by simpa using h1, by rw [htr, hbt, h], by rw [hva, hbv, h], by rw [hbf, h, hfu2], by rw [hal, hbl, h], by rw [hsl, hbs, h], Lib.hid h⟩
    have hfz0 : 0 ≤ fu ∧ fu ≤ fuel := by rw [hfu2]; exact heo.f0
    obtain ⟨hfz0, hfz1⟩ := hfz0
    have hal1 : al ≤ 1048576 := by rw [hal]; exact heo.al
    have hbl1 : bl ≤ 1048576 := by rw [hbl]; exact hbo.al
    have HTR := Lib.hid htr
    have HVA := Lib.hid hva
    have HFU := Lib.hid hfu2
    have HAL := Lib.hid hal
    have HSL := Lib.hid hsl
    have HBT := Lib.hid hbt
    have HBV := Lib.hid hbv
    have HBF := Lib.hid hbf
    have HBL := Lib.hid hbl
    have HBS := Lib.hid hbs
    have HCASE := Lib.hid hcase
    clear hen hbn hab hen' hbn' heo hbo htr hva hfu2 hal hsl hbt hbv hbf hbl hbs hcase HEX hrt
    refine (HX1.out w4 (Below.refl _ _)).mono ?_
    rintro e w5 ⟨v5, rfl, hE5, hb5⟩
    obtain ⟨vs5, va5, t5, rfl, hs5, ha5⟩ := hE5
    obtain ⟨sA, sC, rfl, _, hCs⟩ := Kd.S_reads hs5
    obtain ⟨aA, aC, rfl, _, hCa⟩ := Kd.S_reads ha5
    rw [← HTR.out, ← HVA.out, ← HFU.out, ← HAL.out, ← HSL.out]
    have HCS := Lib.hid hCs
    have HCA := Lib.hid hCa
    have HB45 := Lib.hid hb5
    have HI5 := Lib.hid ((hb5.block b (blk_lt HI4.out)).trans HI4.out)
    have HJ5 := Lib.hid ((hb5.block q (blk_lt HJ4.out)).trans HJ4.out)
    clear hs5 ha5 hCs hCa hb5 i0 i1 j0 j1 j2 j3 hltI hltJ
    have hltI := blk_lt HI5.out
    have hltJ := blk_lt HJ5.out
    have i0 : w5.cell? ⟨b, 0, none⟩ = some (.slice A0 x.globs.length c0) := (blk_cell HI5.out 0).trans rfl
    have i1 : w5.cell? ⟨b, 1, none⟩ = some (.slice A1 x.fns.length c1) := (blk_cell HI5.out 1).trans rfl
    have j0 : w5.cell? ⟨q, 0, none⟩ = some (.int .i64 fn) := (blk_cell HJ5.out 0).trans rfl
    have j1 : w5.cell? ⟨q, 1, none⟩ = some (.slice Ba args.length d) := (blk_cell HJ5.out 1).trans rfl
    have j2 : w5.cell? ⟨q, 2, none⟩ = some (.int .i64 fuel) := (blk_cell HJ5.out 2).trans rfl
    have j3 : w5.cell? ⟨q, 3, none⟩ = some (.slice Ar rs.length cr) := (blk_cell HJ5.out 3).trans rfl
    go_wp2_with fail
    obtain ⟨W5, hW5⟩ : ∃ P, P = w5.alloc (.cells #[.int .i64 tr, .int .i64 va, .int .i64 fu, .slice sA sl sC, .slice aA al aC] 36) := ⟨_, rfl⟩
    obtain ⟨g, hg⟩ : ∃ g, g = w5.heap.size := ⟨_, rfl⟩
    have hbW5 : Below w5.heap.size w5 W5 := by rw [hW5]; exact below_alloc (Below.refl _ _) _
    have hG5 : W5.heap[g]? = some (.cells #[.int .i64 tr, .int .i64 va, .int .i64 fu, .slice sA sl sC, .slice aA al aC] 36 (0, 0)) := by rw [hW5, hg]; exact heap_alloc_new _ _
    rw [← hW5, ← hg]
    have HB5 := Lib.hid (below_next HB45.out hbW5)
    have HG5 := Lib.hid hG5
    refine (HX2.out W5 HB5.out).mono ?_
    rintro e w6 ⟨v6, rfl, hE6, hb6⟩
    obtain ⟨vs6, va6, t6, rfl, hs6, ha6⟩ := hE6
    obtain ⟨bA, bC, rfl, _, hDs⟩ := Kd.S_reads hs6
    obtain ⟨kA, kC, rfl, hkc, hDa⟩ := Kd.S_reads ha6
    rw [← HBL.out] at hkc
    rw [← HBT.out, ← HBV.out, ← HBF.out, ← HBL.out, ← HBS.out]
    have HB6 := Lib.hid (below_next HB4.out (below_next HB5.out hb6))
    have HG6 := Lib.hid ((hb6.block g (blk_lt hG5)).trans hG5)
    have HCS6 := Lib.hid (Kd.C_below (Kd.C_below HCS.out hbW5) hb6)
    have HCA6 := Lib.hid (Kd.C_below (Kd.C_below HCA.out hbW5) hb6)
    have HDS := Lib.hid hDs
    have HDA := Lib.hid hDa
    have hltG := blk_lt HG6.out
    have a0 : w6.cell? ⟨g, 0, none⟩ = some (.int .i64 tr) := (blk_cell HG6.out 0).trans rfl
    have a1 : w6.cell? ⟨g, 1, none⟩ = some (.int .i64 va) := (blk_cell HG6.out 1).trans rfl
    have a2 : w6.cell? ⟨g, 2, none⟩ = some (.int .i64 fu) := (blk_cell HG6.out 2).trans rfl
    have a3 : w6.cell? ⟨g, 3, none⟩ = some (.slice sA sl sC) := (blk_cell HG6.out 3).trans rfl
    have a4 : w6.cell? ⟨g, 4, none⟩ = some (.slice aA al aC) := (blk_cell HG6.out 4).trans rfl
    clear hW5 hg hbW5 hG5 hs6 ha6 hDs hDa hb6 i0 i1 j0 j1 j2 j3 hltI hltJ
    have hcase := HCASE.out
    rcases hcase with ⟨rfl, rfl, hall, hpre⟩ | ⟨ht1, rfl, rfl, rfl, rfl, rfl, hbe⟩
    ·go_wp2_with fail
     obtain ⟨W6, hW6⟩ : ∃ P, P = w6.alloc (.cells #[.int .i64 bt, .int .i64 bv, .int .i64 bf, .slice bA bs bC, .slice kA bl kC] 36) := ⟨_, rfl⟩
     obtain ⟨r, hr⟩ : ∃ g, g = w6.heap.size := ⟨_, rfl⟩
     have hbW6 : Below w6.heap.size w6 W6 := by rw [hW6]; exact below_alloc (Below.refl _ _) _
     have hR6 : W6.heap[r]? = some (.cells #[.int .i64 bt, .int .i64 bv, .int .i64 bf, .slice bA bs bC, .slice kA bl kC] 36 (0, 0)) := by rw [hW6, hr]; exact heap_alloc_new _ _
     rw [← hW6, ← hr]
     have HBW6 := Lib.hid hbW6
     have HR6 := Lib.hid hR6
     clear hW6 hr hbW6 hR6 a0 a1 a2 a3 a4 hltG
     refine still_tail_g 21 (by kernel_rfl) (by kernel_rfl) ?_
     intro V HV
     have hbV : Below W6.heap.size W6 V := by rw [HV.out]; exact below_drew (Below.refl _ _)
     have HBV := Lib.hid (below_next HBW6.out hbV)
     have HGV := Lib.hid ((HBV.out.block g (blk_lt HG6.out)).trans HG6.out)
     have HRV := Lib.hid ((hbV.block r (blk_lt HR6.out)).trans HR6.out)
     have a2 : V.cell? ⟨g, 2, none⟩ = some (.int .i64 0) := (blk_cell HGV.out 2).trans rfl
     have a4 : V.cell? ⟨g, 4, none⟩ = some (.slice aA al aC) := (blk_cell HGV.out 4).trans rfl
     have b4 : V.cell? ⟨r, 4, none⟩ = some (.slice kA bl kC) := (blk_cell HRV.out 4).trans rfl
     have hle : decide ((al : Int) ≤ (bl : Int)) = true := decide_eq_true (by omega)
     have hcap : al ≤ kC := Nat.le_trans hall hkc
     have hcap2 : ¬ kC < al := by omega
     have hcap3 : ¬ (kC : Int) < (al : Int) := by omega
     clear hbV
     simp only [List.take_succ_cons, List.take_zero, List.drop_succ_cons, List.drop_zero]
     repeat still_step
     refine wpStill_nil ?_
     go_wp2_with fail
     have HSA := Lib.hid (sameAsks_any en'.asks aA kA aC kC V (Kd.C_below HCA6.out HBV.out) (Kd.C_below (C_prefix HDA.out hpre.out) HBV.out) (by have := HEO.out.al; omega) (end_asks HEO.out))
     have h := HSA.out
     rw [← HAL.out] at h
     refine h.mono ?_
     rintro e w7 ⟨rfl, hb7⟩
     have HB7 := Lib.hid (below_next HB6.out (below_next HBV.out hb7))
     clear h HSA hb7 a2 a4 b4
     go_wp2_with fail
     go_ret
     exact ⟨rfl, HB7.out⟩
    ·go_wp2_with fail
     have HBE := Lib.hid (show Below w6.heap.size w6 (w6.alloc (.cells #[.int .i64 tr, .int .i64 va, .int .i64 fu, .slice bA sl bC, .slice kA al kC] 36)) from below_alloc (Below.refl _ _) _)
     have HSE := Lib.hid (sameEnd_any en' _ sA bA sC bC aA kA aC kC (Kd.C_below HCS6.out HBE.out) (Kd.C_below (by have h := HDS.out; rw [hbe.out] at h; exact h) HBE.out) (Kd.C_below HCA6.out HBE.out) (Kd.C_below (by have h := HDA.out; rw [hbe.out] at h; exact h) HBE.out)
      (by have := (end_rows HOK.out HEO.out).1; omega) (end_rows HOK.out HEO.out).2 (by have := HEO.out.al; omega) (end_asks HEO.out))
     have h := HSE.out
     rw [← HTR.out, ← HVA.out, ← HFU.out, ← HAL.out, ← HSL.out] at h
     refine h.mono ?_
     rintro e w7 ⟨rfl, hb7⟩
     have HB7 := Lib.hid (below_next HB6.out (below_next HBE.out hb7))
     clear h HSE HBE hb7 a0 a1 a2 a3 a4 hltG
     go_wp2_with fail
     go_ret
     exact ⟨rfl, HB7.out⟩
 ·refine (new_no tabT x _ w2 (HGF.out.below HB2.out) HS.out (HG.out.below HB2.out) (HT.out.below HB2.out) tabOK hok).mono ?_
  rintro e w3 ⟨rfl, hb3⟩
  have HB3 := Lib.hid (below_next HB2.out hb3)
  clear hok hb3 i0 i1
  go_wp2_with fail
  go_ret
  exact ⟨rfl, HB3.out⟩
set_option maxHeartbeats 2000000
/-! ### A call (its function, arguments, fuel, replies) as it is handed in -/
theorem kRep_mk (w : World) (r : SRep) : kRep.K w r [.int .i64 r.v, .bool r.tr] := ⟨[.int .i64 r.v], [.bool r.tr], rfl, rfl, rfl⟩
theorem opn_reply : Opn kRep 71 (fun _ r => I64 r.v) := by
 intro H enc W fuel cs y h
 have hu : Tryz.prog.underlying 71 = some _ := Tryz.underlying71
 obtain ⟨xs, n, _, rfl, hl, hlen, hf⟩ := DataW.trod_struct hu h
 match xs, hlen with
 | [y0, y1], _ =>
  have h0 := hf 0 _ rfl
  have h1 := hf 1 _ rfl
  obtain ⟨a, e0, _, hw⟩ := DataW.trod_int Tryz.underlying3 (h0.trans rfl)
  obtain ⟨b, e1, _⟩ := DataW.trod_bool Tryz.underlying4 (h1.trans rfl)
  have hc : Tryz.prog.cellsOf 71 = 2 := by kernel_rfl
  have hi : Tryz.prog.cellsOf 3 = 1 := by kernel_rfl
  have hj : Tryz.prog.cellsOf 4 = 1 := by kernel_rfl
  rw [hc] at hl
  replace e0 : (cs.drop 0).take (Tryz.prog.cellsOf 3) = [.int .i64 a] := e0
  replace e1 : (cs.drop 1).take (Tryz.prog.cellsOf 4) = [.bool b] := e1
  rw [hi] at e0
  rw [hj] at e1
  match cs, hl with
  | [c0, c1], _ =>
   simp at e0 e1
   subst e0 e1
   exact ⟨⟨a, b⟩, kRep_mk W ⟨a, b⟩, wf_i64 hw⟩
structure SCall where
 fn : Int
 args : List Int
 fuel : Int
 reps : List SRep
/-- a call, and what is known of it -/
structure CallIn (W : World) (n : Nat) (c : SCall) (A : Option Addr) (k : Nat) (Ar : Option Addr) (kr : Nat) : Prop where
 args : (Kd.int .i64).C W A c.args.length c.args
 reps : kRep.C W Ar c.reps.length c.reps
 rk : c.reps.length ≤ kr
 la : c.args.length ≤ n
 lr : c.reps.length ≤ n
 ia : ∀ v ∈ c.args, I64 v
 ir : ∀ r ∈ c.reps, I64 r.v
 fn : I64 c.fn
 fuel : I64 c.fuel
theorem open_call (H : Type) (enc : TypeId × Value → H) (W : World) (fuel : Nat) (cs : List Value) (y : DataW H × List MemPlace) (h : DataW.trod enc Tryz.prog W 0 (fun _ => true) true fuel 30 cs = some y) :
  ∃ c A k Ar kr, cs = [.int .i64 c.fn, .slice A c.args.length k, .int .i64 c.fuel, .slice Ar c.reps.length kr] ∧ CallIn W (Rows.uptoBulk y.1) c A k Ar kr := by
 have hu : Tryz.prog.underlying 30 = some _ := Tryz.underlying30
 obtain ⟨xs, n, _, rfl, hl, hlen, hf⟩ := DataW.trod_struct hu h
 match xs, hlen with
 | [y0, y1, y2, y3], _ =>
  have h0 := hf 0 _ rfl
  have h1 := hf 1 _ rfl
  have h2 := hf 2 _ rfl
  have h3 := hf 3 _ rfl
  have hI : Tryz.prog.cellsOf 3 = Kd.sz (Kd.int .i64) := by kernel_rfl
  have hR : Tryz.prog.cellsOf 71 = Kd.sz kRep := by kernel_rfl
  obtain ⟨f, e0, _, w0⟩ := DataW.trod_int Tryz.underlying3 (h0.trans rfl)
  obtain ⟨a, k1, b1⟩ := opn_slice Tryz.underlying27 hI (opn_int Tryz.underlying3) H enc W n _ _ (h1.trans rfl)
  obtain ⟨g, e2, _, w2⟩ := DataW.trod_int Tryz.underlying3 (h2.trans rfl)
  obtain ⟨r, k3, b3⟩ := opn_slice Tryz.underlying28 hR opn_reply H enc W n _ _ (h3.trans rfl)
  obtain ⟨A1, c1, e1, l1, g1⟩ := k1
  obtain ⟨A3, c3, e3, l3, g3⟩ := k3
  have hc : Tryz.prog.cellsOf 30 = 4 := by kernel_rfl
  rw [hc] at hl
  have q0 : Tryz.prog.cellsOf 3 = 1 := by kernel_rfl
  have q1 : Tryz.prog.cellsOf 27 = 1 := by kernel_rfl
  have q3 : Tryz.prog.cellsOf 28 = 1 := by kernel_rfl
  replace e0 : (cs.drop 0).take (Tryz.prog.cellsOf 3) = [.int .i64 f] := e0
  replace e1 : (cs.drop 1).take (Tryz.prog.cellsOf 27) = [.slice A1 a.length c1] := e1
  replace e2 : (cs.drop 2).take (Tryz.prog.cellsOf 3) = [.int .i64 g] := e2
  replace e3 : (cs.drop 3).take (Tryz.prog.cellsOf 28) = [.slice A3 r.length c3] := e3
  rw [q0] at e0 e2
  rw [q1] at e1
  rw [q3] at e3
  match cs, hl with
  | [v0, v1, v2, v3], _ =>
   simp at e0 e1 e2 e3
   subst e0 e1 e2 e3
   have hb : Rows.uptoBulk (DataW.agg (([y0, y1, y2, y3] : List (DataW H × List MemPlace)).map (·.1))) = Rows.uptoBulk y0.1 + (Rows.uptoBulk y1.1 + (Rows.uptoBulk y2.1 + (Rows.uptoBulk y3.1 + 0))) + 1 := by simp [Rows.uptoBulk, Rows.uptoBulkAll]
   refine ⟨⟨f, a, g, r⟩, A1, c1, A3, c3, rfl, ?_⟩
   show CallIn W (Rows.uptoBulk (DataW.agg (([y0, y1, y2, y3] : List (DataW H × List MemPlace)).map (·.1)))) _ _ _ _ _
   rw [hb]
   have b1l := b1.1
   have b3l := b3.1
   exact ⟨g1, g3, l3, by show a.length ≤ _; omega, by show r.length ≤ _; omega, fun v hv => by obtain ⟨_, _, h⟩ := b1.2 v hv; exact h, fun v hv => by obtain ⟨_, _, h⟩ := b3.2 v hv; exact h, wf_i64 w0, wf_i64 w2⟩
end Go.Proofs.YtedmncldelcbfaaGreatDoor.E
namespace Go.Proofs.YtedmncldelcbfaaGreatDoor.vmMore
open Go Go.Proofs.YtedmncldelcbfaaGreatDoor Go.ChangeShapes Go.WideShapes Go.ChangeAt Go.RowKit
set_option linter.unusedVariables false
theorem own : ownKnob Tryz.prog.godebug = none := by kernel_rfl
theorem laidOut : laidOutB Tryz.prog = true := by kernel_rfl
set_option maxRecDepth 100000 in
theorem contract (H : Type) (enc : TypeId × Value → H) (W : World) (base : Nat) (args : Array Value) (ds gs : List (DataW H)) (before : List MemPlace)
  (hval : ∀ (j : Nat) t v, Tryz.f6.params[j]? = some t → args[j]? = some v → Value.okWide Tryz.prog W .any base t v)
  (hW : DataW.Whole enc Tryz.prog Tryz.f6.params.toList Rows.vmMoreSpec.vars false W args.toList ds gs before) (hL : laidMetH Tryz.prog E.laidL W) (hk : Rows.uptoBulkAll (ds ++ gs) ≤ 1048576) :
  Calls Tryz.prog 6 args W fun e W' => ∃ v, e = .returned v ∧ Rows.vmMoreSpec.post enc Tryz.prog Tryz.f6 false true false false W args v W' := by
 have hW' := hW
 obtain ⟨p, q, hA0, hV, rfl, hfz, hnd⟩ := hW
 have hA : DataW.TrodAll enc Tryz.prog W 0 (fun _ => true) true Tryz.f6.params.toList args.toList ds p := hA0
 rw [Tryz.params6] at hA hval
 obtain ⟨v0, vs0, d0, ds0, p0, q0, hargs, rfl, rfl, h0, r0⟩ := trodAll_cons hA
 obtain ⟨v1, vs1, d1, ds1, p1, q1, hargs1, rfl, rfl, h1, r1⟩ := trodAll_cons r0
 obtain ⟨v2, vs2, d2, ds2, p2, q2, hargs2, rfl, rfl, h2, r2⟩ := trodAll_cons r1
 obtain ⟨rfl, rfl, rfl⟩ := trodAll_nil r2
 subst hargs2
 obtain rfl : args = #[v0, v1, v2] := by cases args; simp_all
 obtain ⟨rfl, rfl⟩ := trodVars_none hV
 have k0 := h0
 have k1 := h1
 have k2 := h2
 have lt0 : ∀ x ∈ p0, x.block < W.heap.size := by obtain ⟨m, hm⟩ := k0; exact DataW.trod_lt m _ _ _ hm
 have lt1 : ∀ x ∈ p1, x.block < W.heap.size := by obtain ⟨m, hm⟩ := k1; exact DataW.trod_lt m _ _ _ hm
 have lt2 : ∀ x ∈ p2, x.block < W.heap.size := by obtain ⟨m, hm⟩ := k2; exact DataW.trod_lt m _ _ _ hm
 obtain ⟨fuel, hf⟩ := h0
 obtain ⟨fuel1, hf1⟩ := h1
 obtain ⟨x, A0, c0, A1, c1, hcs, l0, g0, l1, g1, hb⟩ := E.open_img H enc W fuel _ _ hf
 have hv0 : v0 = .agg #[.slice A0 x.globs.length c0, .slice A1 x.fns.length c1] := by
  cases v0 <;> simp [Value.cells] at hcs
  exact congrArg Value.agg (Array.ext' hcs)
 obtain ⟨c, A, k, Ar, kr, hcc, hci⟩ := E.open_call H enc W fuel1 _ _ hf1
 have hv1 : v1 = .agg #[.int .i64 c.fn, .slice A c.args.length k, .int .i64 c.fuel, .slice Ar c.reps.length kr] := by
  cases v1 <;> simp [Value.cells] at hcc
  exact congrArg Value.agg (Array.ext' hcc)
 obtain ⟨m2, hv2⟩ := okWide_int Tryz.underlying3 (hval 2 3 v2 (by simp) (by simp))
 subst hv0 hv1 hv2
 have hbk : Rows.uptoBulk d0 ≤ 1048576 ∧ Rows.uptoBulk d1 ≤ 1048576 := by simp only [List.append_nil, Rows.uptoBulkAll] at hk; constructor <;> omega
 have hin : (∀ f ∈ x.fns, ∀ i ∈ f.f4, E.In i.f1) ∧ ∀ g ∈ x.globs, E.In g.f2 := ⟨fun f hf i hi => (hb.2.2.1 f hf).2.2.2.2 i hi, hb.2.2.2⟩
 have hla := hci.la
 have hlr := hci.lr
 simp only at hla hlr
 have hsm : E.imgSmall 1099511620000 x := by
  obtain ⟨b1, b2, b3, _⟩ := hb
  refine ⟨by simp only at b1; omega, by simp only at b2; omega, fun f hfm => ?_⟩
  obtain ⟨a1, a2, a3, a4, _⟩ := b3 f hfm
  simp only at a1 a2 a3 a4
  exact ⟨by omega, by omega, by omega, by omega⟩
 clear hA0
 refine (E.VmMore_any x _ W ⟨A0, c0, A1, c1, rfl, l0, g0, l1, g1⟩ hsm (E.nib_of hL) (E.pln_of hL) hin.1 hin.2 c.fn A k c.args hci.args c.fuel Ar kr c.reps hci.reps hci.rk (by omega) (by omega) hci.ia hci.ir hci.fuel m2).mono fun e W' ⟨he, bel⟩ => ?_
 subst he
 exact ⟨_, rfl, _, _, _, [], _, [], hW', trodAll_mk1 (shut_bool Tryz.underlying4 _), trodAll_cons_mk (Below.trod laidOut (by kernel_rfl) (of_decide_eq_true (by kernel_rfl)) k0 bel lt0) (trodAll_cons_mk (Below.trod laidOut (by kernel_rfl) (of_decide_eq_true (by kernel_rfl)) k1 bel lt1) (trodAll_cons_mk (Below.trod laidOut (by kernel_rfl) (of_decide_eq_true (by kernel_rfl)) k2 bel lt2) (trodAll_mk0))), rfl, bel.frame _, fun h => by cases h⟩
def setTab (cs : Array Value) : Obj → Obj
 | .cells _ t frozen => .cells cs t frozen
 | o => o
/-- A world for the witness: the settled one, the two tables holding what their initialisers lay. -/
noncomputable def laidWorld (os : Os) : World :=
 { World.holding Tryz.prog os ⟨#[], #[], []⟩ with heap := Array.modify (Array.modify (World.holding Tryz.prog os ⟨#[], #[], []⟩).heap 3 (setTab #[.int .u32 0, .int .u32 498536548, .int .u32 997073096, .int .u32 651767980, .int .u32 1994146192, .int .u32 1802195444, .int .u32 1303535960, .int .u32 1342533948, .int .u32 3988292384, .int .u32 4027552580, .int .u32 3604390888, .int .u32 3412177804, .int .u32 2607071920, .int .u32 2262029012, .int .u32 2685067896, .int .u32 3183342108])) 0 (setTab #[.string ⟨#[]⟩, .string ⟨#[]⟩, .string ⟨#[]⟩, .string ⟨#[]⟩, .string ⟨#[]⟩, .string ⟨#[]⟩, .string ⟨#[]⟩, .string ⟨#[]⟩, .string ⟨#[]⟩, .string ⟨#[]⟩, .string ⟨#[]⟩, .string ⟨#[]⟩, .string ⟨#[]⟩, .string ⟨#[]⟩, .string ⟨#[]⟩, .string ⟨#[]⟩, .string ⟨#[105, 105]⟩, .string ⟨#[105]⟩, .string ⟨#[105, 105]⟩, .string ⟨#[105]⟩, .string ⟨#[105, 105]⟩, .string ⟨#[105]⟩, .string ⟨#[105, 105]⟩, .string ⟨#[105]⟩, .string ⟨#[105, 105]⟩, .string ⟨#[105]⟩, .string ⟨#[105]⟩, .string ⟨#[105]⟩, .string ⟨#[102, 102]⟩, .string ⟨#[102]⟩, .string ⟨#[102, 102]⟩, .string ⟨#[102]⟩, .string ⟨#[102, 102]⟩, .string ⟨#[102]⟩, .string ⟨#[102, 102]⟩, .string ⟨#[102]⟩, .string ⟨#[102]⟩, .string ⟨#[102]⟩, .string ⟨#[84, 84]⟩, .string ⟨#[98]⟩, .string ⟨#[84, 84]⟩, .string ⟨#[98]⟩, .string ⟨#[78, 78]⟩, .string ⟨#[98]⟩, .string ⟨#[78, 78]⟩, .string ⟨#[98]⟩, .string ⟨#[78, 78]⟩, .string ⟨#[98]⟩, .string ⟨#[78, 78]⟩, .string ⟨#[98]⟩, .string ⟨#[98]⟩, .string ⟨#[98]⟩, .string ⟨#[105]⟩, .string ⟨#[102]⟩, .string ⟨#[102]⟩, .string ⟨#[105]⟩, .string ⟨#[]⟩, .string ⟨#[]⟩, .string ⟨#[]⟩, .string ⟨#[]⟩, .string ⟨#[]⟩, .string ⟨#[]⟩, .string ⟨#[]⟩, .string ⟨#[]⟩, .string ⟨#[]⟩, .string ⟨#[]⟩, .string ⟨#[84]⟩, .string ⟨#[]⟩]) }
theorem laid_met (os : Os) : laidMet Tryz.prog Rows.vmMoreRow.laid ((laidWorld os).forCall (fun _ _ => 0) ⟨#[], #[.agg #[.slice none 0 0, .slice none 0 0], .agg #[.int .i64 0, .slice none 0 0, .int .i64 0, .slice none 0 0], .int .i64 0], []⟩).memory :=
 laidMet_of_run' 8 (by kernel_rfl) (by kernel_rfl)
theorem reads (os : Os) {H : Type} (enc : TypeId × Value → H) : ∃ places, DataW.whole enc Tryz.prog ((laidWorld os).forCall (fun _ _ => 0) ⟨#[], #[.agg #[.slice none 0 0, .slice none 0 0], .agg #[.int .i64 0, .slice none 0 0, .int .i64 0, .slice none 0 0], .int .i64 0], []⟩).memory Tryz.f6.params.toList Rows.vmMoreSpec.vars false #[Value.agg #[.slice none 0 0, .slice none 0 0], .agg #[.int .i64 0, .slice none 0 0, .int .i64 0, .slice none 0 0], .int .i64 0].toList 8 = some ([.agg [.nil, .nil], .agg [.lit (.int .i64 0), .nil, .lit (.int .i64 0), .nil], .lit (.int .i64 0)], [], places) :=
 ⟨[], by kernel_rfl⟩
set_option maxRecDepth 100000 in
theorem liftedUpto (os : Os) (started : os.Started) (H : Type) (enc : TypeId × Value → H) (F : Stop.Interp) :
  ReturnsInHanded {} Tryz.checked os 6 .any ((Rows.OpenSpec.upto Rows.vmMoreSpec).preRow enc Tryz.prog Tryz.f6 Rows.vmMoreUptoRow.domain false Rows.vmMoreUptoRow.laid) (((Rows.OpenSpec.upto Rows.vmMoreSpec).at F).post enc Tryz.prog Tryz.f6 false true false false) := by
 obtain ⟨places, hx⟩ := reads os enc
 refine returnsInHanded_of_row (C := Tryz.checked) (s := Rows.OpenSpec.upto Rows.vmMoreSpec) own started (by kernel_rfl) Tryz.func6
  (witness_row_at (enc := enc) (C := Tryz.checked) false (laidWorld os) #[.agg #[.slice none 0 0, .slice none 0 0], .agg #[.int .i64 0, .slice none 0 0, .int .i64 0, .slice none 0 0], .int .i64 0] rfl (by kernel_rfl) (by kernel_rfl) (by kernel_rfl)
   (OpenSpec.preRow_of_cond 8 hx (by kernel_rfl) (fun k hk => by cases hk; kernel_rfl) (by kernel_rfl) (laid_met os))) ?_
 intro W base args ds gs before hval hW h1 hcond h2 hL h3 h4
 exact contract H enc W base args ds gs before hval hW hL (of_decide_eq_true (hcond _ rfl))
theorem saidUpto : Rows.VmMoreUptoSaid :=
 OpenClaim.holds_of_cond 6 Tryz.f6 rfl rfl rfl rfl rfl rfl rfl ⟨rfl, rfl, rfl, rfl, rfl⟩ rfl rfl rfl rfl rfl (by kernel_rfl) Tryz.func6 (by kernel_rfl)
  (of_decide_eq_true (by kernel_rfl)) (by unfold Func.isWrapper; first | (rw [if_pos (by decide +kernel)]; kernel_rfl) | (rw [if_neg (by decide +kernel)]; exact ⟨rfl, rfl⟩))
  (fun os started H enc _ F => by rw [OpenClaim.pre_eq_preRow]; exact liftedUpto os started H enc F)
theorem plain (f : FuncId) (fn : Func) (hf : Tryz.pinned.checked.prog.funcNamed "tiltyard/tiltyardlaw17.VmMore" = some f) (hfn : Tryz.pinned.checked.prog.funcs[f]? = some fn) :
  true = Tryz.pinned.checked.prog.looks [] ∧ ∀ (j : Nat) t, fn.params[j]? = some t → Tryz.pinned.checked.prog.wantsStandIn t = false := by
 obtain rfl : f = 6 := Option.some.inj ((show Tryz.prog.funcNamed "tiltyard/tiltyardlaw17.VmMore" = some 6 by kernel_rfl).symm.trans hf) |>.symm
 obtain rfl : fn = Tryz.f6 := (Option.some.inj (Tryz.func6.symm.trans hfn)).symm
 refine ⟨by kernel_rfl, fun j t ht => ?_⟩
 rw [Tryz.params6] at ht
 rcases (show t = 25 ∨ t = 30 ∨ t = 3 by simpa using Array.mem_of_getElem? ht) with rfl | rfl | rfl
 ·exact (show Tryz.prog.wantsStandIn 25 = false by kernel_rfl)
 ·exact (show Tryz.prog.wantsStandIn 30 = false by kernel_rfl)
 ·exact (show Tryz.prog.wantsStandIn 3 = false by kernel_rfl)
theorem cardUpto : Rows.VmMoreUptoCardSaid :=
 Claim7.holds_tied_plain_at .later [] _ _ _ _ saidUpto (fun _ h => by cases h) (by kernel_rfl) (fun _ h => by cases h) vmMoreUpto_row_tie rfl ⟨rfl, rfl⟩ (by kernel_rfl) rfl plain (by kernel_rfl)
end Go.Proofs.YtedmncldelcbfaaGreatDoor.vmMore
