import Derived.Test.YtedmncldelcbfaaGreatDoorKA
import Derived.DataReads
import Derived.Test.YtedmncldelcbfaaGreatDoorRows
import Derived.Deep.Slices
import Derived.ChangeArms
import Derived.ChangeSame
import Derived.Test.YtedmncldelcbfaaGreatDoorKG
import Derived.Lib.LaidU8
import Derived.Test.YtedmncldelcbfaaGreatDoorCards
import Derived.Test.YtedmncldelcbfaaGreatDoorTie
import Derived.WalkKit
import Derived.ProofKit
import Derived.OpenShut
import Derived.Deep.DeepHandedRow
import Derived.Carry
/- The law VmEnds returns true at every argument, and leaves what was there as it was; on the condition that the arguments are of bulk 1048576 at most, and that the two tables which the program lays at its start hold what it lays there. -/
namespace Go.Proofs.YtedmncldelcbfaaGreatDoor.E
open Go Go.Proofs Go.RowKit Go.Deep Go.ChangeShapes Go.WideShapes Go.Proofs.YtedmncldelcbfaaGreatDoorW.PrintWords Go.Proofs.YtedmncldelcbfaaGreatDoorW.PrintLast Go.Proofs.YtedmncldelcbfaaGreatDoorW.PrintMore
set_option linter.unusedVariables false
set_option linter.unusedSimpArgs false
set_option maxRecDepth 100000
set_option maxHeartbeats 2000000
theorem bulk_pos {H : Type} (d : DataW H) : 1 ≤ Rows.uptoBulk d := by
 cases d with
 | lit l => cases l <;> simp [Rows.uptoBulk]
 | nil => simp [Rows.uptoBulk]
 | ptr => simp [Rows.uptoBulk]
 | slice => simp [Rows.uptoBulk]
 | agg => simp [Rows.uptoBulk]
 | iface => simp [Rows.uptoBulk]
 | map => simp [Rows.uptoBulk]
 | held => simp [Rows.uptoBulk]
theorem bulk_all_len {H : Type} : ∀ l : List (DataW H), l.length ≤ Rows.uptoBulkAll l
 | [] => by simp [Rows.uptoBulkAll]
 | d :: r => by have := bulk_pos d; have := bulk_all_len r; simp [Rows.uptoBulkAll]; omega
theorem bulk_all_mem {H : Type} : ∀ (l : List (DataW H)) (d : DataW H), d ∈ l → Rows.uptoBulk d ≤ Rows.uptoBulkAll l
 | [], d, h => by simp at h
 | e :: r, d, h => by
  rcases List.mem_cons.1 h with rfl | h
  ·simp [Rows.uptoBulkAll]
  ·have := bulk_all_mem r d h; simp [Rows.uptoBulkAll]; omega
/-- what reads as a datum is of this kind, and no longer than the datum's bulk -/
def Opn {α : Type} (d : Kd α) (t : TypeId) (bd : Nat → α → Prop) : Prop :=
 ∀ (H : Type) (enc : TypeId × Value → H) (W : World) (fuel : Nat) (cs : List Value) (y : DataW H × List MemPlace), DataW.trod enc Tryz.prog W 0 (fun _ => true) true fuel t cs = some y → ∃ x, d.K W x cs ∧ bd (Rows.uptoBulk y.1) x
/-- in 64 bits -/
def I64 (v : Int) : Prop := -9223372036854775808 ≤ v ∧ v ≤ 9223372036854775807
theorem wf_i64 {n : Int} (h : (Lit.int .i64 n).wf = true) : I64 n := by
 simp only [Lit.wf, IntKind.min, IntKind.max, IntKind.signed, IntKind.bits, Bool.and_eq_true, decide_eq_true_eq] at h
 unfold I64
 simpa using h
theorem opn_int {t : TypeId} (ht : Tryz.prog.underlying t = some (.int .i64)) : Opn (Kd.int .i64) t (fun _ => I64) := by
 intro H enc W fuel cs y h
 obtain ⟨n, rfl, rfl, hw⟩ := DataW.trod_int ht h
 exact ⟨n, rfl, wf_i64 hw⟩
theorem opn_string {t : TypeId} (ht : Tryz.prog.underlying t = some .string) : Opn Kd.string t (fun n s => s.size + 1 ≤ n) := by
 intro H enc W fuel cs y h
 obtain ⟨s, rfl, rfl, _⟩ := DataW.trod_string ht h
 exact ⟨s, rfl, by simp [Rows.uptoBulk]⟩
theorem opn_slice {α : Type} {d : Kd α} {t e : TypeId} {bd : Nat → α → Prop} (ht : Tryz.prog.underlying t = some (.slice e)) (hsz : Tryz.prog.cellsOf e = d.sz) (he : Opn d e bd) :
  Opn (Kd.slice e d) t (fun n l => l.length ≤ n ∧ ∀ x ∈ l, ∃ m, m ≤ n ∧ bd m x) := by
 intro H enc W fuel cs y h
 rcases open_slice ht h with ⟨rfl, rfl⟩ | ⟨a, len, cap, m, n, D, Pl, rfl, hb, hl, hm, hmm, rfl, hel⟩
 ·exact ⟨[], ⟨none, 0, rfl, by simp, Kd.C_nil _ _⟩, by simp, by simp⟩
 ·have hml : len ≤ m := by rw [hmm]; simp; exact hl
  have hx : ∀ i, i < len → ∃ x, ∃ cs', W.cells? 0 (a.add (i * d.sz)) d.sz = some cs' ∧ d.K W x cs' ∧ bd (Rows.uptoBulk (D i)) x := by
   intro i hi
   obtain ⟨cs', h1, h2⟩ := hel i (by omega)
   obtain ⟨x, hx1, hx2⟩ := he H enc W n cs' _ h2
   rw [hsz] at h1
   exact ⟨x, cs', h1, hx1, hx2⟩
  have hml2 : maxLen ≤ 9223372036854775807 := by unfold maxLen; omega
  have hbk : Rows.uptoBulk (DataW.slice ((List.range len).map D) ((List.range (m - len)).map fun j => D (len + j))) = Rows.uptoBulkAll ((List.range len).map D) + Rows.uptoBulkAll ((List.range (m - len)).map fun j => D (len + j)) + 1 := by simp [Rows.uptoBulk]
  refine ⟨List.ofFn (fun i : Fin len => Classical.choose (hx i i.2)), ⟨some a, cap, by simp, by simp; exact hl, ?_⟩, ?_, ?_⟩
  ·refine ⟨rfl, by simp; omega, fun _ => ⟨a, rfl, fun j p hj => ?_⟩⟩
   have hjl : j < len := by
    have := (List.getElem?_eq_some_iff.1 hj).1
    simpa using this
   have hp : p = Classical.choose (hx j hjl) := by
    rw [List.getElem?_ofFn] at hj
    simp [hjl] at hj
    exact hj.symm
   obtain ⟨cs', h1, h2, h3⟩ := Classical.choose_spec (hx j hjl)
   rw [← hp] at h2
   obtain ⟨_, hlen, hc⟩ := World.cells?_some h1
   refine ⟨cs', hlen, h2, fun i u hu => ?_⟩
   have hi : i < d.sz := by rw [← hlen]; exact (List.getElem?_eq_some_iff.1 hu).1
   have := hc i hi
   rw [hu] at this
   rw [← this]
   rw [Go.Deep.add_add]
  ·have h1 := bulk_all_len ((List.range len).map D)
   simp only [List.length_map, List.length_range] at h1
   simp only [List.length_ofFn]
   rw [hbk]; omega
  ·intro x hxm
   obtain ⟨i, rfl⟩ := (List.mem_ofFn).1 hxm
   obtain ⟨cs', h1, h2, h3⟩ := Classical.choose_spec (hx i i.2)
   have h4 := bulk_all_mem ((List.range len).map D) (D i) (List.mem_map.2 ⟨i, List.mem_range.2 i.2, rfl⟩)
   exact ⟨_, by rw [hbk]; omega, h3⟩
theorem opn_instr : Opn kInstr 56 (fun _ i => I64 i.f1) := by
 intro H enc W fuel cs y h
 have hu : Tryz.prog.underlying 56 = some _ := Tryz.underlying56
 obtain ⟨xs, n, _, rfl, hl, hlen, hf⟩ := DataW.trod_struct hu h
 match xs, hlen with
 | [y0, y1, y2], _ =>
  have h0 := hf 0 _ rfl
  have h1 := hf 1 _ rfl
  have h2 := hf 2 _ rfl
  obtain ⟨a, e0, _⟩ := DataW.trod_int Tryz.underlying3 (h0.trans rfl)
  obtain ⟨b, e1, _, hw⟩ := DataW.trod_int Tryz.underlying3 (h1.trans rfl)
  obtain ⟨c, e2, _⟩ := DataW.trod_int Tryz.underlying3 (h2.trans rfl)
  have hc : Tryz.prog.cellsOf 56 = 3 := by kernel_rfl
  have hi : Tryz.prog.cellsOf 3 = 1 := by kernel_rfl
  rw [hc] at hl
  replace e0 : (cs.drop 0).take (Tryz.prog.cellsOf 3) = [.int .i64 a] := e0
  replace e1 : (cs.drop 1).take (Tryz.prog.cellsOf 3) = [.int .i64 b] := e1
  replace e2 : (cs.drop 2).take (Tryz.prog.cellsOf 3) = [.int .i64 c] := e2
  rw [hi] at e0 e1 e2
  match cs, hl with
  | [c0, c1, c2], _ =>
   simp at e0 e1 e2
   subst e0 e1 e2
   exact ⟨⟨a, b, c⟩, kInstr_mk W ⟨a, b, c⟩, wf_i64 hw⟩
theorem opn_glob : Opn kGlob 88 (fun _ g => I64 g.f2) := by
 intro H enc W fuel cs y h
 have hu : Tryz.prog.underlying 88 = some _ := Tryz.underlying88
 obtain ⟨xs, n, _, rfl, hl, hlen, hf⟩ := DataW.trod_struct hu h
 match xs, hlen with
 | [y0, y1, y2], _ =>
  have h0 := hf 0 _ rfl
  have h1 := hf 1 _ rfl
  have h2 := hf 2 _ rfl
  obtain ⟨a, e0, _⟩ := DataW.trod_int Tryz.underlying3 (h0.trans rfl)
  obtain ⟨b, e1, _⟩ := DataW.trod_int Tryz.underlying3 (h1.trans rfl)
  obtain ⟨c, e2, _, hw⟩ := DataW.trod_int Tryz.underlying3 (h2.trans rfl)
  have hc : Tryz.prog.cellsOf 88 = 3 := by kernel_rfl
  have hi : Tryz.prog.cellsOf 3 = 1 := by kernel_rfl
  rw [hc] at hl
  replace e0 : (cs.drop 0).take (Tryz.prog.cellsOf 3) = [.int .i64 a] := e0
  replace e1 : (cs.drop 1).take (Tryz.prog.cellsOf 3) = [.int .i64 b] := e1
  replace e2 : (cs.drop 2).take (Tryz.prog.cellsOf 3) = [.int .i64 c] := e2
  rw [hi] at e0 e1 e2
  match cs, hl with
  | [c0, c1, c2], _ =>
   simp at e0 e1 e2
   subst e0 e1 e2
   exact ⟨⟨a, b, c⟩, kGlob_mk W ⟨a, b, c⟩, wf_i64 hw⟩
/-- a function's parts are no longer than its bulk -/
def fnBulk (n : Nat) (f : SFn) : Prop := f.f0.size ≤ n ∧ f.f1.length ≤ n ∧ f.f3.length ≤ n ∧ f.f4.length ≤ n ∧ ∀ i ∈ f.f4, I64 i.f1
theorem opn_fn : Opn kFn 54 fnBulk := by
 intro H enc W fuel cs y h
 have hu : Tryz.prog.underlying 54 = some _ := Tryz.underlying54
 obtain ⟨xs, n, _, rfl, hl, hlen, hf⟩ := DataW.trod_struct hu h
 match xs, hlen with
 | [y0, y1, y2, y3, y4], _ =>
  have h0 := hf 0 _ rfl
  have h1 := hf 1 _ rfl
  have h2 := hf 2 _ rfl
  have h3 := hf 3 _ rfl
  have h4 := hf 4 _ rfl
  have hi : Tryz.prog.cellsOf 3 = Kd.sz (Kd.int .i64) := by kernel_rfl
  have hI : Tryz.prog.cellsOf 56 = Kd.sz kInstr := by kernel_rfl
  obtain ⟨a, k0, b0⟩ := opn_string Tryz.underlying9 H enc W n _ _ (h0.trans rfl)
  obtain ⟨b, k1, b1⟩ := opn_slice Tryz.underlying27 hi (opn_int Tryz.underlying3) H enc W n _ _ (h1.trans rfl)
  obtain ⟨c, e2, _⟩ := DataW.trod_int Tryz.underlying3 (h2.trans rfl)
  obtain ⟨d, k3, b3⟩ := opn_slice Tryz.underlying27 hi (opn_int Tryz.underlying3) H enc W n _ _ (h3.trans rfl)
  obtain ⟨e, k4, b4⟩ := opn_slice Tryz.underlying52 hI opn_instr H enc W n _ _ (h4.trans rfl)
  obtain ⟨A1, c1, e1, l1, g1⟩ := k1
  obtain ⟨A3, c3, e3, l3, g3⟩ := k3
  obtain ⟨A4, c4, e4, l4, g4⟩ := k4
  have e0 : _ = [Value.string a] := k0
  have hc : Tryz.prog.cellsOf 54 = 5 := by kernel_rfl
  rw [hc] at hl
  have q0 : Tryz.prog.cellsOf 9 = 1 := by kernel_rfl
  have q1 : Tryz.prog.cellsOf 27 = 1 := by kernel_rfl
  have q2 : Tryz.prog.cellsOf 3 = 1 := by kernel_rfl
  have q4 : Tryz.prog.cellsOf 52 = 1 := by kernel_rfl
  replace e0 : (cs.drop 0).take (Tryz.prog.cellsOf 9) = [.string a] := e0
  replace e1 : (cs.drop 1).take (Tryz.prog.cellsOf 27) = [.slice A1 b.length c1] := e1
  replace e2 : (cs.drop 2).take (Tryz.prog.cellsOf 3) = [.int .i64 c] := e2
  replace e3 : (cs.drop 3).take (Tryz.prog.cellsOf 27) = [.slice A3 d.length c3] := e3
  replace e4 : (cs.drop 4).take (Tryz.prog.cellsOf 52) = [.slice A4 e.length c4] := e4
  rw [q0] at e0
  rw [q1] at e1 e3
  rw [q2] at e2
  rw [q4] at e4
  match cs, hl with
  | [v0, v1, v2, v3, v4], _ =>
   simp at e0 e1 e2 e3 e4
   subst e0 e1 e2 e3 e4
   refine ⟨⟨a, b, c, d, e⟩, kFn_mk W ⟨a, b, c, d, e⟩ l1 g1 l3 g3 l4 g4, ?_⟩
   have hb : Rows.uptoBulk (DataW.agg (([y0, y1, y2, y3, y4] : List (DataW H × List MemPlace)).map (·.1))) = Rows.uptoBulk y0.1 + (Rows.uptoBulk y1.1 + (Rows.uptoBulk y2.1 + (Rows.uptoBulk y3.1 + (Rows.uptoBulk y4.1 + 0)))) + 1 := by simp [Rows.uptoBulk, Rows.uptoBulkAll]
   show fnBulk (Rows.uptoBulk (DataW.agg (([y0, y1, y2, y3, y4] : List (DataW H × List MemPlace)).map (·.1)))) _
   rw [hb]
   exact ⟨by show a.size ≤ _; omega, by show b.length ≤ _; omega, by show d.length ≤ _; omega, by show e.length ≤ _; omega, fun i hi => by obtain ⟨_, _, h⟩ := b4.2 i hi; exact h⟩
def imgBulk (n : Nat) (x : SImage) : Prop := x.globs.length ≤ n ∧ x.fns.length ≤ n ∧ (∀ f ∈ x.fns, fnBulk n f) ∧ ∀ g ∈ x.globs, I64 g.f2
theorem open_img (H : Type) (enc : TypeId × Value → H) (W : World) (fuel : Nat) (cs : List Value) (y : DataW H × List MemPlace) (h : DataW.trod enc Tryz.prog W 0 (fun _ => true) true fuel 25 cs = some y) :
  ∃ x A0 c0 A1 c1, cs = [.slice A0 x.globs.length c0, .slice A1 x.fns.length c1] ∧ x.globs.length ≤ c0 ∧ kGlob.C W A0 x.globs.length x.globs ∧ x.fns.length ≤ c1 ∧ kFn.C W A1 x.fns.length x.fns ∧ imgBulk (Rows.uptoBulk y.1) x := by
 have hu : Tryz.prog.underlying 25 = some _ := Tryz.underlying25
 obtain ⟨xs, n, _, rfl, hl, hlen, hf⟩ := DataW.trod_struct hu h
 match xs, hlen with
 | [y0, y1], _ =>
  have h0 := hf 0 _ rfl
  have h1 := hf 1 _ rfl
  have hG : Tryz.prog.cellsOf 88 = Kd.sz kGlob := by kernel_rfl
  have hF : Tryz.prog.cellsOf 54 = Kd.sz kFn := by kernel_rfl
  obtain ⟨a, k0, b0⟩ := opn_slice Tryz.underlying22 hG opn_glob H enc W n _ _ (h0.trans rfl)
  obtain ⟨b, k1, b1, b2⟩ := opn_slice Tryz.underlying23 hF opn_fn H enc W n _ _ (h1.trans rfl)
  obtain ⟨A0, c0, e0, l0, g0⟩ := k0
  obtain ⟨A1, c1, e1, l1, g1⟩ := k1
  have hc : Tryz.prog.cellsOf 25 = 2 := by kernel_rfl
  rw [hc] at hl
  have q0 : Tryz.prog.cellsOf 22 = 1 := by kernel_rfl
  have q1 : Tryz.prog.cellsOf 23 = 1 := by kernel_rfl
  replace e0 : (cs.drop 0).take (Tryz.prog.cellsOf 22) = [.slice A0 a.length c0] := e0
  replace e1 : (cs.drop 1).take (Tryz.prog.cellsOf 23) = [.slice A1 b.length c1] := e1
  rw [q0] at e0
  rw [q1] at e1
  match cs, hl with
  | [v0, v1], _ =>
   simp at e0 e1
   subst e0 e1
   have hb : Rows.uptoBulk (DataW.agg (([y0, y1] : List (DataW H × List MemPlace)).map (·.1))) = Rows.uptoBulk y0.1 + (Rows.uptoBulk y1.1 + 0) + 1 := by simp [Rows.uptoBulk, Rows.uptoBulkAll]
   refine ⟨⟨a, b⟩, A0, c0, A1, c1, rfl, l0, g0, l1, g1, ?_⟩
   show imgBulk (Rows.uptoBulk (DataW.agg (([y0, y1] : List (DataW H × List MemPlace)).map (·.1)))) _
   rw [hb]
   refine ⟨by show a.length ≤ _; omega, by show b.length ≤ _; omega, fun f hfm => ?_, fun g hg => by obtain ⟨_, _, h⟩ := b0.2 g hg; exact h⟩
   obtain ⟨m, hm, h5⟩ := b2 f hfm
   exact ⟨by have := h5.1; omega, by have := h5.2.1; omega, by have := h5.2.2.1; omega, by have := h5.2.2.2.1; omega, h5.2.2.2.2⟩
/-! ### The two laid tables -/
def nibL : List Int := [0, 498536548, 997073096, 651767980, 1994146192, 1802195444, 1303535960, 1342533948, 3988292384, 4027552580, 3604390888, 3412177804, 2607071920, 2262029012, 2685067896, 3183342108]
theorem gNib : Tryz.prog.globalNamed "tiltyard/wire.nibbles" = some 3 := by kernel_rfl
theorem gNibType : (Tryz.prog.globals[3]?).map (·.type) = some 239 := by kernel_rfl
theorem gPln : Tryz.prog.globalNamed "tiltyard/verify.plain" = some 0 := by kernel_rfl
theorem gPlnType : (Tryz.prog.globals[0]?).map (·.type) = some 230 := by kernel_rfl
def laidL : List (String × DataW Unit) := [("tiltyard/wire.nibbles", Rows.laid_tiltyard_wire_nibbles), ("tiltyard/verify.plain", Rows.laid_tiltyard_verify_plain)]
theorem nib_of {W : World} (h : laidMetH Tryz.prog laidL W) : Nib W := by
 have h1 : Lib.TabIs Tryz.prog W "tiltyard/wire.nibbles" .u32 nibL :=
  Lib.tabIs_of_head (rest := [("tiltyard/verify.plain", Rows.laid_tiltyard_verify_plain)]) gNib gNibType Tryz.underlying239 Tryz.underlying209 (by kernel_rfl) (by kernel_rfl) h
 exact ⟨fun j => nibL.getD j 0, fun j hj => h1.cell gNib j (by simpa [nibL] using hj)⟩
theorem pln_of {W : World} (h : laidMetH Tryz.prog laidL W) : Pln tabT W := by
 have h0 : laidMet Tryz.prog laidL W := h
 obtain ⟨g, t, cs, fuel, p, hg, ht, hv, hd⟩ := Lib.laidMet.reads h0 (n := "tiltyard/verify.plain") (d := Rows.laid_tiltyard_verify_plain) (.tail _ (.head _))
 obtain rfl := Option.some.inj (gPln.symm.trans hg)
 obtain rfl := Option.some.inj (gPlnType.symm.trans ht)
 have hd' : DataW.trod (fun _ => ()) Tryz.prog W 0 (fun _ => true) false fuel 230 cs.toList = some (.agg (tabD.map fun q => .agg [.lit (.string q.1), .lit (.string q.2)]), p) := hd
 have c1 : Tryz.prog.cellsOf 229 = 2 := by kernel_rfl
 have c2 : Tryz.prog.cellsOf 9 = 1 := by kernel_rfl
 intro j hj
 obtain ⟨f1, d1, q1, e1, t1⟩ := Lib.array_elem Tryz.underlying230 hd' j hj
 have hjl : j < tabD.length := hj
 rw [List.getElem?_map, List.getElem?_eq_getElem hjl] at e1
 obtain rfl : DataW.agg [.lit (.string (tabD[j]).1), .lit (.string (tabD[j]).2)] = d1 := by simpa using e1
 have hgd : tabD.getD j ([], []) = tabD[j] := by rw [List.getD_eq_getElem?_getD, List.getElem?_eq_getElem hjl]; rfl
 obtain ⟨f2, d2, q2, e2, t2⟩ := Lib.array_elem Tryz.underlying229 t1 0 (by omega)
 obtain ⟨f3, d3, q3, e3, t3⟩ := Lib.array_elem Tryz.underlying229 t1 1 (by omega)
 obtain ⟨s2, u2, x2, _⟩ := DataW.trod_string Tryz.underlying9 t2
 obtain ⟨s3, u3, x3, _⟩ := DataW.trod_string Tryz.underlying9 t3
 have x2' := congrArg Prod.fst x2
 have x3' := congrArg Prod.fst x3
 simp only at x2' x3'
 have k2 : (tabD[j]).1 = s2.data.toList := by
  have : d2 = .lit (.string (tabD[j]).1) := by simpa using e2.symm
  rw [this] at x2'
  injection x2' with h; injection h
 have k3 : (tabD[j]).2 = s3.data.toList := by
  have : d3 = .lit (.string (tabD[j]).2) := by simpa using e3.symm
  rw [this] at x3'
  injection x3' with h; injection h
 rw [c1, c2] at u2 u3
 have w2 : cs[j * 2]? = some (.string s2) := by
  have := congrArg (·[0]?) u2
  simp [List.getElem?_take, List.getElem?_drop] at this
  simpa using this
 have w3 : cs[j * 2 + 1]? = some (.string s3) := by
  have := congrArg (·[0]?) u3
  simp [List.getElem?_take, List.getElem?_drop] at this
  simpa using this
 have m2 : (tabT j).1 = s2 := by unfold tabT; rw [hgd, k2]
 have m3 : (tabT j).2 = s3 := by unfold tabT; rw [hgd, k3]
 rw [m2, m3]
 exact ⟨(World.var?_cell gPln hv (j * 2)).trans w2, (World.var?_cell gPln hv (j * 2 + 1)).trans w3⟩
set_option maxHeartbeats 4000000
/-! ### VmEnds: what a run's end is -/
theorem notBit_01 (v : Int) (h : v = 0 ∨ v = 1) : notBit v = false := by rcases h with rfl | rfl <;> kernel_rfl
theorem fits_of (t : Int) (l : List Int) (h : ∀ v ∈ l, VL (letterOf t) v) : fitsB t l = true := by
 unfold fitsB
 by_cases ht : t = 3
 ·have h1 : l.any notBit = false := by
   rw [List.any_eq_false]
   intro v hv
   rw [notBit_01 v ((h v hv).2 ((letter_b t).2 ht))]; decide
  rw [h1]; simp
 ·rw [show (t != 3) = true by simpa using ht]; rfl
theorem ST_right {x : SImage} {state : List (List Int)} (h : ST x.globs state) : stateR x state = true := by
 unfold stateR
 rw [firstFrom_none.2 (fun j _ hj => ?_)]
 ·rfl
 ·obtain ⟨h1, h2⟩ := h.2 j hj
  unfold stateBad
  rw [fits_of _ _ h2, h1]; simp
theorem rightR_of {x : SImage} {state state' : List (List Int)} {fn : Int} {args : List Int} {fuel : Int} (h : rightR x state fn args fuel = true) (hST : ST x.globs state') : rightR x state' fn args fuel = true := by
 unfold rightR at h ⊢
 rw [Bool.and_eq_true, Bool.and_eq_true] at h ⊢
 refine ⟨?_, ST_right hST, h.2.2⟩
 have h1 := headR_parts h.1
 unfold headR
 simp only [Bool.and_eq_true, decide_eq_true_eq]
 exact ⟨⟨⟨⟨⟨hST.1, h1.2.1⟩, h1.2.2.1⟩, h1.2.2.2.1⟩, h1.2.2.2.2.1⟩, h1.2.2.2.2.2⟩
theorem ST_in {gs : List SGlob} {state : List (List Int)} (h : ST gs state) : ∀ r ∈ state, ∀ v ∈ r, In v := by
 intro r hr v hv
 obtain ⟨i, hi, rfl⟩ := List.mem_iff_getElem.1 hr
 have h1 := (h.2 i (by rw [← h.1]; exact hi)).2 v
 rw [List.getD_eq_getElem?_getD, List.getElem?_eq_getElem hi] at h1
 exact (h1 hv).1
theorem ST_rows {gs : List SGlob} {state : List (List Int)} (h : ST gs state) (hg : ∀ g ∈ gs, g.f1 ≤ 1000) : ∀ r ∈ state, r.length ≤ 1000 := by
 intro r hr
 obtain ⟨i, hi, rfl⟩ := List.mem_iff_getElem.1 hr
 have hig : i < gs.length := by rw [← h.1]; exact hi
 have h1 := (h.2 i hig).1
 rw [List.getD_eq_getElem?_getD, List.getElem?_eq_getElem hi, List.getD_eq_getElem?_getD, List.getElem?_eq_getElem hig] at h1
 have h2 := hg gs[i] (List.getElem_mem hig)
 have h3 : state[i].length = sizeG gs[i] := h1
 rw [h3]
 unfold sizeG mx
 split <;> omega
theorem start_in {x : SImage} (h : ∀ g ∈ x.globs, In g.f2) : ∀ r ∈ startL x, ∀ v ∈ r, In v := by
 intro r hr v hv
 obtain ⟨g, hg, rfl⟩ := List.mem_map.1 hr
 unfold rowG at hv
 rcases List.mem_or_eq_of_mem_set hv with h1 | h1
 ·rw [(List.mem_replicate.1 h1).2]; exact In_0
 ·rw [h1]; exact h g hg
theorem start_rows {x : SImage} (h : ∀ g ∈ x.globs, g.f1 ≤ 1000) : ∀ r ∈ startL x, r.length ≤ 1000 := by
 intro r hr
 obtain ⟨g, hg, rfl⟩ := List.mem_map.1 hr
 have h2 := h g hg
 unfold rowG
 rw [List.length_set, List.length_replicate]
 unfold sizeG mx
 split <;> omega
theorem runX_ri {T : Nat → ByteArray × ByteArray} {x : SImage} {F0 : Nat} (hX : XOK T x) (hTB : TAB T) (hF : F0 ≤ 1048576) : ∀ (n : Nat) (rs : List SRep) (s : SRun), (∀ r ∈ rs, In r.v) → RI T x F0 s → RI T x F0 (runX x n rs s)
 | 0, _, _, _, h => h
 | n + 1, rs, s, hr, h => by
  have h1 := nextR_inv (RI.inv hX hTB hF) s h
  show RI T x F0 (if _ then _ else _)
  split
  ·refine runX_ri hX hTB hF n _ _ (fun r hm => hr r (List.mem_of_mem_tail hm)) (RI.reply hX h1 _ _ ?_)
   cases rs with
   | nil => exact In_0
   | cons a l => exact hr a (List.mem_cons_self ..)
  ·exact h1
/-- the end of a run of an image that is right -/
structure EndOK (x : SImage) (fuel : Int) (e : SEnd) : Prop where
 t0 : 0 ≤ e.trap ∧ e.trap ≤ 5
 f0 : 0 ≤ e.fuel ∧ e.fuel ≤ fuel
 tf : e.trap = 1 → e.fuel = 0
 tv : e.trap ≠ 0 → e.value = 0
 ak : (e.asks.length : Int) ≤ fuel - e.fuel
 al : e.asks.length ≤ 1048576
 aa : ∀ a ∈ e.asks, a.args.length ≤ 1000
 st : ST x.globs e.state
theorem exec_ends {T : Nat → ByteArray × ByteArray} {x : SImage} (hT : TOK T) (hTB : TAB T) (hv : (verifyS T x).1 = 0) (hin : ∀ f ∈ x.fns, ∀ i ∈ f.f4, In i.f1) (state : List (List Int)) (fn : Int) (args : List Int) (fuel : Int) (rs : List SRep) (h : rightR x state fn args fuel = true) (hs : ∀ r ∈ state, ∀ v ∈ r, In v) (ha : ∀ v ∈ args, In v) (hr : ∀ r ∈ rs, In r.v) :
  ∃ e, execR T x state fn args fuel rs = (e, 0) ∧ EndOK x fuel e := by
 have hX := XOK_of hT hv hin
 have hp : 0 ≤ fuel ∧ fuel ≤ 1048576 := by
  have h' := h
  unfold rightR at h'
  rw [Bool.and_eq_true] at h'
  have := headR_parts h'.1
  exact ⟨this.2.2.2.1, this.2.2.2.2.1⟩
 have hR := runX_ri hX hTB (F0 := fuel.toNat) (by omega) (fuel.toNat + 1) rs _ hr (RI.begin hX state fn args fuel h hs ha)
 refine ⟨_, by unfold execR; rw [if_pos hv, if_pos h], ?_⟩
 obtain ⟨s, hs2⟩ : ∃ s, s = runX x (fuel.toNat + 1) rs (beginR x state fn args fuel) := ⟨_, rfl⟩
 rw [← hs2] at hR ⊢
 have hfu := hR.rb.fu
 refine ⟨hR.rb.tr, ⟨by show (0 : Int) ≤ (s.fuel : Int); omega, by show (s.fuel : Int) ≤ fuel; omega⟩, fun e => ?_, fun e => if_neg e, ?_, ?_, hR.rb.ak, hR.rb.st⟩
 ·show (s.fuel : Int) = 0
  have := hR.rb.tf e
  omega
 ·show (s.asks.length : Int) ≤ fuel - (s.fuel : Int)
  omega
 ·show s.asks.length ≤ 1048576
  omega
/-! ### VmEnds: the law's walk -/
theorem exec_no_zero {T : Nat → ByteArray × ByteArray} {x : SImage} {state : List (List Int)} {fn : Int} {args : List Int} {fuel : Int} {rs : List SRep} (hv : (verifyS T x).1 = 0) (h : rightR x state fn args fuel = false) : execR T x state fn args fuel rs = (zEnd, 1) := by
 unfold execR
 rw [if_pos hv, h, if_neg Bool.false_ne_true]
theorem VmEnds_any (x : SImage) (v : Value) (w : World) (hv : VImage w x v) (hs : imgSmall 1099511620000 x) (hG : Nib w) (hT : Pln tabT w) (hin : ∀ f ∈ x.fns, ∀ i ∈ f.f4, In i.f1) (hgl : ∀ g ∈ x.globs, In g.f2)
  (fn : Int) (Ba : Option Addr) (d : Nat) (args : List Int) (hA : (Kd.int .i64).C w Ba args.length args) (fuel : Int) (Ar : Option Addr) (cr : Nat) (rs : List SRep) (hRs : kRep.C w Ar rs.length rs) (hrc : rs.length ≤ cr) (ha1 : args.length ≤ 2000000) (hr1 : rs.length ≤ 1000000000)
  (i2 : ∀ v ∈ args, In v) (i3 : ∀ r ∈ rs, In r.v) :
  Calls Tryz.prog 5 #[v, .agg #[.int .i64 fn, .slice Ba args.length d, .int .i64 fuel, .slice Ar rs.length cr]] w fun e w' => e = .returned (.bool true) ∧ Below w.heap.size w w' := by
 obtain ⟨A0, c0, A1, c1, hve, l0, hG0, l1, hF0⟩ := hv
 subst hve
 have HGF := Lib.hid (show VImage w x (.agg #[.slice A0 x.globs.length c0, .slice A1 x.fns.length c1]) from ⟨A0, c0, A1, c1, rfl, l0, hG0, l1, hF0⟩)
 have HG := Lib.hid hG
 have HT := Lib.hid hT
 have HS := Lib.hid hs
 have HA := Lib.hid hA
 have HR := Lib.hid hRs
 have HIN := Lib.hid hin
 have HGL := Lib.hid hgl
 have HI2 := Lib.hid i2
 have HI3 := Lib.hid i3
 have hlf := hs.2.1
 have hlg := hs.1
 obtain ⟨W0, hW0⟩ : ∃ W0, W0 = w.alloc (.cells #[.slice A0 x.globs.length c0, .slice A1 x.fns.length c1] 25) := ⟨_, rfl⟩
 have hb0 : Below w.heap.size w W0 := by rw [hW0]; exact below_alloc (Below.refl _ _) _
 have hsz0 : W0.heap.size = w.heap.size + 1 := by rw [hW0]; simp
 have hI0 : W0.heap[w.heap.size]? = some (.cells #[.slice A0 x.globs.length c0, .slice A1 x.fns.length c1] 25 (0, 0)) := by rw [hW0]; exact heap_alloc_new _ _
 obtain ⟨W1, hW1⟩ : ∃ W1, W1 = W0.alloc (.cells #[.int .i64 fn, .slice Ba args.length d, .int .i64 fuel, .slice Ar rs.length cr] 30) := ⟨_, rfl⟩
 have hb1 : Below W0.heap.size W0 W1 := by rw [hW1]; exact below_alloc (Below.refl _ _) _
 have hJ1 : W1.heap[w.heap.size + 1]? = some (.cells #[.int .i64 fn, .slice Ba args.length d, .int .i64 fuel, .slice Ar rs.length cr] 30 (0, 0)) := by rw [hW1, ← hsz0]; exact heap_alloc_new _ _
 have HB1 := Lib.hid (below_next hb0 hb1)
 have HI1 := Lib.hid ((hb1.block _ (blk_lt hI0)).trans hI0)
 have HJ1 := Lib.hid hJ1
 have HW0 := Lib.hid hW0
 have HW1 := Lib.hid hW1
 clear hG hT hG0 hF0 hs hA hRs hin hgl i2 i3 hb0 hsz0 hI0 hb1 hJ1 hW0 hW1
 go_enter Tryz.func5, Tryz.ntmps5
 go_wp2_with fail
 rw [← HW0.out, ← HW1.out]
 refine (awake17_any _ (HG.out.below HB1.out) (HT.out.below HB1.out)).mono ?_
 rintro e w2 ⟨rfl, hb2⟩
 obtain ⟨b, hb⟩ : ∃ b, b = w.heap.size := ⟨_, rfl⟩
 obtain ⟨q, hq⟩ : ∃ q, q = w.heap.size + 1 := ⟨_, rfl⟩
 have hnq : ¬ b = q := by omega
 rw [← hb] at HI1
 rw [← hq] at HJ1
 try rw [← hq]
 try rw [← hb]
 have HB2 := Lib.hid (below_next HB1.out hb2)
 have HI2b := Lib.hid ((hb2.block b (blk_lt HI1.out)).trans HI1.out)
 have HJ2 := Lib.hid ((hb2.block q (blk_lt HJ1.out)).trans HJ1.out)
 have hltI := blk_lt HI2b.out
 have hltJ := blk_lt HJ2.out
 have i0 : w2.cell? ⟨b, 0, none⟩ = some (.slice A0 x.globs.length c0) := (blk_cell HI2b.out 0).trans rfl
 have i1 : w2.cell? ⟨b, 1, none⟩ = some (.slice A1 x.fns.length c1) := (blk_cell HI2b.out 1).trans rfl
 clear hb hq hb2 HW0 HW1
 go_wp2_with fail
 by_cases hok : (verifyS tabT x).1 = 0
 ·have HOK := Lib.hid hok
  have HSM := Lib.hid (small_of hok)
  refine (new_yes tabT x _ w2 (HGF.out.below HB2.out) (small_of hok) (HG.out.below HB2.out) (HT.out.below HB2.out) tabOK hok).mono ?_
  clear hok
  rintro e w3 ⟨mb, AG, cG, AF, cF, AS, cS, rfl, hM, hb3⟩
  have HM := Lib.hid hM.mach
  have HB3 := Lib.hid (below_next HB2.out hb3)
  have HI3b := Lib.hid ((hb3.block b (blk_lt HI2b.out)).trans HI2b.out)
  have HJ3 := Lib.hid ((hb3.block q (blk_lt HJ2.out)).trans HJ2.out)
  clear hM hb3 i0 i1 hltI hltJ
  go_wp2_with fail
  refine (mStart_any w3 mb x AG cG AF cF AS cS HM.out (by have := (img_sizes HOK.out).2.1; omega) (fun g hg => (globs_le HOK.out g hg))).mono ?_
  rintro e w4 ⟨v4, rfl, hv4, hb4⟩
  obtain ⟨A4, c4, rfl, _, hC4⟩ := Kd.S_reads hv4
  have HC4 := Lib.hid hC4
  have HLS := Lib.hid (show (startL x).length = x.globs.length from by unfold startL; rw [List.length_map])
  have HB4 := Lib.hid (below_next HB3.out hb4)
  have HI4 := Lib.hid ((hb4.block b (blk_lt HI3b.out)).trans HI3b.out)
  have HJ4 := Lib.hid ((hb4.block q (blk_lt HJ3.out)).trans HJ3.out)
  have HSR := Lib.hid (start_rows (globs_le HOK.out))
  have hlg2 : (startL x).length ≤ 1000000 := by have := (img_sizes HOK.out).2.1; have := HLS.out; omega
  obtain ⟨st, hst⟩ : ∃ st, st = startL x := ⟨_, rfl⟩
  rw [← hst] at HC4 HLS HSR hlg2 ⊢
  have HST := Lib.hid hst
  have hltI := blk_lt HI4.out
  have hltJ := blk_lt HJ4.out
  have i0 : w4.cell? ⟨b, 0, none⟩ = some (.slice A0 x.globs.length c0) := (blk_cell HI4.out 0).trans rfl
  have i1 : w4.cell? ⟨b, 1, none⟩ = some (.slice A1 x.fns.length c1) := (blk_cell HI4.out 1).trans rfl
  have j0 : w4.cell? ⟨q, 0, none⟩ = some (.int .i64 fn) := (blk_cell HJ4.out 0).trans rfl
  have j1 : w4.cell? ⟨q, 1, none⟩ = some (.slice Ba args.length d) := (blk_cell HJ4.out 1).trans rfl
  have j2 : w4.cell? ⟨q, 2, none⟩ = some (.int .i64 fuel) := (blk_cell HJ4.out 2).trans rfl
  have j3 : w4.cell? ⟨q, 3, none⟩ = some (.slice Ar rs.length cr) := (blk_cell HJ4.out 3).trans rfl
  clear hv4 hC4 hb4 hst
  go_wp2_with fail
  have HEX := Lib.hid (exec_all tabT x _ w4 (HGF.out.below HB4.out) HSM.out (HG.out.below HB4.out) (HT.out.below HB4.out) tabOK tabTAB HIN.out A4 c4 st HC4.out fn Ba d args (Kd.C_below HA.out HB4.out) fuel Ar cr rs (Kd.C_below HR.out HB4.out) hrc hlg2 (fun r hr => Nat.le_trans (HSR.out r hr) (by decide)) ha1 hr1 (by rw [HST.out]; exact start_in HGL.out) HI2.out HI3.out)
  cases hrt : rightR x st fn args fuel
  ·have HE := HEX.out
   rw [exec_no_zero HOK.out hrt] at HE
   refine HE.mono ?_
   rintro e w5 ⟨v5, rfl, hE5, hb5⟩
   obtain ⟨vs5, va5, t5, rfl, hs5, ha5⟩ := hE5
   obtain ⟨sA5, sC5, rfl⟩ := Kd.S_slice hs5
   obtain ⟨aA5, aC5, rfl⟩ := Kd.S_slice ha5
   have HB5 := Lib.hid (below_next HB4.out hb5)
   clear hs5 ha5 hb5 i0 i1 j0 j1 j2 j3 hltI hltJ HEX HE hrt
   (try simp only [zEnd, List.length_nil])
   go_wp2_with fail
   go_ret
   exact ⟨rfl, by first | exact below_next HB5.out (below_alloc (Below.refl _ _) _) | exact below_alloc HB5.out _⟩
  ·obtain ⟨en, hen, heo⟩ := exec_ends tabOK tabTAB HOK.out HIN.out st fn args fuel rs hrt (by rw [HST.out]; exact start_in HGL.out) HI2.out HI3.out
   have HEO := Lib.hid heo
   have HRT := Lib.hid hrt
   have HE := HEX.out
   rw [hen] at HE
   refine HE.mono ?_
   rintro e w5 ⟨v5, rfl, hE5, hb5⟩
   obtain ⟨vs5, va5, t5, rfl, hs5, ha5⟩ := hE5
   obtain ⟨sA, sC, rfl, _, hCs⟩ := Kd.S_reads hs5
   obtain ⟨aA, aC, rfl⟩ := Kd.S_slice ha5
   have HI5 := Lib.hid ((hb5.block b (blk_lt HI4.out)).trans HI4.out)
   have HJ5 := Lib.hid ((hb5.block q (blk_lt HJ4.out)).trans HJ4.out)
   have HB5 := Lib.hid (below_next HB4.out hb5)
   have HCS := Lib.hid hCs
   have htrp := HEO.out.t0
   have hfup := HEO.out.f0
   have htfp := HEO.out.tf
   have htvp := HEO.out.tv
   have hakp := HEO.out.ak
   have hfp : 0 ≤ fuel ∧ fuel ≤ 1048576 := by
    have h' := hrt
    unfold rightR at h'
    rw [Bool.and_eq_true] at h'
    have := headR_parts h'.1
    exact ⟨this.2.2.2.1, this.2.2.2.2.1⟩
   have hsl : en.state.length = st.length := by rw [HEO.out.st.1, HLS.out]
   have HSL := Lib.hid hsl
   obtain ⟨tr, htr⟩ : ∃ n, n = en.trap := ⟨_, rfl⟩
   obtain ⟨va, hva⟩ : ∃ n, n = en.value := ⟨_, rfl⟩
   obtain ⟨fu, hfu⟩ : ∃ n, n = en.fuel := ⟨_, rfl⟩
   obtain ⟨al, hal⟩ : ∃ n, n = en.asks.length := ⟨_, rfl⟩
   obtain ⟨sl, hsl0⟩ : ∃ n, n = en.state.length := ⟨_, rfl⟩
   rw [← htr, ← hva, ← hfu, ← hal, ← hsl0]
   rw [← htr] at htrp htfp htvp
   rw [← hfu] at hfup htfp hakp
   rw [← hva] at htvp
   rw [← hal] at hakp
   have HSL0 := Lib.hid hsl0
   obtain ⟨hfp0, hfp1⟩ := hfp
   obtain ⟨hfu0, hfu1⟩ := hfup
   obtain ⟨htr0, htr1⟩ := htrp
   have z1 : ¬ tr < 0 := by omega
   have z2 : ¬ (5 : Int) < tr := by omega
   have z3 : decide (tr > (5 : Int)) = false := decide_eq_false (by omega)
   have z4 : ¬ fu < 0 := by omega
   have z5 : ¬ fuel < fu := by omega
   have z6 : decide (fu > fuel) = false := decide_eq_false (by omega)
   have z7 : ¬ fuel - fu < (al : Int) := by omega
   have z8 : decide ((al : Int) > fuel - fu) = false := decide_eq_false (by omega)
   have hcase : (tr = 1 ∧ fu = 0 ∧ va = 0) ∨ tr = 0 ∨ ((tr == 1) = false ∧ (tr != 0) = true ∧ va = 0) := by
    by_cases h1 : tr = 1
    ·exact .inl ⟨h1, htfp h1, htvp (by omega)⟩
    ·by_cases h0 : tr = 0
     ·exact .inr (.inl h0)
     ·exact .inr (.inr ⟨by simpa using h1, by simpa using h0, htvp h0⟩)
   have hltI := blk_lt HI5.out
   have hltJ := blk_lt HJ5.out
   have i0 : w5.cell? ⟨b, 0, none⟩ = some (.slice A0 x.globs.length c0) := (blk_cell HI5.out 0).trans rfl
   have i1 : w5.cell? ⟨b, 1, none⟩ = some (.slice A1 x.fns.length c1) := (blk_cell HI5.out 1).trans rfl
   have j0 : w5.cell? ⟨q, 0, none⟩ = some (.int .i64 fn) := (blk_cell HJ5.out 0).trans rfl
   have j1 : w5.cell? ⟨q, 1, none⟩ = some (.slice Ba args.length d) := (blk_cell HJ5.out 1).trans rfl
   have j2 : w5.cell? ⟨q, 2, none⟩ = some (.int .i64 fuel) := (blk_cell HJ5.out 2).trans rfl
   have j3 : w5.cell? ⟨q, 3, none⟩ = some (.slice Ar rs.length cr) := (blk_cell HJ5.out 3).trans rfl
   have HRT2 := Lib.hid (rightR_of HRT.out HEO.out.st)
   have hsl1 : sl ≤ 1000000 := by rw [hsl0, hsl]; exact hlg2
   have HEX2 := Lib.hid (fun (W : World) (hb : Below w5.heap.size w5 W) => exec_all tabT x _ W ((HGF.out.below HB5.out).below hb) HSM.out ((HG.out.below HB5.out).below hb) ((HT.out.below HB5.out).below hb) tabOK tabTAB HIN.out sA sC en.state (Kd.C_below HCS.out hb) fn Ba d args (Kd.C_below (Kd.C_below HA.out HB5.out) hb) fuel Ar cr rs (Kd.C_below (Kd.C_below HR.out HB5.out) hb) hrc (by rw [← hsl0]; exact hsl1) (fun r hr => Nat.le_trans (ST_rows HEO.out.st (globs_le HOK.out) r hr) (by decide)) ha1 hr1 (ST_in HEO.out.st) HI2.out HI3.out)
   have HN2 := Lib.hid (show ∃ e2, execR tabT x en.state fn args fuel rs = (e2, 0) ∧ e2.state.length = sl from by
    obtain ⟨e2, h1, h2⟩ := exec_ends tabOK tabTAB HOK.out HIN.out en.state fn args fuel rs HRT2.out (ST_in HEO.out.st) HI2.out HI3.out
    exact ⟨e2, h1, by rw [h2.st.1, HSL0.out, HEO.out.st.1]⟩)
   clear hs5 ha5 hb5 hCs HEX HE hen heo hrt htr hva hfu hal hsl0 hsl htfp htvp
   have hslst : st.length = sl := by rw [HSL0.out, HSL.out]
   rw [hslst]
   obtain ⟨e2, he2, hl2⟩ := HN2.out
   have HL2 := Lib.hid hl2
   have HE3 := Lib.hid (fun (W : World) (hb : Below w5.heap.size w5 W) => (by have h := HEX2.out W hb; rw [he2, ← HSL0.out] at h; exact h : Calls Tryz.prog 11 #[.agg #[.slice A0 x.globs.length c0, .slice A1 x.fns.length c1], .slice sA sl sC, .int .i64 fn, .slice Ba args.length d, .int .i64 fuel, .slice Ar rs.length cr] W (ExecPost W (e2, 0))))
   clear HEX2 HN2 he2 hl2
   rcases hcase with ⟨rfl, rfl, rfl⟩ | rfl | ⟨h1, h2, rfl⟩
   all_goals
    go_wp2_with fail
    refine (HE3.out _ (below_alloc (Below.refl _ _) _)).mono ?_
    rintro e w6 ⟨v6, rfl, hE6, hb6⟩
    obtain ⟨vs6, va6, t6, rfl, hs6, ha6⟩ := hE6
    obtain ⟨sA6, sC6, rfl⟩ := Kd.S_slice hs6
    obtain ⟨aA6, aC6, rfl⟩ := Kd.S_slice ha6
    have HB6 := Lib.hid (below_next HB5.out (below_next (below_alloc (Below.refl _ _) _) hb6))
    rw [HL2.out]
    clear hs6 ha6 hb6 i0 i1 j0 j1 j2 j3 hltI hltJ
    go_wp2_with fail
    go_ret
    exact ⟨rfl, by first | exact below_next HB6.out (below_alloc (Below.refl _ _) _) | exact below_alloc HB6.out _⟩
 ·refine (new_no tabT x _ w2 (HGF.out.below HB2.out) HS.out (HG.out.below HB2.out) (HT.out.below HB2.out) tabOK hok).mono ?_
  rintro e w3 ⟨rfl, hb3⟩
  have HB3 := Lib.hid (below_next HB2.out hb3)
  clear hok hb3 i0 i1
  go_wp2_with fail
  go_ret
  exact ⟨rfl, HB3.out⟩
set_option maxHeartbeats 2000000
/-! ### A call (its function, arguments, fuel, replies) as it is handed in -/
theorem kRep_mk (w : World) (r : SRep) : kRep.K w r [.int .i64 r.v, .bool r.tr] := ⟨[.int .i64 r.v], [.bool r.tr], rfl, rfl, rfl⟩
theorem opn_reply : Opn kRep 71 (fun _ r => I64 r.v) := by
 intro H enc W fuel cs y h
 have hu : Tryz.prog.underlying 71 = some _ := Tryz.underlying71
 obtain ⟨xs, n, _, rfl, hl, hlen, hf⟩ := DataW.trod_struct hu h
 match xs, hlen with
 | [y0, y1], _ =>
  have h0 := hf 0 _ rfl
  have h1 := hf 1 _ rfl
  obtain ⟨a, e0, _, hw⟩ := DataW.trod_int Tryz.underlying3 (h0.trans rfl)
  obtain ⟨b, e1, _⟩ := DataW.trod_bool Tryz.underlying4 (h1.trans rfl)
  have hc : Tryz.prog.cellsOf 71 = 2 := by kernel_rfl
  have hi : Tryz.prog.cellsOf 3 = 1 := by kernel_rfl
  have hj : Tryz.prog.cellsOf 4 = 1 := by kernel_rfl
  rw [hc] at hl
  replace e0 : (cs.drop 0).take (Tryz.prog.cellsOf 3) = [.int .i64 a] := e0
  replace e1 : (cs.drop 1).take (Tryz.prog.cellsOf 4) = [.bool b] := e1
  rw [hi] at e0
  rw [hj] at e1
  match cs, hl with
  | [c0, c1], _ =>
   simp at e0 e1
   subst e0 e1
   exact ⟨⟨a, b⟩, kRep_mk W ⟨a, b⟩, wf_i64 hw⟩
structure SCall where
 fn : Int
 args : List Int
 fuel : Int
 reps : List SRep
/-- a call, and what is known of it -/
structure CallIn (W : World) (n : Nat) (c : SCall) (A : Option Addr) (k : Nat) (Ar : Option Addr) (kr : Nat) : Prop where
 args : (Kd.int .i64).C W A c.args.length c.args
 reps : kRep.C W Ar c.reps.length c.reps
 rk : c.reps.length ≤ kr
 la : c.args.length ≤ n
 lr : c.reps.length ≤ n
 ia : ∀ v ∈ c.args, I64 v
 ir : ∀ r ∈ c.reps, I64 r.v
 fn : I64 c.fn
 fuel : I64 c.fuel
theorem open_call (H : Type) (enc : TypeId × Value → H) (W : World) (fuel : Nat) (cs : List Value) (y : DataW H × List MemPlace) (h : DataW.trod enc Tryz.prog W 0 (fun _ => true) true fuel 30 cs = some y) :
  ∃ c A k Ar kr, cs = [.int .i64 c.fn, .slice A c.args.length k, .int .i64 c.fuel, .slice Ar c.reps.length kr] ∧ CallIn W (Rows.uptoBulk y.1) c A k Ar kr := by
 have hu : Tryz.prog.underlying 30 = some _ := Tryz.underlying30
 obtain ⟨xs, n, _, rfl, hl, hlen, hf⟩ := DataW.trod_struct hu h
 match xs, hlen with
 | [y0, y1, y2, y3], _ =>
  have h0 := hf 0 _ rfl
  have h1 := hf 1 _ rfl
  have h2 := hf 2 _ rfl
  have h3 := hf 3 _ rfl
  have hI : Tryz.prog.cellsOf 3 = Kd.sz (Kd.int .i64) := by kernel_rfl
  have hR : Tryz.prog.cellsOf 71 = Kd.sz kRep := by kernel_rfl
  obtain ⟨f, e0, _, w0⟩ := DataW.trod_int Tryz.underlying3 (h0.trans rfl)
  obtain ⟨a, k1, b1⟩ := opn_slice Tryz.underlying27 hI (opn_int Tryz.underlying3) H enc W n _ _ (h1.trans rfl)
  obtain ⟨g, e2, _, w2⟩ := DataW.trod_int Tryz.underlying3 (h2.trans rfl)
  obtain ⟨r, k3, b3⟩ := opn_slice Tryz.underlying28 hR opn_reply H enc W n _ _ (h3.trans rfl)
  obtain ⟨A1, c1, e1, l1, g1⟩ := k1
  obtain ⟨A3, c3, e3, l3, g3⟩ := k3
  have hc : Tryz.prog.cellsOf 30 = 4 := by kernel_rfl
  rw [hc] at hl
  have q0 : Tryz.prog.cellsOf 3 = 1 := by kernel_rfl
  have q1 : Tryz.prog.cellsOf 27 = 1 := by kernel_rfl
  have q3 : Tryz.prog.cellsOf 28 = 1 := by kernel_rfl
  replace e0 : (cs.drop 0).take (Tryz.prog.cellsOf 3) = [.int .i64 f] := e0
  replace e1 : (cs.drop 1).take (Tryz.prog.cellsOf 27) = [.slice A1 a.length c1] := e1
  replace e2 : (cs.drop 2).take (Tryz.prog.cellsOf 3) = [.int .i64 g] := e2
  replace e3 : (cs.drop 3).take (Tryz.prog.cellsOf 28) = [.slice A3 r.length c3] := e3
  rw [q0] at e0 e2
  rw [q1] at e1
  rw [q3] at e3
  match cs, hl with
  | [v0, v1, v2, v3], _ =>
   simp at e0 e1 e2 e3
   subst e0 e1 e2 e3
   have hb : Rows.uptoBulk (DataW.agg (([y0, y1, y2, y3] : List (DataW H × List MemPlace)).map (·.1))) = Rows.uptoBulk y0.1 + (Rows.uptoBulk y1.1 + (Rows.uptoBulk y2.1 + (Rows.uptoBulk y3.1 + 0))) + 1 := by simp [Rows.uptoBulk, Rows.uptoBulkAll]
   refine ⟨⟨f, a, g, r⟩, A1, c1, A3, c3, rfl, ?_⟩
   show CallIn W (Rows.uptoBulk (DataW.agg (([y0, y1, y2, y3] : List (DataW H × List MemPlace)).map (·.1)))) _ _ _ _ _
   rw [hb]
   have b1l := b1.1
   have b3l := b3.1
   exact ⟨g1, g3, l3, by show a.length ≤ _; omega, by show r.length ≤ _; omega, fun v hv => by obtain ⟨_, _, h⟩ := b1.2 v hv; exact h, fun v hv => by obtain ⟨_, _, h⟩ := b3.2 v hv; exact h, wf_i64 w0, wf_i64 w2⟩
end Go.Proofs.YtedmncldelcbfaaGreatDoor.E
namespace Go.Proofs.YtedmncldelcbfaaGreatDoor.vmEnds
open Go Go.Proofs.YtedmncldelcbfaaGreatDoor Go.ChangeShapes Go.WideShapes Go.ChangeAt Go.RowKit
set_option linter.unusedVariables false
theorem own : ownKnob Tryz.prog.godebug = none := by kernel_rfl
theorem laidOut : laidOutB Tryz.prog = true := by kernel_rfl
set_option maxRecDepth 100000 in
theorem contract (H : Type) (enc : TypeId × Value → H) (W : World) (base : Nat) (args : Array Value) (ds gs : List (DataW H)) (before : List MemPlace)
  (hval : ∀ (j : Nat) t v, Tryz.f5.params[j]? = some t → args[j]? = some v → Value.okWide Tryz.prog W .any base t v)
  (hW : DataW.Whole enc Tryz.prog Tryz.f5.params.toList Rows.vmEndsSpec.vars false W args.toList ds gs before) (hL : laidMetH Tryz.prog E.laidL W) (hk : Rows.uptoBulkAll (ds ++ gs) ≤ 1048576) :
  Calls Tryz.prog 5 args W fun e W' => ∃ v, e = .returned v ∧ Rows.vmEndsSpec.post enc Tryz.prog Tryz.f5 false true false false W args v W' := by
 have hW' := hW
 obtain ⟨p, q, hA0, hV, rfl, hfz, hnd⟩ := hW
 have hA : DataW.TrodAll enc Tryz.prog W 0 (fun _ => true) true Tryz.f5.params.toList args.toList ds p := hA0
 rw [Tryz.params5] at hA hval
 obtain ⟨v0, vs0, d0, ds0, p0, q0, hargs, rfl, rfl, h0, r0⟩ := trodAll_cons hA
 obtain ⟨v1, vs1, d1, ds1, p1, q1, hargs1, rfl, rfl, h1, r1⟩ := trodAll_cons r0
 obtain ⟨rfl, rfl, rfl⟩ := trodAll_nil r1
 subst hargs1
 obtain rfl : args = #[v0, v1] := by cases args; simp_all
 obtain ⟨rfl, rfl⟩ := trodVars_none hV
 have k0 := h0
 have k1 := h1
 have lt0 : ∀ x ∈ p0, x.block < W.heap.size := by obtain ⟨m, hm⟩ := k0; exact DataW.trod_lt m _ _ _ hm
 have lt1 : ∀ x ∈ p1, x.block < W.heap.size := by obtain ⟨m, hm⟩ := k1; exact DataW.trod_lt m _ _ _ hm
 obtain ⟨fuel, hf⟩ := h0
 obtain ⟨fuel1, hf1⟩ := h1
 obtain ⟨x, A0, c0, A1, c1, hcs, l0, g0, l1, g1, hb⟩ := E.open_img H enc W fuel _ _ hf
 have hv0 : v0 = .agg #[.slice A0 x.globs.length c0, .slice A1 x.fns.length c1] := by
  cases v0 <;> simp [Value.cells] at hcs
  exact congrArg Value.agg (Array.ext' hcs)
 obtain ⟨c, A, k, Ar, kr, hcc, hci⟩ := E.open_call H enc W fuel1 _ _ hf1
 have hv1 : v1 = .agg #[.int .i64 c.fn, .slice A c.args.length k, .int .i64 c.fuel, .slice Ar c.reps.length kr] := by
  cases v1 <;> simp [Value.cells] at hcc
  exact congrArg Value.agg (Array.ext' hcc)
 subst hv0 hv1
 have hbk : Rows.uptoBulk d0 ≤ 1048576 ∧ Rows.uptoBulk d1 ≤ 1048576 := by simp only [List.append_nil, Rows.uptoBulkAll] at hk; constructor <;> omega
 have hin : (∀ f ∈ x.fns, ∀ i ∈ f.f4, E.In i.f1) ∧ ∀ g ∈ x.globs, E.In g.f2 := ⟨fun f hf i hi => (hb.2.2.1 f hf).2.2.2.2 i hi, hb.2.2.2⟩
 have hla := hci.la
 have hlr := hci.lr
 simp only at hla hlr
 have hsm : E.imgSmall 1099511620000 x := by
  obtain ⟨b1, b2, b3, _⟩ := hb
  refine ⟨by simp only at b1; omega, by simp only at b2; omega, fun f hfm => ?_⟩
  obtain ⟨a1, a2, a3, a4, _⟩ := b3 f hfm
  simp only at a1 a2 a3 a4
  exact ⟨by omega, by omega, by omega, by omega⟩
 clear hA0
 refine (E.VmEnds_any x _ W ⟨A0, c0, A1, c1, rfl, l0, g0, l1, g1⟩ hsm (E.nib_of hL) (E.pln_of hL) hin.1 hin.2 c.fn A k c.args hci.args c.fuel Ar kr c.reps hci.reps hci.rk (by omega) (by omega) hci.ia hci.ir).mono fun e W' ⟨he, bel⟩ => ?_
 subst he
 exact ⟨_, rfl, _, _, _, [], _, [], hW', trodAll_mk1 (shut_bool Tryz.underlying4 _), trodAll_cons_mk (Below.trod laidOut (by kernel_rfl) (of_decide_eq_true (by kernel_rfl)) k0 bel lt0) (trodAll_cons_mk (Below.trod laidOut (by kernel_rfl) (of_decide_eq_true (by kernel_rfl)) k1 bel lt1) (trodAll_mk0)), rfl, bel.frame _, fun h => by cases h⟩
def setTab (cs : Array Value) : Obj → Obj
 | .cells _ t frozen => .cells cs t frozen
 | o => o
/-- A world for the witness: the settled one, the two tables holding what their initialisers lay. -/
noncomputable def laidWorld (os : Os) : World :=
 { World.holding Tryz.prog os ⟨#[], #[], []⟩ with heap := Array.modify (Array.modify (World.holding Tryz.prog os ⟨#[], #[], []⟩).heap 3 (setTab #[.int .u32 0, .int .u32 498536548, .int .u32 997073096, .int .u32 651767980, .int .u32 1994146192, .int .u32 1802195444, .int .u32 1303535960, .int .u32 1342533948, .int .u32 3988292384, .int .u32 4027552580, .int .u32 3604390888, .int .u32 3412177804, .int .u32 2607071920, .int .u32 2262029012, .int .u32 2685067896, .int .u32 3183342108])) 0 (setTab #[.string ⟨#[]⟩, .string ⟨#[]⟩, .string ⟨#[]⟩, .string ⟨#[]⟩, .string ⟨#[]⟩, .string ⟨#[]⟩, .string ⟨#[]⟩, .string ⟨#[]⟩, .string ⟨#[]⟩, .string ⟨#[]⟩, .string ⟨#[]⟩, .string ⟨#[]⟩, .string ⟨#[]⟩, .string ⟨#[]⟩, .string ⟨#[]⟩, .string ⟨#[]⟩, .string ⟨#[105, 105]⟩, .string ⟨#[105]⟩, .string ⟨#[105, 105]⟩, .string ⟨#[105]⟩, .string ⟨#[105, 105]⟩, .string ⟨#[105]⟩, .string ⟨#[105, 105]⟩, .string ⟨#[105]⟩, .string ⟨#[105, 105]⟩, .string ⟨#[105]⟩, .string ⟨#[105]⟩, .string ⟨#[105]⟩, .string ⟨#[102, 102]⟩, .string ⟨#[102]⟩, .string ⟨#[102, 102]⟩, .string ⟨#[102]⟩, .string ⟨#[102, 102]⟩, .string ⟨#[102]⟩, .string ⟨#[102, 102]⟩, .string ⟨#[102]⟩, .string ⟨#[102]⟩, .string ⟨#[102]⟩, .string ⟨#[84, 84]⟩, .string ⟨#[98]⟩, .string ⟨#[84, 84]⟩, .string ⟨#[98]⟩, .string ⟨#[78, 78]⟩, .string ⟨#[98]⟩, .string ⟨#[78, 78]⟩, .string ⟨#[98]⟩, .string ⟨#[78, 78]⟩, .string ⟨#[98]⟩, .string ⟨#[78, 78]⟩, .string ⟨#[98]⟩, .string ⟨#[98]⟩, .string ⟨#[98]⟩, .string ⟨#[105]⟩, .string ⟨#[102]⟩, .string ⟨#[102]⟩, .string ⟨#[105]⟩, .string ⟨#[]⟩, .string ⟨#[]⟩, .string ⟨#[]⟩, .string ⟨#[]⟩, .string ⟨#[]⟩, .string ⟨#[]⟩, .string ⟨#[]⟩, .string ⟨#[]⟩, .string ⟨#[]⟩, .string ⟨#[]⟩, .string ⟨#[84]⟩, .string ⟨#[]⟩]) }
theorem laid_met (os : Os) : laidMet Tryz.prog Rows.vmEndsRow.laid ((laidWorld os).forCall (fun _ _ => 0) ⟨#[], #[.agg #[.slice none 0 0, .slice none 0 0], .agg #[.int .i64 0, .slice none 0 0, .int .i64 0, .slice none 0 0]], []⟩).memory :=
 laidMet_of_run' 8 (by kernel_rfl) (by kernel_rfl)
theorem reads (os : Os) {H : Type} (enc : TypeId × Value → H) : ∃ places, DataW.whole enc Tryz.prog ((laidWorld os).forCall (fun _ _ => 0) ⟨#[], #[.agg #[.slice none 0 0, .slice none 0 0], .agg #[.int .i64 0, .slice none 0 0, .int .i64 0, .slice none 0 0]], []⟩).memory Tryz.f5.params.toList Rows.vmEndsSpec.vars false #[Value.agg #[.slice none 0 0, .slice none 0 0], .agg #[.int .i64 0, .slice none 0 0, .int .i64 0, .slice none 0 0]].toList 8 = some ([.agg [.nil, .nil], .agg [.lit (.int .i64 0), .nil, .lit (.int .i64 0), .nil]], [], places) :=
 ⟨[], by kernel_rfl⟩
set_option maxRecDepth 100000 in
theorem liftedUpto (os : Os) (started : os.Started) (H : Type) (enc : TypeId × Value → H) (F : Stop.Interp) :
  ReturnsInHanded {} Tryz.checked os 5 .any ((Rows.OpenSpec.upto Rows.vmEndsSpec).preRow enc Tryz.prog Tryz.f5 Rows.vmEndsUptoRow.domain false Rows.vmEndsUptoRow.laid) (((Rows.OpenSpec.upto Rows.vmEndsSpec).at F).post enc Tryz.prog Tryz.f5 false true false false) := by
 obtain ⟨places, hx⟩ := reads os enc
 refine returnsInHanded_of_row (C := Tryz.checked) (s := Rows.OpenSpec.upto Rows.vmEndsSpec) own started (by kernel_rfl) Tryz.func5
  (witness_row_at (enc := enc) (C := Tryz.checked) false (laidWorld os) #[.agg #[.slice none 0 0, .slice none 0 0], .agg #[.int .i64 0, .slice none 0 0, .int .i64 0, .slice none 0 0]] rfl (by kernel_rfl) (by kernel_rfl) (by kernel_rfl)
   (OpenSpec.preRow_of_cond 8 hx (by kernel_rfl) (fun k hk => by cases hk; kernel_rfl) (by kernel_rfl) (laid_met os))) ?_
 intro W base args ds gs before hval hW h1 hcond h2 hL h3 h4
 exact contract H enc W base args ds gs before hval hW hL (of_decide_eq_true (hcond _ rfl))
theorem saidUpto : Rows.VmEndsUptoSaid :=
 OpenClaim.holds_of_cond 5 Tryz.f5 rfl rfl rfl rfl rfl rfl rfl ⟨rfl, rfl, rfl, rfl, rfl⟩ rfl rfl rfl rfl rfl (by kernel_rfl) Tryz.func5 (by kernel_rfl)
  (of_decide_eq_true (by kernel_rfl)) (by unfold Func.isWrapper; first | (rw [if_pos (by decide +kernel)]; kernel_rfl) | (rw [if_neg (by decide +kernel)]; exact ⟨rfl, rfl⟩))
  (fun os started H enc _ F => by rw [OpenClaim.pre_eq_preRow]; exact liftedUpto os started H enc F)
theorem plain (f : FuncId) (fn : Func) (hf : Tryz.pinned.checked.prog.funcNamed "tiltyard/tiltyardlaw17.VmEnds" = some f) (hfn : Tryz.pinned.checked.prog.funcs[f]? = some fn) :
  true = Tryz.pinned.checked.prog.looks [] ∧ ∀ (j : Nat) t, fn.params[j]? = some t → Tryz.pinned.checked.prog.wantsStandIn t = false := by
 obtain rfl : f = 5 := Option.some.inj ((show Tryz.prog.funcNamed "tiltyard/tiltyardlaw17.VmEnds" = some 5 by kernel_rfl).symm.trans hf) |>.symm
 obtain rfl : fn = Tryz.f5 := (Option.some.inj (Tryz.func5.symm.trans hfn)).symm
 refine ⟨by kernel_rfl, fun j t ht => ?_⟩
 rw [Tryz.params5] at ht
 rcases (show t = 25 ∨ t = 30 by simpa using Array.mem_of_getElem? ht) with rfl | rfl
 ·exact (show Tryz.prog.wantsStandIn 25 = false by kernel_rfl)
 ·exact (show Tryz.prog.wantsStandIn 30 = false by kernel_rfl)
theorem cardUpto : Rows.VmEndsUptoCardSaid :=
 Claim7.holds_tied_plain_at .later [] _ _ _ _ saidUpto (fun _ h => by cases h) (by kernel_rfl) (fun _ h => by cases h) vmEndsUpto_row_tie rfl ⟨rfl, rfl⟩ (by kernel_rfl) rfl plain (by kernel_rfl)
end Go.Proofs.YtedmncldelcbfaaGreatDoor.vmEnds
