import Derived.Test.YtedmncldelcbfaaGreatDoorKA
import Derived.DataReads
import Derived.Test.YtedmncldelcbfaaGreatDoorRows
import Derived.Deep.Slices
import Derived.ChangeArms
import Derived.ChangeSame
import Derived.Test.YtedmncldelcbfaaGreatDoorKG
import Derived.Lib.LaidU8
import Derived.Test.YtedmncldelcbfaaGreatDoorCards
import Derived.Test.YtedmncldelcbfaaGreatDoorTie
import Derived.WalkKit
import Derived.ProofKit
import Derived.OpenShut
import Derived.Deep.DeepHandedRow
import Derived.Carry
/- The law VmFinds returns true at every argument, and leaves what was there as it was; on the condition that the arguments are of bulk 1048576 at most, and that the two tables which the program lays at its start hold what it lays there. -/
namespace Go.Proofs.YtedmncldelcbfaaGreatDoor.E
open Go Go.Proofs Go.RowKit Go.Deep Go.ChangeShapes Go.WideShapes Go.Proofs.YtedmncldelcbfaaGreatDoorW.PrintWords Go.Proofs.YtedmncldelcbfaaGreatDoorW.PrintLast Go.Proofs.YtedmncldelcbfaaGreatDoorW.PrintMore
set_option linter.unusedVariables false
set_option linter.unusedSimpArgs false
set_option maxRecDepth 100000
set_option maxHeartbeats 2000000
theorem bulk_pos {H : Type} (d : DataW H) : 1 ≤ Rows.uptoBulk d := by
 cases d with
 | lit l => cases l <;> simp [Rows.uptoBulk]
 | nil => simp [Rows.uptoBulk]
 | ptr => simp [Rows.uptoBulk]
 | slice => simp [Rows.uptoBulk]
 | agg => simp [Rows.uptoBulk]
 | iface => simp [Rows.uptoBulk]
 | map => simp [Rows.uptoBulk]
 | held => simp [Rows.uptoBulk]
theorem bulk_all_len {H : Type} : ∀ l : List (DataW H), l.length ≤ Rows.uptoBulkAll l
 | [] => by simp [Rows.uptoBulkAll]
 | d :: r => by have := bulk_pos d; have := bulk_all_len r; simp [Rows.uptoBulkAll]; omega
theorem bulk_all_mem {H : Type} : ∀ (l : List (DataW H)) (d : DataW H), d ∈ l → Rows.uptoBulk d ≤ Rows.uptoBulkAll l
 | [], d, h => by simp at h
 | e :: r, d, h => by
  rcases List.mem_cons.1 h with rfl | h
  ·simp [Rows.uptoBulkAll]
  ·have := bulk_all_mem r d h; simp [Rows.uptoBulkAll]; omega
/-- what reads as a datum is of this kind, and no longer than the datum's bulk -/
def Opn {α : Type} (d : Kd α) (t : TypeId) (bd : Nat → α → Prop) : Prop :=
 ∀ (H : Type) (enc : TypeId × Value → H) (W : World) (fuel : Nat) (cs : List Value) (y : DataW H × List MemPlace), DataW.trod enc Tryz.prog W 0 (fun _ => true) true fuel t cs = some y → ∃ x, d.K W x cs ∧ bd (Rows.uptoBulk y.1) x
/-- in 64 bits -/
def I64 (v : Int) : Prop := -9223372036854775808 ≤ v ∧ v ≤ 9223372036854775807
theorem wf_i64 {n : Int} (h : (Lit.int .i64 n).wf = true) : I64 n := by
 simp only [Lit.wf, IntKind.min, IntKind.max, IntKind.signed, IntKind.bits, Bool.and_eq_true, decide_eq_true_eq] at h
 unfold I64
 simpa using h
theorem opn_int {t : TypeId} (ht : Tryz.prog.underlying t = some (.int .i64)) : Opn (Kd.int .i64) t (fun _ => I64) := by
 intro H enc W fuel cs y h
 obtain ⟨n, rfl, rfl, hw⟩ := DataW.trod_int ht h
 exact ⟨n, rfl, wf_i64 hw⟩
theorem opn_string {t : TypeId} (ht : Tryz.prog.underlying t = some .string) : Opn Kd.string t (fun n s => s.size + 1 ≤ n) := by
 intro H enc W fuel cs y h
 obtain ⟨s, rfl, rfl, _⟩ := DataW.trod_string ht h
 exact ⟨s, rfl, by simp [Rows.uptoBulk]⟩
theorem opn_slice {α : Type} {d : Kd α} {t e : TypeId} {bd : Nat → α → Prop} (ht : Tryz.prog.underlying t = some (.slice e)) (hsz : Tryz.prog.cellsOf e = d.sz) (he : Opn d e bd) :
  Opn (Kd.slice e d) t (fun n l => l.length ≤ n ∧ ∀ x ∈ l, ∃ m, m ≤ n ∧ bd m x) := by
 intro H enc W fuel cs y h
 rcases open_slice ht h with ⟨rfl, rfl⟩ | ⟨a, len, cap, m, n, D, Pl, rfl, hb, hl, hm, hmm, rfl, hel⟩
 ·exact ⟨[], ⟨none, 0, rfl, by simp, Kd.C_nil _ _⟩, by simp, by simp⟩
 ·have hml : len ≤ m := by rw [hmm]; simp; exact hl
  have hx : ∀ i, i < len → ∃ x, ∃ cs', W.cells? 0 (a.add (i * d.sz)) d.sz = some cs' ∧ d.K W x cs' ∧ bd (Rows.uptoBulk (D i)) x := by
   intro i hi
   obtain ⟨cs', h1, h2⟩ := hel i (by omega)
   obtain ⟨x, hx1, hx2⟩ := he H enc W n cs' _ h2
   rw [hsz] at h1
   exact ⟨x, cs', h1, hx1, hx2⟩
  have hml2 : maxLen ≤ 9223372036854775807 := by unfold maxLen; omega
  have hbk : Rows.uptoBulk (DataW.slice ((List.range len).map D) ((List.range (m - len)).map fun j => D (len + j))) = Rows.uptoBulkAll ((List.range len).map D) + Rows.uptoBulkAll ((List.range (m - len)).map fun j => D (len + j)) + 1 := by simp [Rows.uptoBulk]
  refine ⟨List.ofFn (fun i : Fin len => Classical.choose (hx i i.2)), ⟨some a, cap, by simp, by simp; exact hl, ?_⟩, ?_, ?_⟩
  ·refine ⟨rfl, by simp; omega, fun _ => ⟨a, rfl, fun j p hj => ?_⟩⟩
   have hjl : j < len := by
    have := (List.getElem?_eq_some_iff.1 hj).1
    simpa using this
   have hp : p = Classical.choose (hx j hjl) := by
    rw [List.getElem?_ofFn] at hj
    simp [hjl] at hj
    exact hj.symm
   obtain ⟨cs', h1, h2, h3⟩ := Classical.choose_spec (hx j hjl)
   rw [← hp] at h2
   obtain ⟨_, hlen, hc⟩ := World.cells?_some h1
   refine ⟨cs', hlen, h2, fun i u hu => ?_⟩
   have hi : i < d.sz := by rw [← hlen]; exact (List.getElem?_eq_some_iff.1 hu).1
   have := hc i hi
   rw [hu] at this
   rw [← this]
   rw [Go.Deep.add_add]
  ·have h1 := bulk_all_len ((List.range len).map D)
   simp only [List.length_map, List.length_range] at h1
   simp only [List.length_ofFn]
   rw [hbk]; omega
  ·intro x hxm
   obtain ⟨i, rfl⟩ := (List.mem_ofFn).1 hxm
   obtain ⟨cs', h1, h2, h3⟩ := Classical.choose_spec (hx i i.2)
   have h4 := bulk_all_mem ((List.range len).map D) (D i) (List.mem_map.2 ⟨i, List.mem_range.2 i.2, rfl⟩)
   exact ⟨_, by rw [hbk]; omega, h3⟩
theorem opn_instr : Opn kInstr 56 (fun _ i => I64 i.f1) := by
 intro H enc W fuel cs y h
 have hu : Tryz.prog.underlying 56 = some _ := Tryz.underlying56
 obtain ⟨xs, n, _, rfl, hl, hlen, hf⟩ := DataW.trod_struct hu h
 match xs, hlen with
 | [y0, y1, y2], _ =>
  have h0 := hf 0 _ rfl
  have h1 := hf 1 _ rfl
  have h2 := hf 2 _ rfl
  obtain ⟨a, e0, _⟩ := DataW.trod_int Tryz.underlying3 (h0.trans rfl)
  obtain ⟨b, e1, _, hw⟩ := DataW.trod_int Tryz.underlying3 (h1.trans rfl)
  obtain ⟨c, e2, _⟩ := DataW.trod_int Tryz.underlying3 (h2.trans rfl)
  have hc : Tryz.prog.cellsOf 56 = 3 := by kernel_rfl
  have hi : Tryz.prog.cellsOf 3 = 1 := by kernel_rfl
  rw [hc] at hl
  replace e0 : (cs.drop 0).take (Tryz.prog.cellsOf 3) = [.int .i64 a] := e0
  replace e1 : (cs.drop 1).take (Tryz.prog.cellsOf 3) = [.int .i64 b] := e1
  replace e2 : (cs.drop 2).take (Tryz.prog.cellsOf 3) = [.int .i64 c] := e2
  rw [hi] at e0 e1 e2
  match cs, hl with
  | [c0, c1, c2], _ =>
   simp at e0 e1 e2
   subst e0 e1 e2
   exact ⟨⟨a, b, c⟩, kInstr_mk W ⟨a, b, c⟩, wf_i64 hw⟩
theorem opn_glob : Opn kGlob 88 (fun _ g => I64 g.f2) := by
 intro H enc W fuel cs y h
 have hu : Tryz.prog.underlying 88 = some _ := Tryz.underlying88
 obtain ⟨xs, n, _, rfl, hl, hlen, hf⟩ := DataW.trod_struct hu h
 match xs, hlen with
 | [y0, y1, y2], _ =>
  have h0 := hf 0 _ rfl
  have h1 := hf 1 _ rfl
  have h2 := hf 2 _ rfl
  obtain ⟨a, e0, _⟩ := DataW.trod_int Tryz.underlying3 (h0.trans rfl)
  obtain ⟨b, e1, _⟩ := DataW.trod_int Tryz.underlying3 (h1.trans rfl)
  obtain ⟨c, e2, _, hw⟩ := DataW.trod_int Tryz.underlying3 (h2.trans rfl)
  have hc : Tryz.prog.cellsOf 88 = 3 := by kernel_rfl
  have hi : Tryz.prog.cellsOf 3 = 1 := by kernel_rfl
  rw [hc] at hl
  replace e0 : (cs.drop 0).take (Tryz.prog.cellsOf 3) = [.int .i64 a] := e0
  replace e1 : (cs.drop 1).take (Tryz.prog.cellsOf 3) = [.int .i64 b] := e1
  replace e2 : (cs.drop 2).take (Tryz.prog.cellsOf 3) = [.int .i64 c] := e2
  rw [hi] at e0 e1 e2
  match cs, hl with
  | [c0, c1, c2], _ =>
   simp at e0 e1 e2
   subst e0 e1 e2
   exact ⟨⟨a, b, c⟩, kGlob_mk W ⟨a, b, c⟩, wf_i64 hw⟩
/-- a function's parts are no longer than its bulk -/
def fnBulk (n : Nat) (f : SFn) : Prop := f.f0.size ≤ n ∧ f.f1.length ≤ n ∧ f.f3.length ≤ n ∧ f.f4.length ≤ n ∧ ∀ i ∈ f.f4, I64 i.f1
theorem opn_fn : Opn kFn 54 fnBulk := by
 intro H enc W fuel cs y h
 have hu : Tryz.prog.underlying 54 = some _ := Tryz.underlying54
 obtain ⟨xs, n, _, rfl, hl, hlen, hf⟩ := DataW.trod_struct hu h
 match xs, hlen with
 | [y0, y1, y2, y3, y4], _ =>
  have h0 := hf 0 _ rfl
  have h1 := hf 1 _ rfl
  have h2 := hf 2 _ rfl
  have h3 := hf 3 _ rfl
  have h4 := hf 4 _ rfl
  have hi : Tryz.prog.cellsOf 3 = Kd.sz (Kd.int .i64) := by kernel_rfl
  have hI : Tryz.prog.cellsOf 56 = Kd.sz kInstr := by kernel_rfl
  obtain ⟨a, k0, b0⟩ := opn_string Tryz.underlying9 H enc W n _ _ (h0.trans rfl)
  obtain ⟨b, k1, b1⟩ := opn_slice Tryz.underlying27 hi (opn_int Tryz.underlying3) H enc W n _ _ (h1.trans rfl)
  obtain ⟨c, e2, _⟩ := DataW.trod_int Tryz.underlying3 (h2.trans rfl)
  obtain ⟨d, k3, b3⟩ := opn_slice Tryz.underlying27 hi (opn_int Tryz.underlying3) H enc W n _ _ (h3.trans rfl)
  obtain ⟨e, k4, b4⟩ := opn_slice Tryz.underlying52 hI opn_instr H enc W n _ _ (h4.trans rfl)
  obtain ⟨A1, c1, e1, l1, g1⟩ := k1
  obtain ⟨A3, c3, e3, l3, g3⟩ := k3
  obtain ⟨A4, c4, e4, l4, g4⟩ := k4
  have e0 : _ = [Value.string a] := k0
  have hc : Tryz.prog.cellsOf 54 = 5 := by kernel_rfl
  rw [hc] at hl
  have q0 : Tryz.prog.cellsOf 9 = 1 := by kernel_rfl
  have q1 : Tryz.prog.cellsOf 27 = 1 := by kernel_rfl
  have q2 : Tryz.prog.cellsOf 3 = 1 := by kernel_rfl
  have q4 : Tryz.prog.cellsOf 52 = 1 := by kernel_rfl
  replace e0 : (cs.drop 0).take (Tryz.prog.cellsOf 9) = [.string a] := e0
  replace e1 : (cs.drop 1).take (Tryz.prog.cellsOf 27) = [.slice A1 b.length c1] := e1
  replace e2 : (cs.drop 2).take (Tryz.prog.cellsOf 3) = [.int .i64 c] := e2
  replace e3 : (cs.drop 3).take (Tryz.prog.cellsOf 27) = [.slice A3 d.length c3] := e3
  replace e4 : (cs.drop 4).take (Tryz.prog.cellsOf 52) = [.slice A4 e.length c4] := e4
  rw [q0] at e0
  rw [q1] at e1 e3
  rw [q2] at e2
  rw [q4] at e4
  match cs, hl with
  | [v0, v1, v2, v3, v4], _ =>
   simp at e0 e1 e2 e3 e4
   subst e0 e1 e2 e3 e4
   refine ⟨⟨a, b, c, d, e⟩, kFn_mk W ⟨a, b, c, d, e⟩ l1 g1 l3 g3 l4 g4, ?_⟩
   have hb : Rows.uptoBulk (DataW.agg (([y0, y1, y2, y3, y4] : List (DataW H × List MemPlace)).map (·.1))) = Rows.uptoBulk y0.1 + (Rows.uptoBulk y1.1 + (Rows.uptoBulk y2.1 + (Rows.uptoBulk y3.1 + (Rows.uptoBulk y4.1 + 0)))) + 1 := by simp [Rows.uptoBulk, Rows.uptoBulkAll]
   show fnBulk (Rows.uptoBulk (DataW.agg (([y0, y1, y2, y3, y4] : List (DataW H × List MemPlace)).map (·.1)))) _
   rw [hb]
   exact ⟨by show a.size ≤ _; omega, by show b.length ≤ _; omega, by show d.length ≤ _; omega, by show e.length ≤ _; omega, fun i hi => by obtain ⟨_, _, h⟩ := b4.2 i hi; exact h⟩
def imgBulk (n : Nat) (x : SImage) : Prop := x.globs.length ≤ n ∧ x.fns.length ≤ n ∧ (∀ f ∈ x.fns, fnBulk n f) ∧ ∀ g ∈ x.globs, I64 g.f2
theorem open_img (H : Type) (enc : TypeId × Value → H) (W : World) (fuel : Nat) (cs : List Value) (y : DataW H × List MemPlace) (h : DataW.trod enc Tryz.prog W 0 (fun _ => true) true fuel 25 cs = some y) :
  ∃ x A0 c0 A1 c1, cs = [.slice A0 x.globs.length c0, .slice A1 x.fns.length c1] ∧ x.globs.length ≤ c0 ∧ kGlob.C W A0 x.globs.length x.globs ∧ x.fns.length ≤ c1 ∧ kFn.C W A1 x.fns.length x.fns ∧ imgBulk (Rows.uptoBulk y.1) x := by
 have hu : Tryz.prog.underlying 25 = some _ := Tryz.underlying25
 obtain ⟨xs, n, _, rfl, hl, hlen, hf⟩ := DataW.trod_struct hu h
 match xs, hlen with
 | [y0, y1], _ =>
  have h0 := hf 0 _ rfl
  have h1 := hf 1 _ rfl
  have hG : Tryz.prog.cellsOf 88 = Kd.sz kGlob := by kernel_rfl
  have hF : Tryz.prog.cellsOf 54 = Kd.sz kFn := by kernel_rfl
  obtain ⟨a, k0, b0⟩ := opn_slice Tryz.underlying22 hG opn_glob H enc W n _ _ (h0.trans rfl)
  obtain ⟨b, k1, b1, b2⟩ := opn_slice Tryz.underlying23 hF opn_fn H enc W n _ _ (h1.trans rfl)
  obtain ⟨A0, c0, e0, l0, g0⟩ := k0
  obtain ⟨A1, c1, e1, l1, g1⟩ := k1
  have hc : Tryz.prog.cellsOf 25 = 2 := by kernel_rfl
  rw [hc] at hl
  have q0 : Tryz.prog.cellsOf 22 = 1 := by kernel_rfl
  have q1 : Tryz.prog.cellsOf 23 = 1 := by kernel_rfl
  replace e0 : (cs.drop 0).take (Tryz.prog.cellsOf 22) = [.slice A0 a.length c0] := e0
  replace e1 : (cs.drop 1).take (Tryz.prog.cellsOf 23) = [.slice A1 b.length c1] := e1
  rw [q0] at e0
  rw [q1] at e1
  match cs, hl with
  | [v0, v1], _ =>
   simp at e0 e1
   subst e0 e1
   have hb : Rows.uptoBulk (DataW.agg (([y0, y1] : List (DataW H × List MemPlace)).map (·.1))) = Rows.uptoBulk y0.1 + (Rows.uptoBulk y1.1 + 0) + 1 := by simp [Rows.uptoBulk, Rows.uptoBulkAll]
   refine ⟨⟨a, b⟩, A0, c0, A1, c1, rfl, l0, g0, l1, g1, ?_⟩
   show imgBulk (Rows.uptoBulk (DataW.agg (([y0, y1] : List (DataW H × List MemPlace)).map (·.1)))) _
   rw [hb]
   refine ⟨by show a.length ≤ _; omega, by show b.length ≤ _; omega, fun f hfm => ?_, fun g hg => by obtain ⟨_, _, h⟩ := b0.2 g hg; exact h⟩
   obtain ⟨m, hm, h5⟩ := b2 f hfm
   exact ⟨by have := h5.1; omega, by have := h5.2.1; omega, by have := h5.2.2.1; omega, by have := h5.2.2.2.1; omega, h5.2.2.2.2⟩
/-! ### The two laid tables -/
def nibL : List Int := [0, 498536548, 997073096, 651767980, 1994146192, 1802195444, 1303535960, 1342533948, 3988292384, 4027552580, 3604390888, 3412177804, 2607071920, 2262029012, 2685067896, 3183342108]
theorem gNib : Tryz.prog.globalNamed "tiltyard/wire.nibbles" = some 3 := by kernel_rfl
theorem gNibType : (Tryz.prog.globals[3]?).map (·.type) = some 239 := by kernel_rfl
theorem gPln : Tryz.prog.globalNamed "tiltyard/verify.plain" = some 0 := by kernel_rfl
theorem gPlnType : (Tryz.prog.globals[0]?).map (·.type) = some 230 := by kernel_rfl
def laidL : List (String × DataW Unit) := [("tiltyard/wire.nibbles", Rows.laid_tiltyard_wire_nibbles), ("tiltyard/verify.plain", Rows.laid_tiltyard_verify_plain)]
theorem nib_of {W : World} (h : laidMetH Tryz.prog laidL W) : Nib W := by
 have h1 : Lib.TabIs Tryz.prog W "tiltyard/wire.nibbles" .u32 nibL :=
  Lib.tabIs_of_head (rest := [("tiltyard/verify.plain", Rows.laid_tiltyard_verify_plain)]) gNib gNibType Tryz.underlying239 Tryz.underlying209 (by kernel_rfl) (by kernel_rfl) h
 exact ⟨fun j => nibL.getD j 0, fun j hj => h1.cell gNib j (by simpa [nibL] using hj)⟩
theorem pln_of {W : World} (h : laidMetH Tryz.prog laidL W) : Pln tabT W := by
 have h0 : laidMet Tryz.prog laidL W := h
 obtain ⟨g, t, cs, fuel, p, hg, ht, hv, hd⟩ := Lib.laidMet.reads h0 (n := "tiltyard/verify.plain") (d := Rows.laid_tiltyard_verify_plain) (.tail _ (.head _))
 obtain rfl := Option.some.inj (gPln.symm.trans hg)
 obtain rfl := Option.some.inj (gPlnType.symm.trans ht)
 have hd' : DataW.trod (fun _ => ()) Tryz.prog W 0 (fun _ => true) false fuel 230 cs.toList = some (.agg (tabD.map fun q => .agg [.lit (.string q.1), .lit (.string q.2)]), p) := hd
 have c1 : Tryz.prog.cellsOf 229 = 2 := by kernel_rfl
 have c2 : Tryz.prog.cellsOf 9 = 1 := by kernel_rfl
 intro j hj
 obtain ⟨f1, d1, q1, e1, t1⟩ := Lib.array_elem Tryz.underlying230 hd' j hj
 have hjl : j < tabD.length := hj
 rw [List.getElem?_map, List.getElem?_eq_getElem hjl] at e1
 obtain rfl : DataW.agg [.lit (.string (tabD[j]).1), .lit (.string (tabD[j]).2)] = d1 := by simpa using e1
 have hgd : tabD.getD j ([], []) = tabD[j] := by rw [List.getD_eq_getElem?_getD, List.getElem?_eq_getElem hjl]; rfl
 obtain ⟨f2, d2, q2, e2, t2⟩ := Lib.array_elem Tryz.underlying229 t1 0 (by omega)
 obtain ⟨f3, d3, q3, e3, t3⟩ := Lib.array_elem Tryz.underlying229 t1 1 (by omega)
 obtain ⟨s2, u2, x2, _⟩ := DataW.trod_string Tryz.underlying9 t2
 obtain ⟨s3, u3, x3, _⟩ := DataW.trod_string Tryz.underlying9 t3
 have x2' := congrArg Prod.fst x2
 have x3' := congrArg Prod.fst x3
 simp only at x2' x3'
 have k2 : (tabD[j]).1 = s2.data.toList := by
  have : d2 = .lit (.string (tabD[j]).1) := by simpa using e2.symm
  rw [this] at x2'
  injection x2' with h; injection h
 have k3 : (tabD[j]).2 = s3.data.toList := by
  have : d3 = .lit (.string (tabD[j]).2) := by simpa using e3.symm
  rw [this] at x3'
  injection x3' with h; injection h
 rw [c1, c2] at u2 u3
 have w2 : cs[j * 2]? = some (.string s2) := by
  have := congrArg (·[0]?) u2
  simp [List.getElem?_take, List.getElem?_drop] at this
  simpa using this
 have w3 : cs[j * 2 + 1]? = some (.string s3) := by
  have := congrArg (·[0]?) u3
  simp [List.getElem?_take, List.getElem?_drop] at this
  simpa using this
 have m2 : (tabT j).1 = s2 := by unfold tabT; rw [hgd, k2]
 have m3 : (tabT j).2 = s3 := by unfold tabT; rw [hgd, k3]
 rw [m2, m3]
 exact ⟨(World.var?_cell gPln hv (j * 2)).trans w2, (World.var?_cell gPln hv (j * 2 + 1)).trans w3⟩
end Go.Proofs.YtedmncldelcbfaaGreatDoor.E
namespace Go.Proofs.YtedmncldelcbfaaGreatDoor.vmFinds
open Go Go.Proofs.YtedmncldelcbfaaGreatDoor Go.ChangeShapes Go.WideShapes Go.ChangeAt Go.RowKit
set_option linter.unusedVariables false
theorem own : ownKnob Tryz.prog.godebug = none := by kernel_rfl
theorem laidOut : laidOutB Tryz.prog = true := by kernel_rfl
set_option maxRecDepth 100000 in
theorem contract (H : Type) (enc : TypeId × Value → H) (W : World) (base : Nat) (args : Array Value) (ds gs : List (DataW H)) (before : List MemPlace)
  (hval : ∀ (j : Nat) t v, Tryz.f7.params[j]? = some t → args[j]? = some v → Value.okWide Tryz.prog W .any base t v)
  (hW : DataW.Whole enc Tryz.prog Tryz.f7.params.toList Rows.vmFindsSpec.vars false W args.toList ds gs before) (hL : laidMetH Tryz.prog E.laidL W) (hk : Rows.uptoBulkAll (ds ++ gs) ≤ 1048576) :
  Calls Tryz.prog 7 args W fun e W' => ∃ v, e = .returned v ∧ Rows.vmFindsSpec.post enc Tryz.prog Tryz.f7 false true false false W args v W' := by
 have hW' := hW
 obtain ⟨p, q, hA0, hV, rfl, hfz, hnd⟩ := hW
 have hA : DataW.TrodAll enc Tryz.prog W 0 (fun _ => true) true Tryz.f7.params.toList args.toList ds p := hA0
 rw [Tryz.params7] at hA hval
 obtain ⟨v0, vs0, d0, ds0, p0, q0, hargs, rfl, rfl, h0, r0⟩ := trodAll_cons hA
 obtain ⟨v1, vs1, d1, ds1, p1, q1, hargs1, rfl, rfl, h1, r1⟩ := trodAll_cons r0
 obtain ⟨rfl, rfl, rfl⟩ := trodAll_nil r1
 subst hargs1
 obtain rfl : args = #[v0, v1] := by cases args; simp_all
 obtain ⟨rfl, rfl⟩ := trodVars_none hV
 have k0 := h0
 have k1 := h1
 have lt0 : ∀ x ∈ p0, x.block < W.heap.size := by obtain ⟨m, hm⟩ := k0; exact DataW.trod_lt m _ _ _ hm
 have lt1 : ∀ x ∈ p1, x.block < W.heap.size := by obtain ⟨m, hm⟩ := k1; exact DataW.trod_lt m _ _ _ hm
 obtain ⟨fuel, hf⟩ := h0
 obtain ⟨fuel1, hf1⟩ := h1
 obtain ⟨x, A0, c0, A1, c1, hcs, l0, g0, l1, g1, hb⟩ := E.open_img H enc W fuel _ _ hf
 have hv0 : v0 = .agg #[.slice A0 x.globs.length c0, .slice A1 x.fns.length c1] := by
  cases v0 <;> simp [Value.cells] at hcs
  exact congrArg Value.agg (Array.ext' hcs)
 obtain ⟨s1, hv1⟩ := okWide_string Tryz.underlying9 (hval 1 9 v1 (by simp) (by simp))
 subst hv0 hv1
 have hbk : Rows.uptoBulk d0 ≤ 1048576 ∧ Rows.uptoBulk d1 ≤ 1048576 := by simp only [List.append_nil, Rows.uptoBulkAll] at hk; constructor <;> omega
 have hsm : E.imgSmall 1099511620000 x := by
  obtain ⟨b1, b2, b3, _⟩ := hb
  refine ⟨by simp only at b1; omega, by simp only at b2; omega, fun f hfm => ?_⟩
  obtain ⟨a1, a2, a3, a4, _⟩ := b3 f hfm
  simp only at a1 a2 a3 a4
  exact ⟨by omega, by omega, by omega, by omega⟩
 clear hA0
 refine (E.VmFinds_any x _ W ⟨A0, c0, A1, c1, rfl, l0, g0, l1, g1⟩ hsm (E.nib_of hL) (E.pln_of hL) s1).mono fun e W' ⟨he, bel⟩ => ?_
 subst he
 exact ⟨_, rfl, _, _, _, [], _, [], hW', trodAll_mk1 (shut_bool Tryz.underlying4 _), trodAll_cons_mk (Below.trod laidOut (by kernel_rfl) (of_decide_eq_true (by kernel_rfl)) k0 bel lt0) (trodAll_cons_mk (Below.trod laidOut (by kernel_rfl) (of_decide_eq_true (by kernel_rfl)) k1 bel lt1) trodAll_mk0), rfl, bel.frame _, fun h => by cases h⟩
def setTab (cs : Array Value) : Obj → Obj
 | .cells _ t frozen => .cells cs t frozen
 | o => o
/-- A world for the witness: the settled one, the two tables holding what their initialisers lay. -/
noncomputable def laidWorld (os : Os) : World :=
 { World.holding Tryz.prog os ⟨#[], #[], []⟩ with heap := Array.modify (Array.modify (World.holding Tryz.prog os ⟨#[], #[], []⟩).heap 3 (setTab #[.int .u32 0, .int .u32 498536548, .int .u32 997073096, .int .u32 651767980, .int .u32 1994146192, .int .u32 1802195444, .int .u32 1303535960, .int .u32 1342533948, .int .u32 3988292384, .int .u32 4027552580, .int .u32 3604390888, .int .u32 3412177804, .int .u32 2607071920, .int .u32 2262029012, .int .u32 2685067896, .int .u32 3183342108])) 0 (setTab #[.string ⟨#[]⟩, .string ⟨#[]⟩, .string ⟨#[]⟩, .string ⟨#[]⟩, .string ⟨#[]⟩, .string ⟨#[]⟩, .string ⟨#[]⟩, .string ⟨#[]⟩, .string ⟨#[]⟩, .string ⟨#[]⟩, .string ⟨#[]⟩, .string ⟨#[]⟩, .string ⟨#[]⟩, .string ⟨#[]⟩, .string ⟨#[]⟩, .string ⟨#[]⟩, .string ⟨#[105, 105]⟩, .string ⟨#[105]⟩, .string ⟨#[105, 105]⟩, .string ⟨#[105]⟩, .string ⟨#[105, 105]⟩, .string ⟨#[105]⟩, .string ⟨#[105, 105]⟩, .string ⟨#[105]⟩, .string ⟨#[105, 105]⟩, .string ⟨#[105]⟩, .string ⟨#[105]⟩, .string ⟨#[105]⟩, .string ⟨#[102, 102]⟩, .string ⟨#[102]⟩, .string ⟨#[102, 102]⟩, .string ⟨#[102]⟩, .string ⟨#[102, 102]⟩, .string ⟨#[102]⟩, .string ⟨#[102, 102]⟩, .string ⟨#[102]⟩, .string ⟨#[102]⟩, .string ⟨#[102]⟩, .string ⟨#[84, 84]⟩, .string ⟨#[98]⟩, .string ⟨#[84, 84]⟩, .string ⟨#[98]⟩, .string ⟨#[78, 78]⟩, .string ⟨#[98]⟩, .string ⟨#[78, 78]⟩, .string ⟨#[98]⟩, .string ⟨#[78, 78]⟩, .string ⟨#[98]⟩, .string ⟨#[78, 78]⟩, .string ⟨#[98]⟩, .string ⟨#[98]⟩, .string ⟨#[98]⟩, .string ⟨#[105]⟩, .string ⟨#[102]⟩, .string ⟨#[102]⟩, .string ⟨#[105]⟩, .string ⟨#[]⟩, .string ⟨#[]⟩, .string ⟨#[]⟩, .string ⟨#[]⟩, .string ⟨#[]⟩, .string ⟨#[]⟩, .string ⟨#[]⟩, .string ⟨#[]⟩, .string ⟨#[]⟩, .string ⟨#[]⟩, .string ⟨#[84]⟩, .string ⟨#[]⟩]) }
theorem laid_met (os : Os) : laidMet Tryz.prog Rows.vmFindsRow.laid ((laidWorld os).forCall (fun _ _ => 0) ⟨#[], #[.agg #[.slice none 0 0, .slice none 0 0], .string ⟨#[]⟩], []⟩).memory :=
 laidMet_of_run' 8 (by kernel_rfl) (by kernel_rfl)
theorem reads (os : Os) {H : Type} (enc : TypeId × Value → H) : ∃ places, DataW.whole enc Tryz.prog ((laidWorld os).forCall (fun _ _ => 0) ⟨#[], #[.agg #[.slice none 0 0, .slice none 0 0], .string ⟨#[]⟩], []⟩).memory Tryz.f7.params.toList Rows.vmFindsSpec.vars false #[Value.agg #[.slice none 0 0, .slice none 0 0], .string ⟨#[]⟩].toList 8 = some ([.agg [.nil, .nil], .lit (.string [])], [], places) :=
 ⟨[], by kernel_rfl⟩
set_option maxRecDepth 100000 in
theorem liftedUpto (os : Os) (started : os.Started) (H : Type) (enc : TypeId × Value → H) (F : Stop.Interp) :
  ReturnsInHanded {} Tryz.checked os 7 .any ((Rows.OpenSpec.upto Rows.vmFindsSpec).preRow enc Tryz.prog Tryz.f7 Rows.vmFindsUptoRow.domain false Rows.vmFindsUptoRow.laid) (((Rows.OpenSpec.upto Rows.vmFindsSpec).at F).post enc Tryz.prog Tryz.f7 false true false false) := by
 obtain ⟨places, hx⟩ := reads os enc
 refine returnsInHanded_of_row (C := Tryz.checked) (s := Rows.OpenSpec.upto Rows.vmFindsSpec) own started (by kernel_rfl) Tryz.func7
  (witness_row_at (enc := enc) (C := Tryz.checked) false (laidWorld os) #[.agg #[.slice none 0 0, .slice none 0 0], .string ⟨#[]⟩] rfl (by kernel_rfl) (by kernel_rfl) (by kernel_rfl)
   (OpenSpec.preRow_of_cond 8 hx (by kernel_rfl) (fun k hk => by cases hk; kernel_rfl) (by kernel_rfl) (laid_met os))) ?_
 intro W base args ds gs before hval hW h1 hcond h2 hL h3 h4
 exact contract H enc W base args ds gs before hval hW hL (of_decide_eq_true (hcond _ rfl))
theorem saidUpto : Rows.VmFindsUptoSaid :=
 OpenClaim.holds_of_cond 7 Tryz.f7 rfl rfl rfl rfl rfl rfl rfl ⟨rfl, rfl, rfl, rfl, rfl⟩ rfl rfl rfl rfl rfl (by kernel_rfl) Tryz.func7 (by kernel_rfl)
  (of_decide_eq_true (by kernel_rfl)) (by unfold Func.isWrapper; first | (rw [if_pos (by decide +kernel)]; kernel_rfl) | (rw [if_neg (by decide +kernel)]; exact ⟨rfl, rfl⟩))
  (fun os started H enc _ F => by rw [OpenClaim.pre_eq_preRow]; exact liftedUpto os started H enc F)
theorem plain (f : FuncId) (fn : Func) (hf : Tryz.pinned.checked.prog.funcNamed "tiltyard/tiltyardlaw17.VmFinds" = some f) (hfn : Tryz.pinned.checked.prog.funcs[f]? = some fn) :
  true = Tryz.pinned.checked.prog.looks [] ∧ ∀ (j : Nat) t, fn.params[j]? = some t → Tryz.pinned.checked.prog.wantsStandIn t = false := by
 obtain rfl : f = 7 := Option.some.inj ((show Tryz.prog.funcNamed "tiltyard/tiltyardlaw17.VmFinds" = some 7 by kernel_rfl).symm.trans hf) |>.symm
 obtain rfl : fn = Tryz.f7 := (Option.some.inj (Tryz.func7.symm.trans hfn)).symm
 refine ⟨by kernel_rfl, fun j t ht => ?_⟩
 rw [Tryz.params7] at ht
 rcases (show t = 25 ∨ t = 9 by simpa using Array.mem_of_getElem? ht) with rfl | rfl
 ·exact (show Tryz.prog.wantsStandIn 25 = false by kernel_rfl)
 ·exact (show Tryz.prog.wantsStandIn 9 = false by kernel_rfl)
theorem cardUpto : Rows.VmFindsUptoCardSaid :=
 Claim7.holds_tied_plain_at .later [] _ _ _ _ saidUpto (fun _ h => by cases h) (by kernel_rfl) (fun _ h => by cases h) vmFindsUpto_row_tie rfl ⟨rfl, rfl⟩ (by kernel_rfl) rfl plain (by kernel_rfl)
end Go.Proofs.YtedmncldelcbfaaGreatDoor.vmFinds
