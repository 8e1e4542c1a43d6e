import Derived.Test.YtedmncldelcbfaaGreatDoorKC
import Derived.WalkSpells
import Derived.Lib.LazyBuf
import Derived.Deep.Slices
import Derived.Laws.CopyOwn
import Derived.Test.YtedmncldelcbfaaGreatDoorKA
import Derived.Lib.BitFns
import Derived.Laws.Bits64b
import Derived.Test.YtedmncldelcbfaaGreatDoorShelf
import Derived.Lib.Hide
import Derived.StillTailTactics
/- A run of the machine in memory; contracts of fix: no statement of its own. -/
namespace Go.Proofs.YtedmncldelcbfaaGreatDoor.E
open Go Go.RowKit Go.Proofs.YtedmncldelcbfaaGreatDoorW.PrintWords Go.Proofs.YtedmncldelcbfaaGreatDoorW.PrintLast Go.Proofs.YtedmncldelcbfaaGreatDoorW.PrintMore
set_option linter.unusedVariables false
set_option linter.unusedSimpArgs false
set_option maxRecDepth 100000
set_option maxHeartbeats 2000000
/-! ### The machine and its runs in memory -/
structure SFrm where
 fi : Nat
 at_ : Nat
 loc : List Int
 base : Nat
structure SAsk where
 call : Int
 args : List Int
def kPtr (fb : Nat) : Kd Nat := Kd.scalar (fun i : Nat => Value.pointer (some ⟨fb, i * 5, none⟩)) (fun _ => rfl)
def kNat : Kd Nat := Kd.scalar (fun i : Nat => Value.int .i64 i) (fun _ => rfl)
def kInts : Kd (List Int) := Kd.slice 3 (Kd.int .i64)
def kFrm (fb : Nat) : Kd SFrm := Kd.iso (Kd.pair (kPtr fb) (Kd.pair kNat (Kd.pair kInts kNat))) (fun x : SFrm => (x.fi, x.at_, x.loc, x.base))
def kAsk : Kd SAsk := Kd.iso (Kd.pair (Kd.int .i64) kInts) (fun x : SAsk => (x.call, x.args))
theorem kFrm_openM {w : World} {fb base : Nat} {ok : Nat → Prop} {x : SFrm} {cs : List Value} (h : (kFrm fb).M w base ok x cs) : ∃ v, cs = [.pointer (some ⟨fb, x.fi * 5, none⟩), .int .i64 x.at_, v, .int .i64 x.base] ∧ (Kd.int .i64).R 3 w base ok v x.loc := by
 obtain ⟨_, _, rfl, rfl, ⟨_, _, rfl, rfl, ⟨_, _, rfl, ⟨v, rfl, g⟩, rfl⟩⟩⟩ := h
 exact ⟨v, rfl, g⟩
theorem kFrm_mkM (w : World) (fb base : Nat) (ok : Nat → Prop) (x : SFrm) {v : Value} (g : (Kd.int .i64).R 3 w base ok v x.loc) : (kFrm fb).M w base ok x [.pointer (some ⟨fb, x.fi * 5, none⟩), .int .i64 x.at_, v, .int .i64 x.base] :=
 ⟨[.pointer (some ⟨fb, x.fi * 5, none⟩)], [.int .i64 x.at_, v, .int .i64 x.base], rfl, rfl, ⟨[.int .i64 x.at_], [v, .int .i64 x.base], rfl, rfl, ⟨[v], [.int .i64 x.base], rfl, ⟨v, rfl, g⟩, rfl⟩⟩⟩
theorem kAsk_mkM (w : World) (base : Nat) (ok : Nat → Prop) (x : SAsk) {v : Value} (g : (Kd.int .i64).R 3 w base ok v x.args) : kAsk.M w base ok x [.int .i64 x.call, v] :=
 ⟨[.int .i64 x.call], [v], rfl, rfl, ⟨v, rfl, g⟩⟩
theorem kAsk_open {w : World} {x : SAsk} {cs : List Value} (h : kAsk.K w x cs) : ∃ A c, cs = [.int .i64 x.call, .slice A x.args.length c] ∧ x.args.length ≤ c ∧ (Kd.int .i64).C w A x.args.length x.args := by
 obtain ⟨_, _, rfl, rfl, ⟨A, c, rfl, hl, g⟩⟩ := h
 exact ⟨A, c, rfl, hl, g⟩
/-- a machine: its image, its calls; all of it lies below B -/
structure MACH (W : World) (mb fb : Nat) (x : SImage) (AG : Option Addr) (cG cF : Nat) (AS : Option Addr) (cS : Nat) : Prop where
 blk : W.heap[mb]? = some (.cells #[.slice AG x.globs.length cG, .slice (some ⟨fb, 0, none⟩) x.fns.length cF, .slice AS callsL.length cS] 95 (0, 0))
 globs : kGlob.C W AG x.globs.length x.globs
 fns : kFn.C W (some ⟨fb, 0, none⟩) x.fns.length x.fns
 calls : kSys.C W AS callsL.length callsL
 lG : x.globs.length ≤ cG
 lF : x.fns.length ≤ cF
 lS : callsL.length ≤ cS
structure SRun where
 state : List (List Int)
 fuel : Nat
 frames : List SFrm
 stack : List Int
 asks : List SAsk
 waits : Bool
 ended : Bool
 trap : Int
 value : Int
/-- a block's cells -/
def SRun.cells (st : SRun) (mb : Nat) (vS vF vK vA : Value) : Array Value :=
 #[.pointer (some ⟨mb, 0, none⟩), vS, .int .i64 st.fuel, vF, vK, vA, .bool st.waits, .bool st.ended, .int .i64 st.trap, .int .i64 st.value]
/-- a run in memory: block g; f tells whose a block is: 1 the state's, 2 the frames', 3 the stack's, 4 the asks' -/
structure RUN (B mb fb : Nat) (w : World) (g : Nat) (f : Nat → Nat) (vS vF vK vA : Value) (st : SRun) : Prop where
 blk : w.heap[g]? = some (.cells (st.cells mb vS vF vK vA) 110 (0, 0))
 gB : B ≤ g
 fg : f g = 0
 fB : ∀ k, f k ≠ 0 → B ≤ k
 state : Kd.S kInts 27 w B (fun k => f k = 1) vS st.state
 frames : Kd.S (kFrm fb) 141 w B (fun k => f k = 2) vF st.frames
 stack : (Kd.int .i64).R 3 w B (fun k => f k = 3) vK st.stack
 asks : Kd.S kAsk 81 w B (fun k => f k = 4) vA st.asks
/-- what a run's call may turn: its own blocks -/
structure Stp (g : Nat) (w : World) (f : Nat → Nat) (w' : World) (f' : Nat → Nat) : Prop where
 os : w'.os = w.os
 tape : w'.tape = w.tape
 output : w'.output = w.output
 size : w.heap.size ≤ w'.heap.size
 block : ∀ k, k < w.heap.size → k ≠ g → f k = 0 → w'.heap[k]? = w.heap[k]?
 tag : ∀ k, k < w.heap.size → f' k = f k
theorem Stp.refl (g : Nat) (w : World) (f : Nat → Nat) : Stp g w f w f := ⟨rfl, rfl, rfl, Nat.le_refl _, fun _ _ _ _ => rfl, fun _ _ => rfl⟩
theorem Stp.trans {g : Nat} {w w1 w2 : World} {f f1 f2 : Nat → Nat} (h : Stp g w f w1 f1) (h' : Stp g w1 f1 w2 f2) : Stp g w f w2 f2 :=
 ⟨h'.os.trans h.os, h'.tape.trans h.tape, h'.output.trans h.output, Nat.le_trans h.size h'.size,
  fun k hk hg hf => (h'.block k (Nat.lt_of_lt_of_le hk h.size) hg ((h.tag k hk).trans hf)).trans (h.block k hk hg hf),
  fun k hk => (h'.tag k (Nat.lt_of_lt_of_le hk h.size)).trans (h.tag k hk)⟩
theorem Stp.below {g : Nat} {w w' : World} {f : Nat → Nat} (h : Below w.heap.size w w') : Stp g w f w' f := ⟨h.os, h.tape, h.output, h.size, fun k hk _ _ => h.block k hk, fun _ _ => rfl⟩
/-- what lies below B stays -/
theorem Stp.low {g B : Nat} {W w w' : World} {f f' : Nat → Nat} (h : Stp g w f w' f') (hb : Below B W w) (hg : B ≤ g) (hf : ∀ k, f k ≠ 0 → B ≤ k) (hW : B ≤ W.heap.size) : Below B W w' := by
 refine ⟨h.os.trans hb.os, h.tape.trans hb.tape, h.output.trans hb.output, Nat.le_trans hb.size h.size, fun k hk => ?_⟩
 have hs := hb.size
 rw [h.block k (by omega) (by omega) (by
  rcases Nat.eq_zero_or_pos (f k) with e | e
  ·exact e
  ·have := hf k (by omega); omega)]
 exact hb.block k hk
/-- the tags, once part i has grown: all that is new is its -/
def retag (n i : Nat) (f : Nat → Nat) (k : Nat) : Nat := if k < n then f k else i
theorem retag_lt {n i k : Nat} {f : Nat → Nat} (h : k < n) : retag n i f k = f k := by unfold retag; rw [if_pos h]
theorem retag_ge {n i k : Nat} {f : Nat → Nat} (h : n ≤ k) : retag n i f k = i := by unfold retag; rw [if_neg (by omega)]
theorem retag_B {n i B : Nat} {f : Nat → Nat} (hf : ∀ k, f k ≠ 0 → B ≤ k) (hB : B ≤ n) : ∀ k, retag n i f k ≠ 0 → B ≤ k := by
 intro k hk
 rcases Nat.lt_or_ge k n with h | h
 ·rw [retag_lt h] at hk; exact hf k hk
 ·omega
section
variable {α : Type} {d : Kd α} {e B j n i : Nat} {w w' : World} {f : Nat → Nat} {v : Value} {xs : List α}
theorem S_tags (h : Kd.S d e w B (fun k => f k = j) v xs) (hn : n = w.heap.size) : Kd.S d e w B (fun k => retag n i f k = j) v xs :=
 Kd.S_mono (Kd.S_bound h) (fun k hk => by rw [retag_lt (by omega)]; exact hk.1)
theorem R_tags (h : d.R e w B (fun k => f k = j) v xs) (hn : n = w.heap.size) : d.R e w B (fun k => retag n i f k = j) v xs :=
 Kd.R_mono (Kd.R_bound h) (fun k hk => by rw [retag_lt (by omega)]; exact hk.1)
end
/-- anything made beside a run -/
theorem RUN.below {B mb fb g : Nat} {w w' : World} {f : Nat → Nat} {vS vF vK vA : Value} {st : SRun} (h : RUN B mb fb w g f vS vF vK vA st) (hb : Below w.heap.size w w') : RUN B mb fb w' g f vS vF vK vA st :=
 ⟨(hb.block g (blk_lt h.blk)).trans h.blk, h.gB, h.fg, h.fB, Kd.S_below h.state hb, Kd.S_below h.frames hb, Kd.R_below h.stack hb, Kd.S_below h.asks hb⟩
section
variable {α : Type} {d : Kd α} {e B j i g : Nat} {w w' : World} {f : Nat → Nat} {v : Value} {xs : List α}
theorem S_over (h : Kd.S d e w B (fun k => f k = j) v xs) (hji : j ≠ i) (hj : j ≠ 0) (hfg : f g = 0) (hk : ∀ k, k < w.heap.size → k ≠ g → f k ≠ i → w'.heap[k]? = w.heap[k]?) : Kd.S d e w' B (fun k => retag w.heap.size i f k = j) v xs :=
 Kd.S_step (S_tags h rfl) (fun k ho hlt => by
  rw [retag_lt hlt] at ho
  exact hk k hlt (fun e => by rw [e, hfg] at ho; omega) (by omega))
theorem R_over (h : d.R e w B (fun k => f k = j) v xs) (hji : j ≠ i) (hj : j ≠ 0) (hfg : f g = 0) (hk : ∀ k, k < w.heap.size → k ≠ g → f k ≠ i → w'.heap[k]? = w.heap[k]?) : d.R e w' B (fun k => retag w.heap.size i f k = j) v xs :=
 Kd.R_step (R_tags h rfl) (fun k ho hlt => by
  rw [retag_lt hlt] at ho
  exact hk k hlt (fun e => by rw [e, hfg] at ho; omega) (by omega))
theorem R_keep2 (h : d.R e w B (fun k => f k = j) v xs) (hj : j ≠ 0) (hfg : f g = 0) (hk : ∀ k, k < w.heap.size → k ≠ g → w'.heap[k]? = w.heap[k]?) : d.R e w' B (fun k => f k = j) v xs :=
 Kd.R_step h (fun k ho hlt => hk k hlt (fun e => by rw [e, hfg] at ho; omega))
theorem S_keep2 (h : Kd.S d e w B (fun k => f k = j) v xs) (hj : j ≠ 0) (hfg : f g = 0) (hk : ∀ k, k < w.heap.size → k ≠ g → w'.heap[k]? = w.heap[k]?) : Kd.S d e w' B (fun k => f k = j) v xs :=
 Kd.S_step h (fun k ho hlt => hk k hlt (fun e => by rw [e, hfg] at ho; omega))
theorem R_notg (h : d.R e w B (fun k => f k = j) v xs) (hj : j ≠ 0) (hfg : f g = 0) : some g ≠ v.ownBlock := fun e => by have := h.1 g e.symm; omega
theorem S_notg (h : Kd.S d e w B (fun k => f k = j) v xs) (hj : j ≠ 0) (hfg : f g = 0) : some g ≠ v.ownBlock := R_notg (Kd.S_R h) hj hfg
end
/-- the cells of a run's block -/
theorem RUN.at_ {B mb fb g : Nat} {w : World} {f : Nat → Nat} {vS vF vK vA : Value} {st : SRun} (h : RUN B mb fb w g f vS vF vK vA st) :
  w.cell? ⟨g, 0, none⟩ = some (.pointer (some ⟨mb, 0, none⟩)) ∧ w.cell? ⟨g, 1, none⟩ = some vS ∧ w.cell? ⟨g, 2, none⟩ = some (.int .i64 st.fuel) ∧ w.cell? ⟨g, 3, none⟩ = some vF ∧ w.cell? ⟨g, 4, none⟩ = some vK ∧ w.cell? ⟨g, 5, none⟩ = some vA ∧ w.cell? ⟨g, 6, none⟩ = some (.bool st.waits) ∧ w.cell? ⟨g, 7, none⟩ = some (.bool st.ended) ∧ w.cell? ⟨g, 8, none⟩ = some (.int .i64 st.trap) ∧ w.cell? ⟨g, 9, none⟩ = some (.int .i64 st.value) :=
 ⟨(blk_cell h.blk 0).trans rfl, (blk_cell h.blk 1).trans rfl, (blk_cell h.blk 2).trans rfl, (blk_cell h.blk 3).trans rfl, (blk_cell h.blk 4).trans rfl, (blk_cell h.blk 5).trans rfl, (blk_cell h.blk 6).trans rfl, (blk_cell h.blk 7).trans rfl, (blk_cell h.blk 8).trans rfl, (blk_cell h.blk 9).trans rfl⟩
/-- the stack has turned -/
theorem RUN.turnK {B mb fb g : Nat} {w w' : World} {f : Nat → Nat} {vS vF vK vA : Value} {st : SRun} (h : RUN B mb fb w g f vS vF vK vA st) (hB : B ≤ w.heap.size) {vK' : Value} {ys : List Int}
  (hos : w'.os = w.os) (hta : w'.tape = w.tape) (hou : w'.output = w.output) (hsz : w.heap.size ≤ w'.heap.size)
  (hk : ∀ k, k < w.heap.size → k ≠ g → f k ≠ 3 → w'.heap[k]? = w.heap[k]?) (hb : w'.heap[g]? = some (.cells ((st.cells mb vS vF vK vA).setIfInBounds 4 vK') 110 (0, 0)))
  (hK : (Kd.int .i64).R 3 w' B (fun k => retag w.heap.size 3 f k = 3) vK' ys) :
  RUN B mb fb w' g (retag w.heap.size 3 f) vS vF vK' vA { st with stack := ys } ∧ Stp g w f w' (retag w.heap.size 3 f) := by
 refine ⟨⟨hb, h.gB, (retag_lt (blk_lt h.blk)).trans h.fg, retag_B h.fB hB, S_over h.state (by decide) (by decide) h.fg hk, S_over h.frames (by decide) (by decide) h.fg hk, hK, S_over h.asks (by decide) (by decide) h.fg hk⟩,
  ⟨hos, hta, hou, hsz, fun k h1 h2 h3 => hk k h1 h2 (by omega), fun k hk => retag_lt hk⟩⟩
theorem rpush_any (B mb fb g : Nat) (w : World) (f : Nat → Nat) (vS vF vK vA : Value) (st : SRun) (h : RUN B mb fb w g f vS vF vK vA st) (hB : B ≤ w.heap.size) (hl : st.stack.length ≤ 1073741824) (x : Int) :
  Calls Tryz.prog 55 #[.pointer (some ⟨g, 0, none⟩), .int .i64 x] w fun e w' => e = .returned (.tuple #[]) ∧ ∃ vK' f', RUN B mb fb w' g f' vS vF vK' vA { st with stack := st.stack ++ [x] } ∧ Stp g w f w' f' := by
 have c4 := h.at_.2.2.2.2.1
 have hgl := blk_lt h.blk
 have HH := Lib.hid h
 clear h
 go_enter Tryz.func55, Tryz.ntmps55
 go_wp2_with ((at_builtin; refine Kd.R_append (Kd.int .i64) (w0 := w) (W := w) B rfl _ _ 27 3 (.int .i64 0) 8 rfl Tryz.underlying27 infoInt rfl (by decide) (by decide) vK st.stack x [.int .i64 x] (fun k => retag w.heap.size 3 f k = 3) (fun _ => False) rfl rfl rfl (fun _ h => h.elim) (fun k hk => retag_ge hk) (R_tags HH.out.stack rfl) (Below.refl _ _) hB (by omega) ?_; intro v1 w1 hv1 hb1 hg1 hat1; obtain ⟨A', c', rfl⟩ := Kd.R_slice hv1; have hbk := (hg1.block g hgl (R_notg HH.out.stack (by decide) HH.out.fg)).trans HH.out.blk; have c4' : w1.cell? ⟨g, 4, none⟩ = some vK := (blk_cell hbk 4).trans rfl; have hf2 : w1.frozen? ⟨g, 4, none⟩ = false := blk_frozen hbk 4; have HBK := Lib.hid hbk; have HV1 := Lib.hid hv1; have HG1 := Lib.hid hg1; have HAT := Lib.hid hat1; clear hbk hv1 hb1 hg1 hat1 c4))
 go_end0
 have hg1 := HG1.out
 obtain ⟨v1, hv1⟩ : ∃ v1, v1 = Value.slice A' (st.stack.length + 1) c' := ⟨_, rfl⟩
 have hR : (Kd.int .i64).R 3 w1 B (fun k => retag w.heap.size 3 f k = 3) v1 (st.stack ++ [x]) := by
  have h := HV1.out
  rw [show (st.stack ++ [x]).length = st.stack.length + 1 by simp] at h
  rw [hv1]; exact h
 rw [← hv1]
 clear hv1
 have hkk : ∀ k, k < w.heap.size → k ≠ g → f k ≠ 3 → (w1.setCell ⟨g, 4, none⟩ v1).heap[k]? = w.heap[k]? := fun k h1 h2 h3 => by
  rw [Below.heap_setCell _ _ _ k h2]
  exact hg1.block k h1 (fun e => h3 (HH.out.stack.1 k e.symm))
 obtain ⟨r1, r2⟩ := HH.out.turnK (w' := w1.setCell ⟨g, 4, none⟩ v1) hB (vK' := v1) (ys := st.stack ++ [x]) hg1.os hg1.tape hg1.output (by have := hg1.size; simpa using this) hkk (blk_set HBK.out 4 _)
  (Kd.R_step hR (fun k ho hlt => Below.heap_setCell _ _ _ k (fun e => by rw [e, retag_lt hgl, HH.out.fg] at ho; omega)))
 exact ⟨rfl, v1, _, r1, r2⟩
theorem C_none2 {α : Type} {d : Kd α} {w : World} {n : Nat} {xs : List α} (h : Kd.C d w none n xs) : xs = [] ∧ n = 0 := by
 obtain ⟨h1, h2, h3⟩ := h
 rcases Nat.eq_zero_or_pos n with hn | hn
 ·exact ⟨List.eq_nil_of_length_eq_zero (by omega), hn⟩
 ·obtain ⟨ad, e, _⟩ := h3 hn
  cases e
theorem clInt_any (A : Option Addr) (c : Nat) (xs : List Int) (w : World) (hC : Kd.C (Kd.int .i64) w A xs.length xs) (hl : xs.length ≤ 1099511620000) :
  Calls Tryz.prog 39 #[.slice A xs.length c] w fun e w' => ∃ v, e = .returned v ∧ (Kd.int .i64).R 3 w' w.heap.size (fun _ => True) v xs ∧ Below w.heap.size w w' := by
 have ke := fun (w : World) (n : Nat) => Lib.run_eql_slice_nil (P := Tryz.prog) w 27 3 A n c 0 0 Tryz.underlying27
 rcases A with _ | ad
 ·obtain ⟨rfl, _⟩ := C_none2 hC
  go_enter Tryz.func39, Tryz.ntmps39
  go_wp2_with fail
  go_ret
  exact ⟨_, rfl, Kd.R_nil _ _ _ _ _, Below.refl _ _⟩
 ·have HC := Lib.hid hC
  clear hC
  have HO := Lib.hid (show Kd.R (Kd.int .i64) 3 (w.alloc (.cells #[] 3)) w.heap.size (fun _ => True) (.slice (some ⟨w.heap.size, 0, none⟩) 0 0) ([] : List Int) from ⟨fun _ _ => trivial, [], World.ownsRow_lit (base := w.heap.size) (e := 3) (size := 1) w #[] 0 (Nat.le_refl _) (by simp [maxLen]) (by simp), Reps.none _ _⟩)
  go_enter Tryz.func39, Tryz.ntmps39
  go_wp2_with (at_builtin; (refine Kd.R_append_rows (Kd.int .i64) (w0 := w) (W := w.alloc (.cells #[] 3)) w.heap.size rfl _ _ 27 3 (.int .i64 0) 8 rfl Tryz.underlying27 infoInt rfl (show 0 < 1 by decide) (by decide) (.slice (some ⟨w.heap.size, 0, none⟩) 0 0) ([] : List Int) xs (some ad) xs.length c (fun _ => True) (fun _ => False) rfl rfl HO.out (Kd.C_below HC.out (below_alloc (Below.refl _ _) _)) (fun _ _ h => h) (fun _ h => h.elim) (fun _ _ => trivial) (below_alloc (Below.refl _ _) _) (by simp) (by simp only [List.length_nil]; omega) ?_; intro v1 w1 hv1 hb1 hg1 hat1; have HV := Lib.hid hv1; have HB := Lib.hid hb1; clear hv1 hb1 hg1 hat1))
  go_ret
  exact ⟨v1, rfl, by simpa using HV.out, HB.out⟩
theorem clInstr_any (A : Option Addr) (c : Nat) (xs : List SInstr) (w : World) (hC : Kd.C kInstr w A xs.length xs) (hl : xs.length ≤ 1099511620000) :
  Calls Tryz.prog 40 #[.slice A xs.length c] w fun e w' => ∃ v, e = .returned v ∧ kInstr.R 56 w' w.heap.size (fun _ => True) v xs ∧ Below w.heap.size w w' := by
 have ke := fun (w : World) (n : Nat) => Lib.run_eql_slice_nil (P := Tryz.prog) w 52 56 A n c 0 0 Tryz.underlying52
 rcases A with _ | ad
 ·obtain ⟨rfl, _⟩ := C_none2 hC
  go_enter Tryz.func40, Tryz.ntmps40
  go_wp2_with fail
  go_ret
  exact ⟨_, rfl, Kd.R_nil _ _ _ _ _, Below.refl _ _⟩
 ·have HC := Lib.hid hC
  clear hC
  have HO := Lib.hid (show Kd.R (kInstr) 56 (w.alloc (.cells #[] 56)) w.heap.size (fun _ => True) (.slice (some ⟨w.heap.size, 0, none⟩) 0 0) ([] : List SInstr) from ⟨fun _ _ => trivial, [], World.ownsRow_lit (base := w.heap.size) (e := 56) (size := 3) w #[] 0 (Nat.le_refl _) (by simp [maxLen]) (by simp), Reps.none _ _⟩)
  go_enter Tryz.func40, Tryz.ntmps40
  go_wp2_with (at_builtin; (refine Kd.R_append_rows (kInstr) (w0 := w) (W := w.alloc (.cells #[] 56)) w.heap.size rfl _ _ 52 56 (.agg #[(.int .i64 0), (.int .i64 0), (.int .i64 0)]) 24 rfl Tryz.underlying52 infoInstr rfl (show 0 < 3 by decide) (by decide) (.slice (some ⟨w.heap.size, 0, none⟩) 0 0) ([] : List SInstr) xs (some ad) xs.length c (fun _ => True) (fun _ => False) rfl rfl HO.out (Kd.C_below HC.out (below_alloc (Below.refl _ _) _)) (fun x _ h => by rw [kInstr_open h]; exact kInstr_mkM _ _ _ x) (fun _ h => h.elim) (fun _ _ => trivial) (below_alloc (Below.refl _ _) _) (by simp) (by simp only [List.length_nil]; omega) ?_; intro v1 w1 hv1 hb1 hg1 hat1; have HV := Lib.hid hv1; have HB := Lib.hid hb1; clear hv1 hb1 hg1 hat1))
  go_ret
  exact ⟨v1, rfl, by simpa using HV.out, HB.out⟩
theorem clGlob_any (A : Option Addr) (c : Nat) (xs : List SGlob) (w : World) (hC : Kd.C kGlob w A xs.length xs) (hl : xs.length ≤ 1099511620000) :
  Calls Tryz.prog 36 #[.slice A xs.length c] w fun e w' => ∃ v, e = .returned v ∧ kGlob.R 88 w' w.heap.size (fun _ => True) v xs ∧ Below w.heap.size w w' := by
 have ke := fun (w : World) (n : Nat) => Lib.run_eql_slice_nil (P := Tryz.prog) w 22 88 A n c 0 0 Tryz.underlying22
 rcases A with _ | ad
 ·obtain ⟨rfl, _⟩ := C_none2 hC
  go_enter Tryz.func36, Tryz.ntmps36
  go_wp2_with fail
  go_ret
  exact ⟨_, rfl, Kd.R_nil _ _ _ _ _, Below.refl _ _⟩
 ·have HC := Lib.hid hC
  clear hC
  have HO := Lib.hid (show Kd.R (kGlob) 88 (w.alloc (.cells #[] 88)) w.heap.size (fun _ => True) (.slice (some ⟨w.heap.size, 0, none⟩) 0 0) ([] : List SGlob) from ⟨fun _ _ => trivial, [], World.ownsRow_lit (base := w.heap.size) (e := 88) (size := 3) w #[] 0 (Nat.le_refl _) (by simp [maxLen]) (by simp), Reps.none _ _⟩)
  go_enter Tryz.func36, Tryz.ntmps36
  go_wp2_with (at_builtin; (refine Kd.R_append_rows (kGlob) (w0 := w) (W := w.alloc (.cells #[] 88)) w.heap.size rfl _ _ 22 88 (.agg #[(.int .i64 0), (.int .i64 0), (.int .i64 0)]) 24 rfl Tryz.underlying22 infoGlob rfl (show 0 < 3 by decide) (by decide) (.slice (some ⟨w.heap.size, 0, none⟩) 0 0) ([] : List SGlob) xs (some ad) xs.length c (fun _ => True) (fun _ => False) rfl rfl HO.out (Kd.C_below HC.out (below_alloc (Below.refl _ _) _)) (fun x _ h => by rw [kGlob_open h]; exact kGlob_mkM _ _ _ x) (fun _ h => h.elim) (fun _ _ => trivial) (below_alloc (Below.refl _ _) _) (by simp) (by simp only [List.length_nil]; omega) ?_; intro v1 w1 hv1 hb1 hg1 hat1; have HV := Lib.hid hv1; have HB := Lib.hid hb1; clear hv1 hb1 hg1 hat1))
  go_ret
  exact ⟨v1, rfl, by simpa using HV.out, HB.out⟩
/-- the stack's slice alone has turned -/
theorem RUN.putK {B mb fb g : Nat} {w : World} {f : Nat → Nat} {vS vF vK vA : Value} {st : SRun} (h : RUN B mb fb w g f vS vF vK vA st) {vK' : Value} {ys : List Int}
  (hK : (Kd.int .i64).R 3 w B (fun k => f k = 3) vK' ys) :
  RUN B mb fb (w.setCell ⟨g, 4, none⟩ vK') g f vS vF vK' vA { st with stack := ys } ∧ Stp g w f (w.setCell ⟨g, 4, none⟩ vK') f := by
 have hk : ∀ k, k < w.heap.size → k ≠ g → (w.setCell ⟨g, 4, none⟩ vK').heap[k]? = w.heap[k]? := fun k _ h2 => Below.heap_setCell _ _ _ k h2
 exact ⟨⟨blk_set h.blk 4 _, h.gB, h.fg, h.fB, S_keep2 h.state (by decide) h.fg hk, S_keep2 h.frames (by decide) h.fg hk, R_keep2 hK (by decide) h.fg hk, S_keep2 h.asks (by decide) h.fg hk⟩,
  ⟨rfl, rfl, rfl, by simp, fun k h1 h2 _ => hk k h1 h2, fun _ _ => rfl⟩⟩
theorem RUN.formK {B mb fb g : Nat} {w : World} {f : Nat → Nat} {vS vF vK vA : Value} {st : SRun} (h : RUN B mb fb w g f vS vF vK vA st) (hp : 0 < st.stack.length) : ∃ b cap, vK = .slice (some ⟨b, 0, none⟩) st.stack.length cap ∧ st.stack.length ≤ cap := by
 obtain ⟨b, cap, e, _⟩ := Kd.R_form h.stack hp
 obtain ⟨A, c, e2, hl, _⟩ := Kd.R_reads h.stack
 exact ⟨b, cap, e, by rw [e] at e2; injection e2 with _ _ h3; omega⟩
theorem RUN.PR {B mb fb g : Nat} {w : World} {f : Nat → Nat} {vS vF vK vA : Value} {st : SRun} (h : RUN B mb fb w g f vS vF vK vA st) : PR w B vK st.stack := Kd.R_mono h.stack (fun _ _ => trivial)
theorem clInt_at (A : Option Addr) (n c : Nat) (xs : List Int) (w : World) (hn : n = xs.length) (hC : Kd.C (Kd.int .i64) w A n xs) (hl : n ≤ 1099511620000) :
  Calls Tryz.prog 39 #[.slice A n c] w fun e w' => ∃ v, e = .returned v ∧ (Kd.int .i64).R 3 w' w.heap.size (fun _ => True) v xs ∧ Below w.heap.size w w' := by
 subst hn; exact clInt_any A c xs w hC hl
theorem C_dropS {w : World} {ad : Addr} {xs : List Int} (h : Kd.C (Kd.int .i64) w (some ad) xs.length xs) (k : Nat) (hk : k ≤ xs.length) (a : Addr) (ha : k < xs.length → a = ad.add k) : Kd.C (Kd.int .i64) w (some a) (xs.length - k) (xs.drop k) := by
 obtain ⟨h1, h2, h3⟩ := h
 refine ⟨by simp, by omega, fun hp => ⟨a, rfl, fun j p hj => ?_⟩⟩
 obtain ⟨ad', e, hc⟩ := h3 (by omega)
 injection e with e
 subst e
 rw [List.getElem?_drop] at hj
 obtain ⟨c, q1, q2, q3⟩ := hc (k + j) p hj
 refine ⟨c, q1, q2, fun i u hu => ?_⟩
 have e1 : (Kd.int .i64).sz = 1 := rfl
 have e2 : a.add (j * (Kd.int .i64).sz + i) = ad.add ((k + j) * (Kd.int .i64).sz + i) := by
  rw [ha (by omega), e1, Go.Deep.add_add]
  have e3 : k + (j * 1 + i) = (k + j) * 1 + i := by omega
  rw [e3]
 rw [e2]
 exact q3 i u hu
theorem rpops_any (B mb fb g : Nat) (w : World) (f : Nat → Nat) (vS vF vK vA : Value) (st : SRun) (h : RUN B mb fb w g f vS vF vK vA st) (hB : B ≤ w.heap.size) (k m : Nat) (hn : st.stack.length = k + m) (hl : st.stack.length ≤ 1073741824) :
  Calls Tryz.prog 80 #[.pointer (some ⟨g, 0, none⟩), .int .i64 m] w fun e w' => ∃ v, e = .returned v ∧ (Kd.int .i64).R 3 w' w.heap.size (fun _ => True) v (st.stack.drop k) ∧ ∃ vK', RUN B mb fb w' g f vS vF vK' vA { st with stack := st.stack.take k } ∧ Stp g w f w' f := by
 have hgl := blk_lt h.blk
 obtain ⟨A, c, rfl, hcap, hC⟩ := Kd.R_reads h.stack
 have c4 := h.at_.2.2.2.2.1
 have HN := Lib.hid hn
 have HH := Lib.hid h
 have HC := Lib.hid hC
 rw [hn] at c4 hcap
 clear h hC
 rw [HN.out] at hl
 clear hn
 have hfin : ∀ w1 v, Kd.R (Kd.int .i64) 3 w1 w.heap.size (fun _ => True) v (st.stack.drop k) → Below w.heap.size w w1 → ∀ c1, Kd.R (Kd.int .i64) 3 w1 B (fun j => f j = 3) c1 (st.stack.take k) →
   (Kd.int .i64).R 3 (w1.setCell ⟨g, 4, none⟩ c1) w.heap.size (fun _ => True) v (st.stack.drop k) ∧ ∃ vK', RUN B mb fb (w1.setCell ⟨g, 4, none⟩ c1) g f vS vF vK' vA { st with stack := st.stack.take k } ∧ Stp g w f (w1.setCell ⟨g, 4, none⟩ c1) f := fun w1 v hv hb c1 hc1 => by
  obtain ⟨r1, r2⟩ := (HH.out.below hb).putK hc1
  refine ⟨Kd.R_step (Kd.R_bound hv) (fun j hj _ => Below.heap_setCell _ _ _ j (fun e => by have h3 : w.heap.size ≤ j := hj.2.1; have e' : j = g := e; omega)) |> fun h => Kd.R_mono h (fun _ _ => trivial), c1, r1, (Stp.below hb).trans r2⟩
 have HF := Lib.hid hfin
 clear hfin
 have hk2 : k ≤ st.stack.length := by have := HN.out; omega
 have HT := Lib.hid (Kd.R_take HH.out.stack hk2)
 rcases A with _ | ad
 ·have hnil := (C_none2 HC.out).1
  have h0 := HN.out
  rw [hnil] at h0
  obtain ⟨rfl, rfl⟩ : k = 0 ∧ m = 0 := by simp at h0; omega
  have HC2 := Lib.hid (show Kd.C (Kd.int .i64) w none 0 (st.stack.drop 0) from by have h := HC.out; rw [hnil] at h; rw [hnil]; exact h)
  clear hnil h0
  go_enter Tryz.func80, Tryz.ntmps80
  go_wp2_with fail
  refine (clInt_at _ _ _ (st.stack.drop 0) _ (by rw [List.length_drop]; have := HN.out; omega) HC2.out (by omega)).mono ?_
  rintro e w1 ⟨v, rfl, hv, hb⟩
  have HV := Lib.hid hv
  have HB := Lib.hid hb
  have c4' : w1.cell? ⟨g, 4, none⟩ = some (.slice none 0 c) := (HH.out.below hb).at_.2.2.2.2.1.trans (by rw [HN.out])
  have hf2 : w1.frozen? ⟨g, 4, none⟩ = false := blk_frozen (HH.out.below hb).blk 4
  clear hv hb c4
  go_wp2_with fail
  go_ret
  exact ⟨v, rfl, HF.out w1 v HV.out HB.out _ (Kd.R_below HT.out HB.out)⟩
 ·obtain ⟨b, rfl⟩ := Kd.R_head HH.out.stack
  have HC2 := Lib.hid (fun a (ha : k < st.stack.length → a = Addr.add ⟨b, 0, none⟩ k) => C_dropS HC.out k hk2 a ha)
  by_cases hk : c = k
  ·subst hk
   obtain rfl : m = 0 := by omega
   go_enter Tryz.func80, Tryz.ntmps80
   go_wp2_with fail
   refine (clInt_at _ _ _ (st.stack.drop c) _ (by rw [List.length_drop]; have := HN.out; omega) (by have h := HC2.out ⟨b, 0, none⟩ (by have := HN.out; omega); rw [show st.stack.length - c = 0 from by have := HN.out; omega] at h; exact h) (by omega)).mono ?_
   rintro e w1 ⟨v, rfl, hv, hb⟩
   have HV := Lib.hid hv
   have HB := Lib.hid hb
   have c4' : w1.cell? ⟨g, 4, none⟩ = some (.slice (some ⟨b, 0, none⟩) (c + 0) c) := (HH.out.below hb).at_.2.2.2.2.1.trans (by rw [HN.out])
   have hf2 : w1.frozen? ⟨g, 4, none⟩ = false := blk_frozen (HH.out.below hb).blk 4
   clear hv hb c4
   go_wp2_with fail
   go_ret
   exact ⟨v, rfl, HF.out w1 v HV.out HB.out _ (Kd.R_below HT.out HB.out)⟩
  ·go_enter Tryz.func80, Tryz.ntmps80
   go_wp2_with fail
   refine (clInt_at _ _ _ (st.stack.drop k) _ (by rw [List.length_drop]; have := HN.out; omega) (by have h := HC2.out ⟨b, k, none⟩ (by intro _; simp [Addr.add]); rw [show st.stack.length - k = m from by have := HN.out; omega] at h; exact h) (by omega)).mono ?_
   rintro e w1 ⟨v, rfl, hv, hb⟩
   have HV := Lib.hid hv
   have HB := Lib.hid hb
   have c4' : w1.cell? ⟨g, 4, none⟩ = some (.slice (some ⟨b, 0, none⟩) (k + m) c) := (HH.out.below hb).at_.2.2.2.2.1.trans (by rw [HN.out])
   have hf2 : w1.frozen? ⟨g, 4, none⟩ = false := blk_frozen (HH.out.below hb).blk 4
   clear hv hb c4
   go_wp2_with fail
   go_ret
   exact ⟨v, rfl, HF.out w1 v HV.out HB.out _ (Kd.R_below HT.out HB.out)⟩
/-- copy(v, s), of whole numbers, into a row of the call's own that is as long -/
theorem copy_ints {P : Program} {ops : Array Oper} {rest : List Oper} {o : Oper} {a : Act} {Q : Exit → Act → World → Prop} {w : World} (hgd : o.guard = none) (d s : Operand) (t e : TypeId)
  (ho : o.op = .call { callee := .builtin .copy, args := #[d, s], argTypes := #[t, t] }) (hu : P.underlying t = some (.slice e)) (hsz : (P.info? e).map (·.size) = some 1) {base : Nat} {ok : Nat → Prop}
  (v : Value) (xs : List Int) (hd : a.eval d = v) (A : Option Addr) (c : Nat) (ys : List Int) (hs : a.eval s = .slice A ys.length c) (hR : (Kd.int .i64).R e w base ok v xs) (hC : Kd.C (Kd.int .i64) w A ys.length ys) (hle : ys.length ≤ xs.length)
  (h : ∀ w', (Kd.int .i64).R e w' base ok v (ys ++ xs.drop ys.length) → w.grownBy w' v.ownBlock → wpList P ops Q rest (a.put o.dst (goInt ys.length)) w') : wpList P ops Q (o :: rest) a w := by
 obtain ⟨A', c', rfl⟩ := Kd.R_slice hR
 by_cases h0 : ys.length = 0
 ·obtain rfl : ys = [] := List.eq_nil_of_length_eq_zero h0
  refine wpList_copy_nothing hgd d s t t ho e hu hsz A' A xs.length c' _ _ hd hs (by simp) (h w (by simpa using hR) (World.grownBy.refl _ _))
 ·have hown := Kd.own_of_R (enc := Value.int .i64) (h1 := fun _ => rfl) hR
  obtain ⟨hl, hown⟩ := hown
  rcases hown with ⟨he, hn⟩ | ⟨g, cap, cur, he, hbg, hhp, hc1, hc2, hc3, hc4⟩
  ·omega
  ·injection he with he1 he2 he3
   subst he1 he3
   obtain ⟨_, _, h3⟩ := hC
   obtain ⟨ad, eA, hcell⟩ := h3 (by omega)
   subst eA
   have hsz1 : (Kd.int .i64).sz = 1 := rfl
   have hL3 : (ys ++ xs.drop ys.length).length = xs.length := by simp; omega
   have hlen : (encs (Value.int .i64) ys).length = ys.length := by simp [encs]
   refine wpList_copy_own hgd d s t t ho e hu hsz g 0 xs.length c' ad ys.length c hd hs cur e hhp (encs (Value.int .i64) ys) (by rw [hlen]; exact (Nat.min_eq_left hle).symm) (fun j u hj => ?_) (by rw [hlen]; omega) (fun u hu => ?_) ?_
   ·obtain ⟨y, hy, rfl⟩ : ∃ y, ys[j]? = some y ∧ Value.int .i64 y = u := by
     unfold encs at hj; rw [List.getElem?_map] at hj
     exact Option.map_eq_some_iff.1 hj
    obtain ⟨cs, q1, q2, q3⟩ := hcell j y hy
    have q2' : cs = [Value.int .i64 y] := q2
    have := q3 0 (.int .i64 y) (by rw [q2']; rfl)
    rwa [hsz1, Nat.mul_one, Nat.add_zero] at this
   ·unfold encs at hu; obtain ⟨y, _, rfl⟩ := List.mem_map.1 hu; rfl
   ·rw [hlen]
    refine h _ (Kd.R_of_own (enc := Value.int .i64) (h1 := fun _ => rfl) ⟨?_, .inr ⟨g, c', _, by rw [hL3], hbg, setRow_heap _ _ _ _ _ _ hhp, ?_, hc2, ?_, ?_⟩⟩ hR.1) ⟨rfl, rfl, rfl, by simp [World.setRow], fun k hk hne => setRow_other _ _ _ _ (fun e => hne (by rw [e]; rfl))⟩
    ·simp [encs]
    ·simp; omega
    ·simp [encs]; omega
    ·have hx : encs (Value.int .i64) xs = cur.toList.take (xs.length * 1) := hc4.symm
     have hd2 : encs (Value.int .i64) (xs.drop ys.length) = (cur.toList.take (xs.length * 1)).drop ys.length := by rw [← hx]; simp [encs]
     have e1 : encs (Value.int .i64) (ys ++ xs.drop ys.length) = encs (Value.int .i64) ys ++ (cur.toList.take (xs.length * 1)).drop ys.length := by rw [← hd2]; simp [encs]
     rw [e1]
     simp only [List.take_zero, List.nil_append, Nat.zero_add, List.toList_toArray]
     rw [List.take_append, List.take_of_length_le (by rw [hlen]; simp), hlen, List.drop_take]
     congr 2
     simp
/-- the frames have turned -/
theorem RUN.turnF {B mb fb g : Nat} {w w' : World} {f : Nat → Nat} {vS vF vK vA : Value} {st : SRun} (h : RUN B mb fb w g f vS vF vK vA st) (hB : B ≤ w.heap.size) {vF' : Value} {ys : List SFrm}
  (hos : w'.os = w.os) (hta : w'.tape = w.tape) (hou : w'.output = w.output) (hsz : w.heap.size ≤ w'.heap.size)
  (hk : ∀ k, k < w.heap.size → k ≠ g → f k ≠ 2 → w'.heap[k]? = w.heap[k]?) (hb : w'.heap[g]? = some (.cells ((st.cells mb vS vF vK vA).setIfInBounds 3 vF') 110 (0, 0)))
  (hF : Kd.S (kFrm fb) 141 w' B (fun k => retag w.heap.size 2 f k = 2) vF' ys) :
  RUN B mb fb w' g (retag w.heap.size 2 f) vS vF' vK vA { st with frames := ys } ∧ Stp g w f w' (retag w.heap.size 2 f) := by
 refine ⟨⟨hb, h.gB, (retag_lt (blk_lt h.blk)).trans h.fg, retag_B h.fB hB, S_over h.state (by decide) (by decide) h.fg hk, hF, R_over h.stack (by decide) (by decide) h.fg hk, S_over h.asks (by decide) (by decide) h.fg hk⟩,
  ⟨hos, hta, hou, hsz, fun k h1 h2 h3 => hk k h1 h2 (by omega), fun k hk => retag_lt hk⟩⟩
theorem add0 (b k : Nat) : (⟨b, 0, none⟩ : Addr).add k = ⟨b, k, none⟩ := by
 unfold Addr.add
 split
 ·rename_i h; subst h; rfl
 ·simp
theorem infoFrm : (Tryz.prog.info? 141).map (fun i => (i.zero, i.size, i.bytes)) = some (some (.agg #[.pointer none, .int .i64 0, .slice none 0 0, .int .i64 0]), 4, 48) := by kernel_rfl
theorem renter_any (B mb fb g : Nat) (w : World) (f : Nat → Nat) (vS vF vK vA : Value) (st : SRun) (x : SImage) (AG : Option Addr) (cG cF : Nat) (AS : Option Addr) (cS : Nat) (h : RUN B mb fb w g f vS vF vK vA st) (hM : MACH w mb fb x AG cG cF AS cS) (hB : B ≤ w.heap.size) (fi : Nat) (hfi : fi < x.fns.length) (hfl : x.fns.length ≤ 1000)
  (Aa : Option Addr) (ca : Nat) (args : List Int) (hA : Kd.C (Kd.int .i64) w Aa args.length args) (hal : args.length ≤ (x.fns.getD fi zFn).f3.length) (hll : (x.fns.getD fi zFn).f3.length ≤ 1000) (hfr : st.frames.length ≤ 1000) (hst : st.stack.length ≤ 1073741824) :
  Calls Tryz.prog 49 #[.pointer (some ⟨g, 0, none⟩), .int .i64 fi, .slice Aa args.length ca] w fun e w' => e = .returned (.tuple #[]) ∧ ∃ vF' f', RUN B mb fb w' g f' vS vF' vK vA { st with frames := st.frames ++ [⟨fi, 0, args ++ (List.replicate (x.fns.getD fi zFn).f3.length 0).drop args.length, st.stack.length⟩] } ∧ Stp g w f w' f' := by
 obtain ⟨c0, _, _, c3, c4, _⟩ := h.at_
 have hgl := blk_lt h.blk
 obtain ⟨AK, cK, hKe, hKl, _⟩ := Kd.R_reads h.stack
 subst hKe
 have d1 : w.cell? ⟨mb, 1, none⟩ = some (.slice (some ⟨fb, 0, none⟩) x.fns.length cF) := (blk_cell hM.blk 1).trans rfl
 obtain ⟨ad, B1, d1', B3, d3, B4, d4, hAd, h0, h1, h2, h3, h4, m1, g1, m3, g3, m4, g4⟩ := at_TFn hM.fns (fi : Int) (by omega) (by omega)
 injection hAd with hAd
 subst hAd
 have hrd : rd_TFn x.fns (fi : Int) = x.fns.getD fi zFn := rfl
 rw [hrd] at h3
 obtain ⟨n, hn⟩ : ∃ n, n = (x.fns.getD fi zFn).f3.length := ⟨_, rfl⟩
 rw [← hn] at h3 hal hll
 rw [← hn]
 simp only [Int.toNat_natCast, add0] at h3
 obtain ⟨fr, hfr'⟩ : ∃ fr : SFrm, fr = ⟨fi, 0, args ++ (List.replicate n 0).drop args.length, st.stack.length⟩ := ⟨_, rfl⟩
 rw [← hfr']
 have HFR := Lib.hid hfr'
 have HH := Lib.hid h
 have HAC := Lib.hid hA
 clear h0 h1 h2 h4 m1 g1 m3 g3 m4 g4 hrd hn h hM hA hfr'
 go_enter Tryz.func49, Tryz.ntmps49
 go_wp2_with (first
  | ((with_reducible refine gate_dst (N := 23) rfl ?_); refine Kd.R_make (Kd.int .i64) (w0 := w) (W := w) w.heap.size 3 rfl (N := 23) rfl 27 (.tmp 22) (.tmp 22) rfl (n : Int) rfl rfl Tryz.underlying27 (.int .i64 0) 8 infoInt rfl (by decide) (by decide) 0 (ok := fun _ => True) (okp := fun _ => False) rfl (fun _ h => h.elim) trivial (by omega) (by simp only [Int.toNat_natCast]; omega) (Below.refl _ _) (Nat.le_refl _) ?_; intro vL wL hvL hbL hgL hatL; have HVL := Lib.hid hvL; have HBL := Lib.hid hbL; clear hvL hbL hgL hatL)
  | ((with_reducible refine gate_dst (N := 26) rfl ?_); go_loud (refine copy_ints rfl (.tmp 24) (.tmp 25) 27 3 rfl Tryz.underlying27 (by kernel_rfl) vL (List.replicate n 0) rfl Aa ca args rfl HVL.out (Kd.C_below HAC.out HBL.out) (by simp; omega) ?_; intro wC hvC hgC; have HVC := Lib.hid hvC; have HGC := Lib.hid hgC; clear hvC hgC)))
 have hBC : Below w.heap.size w wC := HBL.out.grown HGC.out HBL.out.size (fun k hk => Kd.R_base HVL.out k hk)
 have HBC := Lib.hid hBC
 have HHC := Lib.hid (HH.out.below hBC)
 clear c0 c3 c4 d1 h3
 have c3 := HHC.out.at_.2.2.2.1
 have c4 := HHC.out.at_.2.2.2.2.1
 have hglC := blk_lt HHC.out.blk
 have HSZ := Lib.hid hBC.size
 clear hBC
 obtain ⟨loc, hloc⟩ : ∃ loc, loc = args ++ (List.replicate n 0).drop args.length := ⟨_, rfl⟩
 rw [← hloc] at HVC HFR
 obtain ⟨AL, cL, hLe⟩ := Kd.R_slice HVC.out
 subst hLe
 have HLO := Lib.hid hloc
 clear hloc
 have hown : ∀ k, some k = (Value.slice AL loc.length cL).ownBlock → w.heap.size ≤ k := fun k hk => Kd.R_base HVC.out k hk.symm
 have HM1 := Lib.hid (show (kFrm fb).M wC.drew B (fun k => some k = (Value.slice AL loc.length cL).ownBlock) fr [.pointer (some ⟨fb, fi * 5, none⟩), .int .i64 0, .slice AL loc.length cL, .int .i64 st.stack.length] from by
  have h := kFrm_mkM wC.drew fb B (fun k => some k = (Value.slice AL loc.length cL).ownBlock) fr (v := .slice AL loc.length cL) (by rw [HFR.out]; exact Kd.R_drew (Kd.R_tight rfl (Kd.R_lower HVC.out hB)))
  rw [HFR.out] at h
  rw [HFR.out]
  exact h)
 have HM2 := Lib.hid (show ∀ k, some k = (Value.slice AL loc.length cL).ownBlock → retag w.heap.size 2 f k = 2 ∧ some k ≠ vF.ownBlock from fun k hk => ⟨retag_ge (hown k hk), fun e => by have h1 := hown k hk; have h2 := Kd.S_lt HH.out.frames k e.symm; omega⟩)
 have HM3 := Lib.hid (show Kd.S (kFrm fb) 141 wC.drew B (fun k => retag w.heap.size 2 f k = 2 ∧ ¬ some k = (Value.slice AL loc.length cL).ownBlock) vF st.frames from
  Kd.S_drew (Kd.S_below (Kd.S_mono (Kd.S_bound HH.out.frames) (fun k hk => ⟨by rw [retag_lt hk.2.2.1]; exact hk.1, fun e => by have h1 := hown k e; have h2 := hk.2.2.1; omega⟩)) HBC.out))
 clear hown
 go_region_law ((refine Kd.S_append_step (kFrm fb) (w0 := wC.drew) (W := wC.drew) B (by rfl) _ _ 108 141 (.agg #[.pointer none, .int .i64 0, .slice none 0 0, .int .i64 0]) 48 rfl Tryz.underlying108 infoFrm rfl (show 0 < 4 by decide) (by decide) vF st.frames fr [.pointer (some ⟨fb, fi * 5, none⟩), .int .i64 0, .slice AL loc.length cL, .int .i64 st.stack.length] (fun k => retag w.heap.size 2 f k = 2) (fun k => some k = (Value.slice AL loc.length cL).ownBlock) rfl rfl HM1.out HM2.out (fun k hk => retag_ge (Nat.le_trans HSZ.out hk)) HM3.out (Below.refl _ _) (Nat.le_trans hB HSZ.out) (by omega) ?_; intro v1 w1 hv1 hb1 hg1 hat1; obtain ⟨A', c', rfl⟩ := Kd.S_slice hv1; have hbk := (hg1.block g hglC (S_notg HHC.out.frames (by decide) HH.out.fg)).trans HHC.out.blk; have c3' : w1.cell? ⟨g, 3, none⟩ = some vF := (blk_cell hbk 3).trans rfl; have hf2 : w1.frozen? ⟨g, 3, none⟩ = false := blk_frozen hbk 3; have HBK := Lib.hid hbk; have HV1 := Lib.hid hv1; have HG1 := Lib.hid hg1; clear hbk hv1 hb1 hg1 hat1))
 all_goals go_end0
 all_goals
  have hg1 := HG1.out
  obtain ⟨v1, hv1⟩ : ∃ v1, v1 = Value.slice A' (st.frames.length + 1) c' := ⟨_, rfl⟩
  have hR : Kd.S (kFrm fb) 141 w1 B (fun k => retag w.heap.size 2 f k = 2) v1 (st.frames ++ [fr]) := by
   have h := HV1.out
   rw [show (st.frames ++ [fr]).length = st.frames.length + 1 by simp] at h
   rw [hv1]; exact h
  rw [← hv1]
  clear hv1
  have hkk : ∀ k, k < w.heap.size → k ≠ g → f k ≠ 2 → (w1.setCell ⟨g, 3, none⟩ v1).heap[k]? = w.heap[k]? := fun k h1 h2 h3 => by
   rw [Below.heap_setCell _ _ _ k h2]
   exact (hg1.block k (Nat.lt_of_lt_of_le h1 HSZ.out) (fun e => h3 ((Kd.S_R HH.out.frames).1 k e.symm))).trans (HBC.out.block k h1)
  obtain ⟨r1, r2⟩ := HH.out.turnF (w' := w1.setCell ⟨g, 3, none⟩ v1) hB (vF' := v1) (ys := st.frames ++ [fr]) (hg1.os.trans HBC.out.os) (hg1.tape.trans HBC.out.tape) (hg1.output.trans HBC.out.output) (by have h1 := hg1.size; have h2 := HSZ.out; simp at h1 ⊢; omega) hkk (blk_set HBK.out 3 _)
   (Kd.S_step hR (fun k ho hlt => Below.heap_setCell _ _ _ k (fun e => by rw [e, retag_lt hgl, HH.out.fg] at ho; omega)))
  exact ⟨rfl, v1, _, r1, r2⟩
theorem cell_lt {w : World} {b o : Nat} {v : Value} (h : w.cell? ⟨b, o, none⟩ = some v) : b < w.heap.size := by
 rcases Nat.lt_or_ge b w.heap.size with h1 | h1
 ·exact h1
 ·have : w.heap[b]? = none := Array.getElem?_eq_none h1
  simp [World.cell?, this] at h
theorem cell_up {w w' : World} (hb : Below w.heap.size w w') {b o : Nat} {v : Value} (h : w.cell? ⟨b, o, none⟩ = some v) : w'.cell? ⟨b, o, none⟩ = some v := (hb.cell (p := ⟨b, o, none⟩) (cell_lt h)).trans h
theorem frozen_up {w w' : World} (hb : Below w.heap.size w w') {b o : Nat} {v : Value} (h : w.cell? ⟨b, o, none⟩ = some v) (hf : w.frozen? ⟨b, o, none⟩ = false) : w'.frozen? ⟨b, o, none⟩ = false := (hb.frozen (p := ⟨b, o, none⟩) (cell_lt h)).trans hf
/-! ### In place: the frames', the state's own blocks are written -/
theorem RUN.inF {B mb fb g : Nat} {w w' : World} {f : Nat → Nat} {vS vF vK vA : Value} {st : SRun} (h : RUN B mb fb w g f vS vF vK vA st) {LB : Nat} (hL : f LB = 2) (hg : w.grownBy w' (some LB)) {ys : List SFrm}
  (hF : Kd.S (kFrm fb) 141 w' B (fun k => f k = 2) vF ys) : RUN B mb fb w' g f vS vF vK vA { st with frames := ys } ∧ Stp g w f w' f := by
 have hk : ∀ k, k < w.heap.size → f k ≠ 2 → w'.heap[k]? = w.heap[k]? := fun k hlt hf => hg.block k hlt (fun e => hf (by injection e with e; rw [e]; exact hL))
 refine ⟨⟨(hk g (blk_lt h.blk) (by rw [h.fg]; decide)).trans h.blk, h.gB, h.fg, h.fB, ?_, hF, ?_, ?_⟩, ⟨hg.os, hg.tape, hg.output, hg.size, fun k hlt _ hf => hk k hlt (by omega), fun _ _ => rfl⟩⟩
 ·exact Kd.S_step h.state (fun k ho hlt => hk k hlt (by omega))
 ·exact Kd.R_step h.stack (fun k ho hlt => hk k hlt (by omega))
 ·exact Kd.S_step h.asks (fun k ho hlt => hk k hlt (by omega))
theorem RUN.inS {B mb fb g : Nat} {w w' : World} {f : Nat → Nat} {vS vF vK vA : Value} {st : SRun} (h : RUN B mb fb w g f vS vF vK vA st) {LB : Nat} (hL : f LB = 1) (hg : w.grownBy w' (some LB)) {ys : List (List Int)}
  (hS : Kd.S kInts 27 w' B (fun k => f k = 1) vS ys) : RUN B mb fb w' g f vS vF vK vA { st with state := ys } ∧ Stp g w f w' f := by
 have hk : ∀ k, k < w.heap.size → f k ≠ 1 → w'.heap[k]? = w.heap[k]? := fun k hlt hf => hg.block k hlt (fun e => hf (by injection e with e; rw [e]; exact hL))
 refine ⟨⟨(hk g (blk_lt h.blk) (by rw [h.fg]; decide)).trans h.blk, h.gB, h.fg, h.fB, hS, ?_, ?_, ?_⟩, ⟨hg.os, hg.tape, hg.output, hg.size, fun k hlt _ hf => hk k hlt (by omega), fun _ _ => rfl⟩⟩
 ·exact Kd.S_step h.frames (fun k ho hlt => hk k hlt (by omega))
 ·exact Kd.R_step h.stack (fun k ho hlt => hk k hlt (by omega))
 ·exact Kd.S_step h.asks (fun k ho hlt => hk k hlt (by omega))
def zFrm : SFrm := ⟨0, 0, [], 0⟩
/-- frame n: its cells; it may go on elsewhere; its variables may be written -/
theorem RUN.frame {B mb fb g : Nat} {w : World} {f : Nat → Nat} {vS vF vK vA : Value} {st : SRun} (h : RUN B mb fb w g f vS vF vK vA st) (n : Nat) (hn : n < st.frames.length) :
  ∃ FB cap AL cL, vF = .slice (some ⟨FB, 0, none⟩) st.frames.length cap ∧ st.frames.length ≤ cap ∧
   w.cell? ⟨FB, n * 4, none⟩ = some (.pointer (some ⟨fb, (st.frames.getD n zFrm).fi * 5, none⟩)) ∧ w.cell? ⟨FB, n * 4 + 1, none⟩ = some (.int .i64 (st.frames.getD n zFrm).at_) ∧
   w.cell? ⟨FB, n * 4 + 2, none⟩ = some (.slice AL (st.frames.getD n zFrm).loc.length cL) ∧ w.cell? ⟨FB, n * 4 + 3, none⟩ = some (.int .i64 (st.frames.getD n zFrm).base) ∧ w.frozen? ⟨FB, n * 4 + 1, none⟩ = false ∧
   (∀ a : Nat, RUN B mb fb (w.setCell ⟨FB, n * 4 + 1, none⟩ (.int .i64 a)) g f vS vF vK vA { st with frames := st.frames.set n { st.frames.getD n zFrm with at_ := a } } ∧ Stp g w f (w.setCell ⟨FB, n * 4 + 1, none⟩ (.int .i64 a)) f) ∧
   (∀ j, j < (st.frames.getD n zFrm).loc.length → ∃ LB, AL = some ⟨LB, 0, none⟩ ∧ f LB = 2 ∧ w.cell? ⟨LB, j, none⟩ = some (.int .i64 ((st.frames.getD n zFrm).loc.getD j 0)) ∧ w.frozen? ⟨LB, j, none⟩ = false ∧
    ∀ x : Int, RUN B mb fb (w.setCell ⟨LB, j, none⟩ (.int .i64 x)) g f vS vF vK vA { st with frames := st.frames.set n { st.frames.getD n zFrm with loc := (st.frames.getD n zFrm).loc.set j x } } ∧ Stp g w f (w.setCell ⟨LB, j, none⟩ (.int .i64 x)) f) := by
 obtain ⟨FB, cap, e, _⟩ := Kd.S_form h.frames (by omega)
 obtain ⟨A', c', e2, hl, _⟩ := Kd.S_reads h.frames
 rw [e] at e2
 injection e2 with _ _ e3
 subst e3
 have hF := h.frames
 rw [e] at hF
 obtain ⟨oki, c, hcl, hM, hcc, hfr, hoki, hH⟩ := Kd.S_elem hF zFrm (n : Int) (by omega) (by omega)
 simp only [Int.toNat_natCast] at hM hcc hfr
 have hsz : (kFrm fb).sz = 4 := rfl
 rw [hsz] at hcc hfr
 obtain ⟨fr, hfe⟩ : ∃ fr, fr = st.frames.getD n zFrm := ⟨_, rfl⟩
 rw [← hfe] at hM ⊢
 obtain ⟨v, hc, hR⟩ := kFrm_openM hM
 subst hc
 obtain ⟨AL, cL, rfl⟩ := Kd.R_slice hR
 have hLF : f FB = 2 := (Kd.S_R hF).1 FB rfl
 refine ⟨FB, cap, AL, cL, e, hl, by have := hcc 0 _ rfl; rwa [Nat.add_zero] at this, hcc 1 _ rfl, hcc 2 _ rfl, hcc 3 _ rfl, hfr 1, fun a => ?_, fun j hj => ?_⟩
 ·have hH2 : Kd.H (kFrm fb) 141 w B (fun k => f k = 2 ∧ ¬ False) (.slice (some ⟨FB, 0, none⟩) st.frames.length cap) st.frames (n : Int) oki [.pointer (some ⟨fb, fr.fi * 5, none⟩), .int .i64 fr.at_, .slice AL fr.loc.length cL, .int .i64 fr.base] := Kd.H_mono hH (fun k hk => ⟨hk, fun h => h⟩)
  have h2 := Kd.S_seg (okg := fun _ => False) (seg := [.int .i64 a]) (j := 1) hH2 (by omega) (by omega) (by rw [hsz]; show 1 + 1 ≤ 4; decide) (x' := { fr with at_ := a }) (okp := oki) (kFrm_mkM w fb B oki { fr with at_ := a } hR) (fun k hk => .inl hk) (fun k hk => hk.elim)
  rw [Int.toNat_natCast, hsz] at h2
  have h3 : w.setCells FB (n * 4 + 1) [.int .i64 a] = w.setCell ⟨FB, n * 4 + 1, none⟩ (.int .i64 a) := rfl
  rw [h3] at h2
  exact h.inF hLF h2.2 (by rw [e]; exact h2.1)
 ·obtain ⟨LB, cap', e4, _⟩ := Kd.R_form hR (by omega)
  injection e4 with e5 _ e6
  subst e5 e6
  have hLB : oki LB := hR.1 LB rfl
  have hLf : f LB = 2 := (hoki LB hLB).1
  have hcell := Kd.R_cell (enc := Value.int .i64) (h1 := fun _ => rfl) 0 hR (j : Int) (by omega) (by omega)
  refine ⟨LB, rfl, hLf, by simpa [rdOf] using hcell.1, by simpa using hcell.2, fun x => ?_⟩
  obtain ⟨p1, p2⟩ := Kd.R_put (enc := Value.int .i64) (h1 := fun _ => rfl) hR (j : Int) x
  simp only [Int.toNat_natCast] at p1 p2
  have hM1 := kFrm_mkM (w.setCell ⟨LB, j, none⟩ (.int .i64 x)) fb B oki { fr with loc := fr.loc.set j x } p1
  have hS := Kd.H_back (Kd.H_grown hH p2 (fun k hk => by injection hk with hk; rw [← hk]; exact hLB)) (x' := { fr with loc := fr.loc.set j x }) (okp := oki) (by simpa using hM1) (fun _ hk => hk)
  rw [Int.toNat_natCast] at hS
  exact h.inF hLf p2 (by rw [e]; exact hS)
/-- variable i of the state: its cells; they may be written -/
theorem RUN.var {B mb fb g : Nat} {w : World} {f : Nat → Nat} {vS vF vK vA : Value} {st : SRun} (h : RUN B mb fb w g f vS vF vK vA st) (i : Nat) (hi : i < st.state.length) :
  ∃ SB cap AL cL, vS = .slice (some ⟨SB, 0, none⟩) st.state.length cap ∧ w.cell? ⟨SB, i, none⟩ = some (.slice AL (st.state.getD i []).length cL) ∧
   (∀ j, j < (st.state.getD i []).length → ∃ LB, AL = some ⟨LB, 0, none⟩ ∧ f LB = 1 ∧ w.cell? ⟨LB, j, none⟩ = some (.int .i64 ((st.state.getD i []).getD j 0)) ∧ w.frozen? ⟨LB, j, none⟩ = false ∧
    ∀ x : Int, RUN B mb fb (w.setCell ⟨LB, j, none⟩ (.int .i64 x)) g f vS vF vK vA { st with state := st.state.set i ((st.state.getD i []).set j x) } ∧ Stp g w f (w.setCell ⟨LB, j, none⟩ (.int .i64 x)) f) := by
 obtain ⟨SB, cap, e, _⟩ := Kd.S_form h.state (by omega)
 have hF := h.state
 rw [e] at hF
 obtain ⟨oki, c, hcl, hM, hcc, hfr, hoki, hH⟩ := Kd.S_elem hF [] (i : Int) (by omega) (by omega)
 simp only [Int.toNat_natCast] at hM hcc hfr
 have hsz : kInts.sz = 1 := rfl
 rw [hsz] at hcc hfr
 obtain ⟨row, hre⟩ : ∃ row, row = st.state.getD i [] := ⟨_, rfl⟩
 rw [← hre] at hM ⊢
 obtain ⟨v, hc, hR⟩ := hM
 subst hc
 obtain ⟨AL, cL, rfl⟩ := Kd.R_slice hR
 refine ⟨SB, cap, AL, cL, e, by have := hcc 0 _ rfl; rwa [Nat.add_zero, Nat.mul_one] at this, fun j hj => ?_⟩
 obtain ⟨LB, cap', e4, _⟩ := Kd.R_form hR (by omega)
 injection e4 with e5 _ e6
 subst e5 e6
 have hLB : oki LB := hR.1 LB rfl
 have hLf : f LB = 1 := (hoki LB hLB).1
 have hcell := Kd.R_cell (enc := Value.int .i64) (h1 := fun _ => rfl) 0 hR (j : Int) (by omega) (by omega)
 refine ⟨LB, rfl, hLf, by simpa [rdOf] using hcell.1, by simpa using hcell.2, fun x => ?_⟩
 obtain ⟨p1, p2⟩ := Kd.R_put (enc := Value.int .i64) (h1 := fun _ => rfl) hR (j : Int) x
 simp only [Int.toNat_natCast] at p1 p2
 have hM1 : kInts.M (w.setCell ⟨LB, j, none⟩ (.int .i64 x)) B oki (row.set j x) [.slice (some ⟨LB, 0, none⟩) row.length cL] := ⟨_, rfl, p1⟩
 have hS := Kd.H_back (Kd.H_grown hH p2 (fun k hk => by injection hk with hk; rw [← hk]; exact hLB)) (x' := row.set j x) (okp := oki) hM1 (fun _ hk => hk)
 rw [Int.toNat_natCast] at hS
 exact h.inS hLf p2 (by rw [e]; exact hS)
attribute [local go_sem] max2_int min2_int max_two min_two max_three min_three max_four min_four
/-! ### bits_Mul64: function 159 -/
def bits_Mul64.f (a0 : Int) (a1 : Int) : Option (Int × Int) := some (IntKind.u64.wrap ((IntKind.u64.wrap ((IntKind.u64.wrap ((a0 / 4294967296) * (a1 / 4294967296))) + ((IntKind.u64.wrap ((IntKind.u64.wrap ((a0 / 4294967296) * (Go.bits .and .u64 a1 4294967295))) + ((IntKind.u64.wrap ((Go.bits .and .u64 a0 4294967295) * (Go.bits .and .u64 a1 4294967295))) / 4294967296))) / 4294967296))) + ((IntKind.u64.wrap ((Go.bits .and .u64 (IntKind.u64.wrap ((IntKind.u64.wrap ((a0 / 4294967296) * (Go.bits .and .u64 a1 4294967295))) + ((IntKind.u64.wrap ((Go.bits .and .u64 a0 4294967295) * (Go.bits .and .u64 a1 4294967295))) / 4294967296))) 4294967295) + (IntKind.u64.wrap ((Go.bits .and .u64 a0 4294967295) * (a1 / 4294967296))))) / 4294967296)), IntKind.u64.wrap (a0 * a1))
set_option maxHeartbeats 8000000 in
set_option maxRecDepth 100000 in
theorem bits_Mul64.calls (a0 : Int) (a1 : Int) (r1 : Int) (r2 : Int) (w : World) (h : bits_Mul64.f a0 a1 = some (r1, r2)) :
  Calls Tryz.prog 159 #[.int .u64 a0, .int .u64 a1] w fun e w' => e = .returned (.tuple #[.int .u64 r1, .int .u64 r2]) ∧ Drawn0 w w' := by
 have H : (some (IntKind.u64.wrap ((IntKind.u64.wrap ((IntKind.u64.wrap ((a0 / 4294967296) * (a1 / 4294967296))) + ((IntKind.u64.wrap ((IntKind.u64.wrap ((a0 / 4294967296) * (Go.bits .and .u64 a1 4294967295))) + ((IntKind.u64.wrap ((Go.bits .and .u64 a0 4294967295) * (Go.bits .and .u64 a1 4294967295))) / 4294967296))) / 4294967296))) + ((IntKind.u64.wrap ((Go.bits .and .u64 (IntKind.u64.wrap ((IntKind.u64.wrap ((a0 / 4294967296) * (Go.bits .and .u64 a1 4294967295))) + ((IntKind.u64.wrap ((Go.bits .and .u64 a0 4294967295) * (Go.bits .and .u64 a1 4294967295))) / 4294967296))) 4294967295) + (IntKind.u64.wrap ((Go.bits .and .u64 a0 4294967295) * (a1 / 4294967296))))) / 4294967296)), IntKind.u64.wrap (a0 * a1))) = some (r1, r2) := h
 clear h
 simp only [Option.some.injEq, Prod.mk.injEq] at H
 obtain ⟨rfl, rfl⟩ := H
 go_enter Tryz.func159, Tryz.ntmps159
 go_wp2
 go_ret2
 exact ⟨by first | rfl | (simp; done) | (simp [*]; done), by repeat (first | exact Drawn0.refl _ | apply Drawn0.step)⟩
/-! ### bits_Mul: function 195 -/
/-! ### vm_size: function 45 -/
def vm_size.f (a0_0 : Int) (a0_1 : Int) (a0_2 : Int) : Option (Int) := some (mx 1 a0_1)
set_option maxHeartbeats 8000000 in
set_option maxRecDepth 100000 in
theorem vm_size.calls (a0_0 : Int) (a0_1 : Int) (a0_2 : Int) (r : Int) (w : World) (h : vm_size.f a0_0 a0_1 a0_2 = some r) :
  Calls Tryz.prog 45 #[.agg #[.int .i64 a0_0, .int .i64 a0_1, .int .i64 a0_2]] w fun e w' => e = .returned (.int .i64 r) ∧ Below w.heap.size w w' := by
 have hu88 := Tryz.underlying88
 have HB := Aside0.mk (Below.refl w.heap.size w)
 have H : (some (mx 1 a0_1)) = some r := h
 clear h
 obtain ⟨ji2, hji2⟩ : ∃ j_ : Int, (mx 1 a0_1) = j_ := ⟨_, rfl⟩
 replace H : (some ji2) = some r := by first | (rw [hji2] at H; exact H) | (simp only [hji2] at H ⊢; exact H)
 (try (have hji2l : 1 ≤ ji2 := by (rw [← hji2]; unfold mx; (repeat' split) <;> omega)))
 (try (have hji2m : 0 ≤ ji2 := by omega))
 have hji2_ : (if 1 < a0_1 then a0_1 else 1) = ji2 := hji2
 obtain rfl := Option.some.inj H
 go_enter Tryz.func45, Tryz.ntmps45
 go_wp2_with (first | ((with_reducible refine gate_dst (N := 1) rfl ?_); refine box_event ?hg (N := 1) ?hd (cs := #[.int .i64 a0_0, .int .i64 a0_1, .int .i64 a0_2]) (t := 88) ?hr ?_; (case hd => rfl); (case hg => rfl); (case hr => first | (go_simp; done) | (go_simp; rfl)); intro gb180 hg w3 hbox hb; have n0_ := Aside0.mk (below_step (by repeat (first | (with_reducible first | exact HB.out | apply below_alloc | apply pw_below_drewN | apply below_drew1) | exact HB.out)) hb); have n1_ := Aside0.mk (hbox); have n2_ := Aside0.mk ((by rw [hg]; exact (below_size (by repeat (first | (with_reducible first | exact HB.out | apply below_alloc | apply pw_below_drewN | apply below_drew1) | exact HB.out))) : w.heap.size ≤ gb180)); have n3_ := Aside0.mk ((by rw [hg]; exact (below_size (by repeat (first | (with_reducible first | exact HB.out | apply below_alloc | apply pw_below_drewN | apply below_drew1) | exact HB.out))) : w.heap.size ≤ gb180)); clear HB; have HB := n0_; have BK180 := n1_; have GW180 := n2_; have GE180 := n3_; clear n0_ n1_ n2_ n3_; clear hb hbox hg; have hcz4_0 : w3.cell? ⟨gb180, 0, none⟩ = some (.int .i64 a0_0) := (blk_cell BK180.out 0).trans rfl; have hcz4_1 : w3.cell? ⟨gb180, 1, none⟩ = some (.int .i64 a0_1) := (blk_cell BK180.out 1).trans rfl; have hcz4_2 : w3.cell? ⟨gb180, 2, none⟩ = some (.int .i64 a0_2) := (blk_cell BK180.out 2).trans rfl; have hfz4_0 := blk_frozen BK180.out 0; have hfz4_1 := blk_frozen BK180.out 1; have hfz4_2 := blk_frozen BK180.out 2))
 go_ret
 exact ⟨by first | rfl | (simp [errW_none, errW_some] <;> rfl) | (simp only [← hji2]; first | rfl | (simp [errW_none, errW_some] <;> rfl)) | (simp [*, errW_none, errW_some] <;> rfl), by repeat (first | (with_reducible first | exact HB.out | apply below_alloc | apply pw_below_drewN | apply below_drew1 | refine below_set ?_ GE180.out) | exact HB.out)⟩
/-! ### fix_end: function 156 -/
def fix_end.f (a0 : Bool) : Option (Int) := if a0 = true then (some (-9223372036854775808)) else (some 9223372036854775807)
set_option maxHeartbeats 8000000 in
set_option maxRecDepth 100000 in
theorem fix_end.calls (a0 : Bool) (r : Int) (w : World) (h : fix_end.f a0 = some r) :
  Calls Tryz.prog 156 #[.bool a0] w fun e w' => e = .returned (.int .i64 r) ∧ Drawn0 w w' := by
 have H : (if a0 = true then (some (-9223372036854775808)) else (some 9223372036854775807)) = some r := h
 clear h
 by_cases c2 : a0 = true
 ·subst c2
  have H1 : (some (-9223372036854775808)) = some r := by rw [if_pos rfl] at H; exact H
  clear H
  have H := H1
  clear H1
  obtain rfl := Option.some.inj H
  go_enter Tryz.func156, Tryz.ntmps156
  go_wp2
  go_ret
  exact ⟨by first | rfl | (simp; done) | (simp [*]; done), by repeat (first | exact Drawn0.refl _ | apply Drawn0.step)⟩
 ·replace c2 := Bool.eq_false_iff.mpr c2
  subst c2
  have H1 : (some 9223372036854775807) = some r := by rw [if_neg (show ¬ (false = true) by decide)] at H; exact H
  clear H
  have H := H1
  clear H1
  obtain rfl := Option.some.inj H
  go_enter Tryz.func156, Tryz.ntmps156
  go_wp2
  go_ret
  exact ⟨by first | rfl | (simp; done) | (simp [*]; done), by repeat (first | exact Drawn0.refl _ | apply Drawn0.step)⟩
/-! ### fix_Sub: function 107 -/
def fix_Sub.f (a0 : Int) (a1 : Int) : Option (Int) := if ((decide (a0 < 0)) != (decide (a1 < 0))) = true then (if ((decide ((wrap64 (a0 - a1)) < 0)) != (decide (a0 < 0))) = true then ((fix_end.f (decide (a0 < 0))).bind fun t187 => (some t187)) else (some (wrap64 (a0 - a1)))) else (some (wrap64 (a0 - a1)))
set_option maxHeartbeats 8000000 in
set_option maxRecDepth 100000 in
theorem fix_Sub.calls (a0 : Int) (a1 : Int) (r : Int) (w : World) (h : fix_Sub.f a0 a1 = some r) :
  Calls Tryz.prog 107 #[.int .i64 a0, .int .i64 a1] w fun e w' => e = .returned (.int .i64 r) ∧ Drawn0 w w' := by
 have H : (if ((decide (a0 < 0)) != (decide (a1 < 0))) = true then (if ((decide ((wrap64 (a0 - a1)) < 0)) != (decide (a0 < 0))) = true then ((fix_end.f (decide (a0 < 0))).bind fun t187 => (some t187)) else (some (wrap64 (a0 - a1)))) else (some (wrap64 (a0 - a1)))) = some r := h
 clear h
 by_cases c3 : ((decide (a0 < 0)) != (decide (a1 < 0))) = true
 ·rw [if_pos c3] at H
  have c3b0 : ((decide (a0 < 0)) != (decide (a1 < 0))) = true := c3
  (try (have c3b1 : decide ((decide (a0 < 0)) = (decide (a1 < 0))) = false := by simpa using c3))
  (try (have c3b2 : ((decide (a0 < 0)) == (decide (a1 < 0))) = false := by simpa using c3))
  (try (have c3b3 : ¬ ((decide (a0 < 0)) = (decide (a1 < 0))) := by simpa using c3))
  clear c3
  by_cases c4 : ((decide ((wrap64 (a0 - a1)) < 0)) != (decide (a0 < 0))) = true
  ·rw [if_pos c4] at H
   have c4b0 : ((decide ((wrap64 (a0 - a1)) < 0)) != (decide (a0 < 0))) = true := c4
   (try (have c4b1 : decide ((decide ((wrap64 (a0 - a1)) < 0)) = (decide (a0 < 0))) = false := by simpa using c4))
   (try (have c4b2 : ((decide ((wrap64 (a0 - a1)) < 0)) == (decide (a0 < 0))) = false := by simpa using c4))
   (try (have c4b3 : ¬ ((decide ((wrap64 (a0 - a1)) < 0)) = (decide (a0 < 0))) := by simpa using c4))
   clear c4
   replace H := Option.bind_eq_some_iff.mp H
   obtain ⟨t187, A50, H⟩ := H
   replace H : (some t187) = some r := H
   have A5 := Aside0.mk A50
   clear A50
   obtain rfl := Option.some.inj H
   go_enter Tryz.func107, Tryz.ntmps107
   go_wp2_with (first | ((with_reducible refine gate_callee (f := 156) rfl ?_); refine goesL_ (some 23) rfl rfl Tryz.func156 (by kernel_rfl) rfl #[.bool (decide (a0 < 0))] rfl (by (try simp only [List.map_toArray, List.map_cons, List.map_nil]); first | done | rfl | (simp only [List.length_drop, List.length_take]; rfl)) ?_; (with_reducible refine (fix_end.calls (decide (a0 < 0)) t187 _ A5.out).mono ?_); rintro e w' ⟨rfl, ⟨nd, rfl⟩⟩; refine ⟨_, rfl, ?_⟩))
   go_ret
   exact ⟨by first | rfl | (simp; done) | (simp [*]; done), by repeat (first | exact Drawn0.refl _ | apply Drawn0.step)⟩
  ·rw [if_neg c4] at H
   have c4b0 : ((decide ((wrap64 (a0 - a1)) < 0)) != (decide (a0 < 0))) = false := by simpa using c4
   (try (have c4b1 : decide ((decide ((wrap64 (a0 - a1)) < 0)) = (decide (a0 < 0))) = true := by simpa using c4))
   (try (have c4b2 : ((decide ((wrap64 (a0 - a1)) < 0)) == (decide (a0 < 0))) = true := by simpa using c4))
   clear c4
   obtain rfl := Option.some.inj H
   go_enter Tryz.func107, Tryz.ntmps107
   go_wp2
   go_ret
   exact ⟨by first | rfl | (simp; done) | (simp [*]; done), by repeat (first | exact Drawn0.refl _ | apply Drawn0.step)⟩
 ·rw [if_neg c3] at H
  have c3b0 : ((decide (a0 < 0)) != (decide (a1 < 0))) = false := by simpa using c3
  (try (have c3b1 : decide ((decide (a0 < 0)) = (decide (a1 < 0))) = true := by simpa using c3))
  (try (have c3b2 : ((decide (a0 < 0)) == (decide (a1 < 0))) = true := by simpa using c3))
  clear c3
  obtain rfl := Option.some.inj H
  go_enter Tryz.func107, Tryz.ntmps107
  go_wp2
  go_ret
  exact ⟨by first | rfl | (simp; done) | (simp [*]; done), by repeat (first | exact Drawn0.refl _ | apply Drawn0.step)⟩
/-! ### fix_size: function 157 -/
def fix_size.f (a0 : Int) : Option (Int) := if a0 < 0 then (some (IntKind.u64.wrap (-(IntKind.u64.wrap (a0))))) else (some (IntKind.u64.wrap (a0)))
set_option maxHeartbeats 8000000 in
set_option maxRecDepth 100000 in
theorem fix_size.calls (a0 : Int) (r : Int) (w : World) (h : fix_size.f a0 = some r) :
  Calls Tryz.prog 157 #[.int .i64 a0] w fun e w' => e = .returned (.int .u64 r) ∧ Drawn0 w w' := by
 have H : (if a0 < 0 then (some (IntKind.u64.wrap (-(IntKind.u64.wrap (a0))))) else (some (IntKind.u64.wrap (a0)))) = some r := h
 clear h
 by_cases c2 : a0 < 0
 ·rw [if_pos c2] at H
  have c2b0 : decide (a0 < 0) = true := decide_eq_true c2
  clear c2
  obtain rfl := Option.some.inj H
  go_enter Tryz.func157, Tryz.ntmps157
  go_wp2
  go_ret
  exact ⟨by first | rfl | (simp; done) | (simp [*]; done), by repeat (first | exact Drawn0.refl _ | apply Drawn0.step)⟩
 ·rw [if_neg c2] at H
  have c2b0 : decide (a0 < 0) = false := decide_eq_false c2
  clear c2
  obtain rfl := Option.some.inj H
  go_enter Tryz.func157, Tryz.ntmps157
  go_wp2
  go_ret
  exact ⟨by first | rfl | (simp; done) | (simp [*]; done), by repeat (first | exact Drawn0.refl _ | apply Drawn0.step)⟩
/-! ### fix_signed: function 158 -/
def fix_signed.j0 : Nat → Int → Bool → Bool → Option (Int)
 | 0, _, _, _ => none
 | k + 1, x1, x2, x7 => if x7 = true then (if x2 = true then (some (-9223372036854775808)) else (some 9223372036854775807)) else (if x2 = true then (some (wrap64 (-(wrap64 (x1))))) else (some (wrap64 (x1))))
def fix_signed.f (k : Nat) (a0 : Int) (a1 : Int) (a2 : Bool) : Option (Int) := if a0 > 0 then (fix_signed.j0 k a1 a2 true) else (fix_signed.j0 k a1 a2 (decide (a1 > 9223372036854775807)))
set_option maxHeartbeats 8000000 in
set_option maxRecDepth 100000 in
theorem fix_signed.calls (k : Nat) (a0 : Int) (a1 : Int) (a2 : Bool) (r : Int) (w : World) (h : fix_signed.f k a0 a1 a2 = some r) :
  Calls Tryz.prog 158 #[.int .u64 a0, .int .u64 a1, .bool a2] w fun e w' => e = .returned (.int .i64 r) ∧ Drawn0 w w' := by
 have H : (if a0 > 0 then (fix_signed.j0 k a1 a2 true) else (fix_signed.j0 k a1 a2 (decide (a1 > 9223372036854775807)))) = some r := h
 clear h
 have HC4 := Aside0.mk H
 clear H
 go_enter Tryz.func158, Tryz.ntmps158
 go_upto_region 1 with (fail)
 go_cut [7] (fun v7 wc => ∃ (kq : Nat) (x7_3 : Bool), v7 = .bool x7_3 ∧ Aside0 (fix_signed.j0 kq a1 a2 x7_3 = some r) ∧ Aside0 (kq ≤ k) ∧ Drawn0 w wc)
 case first =>
  have H := HC4.out
  clear HC4
  by_cases c5 : a0 > 0
  ·rw [if_pos c5] at H
   have c5b0 : decide (0 < a0) = true := decide_eq_true c5
   clear c5
   (first | rw [c5b0] | (simp only [i64_w, i32_w]; rw [c5b0]) | skip)
   have H' := Aside0.mk H
   clear H
   go_wp2
   go_meet
   case rel => exact ⟨_, (true), (by first | rfl | (simp; done) | (simp [*]; done)), H', ⟨by first | omega | exact Nat.le_refl _⟩, by repeat (first | exact Drawn0.refl _ | apply Drawn0.step)⟩
  ·rw [if_neg c5] at H
   have c5b0 : decide (0 < a0) = false := decide_eq_false c5
   clear c5
   (first | rw [c5b0] | (simp only [i64_w, i32_w]; rw [c5b0]) | skip)
   have H' := Aside0.mk H
   clear H
   go_wp2
   go_meet
   case rel => exact ⟨_, (decide (a1 > 9223372036854775807)), (by first | rfl | (simp; done) | (simp [*]; done)), H', ⟨by first | omega | exact Nat.le_refl _⟩, by repeat (first | exact Drawn0.refl _ | apply Drawn0.step)⟩
 case rest =>
  clear HC4
  try clear c1
  try clear p2
  try clear c5
  try clear c5b0
  obtain ⟨kq, x7_3, rfl, HA, HJ3, ⟨mc3, rfl⟩⟩ := hcut
  cases kq with
  | zero => exact absurd HA.out (by simp [fix_signed.j0])
  | succ kj3 =>
   have H := HA.out
   clear HA
   simp only [fix_signed.j0] at H
   by_cases c6 : x7_3 = true
   ·subst c6
    have H1 : (if a2 = true then (some (-9223372036854775808)) else (some 9223372036854775807)) = some r := by rw [if_pos rfl] at H; exact H
    clear H
    have H := H1
    clear H1
    by_cases c7 : a2 = true
    ·subst c7
     have H1 : (some (-9223372036854775808)) = some r := by rw [if_pos rfl] at H; exact H
     clear H
     have H := H1
     clear H1
     obtain rfl := Option.some.inj H
     go_wp2
     go_ret
     exact ⟨by first | rfl | (simp; done) | (simp [*]; done), by repeat (first | exact Drawn0.refl _ | apply Drawn0.step)⟩
    ·replace c7 := Bool.eq_false_iff.mpr c7
     subst c7
     have H1 : (some 9223372036854775807) = some r := by rw [if_neg (show ¬ (false = true) by decide)] at H; exact H
     clear H
     have H := H1
     clear H1
     obtain rfl := Option.some.inj H
     go_wp2
     go_ret
     exact ⟨by first | rfl | (simp; done) | (simp [*]; done), by repeat (first | exact Drawn0.refl _ | apply Drawn0.step)⟩
   ·replace c6 := Bool.eq_false_iff.mpr c6
    subst c6
    have H1 : (if a2 = true then (some (wrap64 (-(wrap64 (a1))))) else (some (wrap64 (a1)))) = some r := by rw [if_neg (show ¬ (false = true) by decide)] at H; exact H
    clear H
    have H := H1
    clear H1
    by_cases c8 : a2 = true
    ·subst c8
     have H1 : (some (wrap64 (-(wrap64 (a1))))) = some r := by rw [if_pos rfl] at H; exact H
     clear H
     have H := H1
     clear H1
     obtain rfl := Option.some.inj H
     go_wp2
     go_ret
     exact ⟨by first | rfl | (simp; done) | (simp [*]; done), by repeat (first | exact Drawn0.refl _ | apply Drawn0.step)⟩
    ·replace c8 := Bool.eq_false_iff.mpr c8
     subst c8
     have H1 : (some (wrap64 (a1))) = some r := by rw [if_neg (show ¬ (false = true) by decide)] at H; exact H
     clear H
     have H := H1
     clear H1
     obtain rfl := Option.some.inj H
     go_wp2
     go_ret
     exact ⟨by first | rfl | (simp; done) | (simp [*]; done), by repeat (first | exact Drawn0.refl _ | apply Drawn0.step)⟩
/-! ### fix_From: function 108 -/
def fix_From.f (k : Nat) (a0 : Int) : Option (Int) := (fix_size.f a0).bind fun t188 => ((fix_signed.f k (t188 / 4294967296) (IntKind.u64.wrap (t188 * 4294967296)) (decide (a0 < 0))).bind fun t189 => (some t189))
set_option maxHeartbeats 8000000 in
set_option maxRecDepth 100000 in
theorem fix_From.calls (k : Nat) (a0 : Int) (r : Int) (w : World) (h : fix_From.f k a0 = some r) :
  Calls Tryz.prog 108 #[.int .i64 a0] w fun e w' => e = .returned (.int .i64 r) ∧ Drawn0 w w' := by
 have H : ((fix_size.f a0).bind fun t188 => ((fix_signed.f k (t188 / 4294967296) (IntKind.u64.wrap (t188 * 4294967296)) (decide (a0 < 0))).bind fun t189 => (some t189))) = some r := h
 clear h
 replace H := Option.bind_eq_some_iff.mp H
 obtain ⟨t188, A20, H⟩ := H
 replace H : ((fix_signed.f k (t188 / 4294967296) (IntKind.u64.wrap (t188 * 4294967296)) (decide (a0 < 0))).bind fun t189 => (some t189)) = some r := H
 have A2 := Aside0.mk A20
 clear A20
 replace H := Option.bind_eq_some_iff.mp H
 obtain ⟨t189, A30, H⟩ := H
 replace H : (some t189) = some r := H
 have A3 := Aside0.mk A30
 clear A30
 obtain rfl := Option.some.inj H
 go_enter Tryz.func108, Tryz.ntmps108
 go_wp2_with (first | ((with_reducible refine gate_callee (f := 157) rfl ?_); refine goesL_ (some 5) rfl rfl Tryz.func157 (by kernel_rfl) rfl #[.int .i64 a0] rfl (by (try simp only [List.map_toArray, List.map_cons, List.map_nil]); first | done | rfl | (simp only [List.length_drop, List.length_take]; rfl)) ?_; (with_reducible refine (fix_size.calls a0 t188 _ A2.out).mono ?_); rintro e w' ⟨rfl, ⟨nd, rfl⟩⟩; refine ⟨_, rfl, ?_⟩) | ((with_reducible refine gate_callee (f := 158) rfl ?_); refine goesL_ (some 12) rfl rfl Tryz.func158 (by kernel_rfl) rfl #[.int .u64 (t188 / 4294967296), .int .u64 (IntKind.u64.wrap (t188 * 4294967296)), .bool (decide (a0 < 0))] rfl (by (try simp only [List.map_toArray, List.map_cons, List.map_nil]); first | done | rfl | (simp only [List.length_drop, List.length_take]; rfl)) ?_; (with_reducible refine (fix_signed.calls k (t188 / 4294967296) (IntKind.u64.wrap (t188 * 4294967296)) (decide (a0 < 0)) t189 _ A3.out).mono ?_); rintro e w' ⟨rfl, ⟨nd, rfl⟩⟩; refine ⟨_, rfl, ?_⟩))
 go_ret
 exact ⟨by first | rfl | (simp; done) | (simp [*]; done), by repeat (first | exact Drawn0.refl _ | apply Drawn0.step)⟩
/-! ### fix_To: function 109 -/
def fix_To.f (k : Nat) (a0 : Int) : Option (Int) := (fix_size.f a0).bind fun t190 => ((fix_signed.f k 0 (t190 / 4294967296) (decide (a0 < 0))).bind fun t191 => (some t191))
set_option maxHeartbeats 8000000 in
set_option maxRecDepth 100000 in
theorem fix_To.calls (k : Nat) (a0 : Int) (r : Int) (w : World) (h : fix_To.f k a0 = some r) :
  Calls Tryz.prog 109 #[.int .i64 a0] w fun e w' => e = .returned (.int .i64 r) ∧ Drawn0 w w' := by
 have H : ((fix_size.f a0).bind fun t190 => ((fix_signed.f k 0 (t190 / 4294967296) (decide (a0 < 0))).bind fun t191 => (some t191))) = some r := h
 clear h
 replace H := Option.bind_eq_some_iff.mp H
 obtain ⟨t190, A20, H⟩ := H
 replace H : ((fix_signed.f k 0 (t190 / 4294967296) (decide (a0 < 0))).bind fun t191 => (some t191)) = some r := H
 have A2 := Aside0.mk A20
 clear A20
 replace H := Option.bind_eq_some_iff.mp H
 obtain ⟨t191, A30, H⟩ := H
 replace H : (some t191) = some r := H
 have A3 := Aside0.mk A30
 clear A30
 obtain rfl := Option.some.inj H
 go_enter Tryz.func109, Tryz.ntmps109
 go_wp2_with (first | ((with_reducible refine gate_callee (f := 157) rfl ?_); refine goesL_ (some 4) rfl rfl Tryz.func157 (by kernel_rfl) rfl #[.int .i64 a0] rfl (by (try simp only [List.map_toArray, List.map_cons, List.map_nil]); first | done | rfl | (simp only [List.length_drop, List.length_take]; rfl)) ?_; (with_reducible refine (fix_size.calls a0 t190 _ A2.out).mono ?_); rintro e w' ⟨rfl, ⟨nd, rfl⟩⟩; refine ⟨_, rfl, ?_⟩) | ((with_reducible refine gate_callee (f := 158) rfl ?_); refine goesL_ (some 8) rfl rfl Tryz.func158 (by kernel_rfl) rfl #[.int .u64 0, .int .u64 (t190 / 4294967296), .bool (decide (a0 < 0))] rfl (by (try simp only [List.map_toArray, List.map_cons, List.map_nil]); first | done | rfl | (simp only [List.length_drop, List.length_take]; rfl)) ?_; (with_reducible refine (fix_signed.calls k 0 (t190 / 4294967296) (decide (a0 < 0)) t191 _ A3.out).mono ?_); rintro e w' ⟨rfl, ⟨nd, rfl⟩⟩; refine ⟨_, rfl, ?_⟩))
 go_ret
 exact ⟨by first | rfl | (simp; done) | (simp [*]; done), by repeat (first | exact Drawn0.refl _ | apply Drawn0.step)⟩
/-! ### fix_Add: function 115 -/
def fix_Add.f (a0 : Int) (a1 : Int) : Option (Int) := if ((decide (a0 < 0)) == (decide (a1 < 0))) = true then (if ((decide ((wrap64 (a0 + a1)) < 0)) != (decide (a0 < 0))) = true then ((fix_end.f (decide (a0 < 0))).bind fun t192 => (some t192)) else (some (wrap64 (a0 + a1)))) else (some (wrap64 (a0 + a1)))
set_option maxHeartbeats 8000000 in
set_option maxRecDepth 100000 in
theorem fix_Add.calls (a0 : Int) (a1 : Int) (r : Int) (w : World) (h : fix_Add.f a0 a1 = some r) :
  Calls Tryz.prog 115 #[.int .i64 a0, .int .i64 a1] w fun e w' => e = .returned (.int .i64 r) ∧ Drawn0 w w' := by
 have H : (if ((decide (a0 < 0)) == (decide (a1 < 0))) = true then (if ((decide ((wrap64 (a0 + a1)) < 0)) != (decide (a0 < 0))) = true then ((fix_end.f (decide (a0 < 0))).bind fun t192 => (some t192)) else (some (wrap64 (a0 + a1)))) else (some (wrap64 (a0 + a1)))) = some r := h
 clear h
 by_cases c3 : ((decide (a0 < 0)) == (decide (a1 < 0))) = true
 ·rw [if_pos c3] at H
  have c3b0 : ((decide (a0 < 0)) == (decide (a1 < 0))) = true := c3
  (try (have c3b1 : decide ((decide (a0 < 0)) = (decide (a1 < 0))) = true := by simpa using c3))
  (try (have c3b2 : ((decide (a0 < 0)) == (decide (a1 < 0))) = true := by simpa using c3))
  clear c3
  by_cases c4 : ((decide ((wrap64 (a0 + a1)) < 0)) != (decide (a0 < 0))) = true
  ·rw [if_pos c4] at H
   have c4b0 : ((decide ((wrap64 (a0 + a1)) < 0)) != (decide (a0 < 0))) = true := c4
   (try (have c4b1 : decide ((decide ((wrap64 (a0 + a1)) < 0)) = (decide (a0 < 0))) = false := by simpa using c4))
   (try (have c4b2 : ((decide ((wrap64 (a0 + a1)) < 0)) == (decide (a0 < 0))) = false := by simpa using c4))
   (try (have c4b3 : ¬ ((decide ((wrap64 (a0 + a1)) < 0)) = (decide (a0 < 0))) := by simpa using c4))
   clear c4
   replace H := Option.bind_eq_some_iff.mp H
   obtain ⟨t192, A50, H⟩ := H
   replace H : (some t192) = some r := H
   have A5 := Aside0.mk A50
   clear A50
   obtain rfl := Option.some.inj H
   go_enter Tryz.func115, Tryz.ntmps115
   go_wp2_with (first | ((with_reducible refine gate_callee (f := 156) rfl ?_); refine goesL_ (some 23) rfl rfl Tryz.func156 (by kernel_rfl) rfl #[.bool (decide (a0 < 0))] rfl (by (try simp only [List.map_toArray, List.map_cons, List.map_nil]); first | done | rfl | (simp only [List.length_drop, List.length_take]; rfl)) ?_; (with_reducible refine (fix_end.calls (decide (a0 < 0)) t192 _ A5.out).mono ?_); rintro e w' ⟨rfl, ⟨nd, rfl⟩⟩; refine ⟨_, rfl, ?_⟩))
   go_ret
   exact ⟨by first | rfl | (simp; done) | (simp [*]; done), by repeat (first | exact Drawn0.refl _ | apply Drawn0.step)⟩
  ·rw [if_neg c4] at H
   have c4b0 : ((decide ((wrap64 (a0 + a1)) < 0)) != (decide (a0 < 0))) = false := by simpa using c4
   (try (have c4b1 : decide ((decide ((wrap64 (a0 + a1)) < 0)) = (decide (a0 < 0))) = true := by simpa using c4))
   (try (have c4b2 : ((decide ((wrap64 (a0 + a1)) < 0)) == (decide (a0 < 0))) = true := by simpa using c4))
   clear c4
   obtain rfl := Option.some.inj H
   go_enter Tryz.func115, Tryz.ntmps115
   go_wp2
   go_ret
   exact ⟨by first | rfl | (simp; done) | (simp [*]; done), by repeat (first | exact Drawn0.refl _ | apply Drawn0.step)⟩
 ·rw [if_neg c3] at H
  have c3b0 : ((decide (a0 < 0)) == (decide (a1 < 0))) = false := by simpa using c3
  (try (have c3b1 : decide ((decide (a0 < 0)) = (decide (a1 < 0))) = false := by simpa using c3))
  (try (have c3b2 : ((decide (a0 < 0)) == (decide (a1 < 0))) = false := by simpa using c3))
  (try (have c3b3 : ¬ ((decide (a0 < 0)) = (decide (a1 < 0))) := by simpa using c3))
  clear c3
  obtain rfl := Option.some.inj H
  go_enter Tryz.func115, Tryz.ntmps115
  go_wp2
  go_ret
  exact ⟨by first | rfl | (simp; done) | (simp [*]; done), by repeat (first | exact Drawn0.refl _ | apply Drawn0.step)⟩
/-! ### fix_Mul: function 116 -/
def fix_Mul.f (k : Nat) (a0 : Int) (a1 : Int) : Option (Int) := (fix_size.f a0).bind fun t193 => ((fix_size.f a1).bind fun t194 => ((bits_Mul64.f t193 t194).bind fun bt195 => ((fix_signed.f k (bt195.1 / 4294967296) (Go.bits .or .u64 (IntKind.u64.wrap (bt195.1 * 4294967296)) (bt195.2 / 4294967296)) ((decide (a0 < 0)) != (decide (a1 < 0)))).bind fun t197 => (some t197))))
set_option maxHeartbeats 8000000 in
set_option maxRecDepth 100000 in
theorem fix_Mul.calls (k : Nat) (a0 : Int) (a1 : Int) (r : Int) (w : World) (h : fix_Mul.f k a0 a1 = some r) :
  Calls Tryz.prog 116 #[.int .i64 a0, .int .i64 a1] w fun e w' => e = .returned (.int .i64 r) ∧ Drawn0 w w' := by
 have H : ((fix_size.f a0).bind fun t193 => ((fix_size.f a1).bind fun t194 => ((bits_Mul64.f t193 t194).bind fun bt195 => ((fix_signed.f k (bt195.1 / 4294967296) (Go.bits .or .u64 (IntKind.u64.wrap (bt195.1 * 4294967296)) (bt195.2 / 4294967296)) ((decide (a0 < 0)) != (decide (a1 < 0)))).bind fun t197 => (some t197))))) = some r := h
 clear h
 replace H := Option.bind_eq_some_iff.mp H
 obtain ⟨t193, A30, H⟩ := H
 replace H : ((fix_size.f a1).bind fun t194 => ((bits_Mul64.f t193 t194).bind fun bt195 => ((fix_signed.f k (bt195.1 / 4294967296) (Go.bits .or .u64 (IntKind.u64.wrap (bt195.1 * 4294967296)) (bt195.2 / 4294967296)) ((decide (a0 < 0)) != (decide (a1 < 0)))).bind fun t197 => (some t197)))) = some r := H
 have A3 := Aside0.mk A30
 clear A30
 replace H := Option.bind_eq_some_iff.mp H
 obtain ⟨t194, A40, H⟩ := H
 replace H : ((bits_Mul64.f t193 t194).bind fun bt195 => ((fix_signed.f k (bt195.1 / 4294967296) (Go.bits .or .u64 (IntKind.u64.wrap (bt195.1 * 4294967296)) (bt195.2 / 4294967296)) ((decide (a0 < 0)) != (decide (a1 < 0)))).bind fun t197 => (some t197))) = some r := H
 have A4 := Aside0.mk A40
 clear A40
 replace H := Option.bind_eq_some_iff.mp H
 obtain ⟨⟨t195, t196⟩, A50, H⟩ := H
 replace H : ((fix_signed.f k (t195 / 4294967296) (Go.bits .or .u64 (IntKind.u64.wrap (t195 * 4294967296)) (t196 / 4294967296)) ((decide (a0 < 0)) != (decide (a1 < 0)))).bind fun t197 => (some t197)) = some r := H
 have A5 := Aside0.mk A50
 clear A50
 replace H := Option.bind_eq_some_iff.mp H
 obtain ⟨t197, A60, H⟩ := H
 replace H : (some t197) = some r := H
 have A6 := Aside0.mk A60
 clear A60
 obtain rfl := Option.some.inj H
 go_enter Tryz.func116, Tryz.ntmps116
 go_wp2_with (first | ((with_reducible refine gate_callee (f := 157) rfl ?_); refine goesL_ (some 9) rfl rfl Tryz.func157 (by kernel_rfl) rfl #[.int .i64 a0] rfl (by (try simp only [List.map_toArray, List.map_cons, List.map_nil]); first | done | rfl | (simp only [List.length_drop, List.length_take]; rfl)) ?_; (with_reducible refine (fix_size.calls a0 t193 _ A3.out).mono ?_); rintro e w' ⟨rfl, ⟨nd, rfl⟩⟩; refine ⟨_, rfl, ?_⟩) | ((with_reducible refine gate_callee (f := 157) rfl ?_); refine goesL_ (some 11) rfl rfl Tryz.func157 (by kernel_rfl) rfl #[.int .i64 a1] rfl (by (try simp only [List.map_toArray, List.map_cons, List.map_nil]); first | done | rfl | (simp only [List.length_drop, List.length_take]; rfl)) ?_; (with_reducible refine (fix_size.calls a1 t194 _ A4.out).mono ?_); rintro e w' ⟨rfl, ⟨nd, rfl⟩⟩; refine ⟨_, rfl, ?_⟩) | ((with_reducible refine gate_callee (f := 159) rfl ?_); refine goesL_ (some 12) rfl rfl Tryz.func159 (by kernel_rfl) rfl #[.int .u64 t193, .int .u64 t194] rfl (by (try simp only [List.map_toArray, List.map_cons, List.map_nil]); first | done | rfl | (simp only [List.length_drop, List.length_take]; rfl)) ?_; (with_reducible refine (bits_Mul64.calls t193 t194 t195 t196 _ A5.out).mono ?_); rintro e w' ⟨rfl, ⟨nd, rfl⟩⟩; refine ⟨_, rfl, ?_⟩) | ((with_reducible refine gate_callee (f := 158) rfl ?_); refine goesL_ (some 27) rfl rfl Tryz.func158 (by kernel_rfl) rfl #[.int .u64 (t195 / 4294967296), .int .u64 (Go.bits .or .u64 (IntKind.u64.wrap (t195 * 4294967296)) (t196 / 4294967296)), .bool ((decide (a0 < 0)) != (decide (a1 < 0)))] rfl (by (try simp only [List.map_toArray, List.map_cons, List.map_nil]); first | done | rfl | (simp only [List.length_drop, List.length_take]; rfl)) ?_; (with_reducible refine (fix_signed.calls k (t195 / 4294967296) (Go.bits .or .u64 (IntKind.u64.wrap (t195 * 4294967296)) (t196 / 4294967296)) ((decide (a0 < 0)) != (decide (a1 < 0))) t197 _ A6.out).mono ?_); rintro e w' ⟨rfl, ⟨nd, rfl⟩⟩; refine ⟨_, rfl, ?_⟩))
 go_ret
 exact ⟨by first | rfl | (simp; done) | (simp [*]; done), by repeat (first | exact Drawn0.refl _ | apply Drawn0.step)⟩
/-! ### vm_bit: function 56 -/
def vm_bit.f (a0 : Bool) : Option (Int) := if a0 = true then (some 1) else (some 0)
set_option maxHeartbeats 8000000 in
set_option maxRecDepth 100000 in
theorem vm_bit.calls (a0 : Bool) (r : Int) (w : World) (h : vm_bit.f a0 = some r) :
  Calls Tryz.prog 56 #[.bool a0] w fun e w' => e = .returned (.int .i64 r) ∧ Drawn0 w w' := by
 have H : (if a0 = true then (some 1) else (some 0)) = some r := h
 clear h
 by_cases c2 : a0 = true
 ·subst c2
  have H1 : (some 1) = some r := by rw [if_pos rfl] at H; exact H
  clear H
  have H := H1
  clear H1
  obtain rfl := Option.some.inj H
  go_enter Tryz.func56, Tryz.ntmps56
  go_wp2
  go_ret
  exact ⟨by first | rfl | (simp; done) | (simp [*]; done), by repeat (first | exact Drawn0.refl _ | apply Drawn0.step)⟩
 ·replace c2 := Bool.eq_false_iff.mpr c2
  subst c2
  have H1 : (some 0) = some r := by rw [if_neg (show ¬ (false = true) by decide)] at H; exact H
  clear H
  have H := H1
  clear H1
  obtain rfl := Option.some.inj H
  go_enter Tryz.func56, Tryz.ntmps56
  go_wp2
  go_ret
  exact ⟨by first | rfl | (simp; done) | (simp [*]; done), by repeat (first | exact Drawn0.refl _ | apply Drawn0.step)⟩
/-! ### A long division by two digits: plain law -/
theorem dig_stop (v1 v0 u2 u1 q r : Nat) (e : q * v1 + r = u2) (hc : q * v0 ≤ 4294967296 * r + u1) : q * (v1 * 4294967296 + v0) ≤ u2 * 4294967296 + u1 := by
 have h : q * (v1 * 4294967296 + v0) = (q * v1) * 4294967296 + q * v0 := by rw [Nat.mul_add, Nat.mul_assoc]
 rw [h, ← e]
 generalize q * v1 = a
 generalize q * v0 = c at *
 omega
theorem dig_go (v1 v0 u2 u1 q r : Nat) (e : q * v1 + r = u2) (hc : 4294967296 * r + u1 < q * v0) : u2 * 4294967296 + u1 < q * (v1 * 4294967296 + v0) := by
 have h : q * (v1 * 4294967296 + v0) = (q * v1) * 4294967296 + q * v0 := by rw [Nat.mul_add, Nat.mul_assoc]
 rw [h, ← e]
 generalize q * v1 = a
 generalize q * v0 = c at *
 omega
/-- a digit's loop: what holds ahead of each round -/
structure Dig (v1 v0 u2 u1 q r : Nat) : Prop where
 e : q * v1 + r = u2
 ge : (u2 * 4294967296 + u1) / (v1 * 4294967296 + v0) ≤ q
 le : q ≤ 4294967297
 lt : r < 4294967296
structure Nrm (v1 v0 u2 u1 : Nat) : Prop where
 n1 : 2147483648 ≤ v1 ∧ v1 < 4294967296
 n0 : v0 < 4294967296
 m1 : u1 < 4294967296
 m2 : u2 < v1 * 4294967296 + v0
def digQ (v1 v0 u2 u1 : Nat) : Nat := (u2 * 4294967296 + u1) / (v1 * 4294967296 + v0)
theorem Nrm.q_lt {v1 v0 u2 u1 : Nat} (h : Nrm v1 v0 u2 u1) : digQ v1 v0 u2 u1 < 4294967296 := by
 unfold digQ
 rw [Nat.div_lt_iff_lt_mul (by have := h.n1; omega)]
 have := h.m2; have := h.m1; omega
theorem Dig.start {v1 v0 u2 u1 : Nat} (h : Nrm v1 v0 u2 u1) : Dig v1 v0 u2 u1 (u2 / v1) (u2 - u2 / v1 * v1) := by
 have hv := h.n1
 have hd := Nat.div_add_mod u2 v1
 have hm := Nat.mod_lt u2 (show 0 < v1 by omega)
 rw [Nat.mul_comm] at hd
 refine ⟨?_, ?_, ?_, ?_⟩
 ·generalize u2 / v1 * v1 = a at *; omega
 ·rw [← Nat.lt_add_one_iff, Nat.div_lt_iff_lt_mul (by omega)]
  have e1 : (u2 / v1 + 1) * (v1 * 4294967296 + v0) = (u2 / v1 * v1) * 4294967296 + v1 * 4294967296 + (u2 / v1 + 1) * v0 := by
   rw [Nat.mul_add, ← Nat.mul_assoc, Nat.add_mul (u2 / v1) 1 v1, Nat.add_mul]
   omega
  rw [e1]
  have := h.m1
  generalize (u2 / v1 + 1) * v0 = c
  generalize u2 / v1 * v1 = a at *
  omega
 ·have : u2 / v1 < 4294967298 := by
   rw [Nat.div_lt_iff_lt_mul (by omega)]
   have := h.m2; have := h.n0
   omega
  omega
 ·generalize u2 / v1 * v1 = a at *; omega
/-- a round that stops -/
theorem Dig.stop {v1 v0 u2 u1 q r : Nat} (h : Nrm v1 v0 u2 u1) (d : Dig v1 v0 u2 u1 q r) (hc : q * v0 ≤ 4294967296 * r + u1) : q = digQ v1 v0 u2 u1 := by
 have h1 := dig_stop v1 v0 u2 u1 q r d.e hc
 have h2 : q ≤ (u2 * 4294967296 + u1) / (v1 * 4294967296 + v0) := (Nat.le_div_iff_mul_le (by have := h.n1; omega)).2 h1
 have := d.ge
 unfold digQ; omega
/-- a round that goes on -/
theorem Dig.next {v1 v0 u2 u1 q r : Nat} (h : Nrm v1 v0 u2 u1) (d : Dig v1 v0 u2 u1 q r) (hc : 4294967296 ≤ q ∨ 4294967296 * r + u1 < q * v0) :
  0 < q ∧ digQ v1 v0 u2 u1 ≤ q - 1 ∧ (q - 1) * v1 + (r + v1) = u2 := by
 have hlt : digQ v1 v0 u2 u1 < q := by
  rcases hc with hc | hc
  ·have := h.q_lt; omega
  ·have h1 := dig_go v1 v0 u2 u1 q r d.e hc
   exact (Nat.div_lt_iff_lt_mul (by have := h.n1; omega)).2 h1
 refine ⟨by omega, by omega, ?_⟩
 have e := d.e
 obtain ⟨p, rfl⟩ : ∃ p, q = p + 1 := ⟨q - 1, by omega⟩
 rw [Nat.add_sub_cancel]
 rw [Nat.add_mul] at e
 omega
theorem Dig.again {v1 v0 u2 u1 q r : Nat} (h : Nrm v1 v0 u2 u1) (d : Dig v1 v0 u2 u1 q r) (hc : 4294967296 ≤ q ∨ 4294967296 * r + u1 < q * v0) (hr : r + v1 < 4294967296) : Dig v1 v0 u2 u1 (q - 1) (r + v1) := by
 obtain ⟨h0, h1, h2⟩ := d.next h hc
 exact ⟨h2, h1, by have := d.le; omega, hr⟩
theorem Dig.over {v1 v0 u2 u1 q r : Nat} (h : Nrm v1 v0 u2 u1) (d : Dig v1 v0 u2 u1 q r) (hc : 4294967296 ≤ q ∨ 4294967296 * r + u1 < q * v0) (hr : 4294967296 ≤ r + v1) : q - 1 = digQ v1 v0 u2 u1 := by
 obtain ⟨h0, h1, h2⟩ := d.next h hc
 have hle : (q - 1) * v0 ≤ 4294967296 * (r + v1) + u1 := by
  have h3 : (q - 1) * v0 ≤ 4294967296 * v0 := Nat.mul_le_mul_right _ (by have := d.le; omega)
  have := h.n0
  omega
 have h4 := dig_stop v1 v0 u2 u1 (q - 1) (r + v1) h2 hle
 have h5 : q - 1 ≤ (u2 * 4294967296 + u1) / (v1 * 4294967296 + v0) := (Nat.le_div_iff_mul_le (by have := h.n1; omega)).2 h4
 unfold digQ at *; omega
/-- the shift that makes the divisor's first bit one -/
def lzN (y : Nat) : Nat := 63 - Nat.log2 y
theorem bitLen_log (y : Nat) (h0 : y ≠ 0) (h : y < 18446744073709551616) : Lib.bitLen y = Nat.log2 y + 1 := by
 have h1 := Nat.log2_self_le h0
 have h2 := Nat.lt_log2_self (n := y)
 rw [Lib.bitLen_shift (Nat.log2 y) y h1 h]
 have : y / 2 ^ Nat.log2 y = 1 := by
  rw [Nat.pow_succ] at h2
  have h3 : 1 ≤ y / 2 ^ Nat.log2 y := (Nat.le_div_iff_mul_le (Nat.two_pow_pos _)).2 (by omega)
  have h4 : y / 2 ^ Nat.log2 y < 2 := (Nat.div_lt_iff_lt_mul (Nat.two_pow_pos _)).2 (by omega)
  omega
 rw [this]; rfl
theorem log_lt (y : Nat) (h0 : y ≠ 0) (h : y < 18446744073709551616) : Nat.log2 y < 64 := (Nat.log2_lt h0).2 h
theorem nrm_ge (y : Nat) (h0 : y ≠ 0) (h : y < 18446744073709551616) : 9223372036854775808 ≤ y * 2 ^ lzN y ∧ y * 2 ^ lzN y < 18446744073709551616 := by
 have hl := log_lt y h0 h
 have h1 := Nat.log2_self_le h0
 have h2 := Nat.lt_log2_self (n := y)
 have e1 : 2 ^ Nat.log2 y * 2 ^ lzN y = 9223372036854775808 := by rw [← Nat.pow_add]; unfold lzN; rw [show Nat.log2 y + (63 - Nat.log2 y) = 63 by omega]
 have e2 : 2 ^ (Nat.log2 y + 1) * 2 ^ lzN y = 18446744073709551616 := by rw [← Nat.pow_add]; unfold lzN; rw [show Nat.log2 y + 1 + (63 - Nat.log2 y) = 64 by omega]
 constructor
 ·rw [← e1]; exact Nat.mul_le_mul_right _ h1
 ·rw [← e2]; exact Nat.mul_lt_mul_of_pos_right h2 (Nat.two_pow_pos _)
/-- the parts of what is divided, shifted: hi, and what comes up from lo; what is left of lo -/
structure Parts (hi lo y s v u2 u10 : Nat) : Prop where
 ps : s < 64
 pv : v = y * 2 ^ s
 vb : 9223372036854775808 ≤ v ∧ v < 18446744073709551616
 hb : hi * 2 ^ s < 18446744073709551616
 lb : lo / 2 ^ (64 - s) < 2 ^ s
 pu2 : u2 = hi * 2 ^ s + lo / 2 ^ (64 - s)
 u2v : u2 < v
 pu10 : u10 = lo * 2 ^ s % 18446744073709551616
 pu : (hi * 18446744073709551616 + lo) * 2 ^ s = u2 * 18446744073709551616 + u10
theorem parts (hi lo y : Nat) (hy : hi < y) (hyl : y < 18446744073709551616) (hlo : lo < 18446744073709551616) :
  Parts hi lo y (lzN y) (y * 2 ^ lzN y) (hi * 2 ^ lzN y + lo / 2 ^ (64 - lzN y)) (lo * 2 ^ lzN y % 18446744073709551616) := by
 have h0 : y ≠ 0 := by omega
 have hs : lzN y < 64 := by unfold lzN; omega
 have hn := nrm_ge y h0 hyl
 generalize lzN y = s at *
 have e : 2 ^ (64 - s) * 2 ^ s = 18446744073709551616 := by rw [← Nat.pow_add, show 64 - s + s = 64 by omega]
 have hp := Nat.two_pow_pos s
 have hp2 := Nat.two_pow_pos (64 - s)
 have hb : hi * 2 ^ s + 2 ^ s ≤ y * 2 ^ s := by
  have h1 := Nat.mul_le_mul_right (2 ^ s) (show hi + 1 ≤ y from hy)
  rw [Nat.add_mul] at h1; omega
 have hl : lo / 2 ^ (64 - s) < 2 ^ s := (Nat.div_lt_iff_lt_mul hp2).2 (by rw [Nat.mul_comm, e]; exact hlo)
 have hlow : lo * 2 ^ s = lo / 2 ^ (64 - s) * 18446744073709551616 + lo % 2 ^ (64 - s) * 2 ^ s := by
  have h1 := Nat.div_add_mod lo (2 ^ (64 - s))
  calc lo * 2 ^ s = (2 ^ (64 - s) * (lo / 2 ^ (64 - s)) + lo % 2 ^ (64 - s)) * 2 ^ s := by rw [h1]
   _ = _ := by rw [Nat.add_mul, Nat.mul_right_comm, e, Nat.mul_comm 18446744073709551616]
 have hml : lo % 2 ^ (64 - s) * 2 ^ s < 18446744073709551616 := by
  rw [← e]; exact Nat.mul_lt_mul_of_pos_right (Nat.mod_lt _ hp2) hp
 refine ⟨hs, rfl, hn, by omega, hl, rfl, by omega, rfl, ?_⟩
 rw [Nat.add_mul, Nat.mul_right_comm, hlow]
 generalize hi * 2 ^ s = a at *
 generalize lo / 2 ^ (64 - s) = b at *
 generalize lo % 2 ^ (64 - s) * 2 ^ s = c at *
 omega
/-- both digits together -/
theorem two_digits {hi lo y s v u2 u10 v1 v0 u1 u0 : Nat} (hP : Parts hi lo y s v u2 u10) (hv1 : v1 = v / 4294967296) (hv0 : v0 = v % 4294967296) (hu1 : u1 = u10 / 4294967296) (hu0 : u0 = u10 % 4294967296) :
  Nrm v1 v0 u2 u1 ∧ Nrm v1 v0 (u2 * 4294967296 + u1 - digQ v1 v0 u2 u1 * v) u0 ∧ digQ v1 v0 u2 u1 * v ≤ u2 * 4294967296 + u1 ∧
  digQ v1 v0 (u2 * 4294967296 + u1 - digQ v1 v0 u2 u1 * v) u0 * v ≤ (u2 * 4294967296 + u1 - digQ v1 v0 u2 u1 * v) * 4294967296 + u0 ∧
  digQ v1 v0 u2 u1 * 4294967296 + digQ v1 v0 (u2 * 4294967296 + u1 - digQ v1 v0 u2 u1 * v) u0 = (hi * 18446744073709551616 + lo) / y ∧
  ((u2 * 4294967296 + u1 - digQ v1 v0 u2 u1 * v) * 4294967296 + u0 - digQ v1 v0 (u2 * 4294967296 + u1 - digQ v1 v0 u2 u1 * v) u0 * v) / 2 ^ s = (hi * 18446744073709551616 + lo) % y ∧
  (u2 * 4294967296 + u1 - digQ v1 v0 u2 u1 * v) * 4294967296 + u0 - digQ v1 v0 (u2 * 4294967296 + u1 - digQ v1 v0 u2 u1 * v) u0 * v < v := by
 have hvb := hP.vb
 have hve : v = v1 * 4294967296 + v0 := by omega
 have hu2 := hP.u2v
 have hu10 : u10 < 18446744073709551616 := by rw [hP.pu10]; exact Nat.mod_lt _ (by decide)
 have N1 : Nrm v1 v0 u2 u1 := ⟨by omega, by omega, by omega, by omega⟩
 have hvp : 0 < v := by omega
 have hq1 : digQ v1 v0 u2 u1 = (u2 * 4294967296 + u1) / v := by unfold digQ; rw [← hve]
 have hd1 := Nat.div_add_mod (u2 * 4294967296 + u1) v
 have hm1 := Nat.mod_lt (u2 * 4294967296 + u1) hvp
 rw [hq1]
 rw [Nat.mul_comm] at hd1
 obtain ⟨q1, hq1e⟩ : ∃ q1, q1 = (u2 * 4294967296 + u1) / v := ⟨_, rfl⟩
 rw [← hq1e] at hd1 ⊢
 obtain ⟨u21, hu21⟩ : ∃ u21, u21 = (u2 * 4294967296 + u1) % v := ⟨_, rfl⟩
 rw [← hu21] at hd1 hm1
 have e1 : u2 * 4294967296 + u1 - q1 * v = u21 := by rw [← hd1]; exact Nat.add_sub_cancel_left _ _
 rw [e1]
 have N2 : Nrm v1 v0 u21 u0 := ⟨N1.n1, N1.n0, by omega, by omega⟩
 have hq2 : digQ v1 v0 u21 u0 = (u21 * 4294967296 + u0) / v := by unfold digQ; rw [← hve]
 have hd2 := Nat.div_add_mod (u21 * 4294967296 + u0) v
 have hm2 := Nat.mod_lt (u21 * 4294967296 + u0) hvp
 rw [hq2]
 rw [Nat.mul_comm] at hd2
 obtain ⟨q2, hq2e⟩ : ∃ q2, q2 = (u21 * 4294967296 + u0) / v := ⟨_, rfl⟩
 rw [← hq2e] at hd2 ⊢
 obtain ⟨u22, hu22⟩ : ∃ u22, u22 = (u21 * 4294967296 + u0) % v := ⟨_, rfl⟩
 rw [← hu22] at hd2 hm2
 have e2 : u21 * 4294967296 + u0 - q2 * v = u22 := by rw [← hd2]; exact Nat.add_sub_cancel_left _ _
 rw [e2]
 have hps := Nat.two_pow_pos s
 have hy : 0 < y := Nat.pos_of_ne_zero (fun h => by have h2 := hP.pv; rw [h, Nat.zero_mul] at h2; rw [h2] at hvp; exact absurd hvp (Nat.lt_irrefl 0))
 -- the whole
 have hN : (hi * 18446744073709551616 + lo) * 2 ^ s = (q1 * 4294967296 + q2) * v + u22 := by
  rw [hP.pu, Nat.add_mul, Nat.mul_right_comm]
  generalize q1 * v = a at *
  generalize q2 * v = c at *
  omega
 have hQ : q1 * 4294967296 + q2 = (hi * 18446744073709551616 + lo) / y := by
  have h1 : (hi * 18446744073709551616 + lo) * 2 ^ s / (y * 2 ^ s) = (hi * 18446744073709551616 + lo) / y := Nat.mul_div_mul_right _ _ hps
  rw [← h1, hN, ← hP.pv, Nat.add_comm ((q1 * 4294967296 + q2) * v) u22, Nat.add_mul_div_right _ _ hvp, Nat.div_eq_of_lt hm2, Nat.zero_add]
 have hR : u22 / 2 ^ s = (hi * 18446744073709551616 + lo) % y := by
  have h1 : (hi * 18446744073709551616 + lo) * 2 ^ s % (y * 2 ^ s) = (hi * 18446744073709551616 + lo) % y * 2 ^ s := Nat.mul_mod_mul_right _ _ _
  rw [hN, ← hP.pv, Nat.add_comm ((q1 * 4294967296 + q2) * v) u22, Nat.add_mul_mod_self_right, Nat.mod_eq_of_lt hm2] at h1
  rw [h1, Nat.mul_div_cancel _ hps]
 exact ⟨N1, N2, by omega, by omega, hQ, hR, hm2⟩
set_option maxHeartbeats 4000000
/-- a whole number of 64 bits -/
theorem wrapN (n : Nat) (h : n < 18446744073709551616) : IntKind.u64.wrap ((n : Nat) : Int) = (n : Int) := IntWalk.u64_in _ (by omega)
theorem div64_w (hi lo y s v v1 v0 u2 u10 u1 u0 q0 r0 Q1 u21 q20 r20 Q2 QQ R2 RR : Nat) (h0 : (((hi : Nat) : Int) == 0) = false) (hy : hi < y) (hyl : y < 18446744073709551616) (hlo : lo < 18446744073709551616) (w : World)
  (hs : 64 - ((Lib.bitLen y : Nat) : Int) = (s : Int)) (e1 : IntKind.u64.wrap ((s : Nat) : Int) = (s : Int)) (e2 : IntKind.u64.wrap ((y : Int) * 2 ^ s) = (v : Int))
  (e3 : (v : Int) / 4294967296 = (v1 : Int)) (e4 : bits .and .u64 v 4294967295 = (v0 : Int)) (e5 : bits .or .u64 (IntKind.u64.wrap ((hi : Int) * 2 ^ s)) ((lo : Int) / 2 ^ (64 - s)) = (u2 : Int))
  (e5a : IntKind.u64.wrap (64 - (s : Int)) = ((64 - s : Nat) : Int)) (e6 : IntKind.u64.wrap ((lo : Int) * 2 ^ s) = (u10 : Int)) (e7 : (u10 : Int) / 4294967296 = (u1 : Int)) (e8 : bits .and .u64 u10 4294967295 = (u0 : Int))
  (e9 : (u2 : Int) / (v1 : Int) = (q0 : Int)) (e9a : IntKind.u64.wrap (q0 : Int) = (q0 : Int)) (e10 : IntKind.u64.wrap ((u2 : Int) - IntKind.u64.wrap ((q0 : Int) * v1)) = (r0 : Int)) (hv1 : ¬ v1 = 0)
  (hN : Hid (Nrm v1 v0 u2 u1)) (hD : Hid (Dig v1 v0 u2 u1 q0 r0)) (hQ1 : Hid (Q1 = digQ v1 v0 u2 u1))
  (e11 : IntKind.u64.wrap (IntKind.u64.wrap (IntKind.u64.wrap ((u2 : Int) * 4294967296) + u1) - IntKind.u64.wrap ((Q1 : Int) * v)) = (u21 : Int))
  (e12 : (u21 : Int) / (v1 : Int) = (q20 : Int)) (e12a : IntKind.u64.wrap (q20 : Int) = (q20 : Int)) (e13 : IntKind.u64.wrap ((u21 : Int) - IntKind.u64.wrap ((q20 : Int) * v1)) = (r20 : Int))
  (hN2 : Hid (Nrm v1 v0 u21 u0)) (hD2 : Hid (Dig v1 v0 u21 u0 q20 r20)) (hQ2 : Hid (Q2 = digQ v1 v0 u21 u0))
  (e14 : IntKind.u64.wrap (IntKind.u64.wrap ((Q1 : Int) * 4294967296) + Q2) = (QQ : Int)) (e15 : IntKind.u64.wrap (IntKind.u64.wrap (IntKind.u64.wrap ((u21 : Int) * 4294967296) + u0) - IntKind.u64.wrap ((Q2 : Int) * v)) = (R2 : Int)) (e16 : (R2 : Int) / 2 ^ s = (RR : Int)) :
  Calls Tryz.prog 160 #[.int .u64 hi, .int .u64 lo, .int .u64 y] w fun e w' => e = .returned (.tuple #[.int .u64 QQ, .int .u64 RR]) ∧ w' = w := by
 have h1 : (((y : Nat) : Int) == 0) = false := by simp; omega
 have h2 : decide (((y : Nat) : Int) ≤ ((hi : Nat) : Int)) = false := by simp; omega
 have hlz := fun w => Tryz.bits_LeadingZeros64 y w (by omega) (by omega)
 simp only [Int.toNat_natCast, hs] at hlz
 go_enter Tryz.func160, Tryz.ntmps160
 go_wp2_with (go_at_call 182; refine (hlz _).mono ?_; rintro e w1 ⟨rfl, rfl⟩)
 go_loopw [15, 16] (fun a b wr => ∃ q r : Nat, a = .int .u64 q ∧ b = .int .u64 r ∧ Hid (Dig v1 v0 u2 u1 q r) ∧ wr = w1) (fun a _ _ => (intOf a).toNat)
 case atStart => exact ⟨q0, r0, rfl, rfl, hD, by first | rfl | trivial⟩
 case round =>
  obtain ⟨q, r, rfl, rfl, HD, rfl⟩ := hrel
  obtain ⟨qv, hqv⟩ : ∃ qv, qv = q * v0 := ⟨_, rfl⟩
  obtain ⟨q', hq'⟩ : ∃ q', q' = q - 1 := ⟨_, rfl⟩
  obtain ⟨r', hr'⟩ : ∃ r', r' = r + v1 := ⟨_, rfl⟩
  obtain ⟨rb, hrb⟩ : ∃ rb, rb = 4294967296 * r := ⟨_, rfl⟩
  obtain ⟨rs, hrs⟩ : ∃ rs, rs = rb + u1 := ⟨_, rfl⟩
  have hb : r < 4294967296 ∧ q ≤ 4294967297 ∧ v1 < 4294967296 ∧ v0 < 4294967296 ∧ u1 < 4294967296 := ⟨HD.out.lt, HD.out.le, hN.out.n1.2, hN.out.n0, hN.out.m1⟩
  obtain ⟨hb1, hb2, hb3, hb4, hb5⟩ := hb
  have x2 : IntKind.u64.wrap ((r : Int) + v1) = (r' : Int) := by rw [hr']; exact (wrapN (r + v1) (by omega))
  have x5 : IntKind.u64.wrap (4294967296 * (r : Int)) = (rb : Int) := by rw [hrb]; exact (wrapN (4294967296 * r) (by omega))
  have x6 : IntKind.u64.wrap ((rb : Int) + u1) = (rs : Int) := by rw [hrs]; exact (wrapN (rb + u1) (by omega))
  by_cases hA : 4294967296 ≤ q
  ·have x1 : IntKind.u64.wrap ((q : Int) - 1) = (q' : Int) := by rw [IntWalk.u64_in _ (by omega)]; omega
   have g1 : decide ((4294967296 : Int) ≤ (q : Int)) = true := decide_eq_true (by omega)
   by_cases hR : 4294967296 ≤ r'
   ·have HQ := Dig.over hN.out HD.out (.inl hA) (by omega)
    rw [← hq', ← hQ1.out] at HQ
    have g2 : decide ((4294967296 : Int) ≤ (r' : Int)) = true := decide_eq_true (by omega)
    clear hq' hr' hqv hA hR hb1 hb2 hb3 hb4 hb5 hrb hrs
    subst HQ
    go_wp2_with fail
    go_loopw [18, 16] (fun a b wz => ∃ q r : Nat, a = .int .u64 q ∧ b = .int .u64 r ∧ Hid (Dig v1 v0 u21 u0 q r) ∧ wz = wr) (fun a _ _ => (intOf a).toNat)
    case atStart => exact ⟨q20, r20, rfl, rfl, hD2, by first | rfl | trivial⟩
    case round =>
     obtain ⟨q, r, rfl, rfl, HD, rfl⟩ := hrel
     obtain ⟨qv, hqv⟩ : ∃ qv, qv = q * v0 := ⟨_, rfl⟩
     obtain ⟨q', hq'⟩ : ∃ q', q' = q - 1 := ⟨_, rfl⟩
     obtain ⟨r', hr'⟩ : ∃ r', r' = r + v1 := ⟨_, rfl⟩
     obtain ⟨rb, hrb⟩ : ∃ rb, rb = 4294967296 * r := ⟨_, rfl⟩
     obtain ⟨rs, hrs⟩ : ∃ rs, rs = rb + u0 := ⟨_, rfl⟩
     have hb : r < 4294967296 ∧ q ≤ 4294967297 ∧ v1 < 4294967296 ∧ v0 < 4294967296 ∧ u0 < 4294967296 := ⟨HD.out.lt, HD.out.le, hN2.out.n1.2, hN2.out.n0, hN2.out.m1⟩
     obtain ⟨hb1, hb2, hb3, hb4, hb5⟩ := hb
     have x2 : IntKind.u64.wrap ((r : Int) + v1) = (r' : Int) := by rw [hr']; exact (wrapN (r + v1) (by omega))
     have x5 : IntKind.u64.wrap (4294967296 * (r : Int)) = (rb : Int) := by rw [hrb]; exact (wrapN (4294967296 * r) (by omega))
     have x6 : IntKind.u64.wrap ((rb : Int) + u0) = (rs : Int) := by rw [hrs]; exact (wrapN (rb + u0) (by omega))
     by_cases hA : 4294967296 ≤ q
     ·have x1 : IntKind.u64.wrap ((q : Int) - 1) = (q' : Int) := by rw [IntWalk.u64_in _ (by omega)]; omega
      have g1 : decide ((4294967296 : Int) ≤ (q : Int)) = true := decide_eq_true (by omega)
      by_cases hR : 4294967296 ≤ r'
      ·have HQ := Dig.over hN2.out HD.out (.inl hA) (by omega)
       rw [← hq', ← hQ2.out] at HQ
       have g2 : decide ((4294967296 : Int) ≤ (r' : Int)) = true := decide_eq_true (by omega)
       clear hq' hr' hqv hA hR hb1 hb2 hb3 hb4 hb5 hrb hrs
       subst HQ
       go_wp2_with fail
       go_ret2
       exact ⟨rfl, rfl⟩
      ·have HD2 := Lib.hid (Dig.again hN2.out HD.out (.inl hA) (by omega))
       rw [← hq', ← hr'] at HD2
       have hm : Hid (q' < q) := by show q' < q; omega
       have g2 : decide ((4294967296 : Int) ≤ (r' : Int)) = false := decide_eq_false (by omega)
       clear hq' hr' hqv hA hR hb1 hb2 hb3 hb4 hb5 hrb hrs
       go_wp2_with fail
       go_roundw
       case rel => exact ⟨q', r', rfl, rfl, HD2, by first | rfl | trivial⟩
       case measure => simp [intOf]; exact hm.out
     ·have g1 : decide ((4294967296 : Int) ≤ (q : Int)) = false := decide_eq_false (by omega)
      have hqv2 : qv < 18446744073709551616 := by
       have h3 : q * v0 ≤ 4294967295 * 4294967295 := Nat.mul_le_mul (by omega) (by omega)
       omega
      have x4 : IntKind.u64.wrap ((q : Int) * v0) = (qv : Int) := by rw [← Int.natCast_mul, ← hqv]; exact wrapN qv hqv2
      by_cases hC : rs < qv
      ·have g3 : decide ((rs : Int) < (qv : Int)) = true := decide_eq_true (by omega)
       have hC2 : 4294967296 * r + u0 < q * v0 := by omega
       have hq0 := (Dig.next hN2.out HD.out (.inr hC2)).1
       have x1 : IntKind.u64.wrap ((q : Int) - 1) = (q' : Int) := by rw [IntWalk.u64_in _ (by omega)]; omega
       by_cases hR : 4294967296 ≤ r'
       ·have HQ := Dig.over hN2.out HD.out (.inr hC2) (by omega)
        rw [← hq', ← hQ2.out] at HQ
        have g2 : decide ((4294967296 : Int) ≤ (r' : Int)) = true := decide_eq_true (by omega)
        clear hq' hr' hqv hA hR hb1 hb2 hb3 hb4 hb5 hrb hrs hC2 hq0 hqv2
        subst HQ
        go_wp2_with fail
        go_ret2
        exact ⟨rfl, rfl⟩
       ·have HD2 := Lib.hid (Dig.again hN2.out HD.out (.inr hC2) (by omega))
        rw [← hq', ← hr'] at HD2
        have hm : Hid (q' < q) := by show q' < q; omega
        have g2 : decide ((4294967296 : Int) ≤ (r' : Int)) = false := decide_eq_false (by omega)
        clear hq' hr' hqv hA hR hb1 hb2 hb3 hb4 hb5 hrb hrs hC2 hq0 hqv2
        go_wp2_with fail
        go_roundw
        case rel => exact ⟨q', r', rfl, rfl, HD2, by first | rfl | trivial⟩
        case measure => simp [intOf]; exact hm.out
      ·have g3 : decide ((rs : Int) < (qv : Int)) = false := decide_eq_false (by omega)
       have HQ := Dig.stop hN2.out HD.out (by omega)
       rw [← hQ2.out] at HQ
       clear hq' hr' hqv hA hb1 hb2 hb3 hb4 hb5 hrb hrs hqv2
       subst HQ
       go_wp2_with fail
       go_ret2
       exact ⟨rfl, rfl⟩
   ·have HD2 := Lib.hid (Dig.again hN.out HD.out (.inl hA) (by omega))
    rw [← hq', ← hr'] at HD2
    have hm : Hid (q' < q) := by show q' < q; omega
    have g2 : decide ((4294967296 : Int) ≤ (r' : Int)) = false := decide_eq_false (by omega)
    clear hq' hr' hqv hA hR hb1 hb2 hb3 hb4 hb5 hrb hrs
    go_wp2_with fail
    go_roundw
    case rel => exact ⟨q', r', rfl, rfl, HD2, by first | rfl | trivial⟩
    case measure => simp [intOf]; exact hm.out
  ·have g1 : decide ((4294967296 : Int) ≤ (q : Int)) = false := decide_eq_false (by omega)
   have hqv2 : qv < 18446744073709551616 := by
    have h3 : q * v0 ≤ 4294967295 * 4294967295 := Nat.mul_le_mul (by omega) (by omega)
    omega
   have x4 : IntKind.u64.wrap ((q : Int) * v0) = (qv : Int) := by rw [← Int.natCast_mul, ← hqv]; exact wrapN qv hqv2
   by_cases hC : rs < qv
   ·have g3 : decide ((rs : Int) < (qv : Int)) = true := decide_eq_true (by omega)
    have hC2 : 4294967296 * r + u1 < q * v0 := by omega
    have hq0 := (Dig.next hN.out HD.out (.inr hC2)).1
    have x1 : IntKind.u64.wrap ((q : Int) - 1) = (q' : Int) := by rw [IntWalk.u64_in _ (by omega)]; omega
    by_cases hR : 4294967296 ≤ r'
    ·have HQ := Dig.over hN.out HD.out (.inr hC2) (by omega)
     rw [← hq', ← hQ1.out] at HQ
     have g2 : decide ((4294967296 : Int) ≤ (r' : Int)) = true := decide_eq_true (by omega)
     clear hq' hr' hqv hA hR hb1 hb2 hb3 hb4 hb5 hrb hrs hC2 hq0 hqv2
     subst HQ
     go_wp2_with fail
     go_loopw [18, 16] (fun a b wz => ∃ q r : Nat, a = .int .u64 q ∧ b = .int .u64 r ∧ Hid (Dig v1 v0 u21 u0 q r) ∧ wz = wr) (fun a _ _ => (intOf a).toNat)
     case atStart => exact ⟨q20, r20, rfl, rfl, hD2, by first | rfl | trivial⟩
     case round =>
      obtain ⟨q, r, rfl, rfl, HD, rfl⟩ := hrel
      obtain ⟨qv, hqv⟩ : ∃ qv, qv = q * v0 := ⟨_, rfl⟩
      obtain ⟨q', hq'⟩ : ∃ q', q' = q - 1 := ⟨_, rfl⟩
      obtain ⟨r', hr'⟩ : ∃ r', r' = r + v1 := ⟨_, rfl⟩
      obtain ⟨rb, hrb⟩ : ∃ rb, rb = 4294967296 * r := ⟨_, rfl⟩
      obtain ⟨rs, hrs⟩ : ∃ rs, rs = rb + u0 := ⟨_, rfl⟩
      have hb : r < 4294967296 ∧ q ≤ 4294967297 ∧ v1 < 4294967296 ∧ v0 < 4294967296 ∧ u0 < 4294967296 := ⟨HD.out.lt, HD.out.le, hN2.out.n1.2, hN2.out.n0, hN2.out.m1⟩
      obtain ⟨hb1, hb2, hb3, hb4, hb5⟩ := hb
      have x2 : IntKind.u64.wrap ((r : Int) + v1) = (r' : Int) := by rw [hr']; exact (wrapN (r + v1) (by omega))
      have x5 : IntKind.u64.wrap (4294967296 * (r : Int)) = (rb : Int) := by rw [hrb]; exact (wrapN (4294967296 * r) (by omega))
      have x6 : IntKind.u64.wrap ((rb : Int) + u0) = (rs : Int) := by rw [hrs]; exact (wrapN (rb + u0) (by omega))
      by_cases hA : 4294967296 ≤ q
      ·have x1 : IntKind.u64.wrap ((q : Int) - 1) = (q' : Int) := by rw [IntWalk.u64_in _ (by omega)]; omega
       have g1 : decide ((4294967296 : Int) ≤ (q : Int)) = true := decide_eq_true (by omega)
       by_cases hR : 4294967296 ≤ r'
       ·have HQ := Dig.over hN2.out HD.out (.inl hA) (by omega)
        rw [← hq', ← hQ2.out] at HQ
        have g2 : decide ((4294967296 : Int) ≤ (r' : Int)) = true := decide_eq_true (by omega)
        clear hq' hr' hqv hA hR hb1 hb2 hb3 hb4 hb5 hrb hrs
        subst HQ
        go_wp2_with fail
        go_ret2
        exact ⟨rfl, rfl⟩
       ·have HD2 := Lib.hid (Dig.again hN2.out HD.out (.inl hA) (by omega))
        rw [← hq', ← hr'] at HD2
        have hm : Hid (q' < q) := by show q' < q; omega
        have g2 : decide ((4294967296 : Int) ≤ (r' : Int)) = false := decide_eq_false (by omega)
        clear hq' hr' hqv hA hR hb1 hb2 hb3 hb4 hb5 hrb hrs
        go_wp2_with fail
        go_roundw
        case rel => exact ⟨q', r', rfl, rfl, HD2, by first | rfl | trivial⟩
        case measure => simp [intOf]; exact hm.out
      ·have g1 : decide ((4294967296 : Int) ≤ (q : Int)) = false := decide_eq_false (by omega)
       have hqv2 : qv < 18446744073709551616 := by
        have h3 : q * v0 ≤ 4294967295 * 4294967295 := Nat.mul_le_mul (by omega) (by omega)
        omega
       have x4 : IntKind.u64.wrap ((q : Int) * v0) = (qv : Int) := by rw [← Int.natCast_mul, ← hqv]; exact wrapN qv hqv2
       by_cases hC : rs < qv
       ·have g3 : decide ((rs : Int) < (qv : Int)) = true := decide_eq_true (by omega)
        have hC2 : 4294967296 * r + u0 < q * v0 := by omega
        have hq0 := (Dig.next hN2.out HD.out (.inr hC2)).1
        have x1 : IntKind.u64.wrap ((q : Int) - 1) = (q' : Int) := by rw [IntWalk.u64_in _ (by omega)]; omega
        by_cases hR : 4294967296 ≤ r'
        ·have HQ := Dig.over hN2.out HD.out (.inr hC2) (by omega)
         rw [← hq', ← hQ2.out] at HQ
         have g2 : decide ((4294967296 : Int) ≤ (r' : Int)) = true := decide_eq_true (by omega)
         clear hq' hr' hqv hA hR hb1 hb2 hb3 hb4 hb5 hrb hrs hC2 hq0 hqv2
         subst HQ
         go_wp2_with fail
         go_ret2
         exact ⟨rfl, rfl⟩
        ·have HD2 := Lib.hid (Dig.again hN2.out HD.out (.inr hC2) (by omega))
         rw [← hq', ← hr'] at HD2
         have hm : Hid (q' < q) := by show q' < q; omega
         have g2 : decide ((4294967296 : Int) ≤ (r' : Int)) = false := decide_eq_false (by omega)
         clear hq' hr' hqv hA hR hb1 hb2 hb3 hb4 hb5 hrb hrs hC2 hq0 hqv2
         go_wp2_with fail
         go_roundw
         case rel => exact ⟨q', r', rfl, rfl, HD2, by first | rfl | trivial⟩
         case measure => simp [intOf]; exact hm.out
       ·have g3 : decide ((rs : Int) < (qv : Int)) = false := decide_eq_false (by omega)
        have HQ := Dig.stop hN2.out HD.out (by omega)
        rw [← hQ2.out] at HQ
        clear hq' hr' hqv hA hb1 hb2 hb3 hb4 hb5 hrb hrs hqv2
        subst HQ
        go_wp2_with fail
        go_ret2
        exact ⟨rfl, rfl⟩
    ·have HD2 := Lib.hid (Dig.again hN.out HD.out (.inr hC2) (by omega))
     rw [← hq', ← hr'] at HD2
     have hm : Hid (q' < q) := by show q' < q; omega
     have g2 : decide ((4294967296 : Int) ≤ (r' : Int)) = false := decide_eq_false (by omega)
     clear hq' hr' hqv hA hR hb1 hb2 hb3 hb4 hb5 hrb hrs hC2 hq0 hqv2
     go_wp2_with fail
     go_roundw
     case rel => exact ⟨q', r', rfl, rfl, HD2, by first | rfl | trivial⟩
     case measure => simp [intOf]; exact hm.out
   ·have g3 : decide ((rs : Int) < (qv : Int)) = false := decide_eq_false (by omega)
    have HQ := Dig.stop hN.out HD.out (by omega)
    rw [← hQ1.out] at HQ
    clear hq' hr' hqv hA hb1 hb2 hb3 hb4 hb5 hrb hrs hqv2
    subst HQ
    go_wp2_with fail
    go_loopw [18, 16] (fun a b wz => ∃ q r : Nat, a = .int .u64 q ∧ b = .int .u64 r ∧ Hid (Dig v1 v0 u21 u0 q r) ∧ wz = wr) (fun a _ _ => (intOf a).toNat)
    case atStart => exact ⟨q20, r20, rfl, rfl, hD2, by first | rfl | trivial⟩
    case round =>
     obtain ⟨q, r, rfl, rfl, HD, rfl⟩ := hrel
     obtain ⟨qv, hqv⟩ : ∃ qv, qv = q * v0 := ⟨_, rfl⟩
     obtain ⟨q', hq'⟩ : ∃ q', q' = q - 1 := ⟨_, rfl⟩
     obtain ⟨r', hr'⟩ : ∃ r', r' = r + v1 := ⟨_, rfl⟩
     obtain ⟨rb, hrb⟩ : ∃ rb, rb = 4294967296 * r := ⟨_, rfl⟩
     obtain ⟨rs, hrs⟩ : ∃ rs, rs = rb + u0 := ⟨_, rfl⟩
     have hb : r < 4294967296 ∧ q ≤ 4294967297 ∧ v1 < 4294967296 ∧ v0 < 4294967296 ∧ u0 < 4294967296 := ⟨HD.out.lt, HD.out.le, hN2.out.n1.2, hN2.out.n0, hN2.out.m1⟩
     obtain ⟨hb1, hb2, hb3, hb4, hb5⟩ := hb
     have x2 : IntKind.u64.wrap ((r : Int) + v1) = (r' : Int) := by rw [hr']; exact (wrapN (r + v1) (by omega))
     have x5 : IntKind.u64.wrap (4294967296 * (r : Int)) = (rb : Int) := by rw [hrb]; exact (wrapN (4294967296 * r) (by omega))
     have x6 : IntKind.u64.wrap ((rb : Int) + u0) = (rs : Int) := by rw [hrs]; exact (wrapN (rb + u0) (by omega))
     by_cases hA : 4294967296 ≤ q
     ·have x1 : IntKind.u64.wrap ((q : Int) - 1) = (q' : Int) := by rw [IntWalk.u64_in _ (by omega)]; omega
      have g1 : decide ((4294967296 : Int) ≤ (q : Int)) = true := decide_eq_true (by omega)
      by_cases hR : 4294967296 ≤ r'
      ·have HQ := Dig.over hN2.out HD.out (.inl hA) (by omega)
       rw [← hq', ← hQ2.out] at HQ
       have g2 : decide ((4294967296 : Int) ≤ (r' : Int)) = true := decide_eq_true (by omega)
       clear hq' hr' hqv hA hR hb1 hb2 hb3 hb4 hb5 hrb hrs
       subst HQ
       go_wp2_with fail
       go_ret2
       exact ⟨rfl, rfl⟩
      ·have HD2 := Lib.hid (Dig.again hN2.out HD.out (.inl hA) (by omega))
       rw [← hq', ← hr'] at HD2
       have hm : Hid (q' < q) := by show q' < q; omega
       have g2 : decide ((4294967296 : Int) ≤ (r' : Int)) = false := decide_eq_false (by omega)
       clear hq' hr' hqv hA hR hb1 hb2 hb3 hb4 hb5 hrb hrs
       go_wp2_with fail
       go_roundw
       case rel => exact ⟨q', r', rfl, rfl, HD2, by first | rfl | trivial⟩
       case measure => simp [intOf]; exact hm.out
     ·have g1 : decide ((4294967296 : Int) ≤ (q : Int)) = false := decide_eq_false (by omega)
      have hqv2 : qv < 18446744073709551616 := by
       have h3 : q * v0 ≤ 4294967295 * 4294967295 := Nat.mul_le_mul (by omega) (by omega)
       omega
      have x4 : IntKind.u64.wrap ((q : Int) * v0) = (qv : Int) := by rw [← Int.natCast_mul, ← hqv]; exact wrapN qv hqv2
      by_cases hC : rs < qv
      ·have g3 : decide ((rs : Int) < (qv : Int)) = true := decide_eq_true (by omega)
       have hC2 : 4294967296 * r + u0 < q * v0 := by omega
       have hq0 := (Dig.next hN2.out HD.out (.inr hC2)).1
       have x1 : IntKind.u64.wrap ((q : Int) - 1) = (q' : Int) := by rw [IntWalk.u64_in _ (by omega)]; omega
       by_cases hR : 4294967296 ≤ r'
       ·have HQ := Dig.over hN2.out HD.out (.inr hC2) (by omega)
        rw [← hq', ← hQ2.out] at HQ
        have g2 : decide ((4294967296 : Int) ≤ (r' : Int)) = true := decide_eq_true (by omega)
        clear hq' hr' hqv hA hR hb1 hb2 hb3 hb4 hb5 hrb hrs hC2 hq0 hqv2
        subst HQ
        go_wp2_with fail
        go_ret2
        exact ⟨rfl, rfl⟩
       ·have HD2 := Lib.hid (Dig.again hN2.out HD.out (.inr hC2) (by omega))
        rw [← hq', ← hr'] at HD2
        have hm : Hid (q' < q) := by show q' < q; omega
        have g2 : decide ((4294967296 : Int) ≤ (r' : Int)) = false := decide_eq_false (by omega)
        clear hq' hr' hqv hA hR hb1 hb2 hb3 hb4 hb5 hrb hrs hC2 hq0 hqv2
        go_wp2_with fail
        go_roundw
        case rel => exact ⟨q', r', rfl, rfl, HD2, by first | rfl | trivial⟩
        case measure => simp [intOf]; exact hm.out
      ·have g3 : decide ((rs : Int) < (qv : Int)) = false := decide_eq_false (by omega)
       have HQ := Dig.stop hN2.out HD.out (by omega)
       rw [← hQ2.out] at HQ
       clear hq' hr' hqv hA hb1 hb2 hb3 hb4 hb5 hrb hrs hqv2
       subst HQ
       go_wp2_with fail
       go_ret2
       exact ⟨rfl, rfl⟩
theorem div64_zero (lo y : Nat) (hy : 0 < y) (hyl : y < 18446744073709551616) (hlo : lo < 18446744073709551616) (w : World) :
  Calls Tryz.prog 160 #[.int .u64 0, .int .u64 lo, .int .u64 y] w fun e w' => e = .returned (.tuple #[.int .u64 (lo / y : Nat), .int .u64 (lo % y : Nat)]) ∧ ∃ n, w' = w.drewN n := by
 have h1 : (((y : Nat) : Int) == 0) = false := by simp; omega
 have h2 : decide (((y : Nat) : Int) ≤ (0 : Int)) = false := by simp; omega
 have h3 : ¬ y ≤ 0 := by omega
 have h4 : ¬ y = 0 := by omega
 have e1 : IntKind.u64.wrap ((lo : Int) / y) = ((lo / y : Nat) : Int) := by
  rw [← Int.natCast_ediv]; exact wrapN _ (Nat.lt_of_le_of_lt (Nat.div_le_self _ _) hlo)
 have e2 : IntKind.u64.wrap ((lo : Int) % y) = ((lo % y : Nat) : Int) := by
  rw [← Int.natCast_emod]; exact wrapN _ (Nat.lt_of_le_of_lt (Nat.mod_le _ _) hlo)
 go_enter Tryz.func160, Tryz.ntmps160
 go_wp2_with fail
 go_quiet (fail)
 go_wp2_with fail
 go_ret2
 exact ⟨by first | rfl | simp, _, rfl⟩
theorem div64_any (hi lo y : Nat) (hy : hi < y) (hyl : y < 18446744073709551616) (hlo : lo < 18446744073709551616) (w : World) :
  Calls Tryz.prog 160 #[.int .u64 hi, .int .u64 lo, .int .u64 y] w fun e w' => e = .returned (.tuple #[.int .u64 ((hi * 18446744073709551616 + lo) / y : Nat), .int .u64 ((hi * 18446744073709551616 + lo) % y : Nat)]) ∧ ∃ n, w' = w.drewN n := by
 rcases Nat.eq_zero_or_pos hi with h0 | h0
 ·subst h0
  rw [Nat.zero_mul, Nat.zero_add]
  exact div64_zero lo y hy hyl hlo w
 ·have hP := parts hi lo y hy hyl hlo
  have hbl := bitLen_log y (by omega) hyl
  have hlog := log_lt y (by omega) hyl
  have hs : 64 - ((Lib.bitLen y : Nat) : Int) = ((lzN y : Nat) : Int) := by rw [hbl]; unfold lzN; omega
  generalize hse : lzN y = s at hP hs
  generalize hve : y * 2 ^ s = v at hP
  generalize hu2e : hi * 2 ^ s + lo / 2 ^ (64 - s) = u2 at hP
  generalize hu10e : lo * 2 ^ s % 18446744073709551616 = u10 at hP
  have hps := hP.ps
  have hvb := hP.vb
  have hu2v := hP.u2v
  have hu10 : u10 < 18446744073709551616 := by rw [← hu10e]; exact Nat.mod_lt _ (by decide)
  obtain ⟨N1, N2, d1, d2, hQ, hR, hlt⟩ := two_digits hP (v1 := v / 4294967296) (v0 := v % 4294967296) (u1 := u10 / 4294967296) (u0 := u10 % 4294967296) rfl rfl rfl rfl
  have D1 := Dig.start N1
  have q1l := N1.q_lt
  obtain ⟨Q1, hQ1⟩ : ∃ Q1, Q1 = digQ (v / 4294967296) (v % 4294967296) u2 (u10 / 4294967296) := ⟨_, rfl⟩
  rw [← hQ1] at N2 d1 d2 hQ hR hlt q1l
  obtain ⟨u21, hu21⟩ : ∃ u21, u21 = u2 * 4294967296 + u10 / 4294967296 - Q1 * v := ⟨_, rfl⟩
  rw [← hu21] at N2 d2 hQ hR hlt
  have D2 := Dig.start N2
  have q2l := N2.q_lt
  obtain ⟨Q2, hQ2⟩ : ∃ Q2, Q2 = digQ (v / 4294967296) (v % 4294967296) u21 (u10 % 4294967296) := ⟨_, rfl⟩
  rw [← hQ2] at d2 hQ hR hlt q2l
  obtain ⟨R2, hR2⟩ : ∃ R2, R2 = u21 * 4294967296 + u10 % 4294967296 - Q2 * v := ⟨_, rfl⟩
  rw [← hR2] at hR hlt
  have hu21v : u21 < v := by
   have := N2.m2
   have := Nat.div_add_mod v 4294967296
   omega
  have ha : bits .and .u64 (v : Int) 4294967295 = ((v % 4294967296 : Nat) : Int) := by
   have := bits_and_u64_nat v 4294967295 (by omega) (by decide)
   rw [show ((4294967295 : Nat) : Int) = 4294967295 from rfl] at this
   rw [this, Nat.and_two_pow_sub_one_eq_mod v 32]
  have ha2 : bits .and .u64 (u10 : Int) 4294967295 = ((u10 % 4294967296 : Nat) : Int) := by
   have := bits_and_u64_nat u10 4294967295 (by omega) (by decide)
   rw [show ((4294967295 : Nat) : Int) = 4294967295 from rfl] at this
   rw [this, Nat.and_two_pow_sub_one_eq_mod u10 32]
  have hsub : ∀ (a b n : Nat), b ≤ a → a - b = n → n < 18446744073709551616 → IntKind.u64.wrap ((a : Int) - b) = (n : Int) := fun a b n h1 h2 h3 => by
   rw [← Int.ofNat_sub h1, h2]; exact wrapN n h3
  have hwm : ∀ (a : Nat), IntKind.u64.wrap ((a : Nat) : Int) = ((a % 18446744073709551616 : Nat) : Int) := fun a => by
   rw [IntKind.wrap_u64]; omega
  -- differences of what may be more than 64 bits hold
  have hdiff : ∀ (a b n : Nat), b ≤ a → a - b = n → n < 18446744073709551616 → IntKind.u64.wrap (IntKind.u64.wrap (a : Int) - IntKind.u64.wrap (b : Int)) = (n : Int) := fun a b n h1 h2 h3 => by
   rw [IntKind.wrap_u64, IntKind.wrap_u64, IntKind.wrap_u64]; omega
  have hadd : ∀ (a b : Nat), IntKind.u64.wrap (IntKind.u64.wrap (a : Int) + (b : Int)) = IntKind.u64.wrap ((a + b : Nat) : Int) := fun a b => by
   rw [IntKind.wrap_u64, IntKind.wrap_u64, IntKind.wrap_u64]; omega
  have hmul : ∀ (a b : Nat), (a : Int) * (b : Int) = ((a * b : Nat) : Int) := fun a b => (Int.natCast_mul a b).symm
  have hpw : ∀ n : Nat, ((2 : Int) ^ n) = ((2 ^ n : Nat) : Int) := fun n => by rw [Int.natCast_pow]; rfl
  refine (div64_w hi lo y s v (v / 4294967296) (v % 4294967296) u2 u10 (u10 / 4294967296) (u10 % 4294967296) (u2 / (v / 4294967296)) (u2 - u2 / (v / 4294967296) * (v / 4294967296)) Q1 u21 (u21 / (v / 4294967296)) (u21 - u21 / (v / 4294967296) * (v / 4294967296)) Q2 ((hi * 18446744073709551616 + lo) / y) R2 ((hi * 18446744073709551616 + lo) % y) (by simp; omega) hy hyl hlo w
   hs (wrapN s (by omega)) ?_ ?_ ha ?_ ?_ ?_ ?_ ha2 ?_ ?_ ?_ ?_ N1 D1 hQ1 ?_ ?_ ?_ ?_ N2 D2 hQ2 ?_ ?_ ?_).mono ?_
  ·rw [hpw, hmul, hve]; exact wrapN v hvb.2
  ·exact (Int.natCast_ediv v 4294967296).symm
  ·rw [hpw, hpw, hmul, wrapN _ hP.hb, ← Int.natCast_ediv, bits_or_u64_nat _ _ hP.hb (by have := hP.lb; have h5 : 2 ^ s ≤ 2 ^ 63 := Nat.pow_le_pow_right (by decide) (by omega); omega), ← hu2e]
   rw [Nat.mul_comm hi, Nat.two_pow_add_eq_or_of_lt hP.lb]
  ·rw [show (64 - (s : Int)) = ((64 - s : Nat) : Int) by omega]; exact wrapN _ (by omega)
  ·rw [hpw, hmul, hwm, hu10e]
  ·exact (Int.natCast_ediv u10 4294967296).symm
  ·exact (Int.natCast_ediv u2 (v / 4294967296)).symm
  ·exact wrapN _ (by have := Nat.div_le_self u2 (v / 4294967296); omega)
  ·rw [hmul, wrapN (u2 / (v / 4294967296) * (v / 4294967296)) (by have := Nat.div_mul_le_self u2 (v / 4294967296); omega)]
   exact hsub _ _ _ (Nat.div_mul_le_self _ _) rfl (by omega)
  ·have := N1.n1; omega
  ·rw [show ((4294967296 : Int)) = ((4294967296 : Nat) : Int) from rfl, hmul, hmul, hadd]
   exact hdiff _ _ _ d1 hu21.symm (by omega)
  ·exact (Int.natCast_ediv u21 (v / 4294967296)).symm
  ·exact wrapN _ (by have := Nat.div_le_self u21 (v / 4294967296); omega)
  ·rw [hmul, wrapN (u21 / (v / 4294967296) * (v / 4294967296)) (by have := Nat.div_mul_le_self u21 (v / 4294967296); omega)]
   exact hsub _ _ _ (Nat.div_mul_le_self _ _) rfl (by omega)
  ·rw [show ((4294967296 : Int)) = ((4294967296 : Nat) : Int) from rfl, hmul, hadd, hQ]
   exact wrapN _ (by rw [← hQ]; omega)
  ·rw [show ((4294967296 : Int)) = ((4294967296 : Nat) : Int) from rfl, hmul, hmul, hadd]
   exact hdiff _ _ _ d2 hR2.symm (by omega)
  ·rw [hpw, ← Int.natCast_ediv, hR]
  ·rintro e w' ⟨rfl, rfl⟩
   exact ⟨rfl, 0, rfl⟩
set_option linter.unusedSectionVars false
set_option maxHeartbeats 2000000
/-! ### What instructions do to a run -/
def SRun.top (st : SRun) : SFrm := st.frames.getD (st.frames.length - 1) zFrm
def SRun.setTop (st : SRun) (fr : SFrm) : SRun := { st with frames := st.frames.set (st.frames.length - 1) fr }
def SRun.last (st : SRun) : Int := st.stack.getD (st.stack.length - 1) 0
def SRun.cut (st : SRun) (k : Nat) : SRun := { st with stack := st.stack.take (st.stack.length - k) }
def SRun.put (st : SRun) (v : Int) : SRun := { st with stack := st.stack ++ [v] }
/-- the run's block is this; what such a call leaves -/
def RP (B mb fb g : Nat) (w : World) (f : Nat → Nat) (st' : SRun) (w' : World) : Prop := ∃ vS vF vK vA f', RUN B mb fb w' g f' vS vF vK vA st' ∧ Stp g w f w' f'
theorem RP.of_below {B mb fb g : Nat} {w W w' : World} {f : Nat → Nat} {st' : SRun} (hb : Below w.heap.size w W) (h : RP B mb fb g W f st' w') : RP B mb fb g w f st' w' := by
 obtain ⟨vS, vF, vK, vA, f', h1, h2⟩ := h
 exact ⟨vS, vF, vK, vA, f', h1, (Stp.below hb).trans h2⟩
theorem RP.below {B mb fb g : Nat} {w w1 w' : World} {f : Nat → Nat} {st' : SRun} (h : RP B mb fb g w f st' w1) (hb : Below w1.heap.size w1 w') : RP B mb fb g w f st' w' := by
 obtain ⟨vS, vF, vK, vA, f', h1, h2⟩ := h
 exact ⟨vS, vF, vK, vA, f', h1.below hb, h2.trans (Stp.below hb)⟩
theorem rpush_rp {B mb fb g : Nat} {w : World} {f : Nat → Nat} {vS vF vK vA : Value} {st : SRun} (h : RUN B mb fb w g f vS vF vK vA st) (hB : B ≤ w.heap.size) (hl : st.stack.length ≤ 1073741824) (x : Int) :
  Calls Tryz.prog 55 #[.pointer (some ⟨g, 0, none⟩), .int .i64 x] w fun e w' => e = .returned (.tuple #[]) ∧ RP B mb fb g w f (st.put x) w' :=
 (rpush_any B mb fb g w f vS vF vK vA st h hB hl x).mono fun e w' ⟨he, vK', f', h1, h2⟩ => ⟨he, vS, vF, vK', vA, f', h1, h2⟩
/-- pop, its world told -/
theorem rpop_x {B mb fb g : Nat} {w : World} {f : Nat → Nat} {vS vF vK vA : Value} {st : SRun} (h : RUN B mb fb w g f vS vF vK vA st) (hn : 0 < st.stack.length) (hl : st.stack.length ≤ 1073741824) :
  Calls Tryz.prog 82 #[.pointer (some ⟨g, 0, none⟩)] w fun e w' => e = .returned (.int .i64 st.last) ∧ ∃ vK', w' = w.setCell ⟨g, 4, none⟩ vK' ∧ RUN B mb fb (w.setCell ⟨g, 4, none⟩ vK') g f vS vF vK' vA (st.cut 1) ∧ Stp g w f (w.setCell ⟨g, 4, none⟩ vK') f := by
 obtain ⟨n, hn⟩ : ∃ n, st.stack.length = n + 1 := ⟨st.stack.length - 1, by omega⟩
 have e1 : st.last = st.stack.getD n 0 := by unfold SRun.last; rw [hn]; rfl
 have e2 : st.cut 1 = { st with stack := st.stack.take n } := by unfold SRun.cut; rw [hn]; rfl
 rw [e1, e2]
 obtain ⟨b, cap, rfl, hcap⟩ := h.formK (by omega)
 obtain ⟨x, hx⟩ : ∃ x, x = st.stack.getD n 0 := ⟨_, rfl⟩
 have h1 := PR_cell h.PR n (by omega)
 rw [← hx] at h1
 rw [← hx]
 have c4 := h.at_.2.2.2.2.1
 have hf : w.frozen? ⟨g, 4, none⟩ = false := blk_frozen h.blk 4
 have HH := Lib.hid h
 have HN := Lib.hid hn
 rw [hn] at c4 hcap
 clear h hx e1 e2
 rw [HN.out] at hl
 clear hn
 go_enter Tryz.func82, Tryz.ntmps82
 go_wp2_with fail
 go_ret
 exact ⟨rfl, _, rfl, HH.out.putK (Kd.R_take HH.out.stack (by have := HN.out; omega))⟩
/-- what plain does -/
def plainR (i : SInstr) (st : SRun) : SRun :=
 if i.f0 = 1 then st.put i.f1
 else if i.f0 = 2 then st.put (st.top.loc.getD i.f1.toNat 0)
 else if i.f0 = 3 then (st.cut 1).setTop { st.top with loc := st.top.loc.set i.f1.toNat st.last }
 else if i.f0 = 4 then st.put ((st.state.getD i.f1.toNat []).getD 0 0)
 else if i.f0 = 5 then { st.cut 1 with state := st.state.set i.f1.toNat ((st.state.getD i.f1.toNat []).set 0 st.last) }
 else if i.f0 = 28 then st.setTop { st.top with at_ := i.f1.toNat }
 else if i.f0 = 29 then if st.last = 0 then (st.cut 1).setTop { st.top with at_ := i.f1.toNat } else st.cut 1
 else st.cut 1
/-- reads, then one call: one walk in the order of the text, the world under a name of its own -/
theorem still_tail_g {P : Program} {id : Nat} {Q : Exit → Act → World → Prop} {a : Act} {w : World} {l : List Oper} (n : Nat) (hm : P.follows .mixedOrders = true) (hB : Region.lexTailB .any l.toArray n = true)
  (h : ∀ W, Hid (W = w.drew) → wpStill P l.toArray W (fun a' => wpList P l.toArray Q (l.drop n) a' W) (l.take n) a) : (Code.region id l.toArray true).wp P Q a w :=
 wp_region_still_tail n hm hB (h w.drew rfl)
/-- the box of an instruction, a draw behind it -/
theorem box_at {w W : World} {a b c : Value} (h : Hid (W = (w.alloc (.cells #[a, b, c] 56)).drew)) :
  W.cell? ⟨w.heap.size, 0, none⟩ = some a ∧ W.cell? ⟨w.heap.size, 1, none⟩ = some b ∧ W.cell? ⟨w.heap.size, 2, none⟩ = some c ∧ Below w.heap.size w W := by
 have hb : W.heap[w.heap.size]? = some (.cells #[a, b, c] 56 (0, 0)) := by rw [h.out]; exact heap_alloc_new w _
 exact ⟨(blk_cell hb 0).trans rfl, (blk_cell hb 1).trans rfl, (blk_cell hb 2).trans rfl, by rw [h.out]; exact below_drew (below_alloc (Below.refl _ _) _)⟩
section
variable (B mb fb g : Nat) (w : World) (f : Nat → Nat) (vS vF vK vA : Value) (st : SRun) (h : RUN B mb fb w g f vS vF vK vA st) (hB : B ≤ w.heap.size) (hl : st.stack.length ≤ 1073741824) (FB cap : Nat) (b : Int)
include h hB hl
theorem plain_1 (a : Int) (v : Value) :
  Calls Tryz.prog 77 #[.pointer (some ⟨g, 0, none⟩), v, .agg #[.int .i64 1, .int .i64 a, .int .i64 b]] w fun e w' => e = .returned (.tuple #[]) ∧ RP B mb fb g w f (st.put a) w' := by
 have HH := Lib.hid h
 clear h
 go_enter Tryz.func77, Tryz.ntmps77
 go_wp2_with fail
 refine (rpush_rp (HH.out.below (below_alloc (Below.refl _ _) _)) (by simp; omega) hl _).mono ?_
 rintro e w1 ⟨rfl, hr⟩
 have HR := Lib.hid (RP.of_below (below_alloc (Below.refl _ _) _) hr)
 clear hr
 go_wp2_with fail
 go_end0
 exact ⟨rfl, HR.out⟩
theorem plain_2 (n : Nat) (hn : st.frames.length = n + 1) (hF : vF = .slice (some ⟨FB, 0, none⟩) (n + 1) cap) (j : Nat) (hj : j < (st.frames.getD n zFrm).loc.length) :
  Calls Tryz.prog 77 #[.pointer (some ⟨g, 0, none⟩), .pointer (some ⟨FB, n * 4, none⟩), .agg #[.int .i64 2, .int .i64 j, .int .i64 b]] w fun e w' => e = .returned (.tuple #[]) ∧ RP B mb fb g w f (st.put ((st.frames.getD n zFrm).loc.getD j 0)) w' := by
 obtain ⟨FB', cap', AL, cL, e1, _, _, _, f2, _, _, _, hloc⟩ := h.frame n (by omega)
 rw [hF] at e1
 injection e1 with e1 _ _
 injection e1 with e1
 injection e1 with e1
 subst e1
 obtain ⟨LB, e2, _, l1, _, _⟩ := hloc j hj
 subst e2
 obtain ⟨x, hx⟩ : ∃ x, x = (st.frames.getD n zFrm).loc.getD j 0 := ⟨_, rfl⟩
 obtain ⟨ll, hll⟩ : ∃ ll, ll = (st.frames.getD n zFrm).loc.length := ⟨_, rfl⟩
 rw [← hx] at l1 ⊢
 rw [← hll] at f2 hj
 have HD := Lib.hid (fun W (hb : Below w.heap.size w W) => (h.below hb))
 have HF2 := Lib.hid f2
 have HL1 := Lib.hid l1
 clear h hloc hx hll hF hn f2 l1
 go_enter Tryz.func77, Tryz.ntmps77
 go_wp2_with fail
 refine still_tail_g 9 (by kernel_rfl) (by kernel_rfl) ?_
 intro W HW
 obtain ⟨_, q1, _, hbW⟩ := box_at HW
 have f2 := cell_up hbW HF2.out
 have l1 := cell_up hbW HL1.out
 have HBW := Lib.hid hbW
 clear hbW
 simp only [List.take_succ_cons, List.take_zero, List.drop_succ_cons, List.drop_zero]
 repeat still_step
 refine wpStill_nil ?_
 go_wp2_with fail
 refine (rpush_rp (HD.out _ HBW.out) (Nat.le_trans hB HBW.out.size) hl _).mono ?_
 rintro e w1 ⟨rfl, hr⟩
 have HR := Lib.hid (RP.of_below HBW.out hr)
 clear hr
 go_wp2_with fail
 go_end0
 exact ⟨rfl, HR.out⟩
theorem plain_4 (v : Value) (i : Nat) (hi : i < st.state.length) (h0 : 0 < (st.state.getD i []).length) (hsl : st.state.length ≤ 1000) :
  Calls Tryz.prog 77 #[.pointer (some ⟨g, 0, none⟩), v, .agg #[.int .i64 4, .int .i64 i, .int .i64 b]] w fun e w' => e = .returned (.tuple #[]) ∧ RP B mb fb g w f (st.put ((st.state.getD i []).getD 0 0)) w' := by
 obtain ⟨SB, cap', AL, cL, e1, f2, hrow⟩ := h.var i hi
 subst e1
 obtain ⟨LB, e2, _, l1, _, _⟩ := hrow 0 h0
 subst e2
 obtain ⟨x, hx⟩ : ∃ x, x = (st.state.getD i []).getD 0 0 := ⟨_, rfl⟩
 obtain ⟨ll, hll⟩ : ∃ ll, ll = (st.state.getD i []).length := ⟨_, rfl⟩
 obtain ⟨sl, hsl'⟩ : ∃ sl, sl = st.state.length := ⟨_, rfl⟩
 have c1 := h.at_.2.1
 rw [← hx] at l1 ⊢
 rw [← hll] at f2 h0
 rw [← hsl'] at hi c1 hsl
 have HD := Lib.hid (fun W (hb : Below w.heap.size w W) => (h.below hb))
 have HF2 := Lib.hid f2
 have HL1 := Lib.hid l1
 have HC1 := Lib.hid c1
 clear h hrow hx hll hsl' f2 l1 c1
 go_enter Tryz.func77, Tryz.ntmps77
 go_wp2_with fail
 refine still_tail_g 11 (by kernel_rfl) (by kernel_rfl) ?_
 intro W HW
 obtain ⟨_, q1, _, hbW⟩ := box_at HW
 have f2 := cell_up hbW HF2.out
 have l1 := cell_up hbW HL1.out
 have c1 := cell_up hbW HC1.out
 have HBW := Lib.hid hbW
 clear hbW
 simp only [List.take_succ_cons, List.take_zero, List.drop_succ_cons, List.drop_zero]
 repeat still_step
 refine wpStill_nil ?_
 go_wp2_with fail
 refine (rpush_rp (HD.out _ HBW.out) (Nat.le_trans hB HBW.out.size) hl _).mono ?_
 rintro e w1 ⟨rfl, hr⟩
 have HR := Lib.hid (RP.of_below HBW.out hr)
 clear hr
 go_wp2_with fail
 go_end0
 exact ⟨rfl, HR.out⟩
theorem plain_3 (n : Nat) (hn : st.frames.length = n + 1) (hF : vF = .slice (some ⟨FB, 0, none⟩) (n + 1) cap) (j : Nat) (hj : j < (st.frames.getD n zFrm).loc.length) (hs : 0 < st.stack.length) :
  Calls Tryz.prog 77 #[.pointer (some ⟨g, 0, none⟩), .pointer (some ⟨FB, n * 4, none⟩), .agg #[.int .i64 3, .int .i64 j, .int .i64 b]] w fun e w' => e = .returned (.tuple #[]) ∧ RP B mb fb g w f ((st.cut 1).setTop { st.top with loc := st.top.loc.set j st.last }) w' := by
 have htop : st.top = st.frames.getD n zFrm := by unfold SRun.top; rw [hn]; rfl
 obtain ⟨FB', cap', AL, cL, e1, _, _, _, f2, _, _, _, hloc⟩ := h.frame n (by omega)
 rw [hF] at e1
 injection e1 with e1 _ _
 injection e1 with e1
 injection e1 with e1
 subst e1
 obtain ⟨LB, e2, hLf, l1, l2, _⟩ := hloc j hj
 subst e2
 obtain ⟨ll, hll⟩ : ∃ ll, ll = (st.frames.getD n zFrm).loc.length := ⟨_, rfl⟩
 rw [← hll] at f2 hj
 have HD := Lib.hid (fun W (hb : Below w.heap.size w W) => (h.below hb))
 have HF2 := Lib.hid f2
 have HL1 := Lib.hid l1
 have HL2 := Lib.hid l2
 have HLL := Lib.hid hll
 have HN := Lib.hid hn
 have HT := Lib.hid htop
 have HFE := Lib.hid hF
 have hgl := blk_lt h.blk
 have hgL : ¬ LB = g := fun e => by rw [e, h.fg] at hLf; cases hLf
 have hgF : ¬ FB = g := fun e => by
  have := (Kd.S_R h.frames).1 FB (by rw [hF]; rfl)
  rw [e, h.fg] at this; cases this
 clear h hloc hll hF hn f2 l1 l2 htop
 go_enter Tryz.func77, Tryz.ntmps77
 go_wp2_with fail
 have f2 := HF2.out
 have l1 := HL1.out
 have l2 := HL2.out
 have nF := cell_lt f2
 have nL := cell_lt l1
 have nG := hgl
 go_region_with (go_at_call 82; (with_reducible refine (rpop_x (HD.out _ (below_drew (below_alloc (Below.refl _ _) _))) hs hl).mono ?_); rintro e w1 ⟨rfl, vKq, rfl, hr1, hr2⟩; have HR1 := Lib.hid hr1; have HR2 := Lib.hid hr2; clear hr1 hr2)
 all_goals go_end0
 all_goals
  have e1 : (((w.setCell ⟨g, 4, none⟩ vKq).setCell ⟨LB, j, none⟩ (.int .i64 st.last)).alloc (.cells #[.int .i64 3, .int .i64 j, .int .i64 b] 56)).drew = (((w.alloc (.cells #[.int .i64 3, .int .i64 j, .int .i64 b] 56)).drew).setCell ⟨g, 4, none⟩ vKq).setCell ⟨LB, j, none⟩ (.int .i64 st.last) := by go_simp
  rw [e1]
  obtain ⟨FB', cap', AL', cL', e1, _, _, _, f2', _, _, _, hloc'⟩ := HR1.out.frame n (by have := HN.out; show n < st.frames.length; omega)
  have hF' := HFE.out
  rw [hF'] at e1
  injection e1 with e1 _ _
  injection e1 with e1
  injection e1 with e1
  subst e1
  have f3 : (((w.alloc (.cells #[.int .i64 3, .int .i64 j, .int .i64 b] 56)).drew).setCell ⟨g, 4, none⟩ vKq).cell? ⟨FB, n * 4 + 2, none⟩ = some (.slice (some ⟨LB, 0, none⟩) ll cL) := by go_simp
  rw [f3] at f2'
  have f2' := (Value.slice.inj (Option.some.inj f2')).1
  obtain ⟨LB', e2, _, _, _, hput⟩ := hloc' j (by have := HLL.out; show j < (st.frames.getD n zFrm).loc.length; omega)
  rw [← f2'] at e2
  injection e2 with e2
  injection e2 with e2
  subst e2
  obtain ⟨r1, r2⟩ := hput st.last
  refine ⟨rfl, vS, vF, vKq, vA, f, ?_, ((Stp.below (below_drew (below_alloc (Below.refl _ _) _))).trans HR2.out).trans r2⟩
  rw [HT.out]
  unfold SRun.setTop
  rw [show (st.cut 1).frames = st.frames from rfl, HN.out]
  exact r1
theorem plain_5 (v : Value) (i : Nat) (hi : i < st.state.length) (h0 : 0 < (st.state.getD i []).length) (hsl : st.state.length ≤ 1000) (hs : 0 < st.stack.length) :
  Calls Tryz.prog 77 #[.pointer (some ⟨g, 0, none⟩), v, .agg #[.int .i64 5, .int .i64 i, .int .i64 b]] w fun e w' => e = .returned (.tuple #[]) ∧ RP B mb fb g w f { st.cut 1 with state := st.state.set i ((st.state.getD i []).set 0 st.last) } w' := by
 obtain ⟨SB, cap', AL, cL, e1, f2, hrow⟩ := h.var i hi
 subst e1
 obtain ⟨LB, e2, hLf, l1, l2, _⟩ := hrow 0 h0
 subst e2
 obtain ⟨ll, hll⟩ : ∃ ll, ll = (st.state.getD i []).length := ⟨_, rfl⟩
 obtain ⟨sl, hsl'⟩ : ∃ sl, sl = st.state.length := ⟨_, rfl⟩
 have c1 := h.at_.2.1
 rw [← hll] at f2 h0
 rw [← hsl'] at hi c1 hsl
 have HD := Lib.hid (fun W (hb : Below w.heap.size w W) => (h.below hb))
 have HLL := Lib.hid hll
 have HSL := Lib.hid hsl'
 have hgl := blk_lt h.blk
 have hgL : ¬ LB = g := fun e => by rw [e, h.fg] at hLf; cases hLf
 have hgS : ¬ SB = g := fun e => by
  have := (Kd.S_R h.state).1 SB rfl
  rw [e, h.fg] at this; cases this
 clear h hrow hll hsl' hLf
 have nF := cell_lt f2
 have nL := cell_lt l1
 go_enter Tryz.func77, Tryz.ntmps77
 go_wp2_with fail
 go_region_with (go_at_call 82; (with_reducible refine (rpop_x (HD.out _ (below_drew (below_alloc (Below.refl _ _) _))) hs hl).mono ?_); rintro e w1 ⟨rfl, vKq, rfl, hr1, hr2⟩; have HR1 := Lib.hid hr1; have HR2 := Lib.hid hr2; clear hr1 hr2)
 all_goals go_end0
 all_goals
  have e1 : (((w.setCell ⟨g, 4, none⟩ vKq).setCell ⟨LB, 0, none⟩ (.int .i64 st.last)).alloc (.cells #[.int .i64 5, .int .i64 i, .int .i64 b] 56)).drew = (((w.alloc (.cells #[.int .i64 5, .int .i64 i, .int .i64 b] 56)).drew).setCell ⟨g, 4, none⟩ vKq).setCell ⟨LB, 0, none⟩ (.int .i64 st.last) := by go_simp
  rw [e1]
  obtain ⟨SB', cap', AL', cL', e1, f2', hrow'⟩ := HR1.out.var i (by have := HSL.out; show i < st.state.length; omega)
  injection e1 with e1 _ _
  injection e1 with e1
  injection e1 with e1
  subst e1
  have f3 : (((w.alloc (.cells #[.int .i64 5, .int .i64 i, .int .i64 b] 56)).drew).setCell ⟨g, 4, none⟩ vKq).cell? ⟨SB, i, none⟩ = some (.slice (some ⟨LB, 0, none⟩) ll cL) := by go_simp
  rw [f3] at f2'
  have f2' := (Value.slice.inj (Option.some.inj f2')).1
  obtain ⟨LB', e2, _, _, _, hput⟩ := hrow' 0 (by have := HLL.out; show 0 < (st.state.getD i []).length; omega)
  rw [← f2'] at e2
  injection e2 with e2
  injection e2 with e2
  subst e2
  obtain ⟨r1, r2⟩ := hput st.last
  exact ⟨rfl, _, vF, vKq, vA, f, r1, ((Stp.below (below_drew (below_alloc (Below.refl _ _) _))).trans HR2.out).trans r2⟩
theorem plain_28 (n : Nat) (hn : st.frames.length = n + 1) (hF : vF = .slice (some ⟨FB, 0, none⟩) (n + 1) cap) (j : Nat) :
  Calls Tryz.prog 77 #[.pointer (some ⟨g, 0, none⟩), .pointer (some ⟨FB, n * 4, none⟩), .agg #[.int .i64 28, .int .i64 j, .int .i64 b]] w fun e w' => e = .returned (.tuple #[]) ∧ RP B mb fb g w f (st.setTop { st.top with at_ := j }) w' := by
 have htop : st.top = st.frames.getD n zFrm := by unfold SRun.top; rw [hn]; rfl
 obtain ⟨FB', cap', AL, cL, e1, _, _, f1, _, _, f2, hput, _⟩ := h.frame n (by omega)
 rw [hF] at e1
 injection e1 with e1 _ _
 injection e1 with e1
 injection e1 with e1
 subst e1
 have HP := Lib.hid (hput j)
 have HT := Lib.hid htop
 have HN := Lib.hid hn
 have nF := cell_lt f1
 clear h hput htop hn hF
 go_enter Tryz.func77, Tryz.ntmps77
 go_wp2_with fail
 go_end0
 refine ⟨rfl, RP.below (w1 := w.setCell ⟨FB, n * 4 + 1, none⟩ (.int .i64 j)) ⟨vS, vF, vK, vA, f, ?_, HP.out.2⟩ (below_alloc (Below.refl _ _) _)⟩
 rw [HT.out]
 unfold SRun.setTop
 rw [HN.out]
 exact HP.out.1
theorem plain_33 (v : Value) (a : Int) (hs : 0 < st.stack.length) :
  Calls Tryz.prog 77 #[.pointer (some ⟨g, 0, none⟩), v, .agg #[.int .i64 33, .int .i64 a, .int .i64 b]] w fun e w' => e = .returned (.tuple #[]) ∧ RP B mb fb g w f (st.cut 1) w' := by
 have HD := Lib.hid (fun W (hb : Below w.heap.size w W) => (h.below hb))
 clear h
 go_enter Tryz.func77, Tryz.ntmps77
 go_wp2_with fail
 refine (rpop_x (HD.out _ (below_alloc (Below.refl _ _) _)) hs hl).mono ?_
 rintro e w1 ⟨rfl, vKq, rfl, hr1, hr2⟩
 have HR := Lib.hid (show RP B mb fb g w f (st.cut 1) _ from ⟨vS, vF, vKq, vA, f, hr1, (Stp.below (below_alloc (Below.refl _ _) _)).trans hr2⟩)
 clear hr1 hr2
 go_wp2_with fail
 go_end0
 exact ⟨rfl, HR.out⟩
theorem plain_29 (n : Nat) (hn : st.frames.length = n + 1) (hF : vF = .slice (some ⟨FB, 0, none⟩) (n + 1) cap) (j : Nat) (hs : 0 < st.stack.length) :
  Calls Tryz.prog 77 #[.pointer (some ⟨g, 0, none⟩), .pointer (some ⟨FB, n * 4, none⟩), .agg #[.int .i64 29, .int .i64 j, .int .i64 b]] w fun e w' => e = .returned (.tuple #[]) ∧ RP B mb fb g w f (if st.last = 0 then (st.cut 1).setTop { st.top with at_ := j } else st.cut 1) w' := by
 have htop : st.top = st.frames.getD n zFrm := by unfold SRun.top; rw [hn]; rfl
 obtain ⟨FB', cap', AL, cL, e1, _, _, f1, _, _, f2, _, _⟩ := h.frame n (by omega)
 rw [hF] at e1
 injection e1 with e1 _ _
 injection e1 with e1
 injection e1 with e1
 subst e1
 have HD := Lib.hid (fun W (hb : Below w.heap.size w W) => (h.below hb))
 have HT := Lib.hid htop
 have HN := Lib.hid hn
 have HFE := Lib.hid hF
 have nF := cell_lt f1
 have hgF : ¬ FB = g := fun e => by
  have := (Kd.S_R h.frames).1 FB (by rw [hF]; rfl)
  rw [e, h.fg] at this; cases this
 have hgl := blk_lt h.blk
 clear h htop hn hF
 by_cases hz : st.last = 0
 ·rw [if_pos hz]
  have hz' : (st.last == 0) = true := by simpa using hz
  clear hz
  go_enter Tryz.func77, Tryz.ntmps77
  go_wp2_with fail
  refine (rpop_x (HD.out _ (below_alloc (Below.refl _ _) _)) hs hl).mono ?_
  rintro e w1 ⟨rfl, vKq, rfl, hr1, hr2⟩
  have HR1 := Lib.hid hr1
  have HR2 := Lib.hid hr2
  clear hr1 hr2
  go_wp2_with fail
  go_end0
  have e1 : ((w.setCell ⟨g, 4, none⟩ vKq).setCell ⟨FB, n * 4 + 1, none⟩ (.int .i64 j)).alloc (.cells #[.int .i64 29, .int .i64 j, .int .i64 b] 56) = ((w.alloc (.cells #[.int .i64 29, .int .i64 j, .int .i64 b] 56)).setCell ⟨g, 4, none⟩ vKq).setCell ⟨FB, n * 4 + 1, none⟩ (.int .i64 j) := by go_simp
  rw [e1]
  obtain ⟨FB', cap', AL', cL', e1, _, _, _, f2', _, _, hput, _⟩ := HR1.out.frame n (by have := HN.out; show n < st.frames.length; omega)
  have hF' := HFE.out
  rw [hF'] at e1
  injection e1 with e1 _ _
  injection e1 with e1
  injection e1 with e1
  subst e1
  obtain ⟨r1, r2⟩ := hput j
  refine ⟨rfl, vS, vF, vKq, vA, f, ?_, ((Stp.below (below_alloc (Below.refl _ _) _)).trans HR2.out).trans r2⟩
  rw [HT.out]
  unfold SRun.setTop
  rw [show (st.cut 1).frames = st.frames from rfl, HN.out]
  exact r1
 ·rw [if_neg hz]
  have hz' : (st.last == 0) = false := by simpa using hz
  clear hz
  go_enter Tryz.func77, Tryz.ntmps77
  go_wp2_with fail
  refine (rpop_x (HD.out _ (below_alloc (Below.refl _ _) _)) hs hl).mono ?_
  rintro e w1 ⟨rfl, vKq, rfl, hr1, hr2⟩
  have HR := Lib.hid (show RP B mb fb g w f (st.cut 1) _ from ⟨vS, vF, vKq, vA, f, hr1, (Stp.below (below_alloc (Below.refl _ _) _)).trans hr2⟩)
  clear hr1 hr2
  go_wp2_with fail
  go_end0
  have e1 : (w.setCell ⟨g, 4, none⟩ vKq).alloc (.cells #[.int .i64 29, .int .i64 j, .int .i64 b] 56) = (w.alloc (.cells #[.int .i64 29, .int .i64 j, .int .i64 b] 56)).setCell ⟨g, 4, none⟩ vKq := by go_simp
  rw [e1]
  exact ⟨rfl, HR.out⟩
end
/-! ### fixed numbers: what the package's functions answer -/
def bitV (b : Bool) : Int := if b then 1 else 0
def addF (a b : Int) : Int := (fix_Add.f a b).getD 0
def subF (a b : Int) : Int := (fix_Sub.f a b).getD 0
def mulF (a b : Int) : Int := (fix_Mul.f 1 a b).getD 0
def fromF (a : Int) : Int := (fix_From.f 1 a).getD 0
def toF (a : Int) : Int := (fix_To.f 1 a).getD 0
theorem end_some (b : Bool) : ∃ r, fix_end.f b = some r := by unfold fix_end.f; split <;> exact ⟨_, rfl⟩
theorem size_some (a : Int) : ∃ r, fix_size.f a = some r := by unfold fix_size.f; split <;> exact ⟨_, rfl⟩
theorem signed_some (a b : Int) (c : Bool) : ∃ r, fix_signed.f 1 a b c = some r := by
 have hj : ∀ x y z, ∃ r, fix_signed.j0 1 x y z = some r := by
  intro x y z
  show ∃ r, (if z = true then (if y = true then (some (-9223372036854775808)) else (some 9223372036854775807)) else (if y = true then (some (wrap64 (-(wrap64 (x))))) else (some (wrap64 (x))))) = some r
  split <;> split <;> exact ⟨_, rfl⟩
 unfold fix_signed.f
 split
 ·exact hj _ _ _
 ·exact hj _ _ _
theorem add_some (a b : Int) : fix_Add.f a b = some (addF a b) := by
 have h : ∃ r, fix_Add.f a b = some r := by
  obtain ⟨e, he⟩ := end_some (decide (a < 0))
  unfold fix_Add.f
  rw [he]
  split <;> (repeat' split) <;> exact ⟨_, rfl⟩
 obtain ⟨r, hr⟩ := h
 unfold addF; rw [hr]; rfl
theorem sub_some (a b : Int) : fix_Sub.f a b = some (subF a b) := by
 have h : ∃ r, fix_Sub.f a b = some r := by
  obtain ⟨e, he⟩ := end_some (decide (a < 0))
  unfold fix_Sub.f
  rw [he]
  split <;> (repeat' split) <;> exact ⟨_, rfl⟩
 obtain ⟨r, hr⟩ := h
 unfold subF; rw [hr]; rfl
theorem mul_some (a b : Int) : fix_Mul.f 1 a b = some (mulF a b) := by
 have h : ∃ r, fix_Mul.f 1 a b = some r := by
  obtain ⟨x, hx⟩ := size_some a
  obtain ⟨y, hy⟩ := size_some b
  unfold fix_Mul.f
  rw [hx, hy]
  simp only [Option.bind_some]
  unfold bits_Mul64.f
  simp only [Option.bind_some]
  obtain ⟨z, hz⟩ := signed_some (IntKind.u64.wrap 0) 0 true
  generalize (decide (a < 0) != decide (b < 0)) = s
  exact ⟨_, by rw [(signed_some _ _ s).choose_spec]; rfl⟩
 obtain ⟨r, hr⟩ := h
 unfold mulF; rw [hr]; rfl
theorem from_some (a : Int) : fix_From.f 1 a = some (fromF a) := by
 have h : ∃ r, fix_From.f 1 a = some r := by
  obtain ⟨x, hx⟩ := size_some a
  unfold fix_From.f
  rw [hx]
  simp only [Option.bind_some]
  exact ⟨_, by rw [(signed_some _ _ _).choose_spec]; rfl⟩
 obtain ⟨r, hr⟩ := h
 unfold fromF; rw [hr]; rfl
theorem to_some (a : Int) : fix_To.f 1 a = some (toF a) := by
 have h : ∃ r, fix_To.f 1 a = some r := by
  obtain ⟨x, hx⟩ := size_some a
  unfold fix_To.f
  rw [hx]
  simp only [Option.bind_some]
  exact ⟨_, by rw [(signed_some _ _ _).choose_spec]; rfl⟩
 obtain ⟨r, hr⟩ := h
 unfold toF; rw [hr]; rfl
theorem fixAdd_any (a b : Int) (w : World) : Calls Tryz.prog 115 #[.int .i64 a, .int .i64 b] w fun e w' => e = .returned (.int .i64 (addF a b)) ∧ ∃ n, w' = w.drewN n :=
 (fix_Add.calls a b _ w (add_some a b)).mono fun e w' ⟨h1, h2⟩ => ⟨h1, h2.out⟩
theorem fixSub_any (a b : Int) (w : World) : Calls Tryz.prog 107 #[.int .i64 a, .int .i64 b] w fun e w' => e = .returned (.int .i64 (subF a b)) ∧ ∃ n, w' = w.drewN n :=
 (fix_Sub.calls a b _ w (sub_some a b)).mono fun e w' ⟨h1, h2⟩ => ⟨h1, h2.out⟩
theorem fixMul_any (a b : Int) (w : World) : Calls Tryz.prog 116 #[.int .i64 a, .int .i64 b] w fun e w' => e = .returned (.int .i64 (mulF a b)) ∧ ∃ n, w' = w.drewN n :=
 (fix_Mul.calls 1 a b _ w (mul_some a b)).mono fun e w' ⟨h1, h2⟩ => ⟨h1, h2.out⟩
theorem fixFrom_any (a : Int) (w : World) : Calls Tryz.prog 108 #[.int .i64 a] w fun e w' => e = .returned (.int .i64 (fromF a)) ∧ ∃ n, w' = w.drewN n :=
 (fix_From.calls 1 a _ w (from_some a)).mono fun e w' ⟨h1, h2⟩ => ⟨h1, h2.out⟩
theorem fixTo_any (a : Int) (w : World) : Calls Tryz.prog 109 #[.int .i64 a] w fun e w' => e = .returned (.int .i64 (toF a)) ∧ ∃ n, w' = w.drewN n :=
 (fix_To.calls 1 a _ w (to_some a)).mono fun e w' ⟨h1, h2⟩ => ⟨h1, h2.out⟩
theorem vbit_any (b : Bool) (w : World) : Calls Tryz.prog 56 #[.bool b] w fun e w' => e = .returned (.int .i64 (bitV b)) ∧ ∃ n, w' = w.drewN n :=
 (vm_bit.calls b _ w (by unfold vm_bit.f bitV; split <;> rfl)).mono fun e w' ⟨h1, h2⟩ => ⟨h1, h2.out⟩
/-- what one does -/
def oneV (op v : Int) : Int := if op = 13 then wrap64 (-v) else if op = 18 then subF 0 v else if op = 25 then bits .xor .i64 v 1 else if op = 26 then fromF v else toF v
theorem one_any (B mb fb g : Nat) (w : World) (f : Nat → Nat) (vS vF vK vA : Value) (st : SRun) (h : RUN B mb fb w g f vS vF vK vA st) (hB : B ≤ w.heap.size) (hl : st.stack.length ≤ 1073741824) (hs : 0 < st.stack.length) (op : Int) (ho : op = 13 ∨ op = 18 ∨ op = 25 ∨ op = 26 ∨ op = 27) :
  Calls Tryz.prog 78 #[.pointer (some ⟨g, 0, none⟩), .int .i64 op] w fun e w' => e = .returned (.tuple #[]) ∧ RP B mb fb g w f ((st.cut 1).put (oneV op st.last)) w' := by
 have hlc : (st.cut 1).stack.length ≤ 1073741824 := by show (st.stack.take _).length ≤ _; rw [List.length_take]; omega
 have HP := Lib.hid (rpop_x h hs hl)
 have HBb := Lib.hid hB
 clear h
 rcases ho with rfl | rfl | rfl | rfl | rfl
 all_goals
  go_enter Tryz.func78, Tryz.ntmps78
  go_wp2_with fail
  refine HP.out.mono ?_
  rintro e w1 ⟨rfl, vKq, rfl, hr1, hr2⟩
  have HR1 := Lib.hid hr1
  have HR2 := Lib.hid hr2
  clear hr1 hr2
  obtain ⟨W, hW⟩ : ∃ W, W = w.setCell ⟨g, 4, none⟩ vKq := ⟨_, rfl⟩
  rw [← hW] at HR1 HR2 ⊢
  have HBW := Lib.hid (Nat.le_trans HBb.out HR2.out.size)
  clear hW
  go_wp2_with (first
   | (go_at_call 107; refine (fixSub_any _ _ _).mono ?_; rintro e w2 ⟨rfl, nd, rfl⟩)
   | (go_at_call 108; refine (fixFrom_any _ _).mono ?_; rintro e w2 ⟨rfl, nd, rfl⟩)
   | (go_at_call 109; refine (fixTo_any _ _).mono ?_; rintro e w2 ⟨rfl, nd, rfl⟩)
   | (go_at_call 55; first
     | (refine (rpush_rp HR1.out HBW.out hlc _).mono ?_; rintro e w3 ⟨rfl, hr⟩; have HR := Lib.hid hr; clear hr)
     | (refine (rpush_rp (HR1.out.below (pw_below_drewN (Below.refl _ _) nd)) HBW.out hlc _).mono ?_; rintro e w3 ⟨rfl, hr⟩; have HR := Lib.hid (RP.of_below (pw_below_drewN (Below.refl _ _) nd) hr); clear hr)))
  go_end0
  obtain ⟨a1, a2, a3, a4, f', r1, r2⟩ := HR.out
  exact ⟨rfl, a1, a2, a3, a4, f', by first | exact r1 | (rw [show oneV 13 st.last = wrap64 (-st.last) from rfl]; exact r1), HR2.out.trans r2⟩
set_option maxHeartbeats 4000000
def inRow (n : Int) (l : List Int) : Bool := decide (0 ≤ n) && decide (n < l.length)
/-- what element does; false: there is no such element -/
def atR (A : Nat) (st : SRun) : Bool × SRun :=
 if inRow st.last (st.state.getD A []) then (true, (st.cut 1).put ((st.state.getD A []).getD st.last.toNat 0)) else (false, st.cut 1)
def putR (A : Nat) (st : SRun) : Bool × SRun :=
 if inRow (st.cut 1).last (st.state.getD A []) then (true, { (st.cut 1).cut 1 with state := st.state.set A ((st.state.getD A []).set (st.cut 1).last.toNat st.last) }) else (false, (st.cut 1).cut 1)
theorem cell_eq {w w' : World} {b : Nat} (h : w'.heap[b]? = w.heap[b]?) (o : Nat) : w'.cell? ⟨b, o, none⟩ = w.cell? ⟨b, o, none⟩ := by simp [World.cell?, h]
section
variable (B mb fb g : Nat) (w : World) (f : Nat → Nat) (vS vF vK vA : Value) (st : SRun) (h : RUN B mb fb w g f vS vF vK vA st) (hB : B ≤ w.heap.size) (hl : st.stack.length ≤ 1073741824) (b : Int)
include h hB hl
theorem element_6 (i : Nat) (hi : i < st.state.length) (hsl : st.state.length ≤ 1000) (hrl : (st.state.getD i []).length ≤ 1000) (h0 : 0 < (st.state.getD i []).length) (hs : 0 < st.stack.length) :
  Calls Tryz.prog 79 #[.pointer (some ⟨g, 0, none⟩), .agg #[.int .i64 6, .int .i64 i, .int .i64 b]] w fun e w' => e = .returned (.bool (atR i st).1) ∧ RP B mb fb g w f (atR i st).2 w' := by
 obtain ⟨SB, cap', AL, cL, e1, f2, hrow⟩ := h.var i hi
 subst e1
 obtain ⟨LB, e2, hLf, l0, _, _⟩ := hrow 0 h0
 subst e2
 have c1 := h.at_.2.1
 obtain ⟨row, hre⟩ : ∃ row, row = st.state.getD i [] := ⟨_, rfl⟩
 have hcells := Lib.hid (fun j (hj : j < row.length) => by
  obtain ⟨LB', e2, _, l1, _, _⟩ := hrow j (by rw [← hre]; exact hj)
  have e3 : LB = LB' := by injection e2 with e2; injection e2
  rw [← hre, ← e3] at l1
  exact l1)
 rw [← hre] at f2 h0 hrl
 obtain ⟨rl, hrl'⟩ : ∃ rl, rl = row.length := ⟨_, rfl⟩
 obtain ⟨sl, hsl'⟩ : ∃ sl, sl = st.state.length := ⟨_, rfl⟩
 rw [← hrl'] at f2 h0 hrl
 rw [← hsl'] at hi c1 hsl
 have HD := Lib.hid (fun W (hb : Below w.heap.size w W) => (h.below hb))
 have hgl := blk_lt h.blk
 have hgL : ¬ LB = g := fun e => by rw [e, h.fg] at hLf; cases hLf
 have hgS : ¬ SB = g := fun e => by
  have := (Kd.S_R h.state).1 SB rfl
  rw [e, h.fg] at this; cases this
 have nF := cell_lt f2
 have nL := cell_lt l0
 have HSZ := Lib.hid hB
 have hlc : (st.cut 1).stack.length ≤ 1073741824 := by show (st.stack.take _).length ≤ _; rw [List.length_take]; omega
 have hE : atR i st = if inRow st.last row then (true, (st.cut 1).put (row.getD st.last.toNat 0)) else (false, st.cut 1) := by unfold atR; rw [← hre]
 have HE := Lib.hid hE
 have HRL := Lib.hid hrl'
 clear h hrow hre hsl' hLf l0 hE hrl' hB
 have hways : (st.last < 0) ∨ (0 ≤ st.last ∧ (rl : Int) ≤ st.last) ∨ ∃ m : Nat, st.last = m ∧ m < rl := by
  rcases Int.lt_or_le st.last 0 with h1 | h1
  ·exact .inl h1
  ·rcases Int.lt_or_le st.last rl with h2 | h2
   ·exact .inr (.inr ⟨st.last.toNat, by omega, by omega⟩)
   ·exact .inr (.inl ⟨h1, h2⟩)
 have HW := Lib.hid hways
 clear hways
 go_enter Tryz.func79, Tryz.ntmps79
 go_wp2_with fail
 go_region_with (go_at_call 82; (with_reducible refine (rpop_x (HD.out _ (below_drew (below_alloc (Below.refl _ _) _))) hs hl).mono ?_); rintro e w1 ⟨rfl, vKq, rfl, hr1, hr2⟩; have HR1 := Lib.hid hr1; have HR2 := Lib.hid hr2; clear hr1 hr2)
 all_goals
  have e1 : ((w.setCell ⟨g, 4, none⟩ vKq).alloc (.cells #[.int .i64 6, .int .i64 i, .int .i64 b] 56)).drew = ((w.alloc (.cells #[.int .i64 6, .int .i64 i, .int .i64 b] 56)).drew).setCell ⟨g, 4, none⟩ vKq := by go_simp
  rw [e1]
  have hbx : (((w.alloc (.cells #[.int .i64 6, .int .i64 i, .int .i64 b] 56)).drew).setCell ⟨g, 4, none⟩ vKq).cell? ⟨w.heap.size, 0, none⟩ = some (.int .i64 6) := (cell_eq (Below.heap_setCell _ _ _ _ (by show w.heap.size ≠ g; omega)) 0).trans ((blk_cell (heap_alloc_new w (.cells #[.int .i64 6, .int .i64 i, .int .i64 b] 56)) 0).trans rfl)
  have hcl : ∀ j, j < rl → (((w.alloc (.cells #[.int .i64 6, .int .i64 i, .int .i64 b] 56)).drew).setCell ⟨g, 4, none⟩ vKq).cell? ⟨LB, j, none⟩ = some (.int .i64 (row.getD j 0)) := fun j hj =>
   (cell_eq (Below.heap_setCell _ _ _ _ hgL) j).trans ((cell_eq (Lib.alloc_old w (.cells #[.int .i64 6, .int .i64 i, .int .i64 b] 56) LB nL) j).trans (hcells.out j (by rw [← HRL.out]; exact hj)))
  have HS2 := Lib.hid ((Stp.below (below_drew (below_alloc (Below.refl _ _) _))).trans HR2.out)
  have HCL := Lib.hid hcl
  obtain ⟨W, hW⟩ : ∃ W, W = ((w.alloc (.cells #[.int .i64 6, .int .i64 i, .int .i64 b] 56)).drew).setCell ⟨g, 4, none⟩ vKq := ⟨_, rfl⟩
  rw [← hW] at HR1 HS2 HCL hbx ⊢
  have HBW := Lib.hid (Nat.le_trans HSZ.out HS2.out.size)
  clear hW e1 hcl HR2
  rcases HW.out with h1 | ⟨h1, h2⟩ | ⟨m, hm, h2⟩
  ·have HE' := Lib.hid (show atR i st = (false, st.cut 1) from by rw [HE.out, if_neg (by unfold inRow; simp; omega)])
   have h1' : decide (st.last < 0) = true := decide_eq_true h1
   clear h1
   go_wp2_with fail
   go_ret
   exact ⟨ret_bool (by rw [HE'.out]), by rw [HE'.out]; exact ⟨_, vF, vKq, vA, f, HR1.out, HS2.out⟩⟩
  ·have HE' := Lib.hid (show atR i st = (false, st.cut 1) from by rw [HE.out, if_neg (by unfold inRow; have := HRL.out; simp; omega)])
   have h1' : decide (st.last < 0) = false := decide_eq_false (by omega)
   have h2' : decide (st.last ≥ (rl : Int)) = true := decide_eq_true (by omega)
   clear h1 h2
   go_wp2_with fail
   go_ret
   exact ⟨ret_bool (by rw [HE'.out]), by rw [HE'.out]; exact ⟨_, vF, vKq, vA, f, HR1.out, HS2.out⟩⟩
  ·have HE' := Lib.hid (show atR i st = (true, (st.cut 1).put (row.getD m 0)) from by rw [HE.out, if_pos (by unfold inRow; have := HRL.out; simp; omega), hm]; rfl)
   have hcm := HCL.out m h2
   have HM := Lib.hid hm
   rw [hm]
   clear hm
   go_wp2_with (go_at_call 55; refine (rpush_rp HR1.out HBW.out hlc _).mono ?_; rintro e w3 ⟨rfl, hr⟩; have HR := Lib.hid hr; clear hr)
   go_ret
   obtain ⟨a1, a2, a3, a4, f', r1, r2⟩ := HR.out
   exact ⟨ret_bool (by rw [HE'.out]), by rw [HE'.out]; exact ⟨a1, a2, a3, a4, f', r1, HS2.out.trans r2⟩⟩
theorem element_7 (i : Nat) (hi : i < st.state.length) (hsl : st.state.length ≤ 1000) (hrl : (st.state.getD i []).length ≤ 1000) (h0 : 0 < (st.state.getD i []).length) (hs : 1 < st.stack.length) :
  Calls Tryz.prog 79 #[.pointer (some ⟨g, 0, none⟩), .agg #[.int .i64 7, .int .i64 i, .int .i64 b]] w fun e w' => e = .returned (.bool (putR i st).1) ∧ RP B mb fb g w f (putR i st).2 w' := by
 have HD := Lib.hid (fun W (hb : Below w.heap.size w W) => (h.below hb))
 have hlc : (st.cut 1).stack.length ≤ 1073741824 := by show (st.stack.take _).length ≤ _; rw [List.length_take]; omega
 have hsc : 0 < (st.cut 1).stack.length := by show 0 < (st.stack.take _).length; rw [List.length_take]; omega
 have hgl0 := blk_lt h.blk
 clear h
 go_enter Tryz.func79, Tryz.ntmps79
 go_wp2_with fail
 refine (rpop_x (HD.out _ (below_alloc (Below.refl _ _) _)) (by omega) hl).mono ?_
 rintro e w1 ⟨rfl, vK1, rfl, hr1, hr2⟩
 have hs1 := (Stp.below (f := f) (g := g) (below_alloc (Below.refl w.heap.size w) (.cells #[.int .i64 7, .int .i64 i, .int .i64 b] 56))).trans hr2
 have hb1 : ((w.alloc (.cells #[.int .i64 7, .int .i64 i, .int .i64 b] 56)).setCell ⟨g, 4, none⟩ vK1).heap[w.heap.size]? = some (.cells #[.int .i64 7, .int .i64 i, .int .i64 b] 56 (0, 0)) := (Below.heap_setCell _ _ _ _ (by show w.heap.size ≠ g; omega)).trans (heap_alloc_new w (.cells #[.int .i64 7, .int .i64 i, .int .i64 b] 56))
 obtain ⟨V, hV⟩ : ∃ V, V = (w.alloc (.cells #[.int .i64 7, .int .i64 i, .int .i64 b] 56)).setCell ⟨g, 4, none⟩ vK1 := ⟨_, rfl⟩
 rw [← hV] at hr1 hs1 hb1 ⊢
 have HS1 := Lib.hid hs1
 have HSZ := Lib.hid (Nat.le_trans hB hs1.size)
 have HBK := Lib.hid hb1
 have HX : V.cell? ⟨w.heap.size, 0, none⟩ = some (.int .i64 7) := (blk_cell hb1 0).trans rfl
 have HX1 : V.cell? ⟨w.heap.size, 1, none⟩ = some (.int .i64 i) := (blk_cell hb1 1).trans rfl
 have nX := cell_lt HX
 have hgX : ¬ w.heap.size = g := by omega
 obtain ⟨st1, hst1⟩ : ∃ st1, st1 = st.cut 1 := ⟨_, rfl⟩
 have hss : st1.state = st.state := by rw [hst1]; rfl
 rw [← hst1] at hr1 hlc hsc
 rw [← hss] at hi hsl hrl h0
 have HST := Lib.hid hst1
 have HSS := Lib.hid hss
 have HD1 := Lib.hid (fun W (hb : Below V.heap.size V W) => (hr1.below hb))
 obtain ⟨SB, cap', AL, cL, e1, f2, hrow⟩ := hr1.var i hi
 subst e1
 obtain ⟨LB, e2, hLf, l0, _, _⟩ := hrow 0 h0
 subst e2
 have c1 := hr1.at_.2.1
 obtain ⟨row, hre⟩ : ∃ row, row = st1.state.getD i [] := ⟨_, rfl⟩
 rw [← hre] at f2 h0 hrl
 obtain ⟨rl, hrl'⟩ : ∃ rl, rl = row.length := ⟨_, rfl⟩
 obtain ⟨sl, hsl'⟩ : ∃ sl, sl = st1.state.length := ⟨_, rfl⟩
 rw [← hrl'] at f2 h0 hrl
 rw [← hsl'] at hi c1 hsl
 have hgl := blk_lt hr1.blk
 have hgL : ¬ LB = g := fun e => by rw [e, hr1.fg] at hLf; cases hLf
 have hgS : ¬ SB = g := fun e => by
  have := (Kd.S_R hr1.state).1 SB rfl
  rw [e, hr1.fg] at this; cases this
 have nF := cell_lt f2
 have nL := cell_lt l0
 have HRL := Lib.hid hrl'
 have HSL := Lib.hid hsl'
 have HRE := Lib.hid hre
 obtain ⟨lv, hlv⟩ : ∃ lv, lv = st1.last := ⟨_, rfl⟩
 have hE : putR i st = if inRow lv row then (true, { st1.cut 1 with state := st1.state.set i (row.set lv.toNat st.last) }) else (false, st1.cut 1) := by unfold putR; rw [hlv, hre, hst1]; rfl
 have HE := Lib.hid hE
 have HLV := Lib.hid hlv
 have hways : (lv < 0) ∨ (0 ≤ lv ∧ (rl : Int) ≤ lv) ∨ ∃ m : Nat, lv = m ∧ m < rl := by
  rcases Int.lt_or_le lv 0 with h1 | h1
  ·exact .inl h1
  ·rcases Int.lt_or_le lv rl with h2 | h2
   ·exact .inr (.inr ⟨lv.toNat, by omega, by omega⟩)
   ·exact .inr (.inl ⟨h1, h2⟩)
 have HW := Lib.hid hways
 clear hways hlv hE hrow hre hrl' hsl' hLf l0 hr1 hr2 hs1 hb1 hV hst1 hss
 go_wp2_with fail
 go_region_with (go_at_call 82; (with_reducible refine (rpop_x (HD1.out _ (below_drew (Below.refl _ _))) hsc hlc).mono ?_); rintro e w1 ⟨rfl, vKq, rfl, hr1, hr2⟩; have HR1 := Lib.hid hr1; have HR2 := Lib.hid hr2; clear hr1 hr2; rw [← HLV.out])
 all_goals
  have e1 : (V.setCell ⟨g, 4, none⟩ vKq).drew = V.drew.setCell ⟨g, 4, none⟩ vKq := by go_simp
  rw [e1]
  have hbx : (V.drew.setCell ⟨g, 4, none⟩ vKq).cell? ⟨w.heap.size, 0, none⟩ = some (.int .i64 7) := (cell_eq (Below.heap_setCell _ _ _ _ (by show w.heap.size ≠ g; omega)) 0).trans HX
  have hsb : (V.drew.setCell ⟨g, 4, none⟩ vKq).cell? ⟨SB, i, none⟩ = some (.slice (some ⟨LB, 0, none⟩) rl cL) := (cell_eq (Below.heap_setCell _ _ _ _ hgS) i).trans f2
  have HSB := Lib.hid hsb
  have HS2 := Lib.hid (HS1.out.trans ((Stp.below (below_drew (Below.refl _ _))).trans HR2.out))
  obtain ⟨W, hW⟩ : ∃ W, W = V.drew.setCell ⟨g, 4, none⟩ vKq := ⟨_, rfl⟩
  rw [← hW] at HR1 HS2 HSB hbx ⊢
  clear hW e1 hsb HR2
  rcases HW.out with h1 | ⟨h1, h2⟩ | ⟨m, hm, h2⟩
  ·have HE' := Lib.hid (show putR i st = (false, st1.cut 1) from by rw [HE.out, if_neg (by unfold inRow; simp; omega)])
   have h1' : decide (lv < 0) = true := decide_eq_true h1
   clear h1
   go_wp2_with fail
   go_ret
   exact ⟨ret_bool (by rw [HE'.out]), by rw [HE'.out]; exact ⟨_, vF, vKq, vA, f, HR1.out, HS2.out⟩⟩
  ·have HE' := Lib.hid (show putR i st = (false, st1.cut 1) from by rw [HE.out, if_neg (by unfold inRow; have := HRL.out; simp; omega)])
   have h1' : decide (lv < 0) = false := decide_eq_false (by omega)
   have h2' : decide (lv ≥ (rl : Int)) = true := decide_eq_true (by omega)
   clear h1 h2
   go_wp2_with fail
   go_ret
   exact ⟨ret_bool (by rw [HE'.out]), by rw [HE'.out]; exact ⟨_, vF, vKq, vA, f, HR1.out, HS2.out⟩⟩
  ·have HE' := Lib.hid (show putR i st = (true, { st1.cut 1 with state := st1.state.set i (row.set m st.last) }) from by rw [HE.out, if_pos (by unfold inRow; have := HRL.out; simp; omega), hm]; rfl)
   obtain ⟨SB', cap2, AL', cL', g1, g2, hrow'⟩ := HR1.out.var i (by have := HSL.out; show i < st1.state.length; omega)
   have g3 : SB = SB' := by
    injection g1 with g1 _ _
    injection g1 with g1
    injection g1
   subst g3
   rw [HSB.out] at g2
   have g4 := (Value.slice.inj (Option.some.inj g2)).1
   obtain ⟨LB', g5, _, l1, l2, hput⟩ := hrow' m (by have h3 := HRL.out; have h4 := HRE.out; show m < (st1.state.getD i []).length; rw [← h4]; omega)
   rw [← g4] at g5
   have g6 : LB = LB' := by injection g5 with g5; injection g5
   subst g6
   have HP := Lib.hid (hput st.last)
   have HL1 := Lib.hid l1
   obtain ⟨zz, hzz⟩ : ∃ z, z = ((st1.cut 1).state.getD i []).getD m 0 := ⟨_, rfl⟩
   rw [← hzz] at l1
   have HM := Lib.hid hm
   rw [hm]
   have hlm : decide ((m : Int) < 0) = false := decide_eq_false (by omega)
   clear hm hput hrow' g1 g2 g4 g5 hzz
   go_wp2_with fail
   go_ret
   refine ⟨ret_bool (by rw [HE'.out]), ?_⟩
   rw [HE'.out]
   have hp1 := HP.out.1
   rw [show (st1.cut 1).state.getD i [] = row from HRE.out.symm] at hp1
   exact ⟨_, vF, vKq, vA, f, hp1, HS2.out.trans HP.out.2⟩
end
theorem RUN.fld {B mb fb g : Nat} {w : World} {f : Nat → Nat} {vS vF vK vA : Value} {st : SRun} (h : RUN B mb fb w g f vS vF vK vA st) (o : Nat) (u : Value) (st' : SRun) (hc : st'.cells mb vS vF vK vA = (st.cells mb vS vF vK vA).setIfInBounds o u)
  (h1 : st'.state = st.state) (h2 : st'.frames = st.frames) (h3 : st'.stack = st.stack) (h4 : st'.asks = st.asks) : RUN B mb fb (w.setCell ⟨g, o, none⟩ u) g f vS vF vK vA st' ∧ Stp g w f (w.setCell ⟨g, o, none⟩ u) f := by
 have hk : ∀ k, k < w.heap.size → k ≠ g → (w.setCell ⟨g, o, none⟩ u).heap[k]? = w.heap[k]? := fun k _ h2 => Below.heap_setCell _ _ _ k h2
 exact ⟨⟨by rw [hc]; exact blk_set h.blk o _, h.gB, h.fg, h.fB, by rw [h1]; exact S_keep2 h.state (by decide) h.fg hk, by rw [h2]; exact S_keep2 h.frames (by decide) h.fg hk, by rw [h3]; exact R_keep2 h.stack (by decide) h.fg hk, by rw [h4]; exact S_keep2 h.asks (by decide) h.fg hk⟩,
  ⟨rfl, rfl, rfl, by simp, fun k h1 h2 _ => hk k h1 h2, fun _ _ => rfl⟩⟩
theorem RUN.putF {B mb fb g : Nat} {w : World} {f : Nat → Nat} {vS vF vK vA : Value} {st : SRun} (h : RUN B mb fb w g f vS vF vK vA st) {vF' : Value} {ys : List SFrm}
  (hF : Kd.S (kFrm fb) 141 w B (fun k => f k = 2) vF' ys) :
  RUN B mb fb (w.setCell ⟨g, 3, none⟩ vF') g f vS vF' vK vA { st with frames := ys } ∧ Stp g w f (w.setCell ⟨g, 3, none⟩ vF') f := by
 have hk : ∀ k, k < w.heap.size → k ≠ g → (w.setCell ⟨g, 3, none⟩ vF').heap[k]? = w.heap[k]? := fun k _ h2 => Below.heap_setCell _ _ _ k h2
 exact ⟨⟨blk_set h.blk 3 _, h.gB, h.fg, h.fB, S_keep2 h.state (by decide) h.fg hk, S_keep2 hF (by decide) h.fg hk, R_keep2 h.stack (by decide) h.fg hk, S_keep2 h.asks (by decide) h.fg hk⟩,
  ⟨rfl, rfl, rfl, by simp, fun k h1 h2 _ => hk k h1 h2, fun _ _ => rfl⟩⟩
/-- what back does; true: the last function has ended -/
def backR (res : Bool) (st : SRun) : Bool × SRun :=
 let st1 := if res then { st.cut 1 with value := st.last } else st
 let st2 := { st1 with stack := st1.stack.take st.top.base, frames := st.frames.take (st.frames.length - 1) }
 if st.frames.length = 1 then (true, st2) else (false, if res then { st2.put st2.value with value := 0 } else st2)
/-- behind the value: the stack and the frames are cut, and what follows -/
def backS (st : SRun) (base n : Nat) : SRun := { st with stack := st.stack.take base, frames := st.frames.take n }
theorem back_any (B mb fb g : Nat) (w : World) (f : Nat → Nat) (vS vF vK vA : Value) (st : SRun) (x : SImage) (AG : Option Addr) (cG cF : Nat) (AS : Option Addr) (cS : Nat) (h : RUN B mb fb w g f vS vF vK vA st) (hM : MACH w mb fb x AG cG cF AS cS) (hB : B ≤ w.heap.size)
  (FB cap n : Nat) (hn : st.frames.length = n + 1) (hF : vF = .slice (some ⟨FB, 0, none⟩) (n + 1) cap) (hl : st.stack.length ≤ 1073741824) (hfi : st.top.fi < x.fns.length) (hfl : x.fns.length ≤ 1000) (hfr : n ≤ 1000)
  (hmb : mb < B) (hfb : fb < B)
  (hbs : st.top.base ≤ st.stack.length) (hres : (x.fns.getD st.top.fi zFn).f2 ≠ 0 → st.top.base < st.stack.length) :
  Calls Tryz.prog 81 #[.pointer (some ⟨g, 0, none⟩), .pointer (some ⟨FB, n * 4, none⟩)] w fun e w' => e = .returned (.bool (backR (decide ((x.fns.getD st.top.fi zFn).f2 ≠ 0)) st).1) ∧ RP B mb fb g w f (backR (decide ((x.fns.getD st.top.fi zFn).f2 ≠ 0)) st).2 w' := by
 obtain ⟨FB', cap', AL, cL, e1, _, f0, _, _, f3, _, _, _⟩ := h.frame n (by omega)
 have e2 : FB = FB' := by
  rw [hF] at e1
  injection e1 with e1 _ _
  injection e1 with e1
  injection e1
 subst e2
 clear e1
 have htop : st.top = st.frames.getD n zFrm := by unfold SRun.top; rw [hn]; rfl
 rw [← htop] at f0 f3
 obtain ⟨tp, htp⟩ : ∃ tp, tp = st.top := ⟨_, rfl⟩
 rw [← htp] at hfi hbs hres f0 f3 ⊢
 obtain ⟨ad, B1, d1', B3, d3, B4, d4, hAd, h0, h1, h2, h3, h4, m1, g1, m3, g3, m4, g4⟩ := at_TFn hM.fns (tp.fi : Int) (by omega) (by omega)
 injection hAd with hAd
 subst hAd
 have hrd : rd_TFn x.fns (tp.fi : Int) = x.fns.getD tp.fi zFn := rfl
 rw [hrd] at h2
 simp only [Int.toNat_natCast, add0] at h2
 obtain ⟨r2, hr2⟩ : ∃ r2, r2 = (x.fns.getD tp.fi zFn).f2 := ⟨_, rfl⟩
 rw [← hr2] at hres h2 ⊢
 clear h0 h1 h3 h4 m1 g1 m3 g3 m4 g4 hrd hr2
 have hgF : ¬ FB = g := fun e => by
  have := (Kd.S_R h.frames).1 FB (by rw [hF]; rfl)
  rw [e, h.fg] at this; cases this
 have hgl := blk_lt h.blk
 have HF := Lib.hid hF
 have HN := Lib.hid hn
 have HTP := Lib.hid htp
 have HTOP := Lib.hid htop
 have HSZ := Lib.hid hB
 subst hF
 have nF := cell_lt f0
 have HRU := Lib.hid h
 clear hn htop htp
 by_cases hz : r2 = 0
 ·have hz' : (r2 != 0) = false := by simpa using hz
  have HZ := Lib.hid hz
  clear hz hres
  obtain ⟨V, hV⟩ : ∃ V, V = w := ⟨_, rfl⟩
  obtain ⟨st1, hst1⟩ : ∃ st1, st1 = st := ⟨_, rfl⟩
  have HR1 := Lib.hid (show RUN B mb fb V g f vS (.slice (some ⟨FB, 0, none⟩) (n + 1) cap) vK vA st1 from by rw [hV, hst1]; exact h)
  have HS1 := Lib.hid (show Stp g w f V f from by rw [hV]; exact Stp.refl _ _ _)
  have hf3 : V.cell? ⟨FB, n * 4 + 3, none⟩ = some (.int .i64 tp.base) := by rw [hV]; exact f3
  have hbs1 : tp.base ≤ st1.stack.length := by rw [hst1]; exact hbs
  have HST1 := Lib.hid hst1
  have HBK := Lib.hid (show (n = 0 → backR (decide (r2 ≠ 0)) st = (true, backS st1 tp.base n)) ∧ (¬ n = 0 → backR (decide (r2 ≠ 0)) st = (false, backS st1 tp.base n)) from by
   have hd : decide (r2 ≠ 0) = false := by rw [HZ.out]; rfl
   rw [hd, hst1, HTP.out]
   unfold backR backS
   rw [HN.out]
   constructor
   ·intro h0; rw [h0]; rfl
   ·intro h0; rw [if_neg (by omega)]; rfl)
  have HFL := Lib.hid (show st1.frames.length = n + 1 from by rw [hst1]; exact HN.out)
  subst hV
  clear h hM f3 hst1
  go_enter Tryz.func81, Tryz.ntmps81
  obtain ⟨AK, cK, hKe, hKl, _⟩ := Kd.R_reads HR1.out.stack
  subst hKe
  have c4 := HR1.out.at_.2.2.2.2.1
  have hbk : tp.base ≤ cK := by omega
  have HF3 := Lib.hid (show V.cell? ⟨FB, n * 4 + 3, none⟩ = some (.int .i64 tp.base) from hf3)
  have hgl1 := blk_lt HR1.out.blk
  obtain ⟨kl, hkl⟩ : ∃ kl, kl = st1.stack.length := ⟨_, rfl⟩
  rw [← hkl] at c4
  have HC4 := Lib.hid c4
  have HKL := Lib.hid hkl
  clear hf3 c4 hkl
  go_wp2_with fail
  refine still_tail_g 12 (by kernel_rfl) (by kernel_rfl) ?_
  intro W HWE
  have hbW : Below V.heap.size V W := by rw [HWE.out]; exact below_drew (Below.refl _ _)
  have c4 := cell_up hbW HC4.out
  have f3 := cell_up hbW HF3.out
  have hglW : g < W.heap.size := Nat.lt_of_lt_of_le hgl1 hbW.size
  have hfr4 : W.frozen? ⟨g, 4, none⟩ = false := blk_frozen (HR1.out.below hbW).blk 4
  have HBW := Lib.hid hbW
  clear hbW
  simp only [List.take_succ_cons, List.take_zero, List.drop_succ_cons, List.drop_zero]
  have hAK : (AK = none ∧ tp.base = 0) ∨ ∃ b, AK = some ⟨b, 0, none⟩ := by
   rcases AK with _ | a
   ·have := (C_none2 (Kd.R_reads' HR1.out.stack).2.2).1
    have h6 := hbs1
    rw [this] at h6
    simp at h6
    exact .inl ⟨rfl, h6⟩
   ·obtain ⟨b, rfl⟩ := Kd.R_head HR1.out.stack
    exact .inr ⟨b, rfl⟩
  have HT := Lib.hid (Kd.R_take HR1.out.stack hbs1)
  obtain ⟨bs, hbs2⟩ : ∃ bs, bs = tp.base := ⟨_, rfl⟩
  rw [← hbs2] at f3 hbk hAK
  have HBS := Lib.hid hbs2
  clear hbs2
  rcases hAK with ⟨rfl, rfl⟩ | ⟨b, rfl⟩
  ·repeat still_step
   refine wpStill_nil ?_
   go_wp2_with fail
   have hT2 := Kd.R_below HT.out HBW.out
   rw [← HBS.out] at hT2
   obtain ⟨hr2, hs2⟩ := (HR1.out.below HBW.out).putK hT2
   obtain ⟨V2, hV2⟩ : ∃ V2, V2 = W.setCell ⟨g, 4, none⟩ (.slice none 0 cK) := ⟨_, rfl⟩
   rw [← hV2] at hr2 hs2 ⊢
   have HS2 := Lib.hid ((HS1.out.trans (Stp.below HBW.out)).trans hs2)
   have HR2 := Lib.hid hr2
   have HC3 := Lib.hid hr2.at_.2.2.2.1
   clear hV2 hT2 hr2 hs2 f3 c4 hfr4
   have hwn : IntKind.i64.wrap (n : Int) = (n : Int) := IntWalk.i64_in _ (by omega)
   have hncap : n ≤ cap := by
    have := (Kd.S_reads' HR2.out.frames).2.1
    omega
   by_cases hn0 : n = 0
   ·have hnz : ((n : Int) == 0) = true := by simpa using hn0
    have HBR := Lib.hid (show backR (decide (r2 ≠ 0)) st = (true, backS st1 tp.base n) from HBK.out.1 hn0)
    clear hn0
    refine still_tail_g 14 (by kernel_rfl) (by kernel_rfl) ?_
    intro X HXE
    have hbX : Below V2.heap.size V2 X := by rw [HXE.out]; exact below_drew (Below.refl _ _)
    have c3 := cell_up hbX HC3.out
    have hfr3 : X.frozen? ⟨g, 3, none⟩ = false := blk_frozen (HR2.out.below hbX).blk 3
    have hglX : g < X.heap.size := Nat.lt_of_lt_of_le (blk_lt HR2.out.blk) hbX.size
    obtain ⟨hr3, hs3⟩ := (HR2.out.below hbX).putF (Kd.S_take (HR2.out.below hbX).frames (m := n) (by show n ≤ st1.frames.length; rw [HFL.out]; omega))
    have HR3 := Lib.hid (show RUN B mb fb (X.setCell ⟨g, 3, none⟩ (.slice (some ⟨FB, 0, none⟩) n cap)) g f vS (.slice (some ⟨FB, 0, none⟩) n cap) (.slice none 0 cK) vA (backS st1 tp.base n) from by unfold backS; rw [← HBS.out]; exact hr3)
    have HS3 := Lib.hid ((HS2.out.trans (Stp.below hbX)).trans hs3)
    clear hbX hr3 hs3
    simp only [List.take_succ_cons, List.take_zero, List.drop_succ_cons, List.drop_zero]
    repeat still_step
    refine wpStill_nil ?_
    go_wp2_with fail
    go_ret
    exact ⟨ret_bool (by rw [HBR.out]), by rw [HBR.out]; exact ⟨_, _, _, _, f, HR3.out, HS3.out⟩⟩
   ·have hnz : ((n : Int) == 0) = false := by simpa using hn0
    have HBR := Lib.hid (HBK.out.2 hn0)
    clear hn0
    refine still_tail_g 14 (by kernel_rfl) (by kernel_rfl) ?_
    intro X HXE
    have hbX : Below V2.heap.size V2 X := by rw [HXE.out]; exact below_drew (Below.refl _ _)
    have c3 := cell_up hbX HC3.out
    have hfr3 : X.frozen? ⟨g, 3, none⟩ = false := blk_frozen (HR2.out.below hbX).blk 3
    have hglX : g < X.heap.size := Nat.lt_of_lt_of_le (blk_lt HR2.out.blk) hbX.size
    obtain ⟨hr3, hs3⟩ := (HR2.out.below hbX).putF (Kd.S_take (HR2.out.below hbX).frames (m := n) (by show n ≤ st1.frames.length; rw [HFL.out]; omega))
    have HR3 := Lib.hid (show RUN B mb fb (X.setCell ⟨g, 3, none⟩ (.slice (some ⟨FB, 0, none⟩) n cap)) g f vS (.slice (some ⟨FB, 0, none⟩) n cap) (.slice none 0 cK) vA (backS st1 tp.base n) from by unfold backS; rw [← HBS.out]; exact hr3)
    have HS3 := Lib.hid ((HS2.out.trans (Stp.below hbX)).trans hs3)
    clear hbX hr3 hs3
    simp only [List.take_succ_cons, List.take_zero, List.drop_succ_cons, List.drop_zero]
    repeat still_step
    refine wpStill_nil ?_
    go_wp2_with fail
    go_ret
    exact ⟨ret_bool (by rw [HBR.out]), by rw [HBR.out]; exact ⟨_, _, _, _, f, HR3.out, HS3.out⟩⟩
  ·repeat still_step
   refine wpStill_nil ?_
   go_wp2_with fail
   have hT2 := Kd.R_below HT.out HBW.out
   rw [← HBS.out] at hT2
   obtain ⟨hr2, hs2⟩ := (HR1.out.below HBW.out).putK hT2
   obtain ⟨V2, hV2⟩ : ∃ V2, V2 = W.setCell ⟨g, 4, none⟩ (.slice (some ⟨b, 0, none⟩) bs cK) := ⟨_, rfl⟩
   rw [← hV2] at hr2 hs2 ⊢
   have HS2 := Lib.hid ((HS1.out.trans (Stp.below HBW.out)).trans hs2)
   have HR2 := Lib.hid hr2
   have HC3 := Lib.hid hr2.at_.2.2.2.1
   clear hV2 hT2 hr2 hs2 f3 c4 hfr4
   have hwn : IntKind.i64.wrap (n : Int) = (n : Int) := IntWalk.i64_in _ (by omega)
   have hncap : n ≤ cap := by
    have := (Kd.S_reads' HR2.out.frames).2.1
    omega
   by_cases hn0 : n = 0
   ·have hnz : ((n : Int) == 0) = true := by simpa using hn0
    have HBR := Lib.hid (show backR (decide (r2 ≠ 0)) st = (true, backS st1 tp.base n) from HBK.out.1 hn0)
    clear hn0
    refine still_tail_g 14 (by kernel_rfl) (by kernel_rfl) ?_
    intro X HXE
    have hbX : Below V2.heap.size V2 X := by rw [HXE.out]; exact below_drew (Below.refl _ _)
    have c3 := cell_up hbX HC3.out
    have hfr3 : X.frozen? ⟨g, 3, none⟩ = false := blk_frozen (HR2.out.below hbX).blk 3
    have hglX : g < X.heap.size := Nat.lt_of_lt_of_le (blk_lt HR2.out.blk) hbX.size
    obtain ⟨hr3, hs3⟩ := (HR2.out.below hbX).putF (Kd.S_take (HR2.out.below hbX).frames (m := n) (by show n ≤ st1.frames.length; rw [HFL.out]; omega))
    have HR3 := Lib.hid (show RUN B mb fb (X.setCell ⟨g, 3, none⟩ (.slice (some ⟨FB, 0, none⟩) n cap)) g f vS (.slice (some ⟨FB, 0, none⟩) n cap) (.slice (some ⟨b, 0, none⟩) bs cK) vA (backS st1 tp.base n) from by unfold backS; rw [← HBS.out]; exact hr3)
    have HS3 := Lib.hid ((HS2.out.trans (Stp.below hbX)).trans hs3)
    clear hbX hr3 hs3
    simp only [List.take_succ_cons, List.take_zero, List.drop_succ_cons, List.drop_zero]
    repeat still_step
    refine wpStill_nil ?_
    go_wp2_with fail
    go_ret
    exact ⟨ret_bool (by rw [HBR.out]), by rw [HBR.out]; exact ⟨_, _, _, _, f, HR3.out, HS3.out⟩⟩
   ·have hnz : ((n : Int) == 0) = false := by simpa using hn0
    have HBR := Lib.hid (HBK.out.2 hn0)
    clear hn0
    refine still_tail_g 14 (by kernel_rfl) (by kernel_rfl) ?_
    intro X HXE
    have hbX : Below V2.heap.size V2 X := by rw [HXE.out]; exact below_drew (Below.refl _ _)
    have c3 := cell_up hbX HC3.out
    have hfr3 : X.frozen? ⟨g, 3, none⟩ = false := blk_frozen (HR2.out.below hbX).blk 3
    have hglX : g < X.heap.size := Nat.lt_of_lt_of_le (blk_lt HR2.out.blk) hbX.size
    obtain ⟨hr3, hs3⟩ := (HR2.out.below hbX).putF (Kd.S_take (HR2.out.below hbX).frames (m := n) (by show n ≤ st1.frames.length; rw [HFL.out]; omega))
    have HR3 := Lib.hid (show RUN B mb fb (X.setCell ⟨g, 3, none⟩ (.slice (some ⟨FB, 0, none⟩) n cap)) g f vS (.slice (some ⟨FB, 0, none⟩) n cap) (.slice (some ⟨b, 0, none⟩) bs cK) vA (backS st1 tp.base n) from by unfold backS; rw [← HBS.out]; exact hr3)
    have HS3 := Lib.hid ((HS2.out.trans (Stp.below hbX)).trans hs3)
    clear hbX hr3 hs3
    simp only [List.take_succ_cons, List.take_zero, List.drop_succ_cons, List.drop_zero]
    repeat still_step
    refine wpStill_nil ?_
    go_wp2_with fail
    go_ret
    exact ⟨ret_bool (by rw [HBR.out]), by rw [HBR.out]; exact ⟨_, _, _, _, f, HR3.out, HS3.out⟩⟩
 ·have hz' : (r2 != 0) = true := by simpa using hz
  have HZ := Lib.hid hz
  have hlt := hres hz
  obtain ⟨st1, hst1⟩ : ∃ st1 : SRun, st1 = { st.cut 1 with value := st.last } := ⟨_, rfl⟩
  have hss : st1.stack.length = st.stack.length - 1 := by rw [hst1]; show (st.stack.take _).length = _; rw [List.length_take]; omega
  have hbs1 : tp.base ≤ st1.stack.length := by omega
  have HST1 := Lib.hid hst1
  have HBK := Lib.hid (show (n = 0 → backR (decide (r2 ≠ 0)) st = (true, backS st1 tp.base n)) ∧ (¬ n = 0 → backR (decide (r2 ≠ 0)) st = (false, { (backS st1 tp.base n).put st.last with value := 0 })) from by
   have hd : decide (r2 ≠ 0) = true := decide_eq_true hz
   rw [hd, hst1, HTP.out]
   unfold backR backS
   rw [HN.out]
   constructor
   ·intro h0; rw [h0]; rfl
   ·intro h0; rw [if_neg (by omega)]; rfl)
  have HFL := Lib.hid (show st1.frames.length = n + 1 from by rw [hst1]; exact HN.out)
  have HV9 := Lib.hid (show st1.value = st.last from by rw [hst1])
  have hl1 : st1.stack.length ≤ 1073741824 := by omega
  clear hz hM hst1 hss hres
  go_enter Tryz.func81, Tryz.ntmps81
  go_wp2_with fail
  refine (rpop_x h (by omega) hl).mono ?_
  rintro e w1 ⟨rfl, vK1, rfl, hr1, hr2⟩
  have hq9 : (w.setCell ⟨g, 4, none⟩ vK1).cell? ⟨g, 9, none⟩ = some (.int .i64 st.value) := hr1.at_.2.2.2.2.2.2.2.2.2
  have hf9 : (w.setCell ⟨g, 4, none⟩ vK1).frozen? ⟨g, 9, none⟩ = false := blk_frozen hr1.blk 9
  obtain ⟨hr3, hs3⟩ := hr1.fld 9 (.int .i64 st.last) st1 (by rw [HST1.out]; rfl) (by rw [HST1.out]) (by rw [HST1.out]) (by rw [HST1.out]) (by rw [HST1.out])
  have hq3 : ((w.setCell ⟨g, 4, none⟩ vK1).setCell ⟨g, 9, none⟩ (.int .i64 st.last)).cell? ⟨FB, n * 4 + 3, none⟩ = some (.int .i64 tp.base) := (cell_eq (Below.heap_setCell _ _ _ _ hgF) _).trans ((cell_eq (Below.heap_setCell _ _ _ _ hgF) _).trans f3)
  obtain ⟨V0, hV0⟩ : ∃ V0, V0 = w.setCell ⟨g, 4, none⟩ vK1 := ⟨_, rfl⟩
  rw [← hV0] at hq9 hf9 hr1 hr2 hr3 hs3 hq3 ⊢
  have HR1 := Lib.hid hr3
  have HS1 := Lib.hid (hr2.trans hs3)
  have HQ3 := Lib.hid hq3
  have hgl0 := blk_lt hr1.blk
  clear h hr1 hr2 hr3 hs3 hq3 hV0 f3 hlt
  go_wp2_with fail
  obtain ⟨V, hV⟩ : ∃ V, V = V0.setCell ⟨g, 9, none⟩ (.int .i64 st.last) := ⟨_, rfl⟩
  rw [← hV] at HR1 HS1 HQ3 ⊢
  have hf3 : V.cell? ⟨FB, n * 4 + 3, none⟩ = some (.int .i64 tp.base) := HQ3.out
  clear hV hq9 hf9
  obtain ⟨AK, cK, hKe, hKl, _⟩ := Kd.R_reads HR1.out.stack
  subst hKe
  have c4 := HR1.out.at_.2.2.2.2.1
  have hbk : tp.base ≤ cK := by omega
  have HF3 := Lib.hid (show V.cell? ⟨FB, n * 4 + 3, none⟩ = some (.int .i64 tp.base) from hf3)
  have hgl1 := blk_lt HR1.out.blk
  obtain ⟨kl, hkl⟩ : ∃ kl, kl = st1.stack.length := ⟨_, rfl⟩
  rw [← hkl] at c4
  have HC4 := Lib.hid c4
  have HKL := Lib.hid hkl
  clear hf3 c4 hkl
  go_wp2_with fail
  refine still_tail_g 12 (by kernel_rfl) (by kernel_rfl) ?_
  intro W HWE
  have hbW : Below V.heap.size V W := by rw [HWE.out]; exact below_drew (Below.refl _ _)
  have c4 := cell_up hbW HC4.out
  have f3 := cell_up hbW HF3.out
  have hglW : g < W.heap.size := Nat.lt_of_lt_of_le hgl1 hbW.size
  have hfr4 : W.frozen? ⟨g, 4, none⟩ = false := blk_frozen (HR1.out.below hbW).blk 4
  have HBW := Lib.hid hbW
  clear hbW
  simp only [List.take_succ_cons, List.take_zero, List.drop_succ_cons, List.drop_zero]
  have hAK : (AK = none ∧ tp.base = 0) ∨ ∃ b, AK = some ⟨b, 0, none⟩ := by
   rcases AK with _ | a
   ·have := (C_none2 (Kd.R_reads' HR1.out.stack).2.2).1
    have h6 := hbs1
    rw [this] at h6
    simp at h6
    exact .inl ⟨rfl, h6⟩
   ·obtain ⟨b, rfl⟩ := Kd.R_head HR1.out.stack
    exact .inr ⟨b, rfl⟩
  have HT := Lib.hid (Kd.R_take HR1.out.stack hbs1)
  obtain ⟨bs, hbs2⟩ : ∃ bs, bs = tp.base := ⟨_, rfl⟩
  rw [← hbs2] at f3 hbk hAK
  have HBS := Lib.hid hbs2
  clear hbs2
  rcases hAK with ⟨rfl, rfl⟩ | ⟨b, rfl⟩
  ·repeat still_step
   refine wpStill_nil ?_
   go_wp2_with fail
   have hT2 := Kd.R_below HT.out HBW.out
   rw [← HBS.out] at hT2
   obtain ⟨hr2, hs2⟩ := (HR1.out.below HBW.out).putK hT2
   obtain ⟨V2, hV2⟩ : ∃ V2, V2 = W.setCell ⟨g, 4, none⟩ (.slice none 0 cK) := ⟨_, rfl⟩
   rw [← hV2] at hr2 hs2 ⊢
   have HS2 := Lib.hid ((HS1.out.trans (Stp.below HBW.out)).trans hs2)
   have HR2 := Lib.hid hr2
   have HC3 := Lib.hid hr2.at_.2.2.2.1
   clear hV2 hT2 hr2 hs2 f3 c4 hfr4
   have hwn : IntKind.i64.wrap (n : Int) = (n : Int) := IntWalk.i64_in _ (by omega)
   have hncap : n ≤ cap := by
    have := (Kd.S_reads' HR2.out.frames).2.1
    omega
   by_cases hn0 : n = 0
   ·have hnz : ((n : Int) == 0) = true := by simpa using hn0
    have HBR := Lib.hid (show backR (decide (r2 ≠ 0)) st = (true, backS st1 tp.base n) from HBK.out.1 hn0)
    clear hn0
    refine still_tail_g 14 (by kernel_rfl) (by kernel_rfl) ?_
    intro X HXE
    have hbX : Below V2.heap.size V2 X := by rw [HXE.out]; exact below_drew (Below.refl _ _)
    have c3 := cell_up hbX HC3.out
    have hfr3 : X.frozen? ⟨g, 3, none⟩ = false := blk_frozen (HR2.out.below hbX).blk 3
    have c9 : X.cell? ⟨g, 9, none⟩ = some (.int .i64 st.last) := ((HR2.out.below hbX).at_.2.2.2.2.2.2.2.2.2).trans (by show some (Value.int .i64 st1.value) = _; rw [HV9.out])
    have hglX : g < X.heap.size := Nat.lt_of_lt_of_le (blk_lt HR2.out.blk) hbX.size
    obtain ⟨hr3, hs3⟩ := (HR2.out.below hbX).putF (Kd.S_take (HR2.out.below hbX).frames (m := n) (by show n ≤ st1.frames.length; rw [HFL.out]; omega))
    have HR3 := Lib.hid (show RUN B mb fb (X.setCell ⟨g, 3, none⟩ (.slice (some ⟨FB, 0, none⟩) n cap)) g f vS (.slice (some ⟨FB, 0, none⟩) n cap) (.slice none 0 cK) vA (backS st1 tp.base n) from by unfold backS; rw [← HBS.out]; exact hr3)
    have HS3 := Lib.hid ((HS2.out.trans (Stp.below hbX)).trans hs3)
    clear hbX hr3 hs3
    simp only [List.take_succ_cons, List.take_zero, List.drop_succ_cons, List.drop_zero]
    repeat still_step
    refine wpStill_nil ?_
    go_wp2_with fail
    go_ret
    exact ⟨ret_bool (by rw [HBR.out]), by rw [HBR.out]; exact ⟨_, _, _, _, f, HR3.out, HS3.out⟩⟩
   ·have hnz : ((n : Int) == 0) = false := by simpa using hn0
    have HBR := Lib.hid (HBK.out.2 hn0)
    clear hn0
    refine still_tail_g 14 (by kernel_rfl) (by kernel_rfl) ?_
    intro X HXE
    have hbX : Below V2.heap.size V2 X := by rw [HXE.out]; exact below_drew (Below.refl _ _)
    have c3 := cell_up hbX HC3.out
    have hfr3 : X.frozen? ⟨g, 3, none⟩ = false := blk_frozen (HR2.out.below hbX).blk 3
    have c9 : X.cell? ⟨g, 9, none⟩ = some (.int .i64 st.last) := ((HR2.out.below hbX).at_.2.2.2.2.2.2.2.2.2).trans (by show some (Value.int .i64 st1.value) = _; rw [HV9.out])
    have hglX : g < X.heap.size := Nat.lt_of_lt_of_le (blk_lt HR2.out.blk) hbX.size
    obtain ⟨hr3, hs3⟩ := (HR2.out.below hbX).putF (Kd.S_take (HR2.out.below hbX).frames (m := n) (by show n ≤ st1.frames.length; rw [HFL.out]; omega))
    have HR3 := Lib.hid (show RUN B mb fb (X.setCell ⟨g, 3, none⟩ (.slice (some ⟨FB, 0, none⟩) n cap)) g f vS (.slice (some ⟨FB, 0, none⟩) n cap) (.slice none 0 cK) vA (backS st1 tp.base n) from by unfold backS; rw [← HBS.out]; exact hr3)
    have HS3 := Lib.hid ((HS2.out.trans (Stp.below hbX)).trans hs3)
    clear hbX hr3 hs3
    simp only [List.take_succ_cons, List.take_zero, List.drop_succ_cons, List.drop_zero]
    repeat still_step
    refine wpStill_nil ?_
    go_wp2_with fail
    obtain ⟨hBx, hlx⟩ : B ≤ (X.setCell ⟨g, 3, none⟩ (.slice (some ⟨FB, 0, none⟩) n cap)).heap.size ∧ (backS st1 tp.base n).stack.length ≤ 1073741824 := ⟨Nat.le_trans HSZ.out HS3.out.size, by show (st1.stack.take _).length ≤ _; rw [List.length_take]; omega⟩
    refine (rpush_rp HR3.out hBx hlx _).mono ?_
    rintro e w4 ⟨rfl, a1, a2, a3, a4, f', p1, p2⟩
    have hq9 : w4.cell? ⟨g, 9, none⟩ = some (.int .i64 st1.value) := p1.at_.2.2.2.2.2.2.2.2.2
    have hf9 : w4.frozen? ⟨g, 9, none⟩ = false := blk_frozen p1.blk 9
    have HP1 := Lib.hid (p1.fld 9 (.int .i64 0) { (backS st1 tp.base n).put st.last with value := 0 } rfl rfl rfl rfl rfl)
    have HP2 := Lib.hid (HS3.out.trans p2)
    clear p1 p2 hBx
    go_wp2_with fail
    go_ret
    exact ⟨ret_bool (by rw [HBR.out]), by rw [HBR.out]; exact ⟨a1, a2, a3, a4, f', HP1.out.1, HP2.out.trans HP1.out.2⟩⟩
  ·repeat still_step
   refine wpStill_nil ?_
   go_wp2_with fail
   have hT2 := Kd.R_below HT.out HBW.out
   rw [← HBS.out] at hT2
   obtain ⟨hr2, hs2⟩ := (HR1.out.below HBW.out).putK hT2
   obtain ⟨V2, hV2⟩ : ∃ V2, V2 = W.setCell ⟨g, 4, none⟩ (.slice (some ⟨b, 0, none⟩) bs cK) := ⟨_, rfl⟩
   rw [← hV2] at hr2 hs2 ⊢
   have HS2 := Lib.hid ((HS1.out.trans (Stp.below HBW.out)).trans hs2)
   have HR2 := Lib.hid hr2
   have HC3 := Lib.hid hr2.at_.2.2.2.1
   clear hV2 hT2 hr2 hs2 f3 c4 hfr4
   have hwn : IntKind.i64.wrap (n : Int) = (n : Int) := IntWalk.i64_in _ (by omega)
   have hncap : n ≤ cap := by
    have := (Kd.S_reads' HR2.out.frames).2.1
    omega
   by_cases hn0 : n = 0
   ·have hnz : ((n : Int) == 0) = true := by simpa using hn0
    have HBR := Lib.hid (show backR (decide (r2 ≠ 0)) st = (true, backS st1 tp.base n) from HBK.out.1 hn0)
    clear hn0
    refine still_tail_g 14 (by kernel_rfl) (by kernel_rfl) ?_
    intro X HXE
    have hbX : Below V2.heap.size V2 X := by rw [HXE.out]; exact below_drew (Below.refl _ _)
    have c3 := cell_up hbX HC3.out
    have hfr3 : X.frozen? ⟨g, 3, none⟩ = false := blk_frozen (HR2.out.below hbX).blk 3
    have c9 : X.cell? ⟨g, 9, none⟩ = some (.int .i64 st.last) := ((HR2.out.below hbX).at_.2.2.2.2.2.2.2.2.2).trans (by show some (Value.int .i64 st1.value) = _; rw [HV9.out])
    have hglX : g < X.heap.size := Nat.lt_of_lt_of_le (blk_lt HR2.out.blk) hbX.size
    obtain ⟨hr3, hs3⟩ := (HR2.out.below hbX).putF (Kd.S_take (HR2.out.below hbX).frames (m := n) (by show n ≤ st1.frames.length; rw [HFL.out]; omega))
    have HR3 := Lib.hid (show RUN B mb fb (X.setCell ⟨g, 3, none⟩ (.slice (some ⟨FB, 0, none⟩) n cap)) g f vS (.slice (some ⟨FB, 0, none⟩) n cap) (.slice (some ⟨b, 0, none⟩) bs cK) vA (backS st1 tp.base n) from by unfold backS; rw [← HBS.out]; exact hr3)
    have HS3 := Lib.hid ((HS2.out.trans (Stp.below hbX)).trans hs3)
    clear hbX hr3 hs3
    simp only [List.take_succ_cons, List.take_zero, List.drop_succ_cons, List.drop_zero]
    repeat still_step
    refine wpStill_nil ?_
    go_wp2_with fail
    go_ret
    exact ⟨ret_bool (by rw [HBR.out]), by rw [HBR.out]; exact ⟨_, _, _, _, f, HR3.out, HS3.out⟩⟩
   ·have hnz : ((n : Int) == 0) = false := by simpa using hn0
    have HBR := Lib.hid (HBK.out.2 hn0)
    clear hn0
    refine still_tail_g 14 (by kernel_rfl) (by kernel_rfl) ?_
    intro X HXE
    have hbX : Below V2.heap.size V2 X := by rw [HXE.out]; exact below_drew (Below.refl _ _)
    have c3 := cell_up hbX HC3.out
    have hfr3 : X.frozen? ⟨g, 3, none⟩ = false := blk_frozen (HR2.out.below hbX).blk 3
    have c9 : X.cell? ⟨g, 9, none⟩ = some (.int .i64 st.last) := ((HR2.out.below hbX).at_.2.2.2.2.2.2.2.2.2).trans (by show some (Value.int .i64 st1.value) = _; rw [HV9.out])
    have hglX : g < X.heap.size := Nat.lt_of_lt_of_le (blk_lt HR2.out.blk) hbX.size
    obtain ⟨hr3, hs3⟩ := (HR2.out.below hbX).putF (Kd.S_take (HR2.out.below hbX).frames (m := n) (by show n ≤ st1.frames.length; rw [HFL.out]; omega))
    have HR3 := Lib.hid (show RUN B mb fb (X.setCell ⟨g, 3, none⟩ (.slice (some ⟨FB, 0, none⟩) n cap)) g f vS (.slice (some ⟨FB, 0, none⟩) n cap) (.slice (some ⟨b, 0, none⟩) bs cK) vA (backS st1 tp.base n) from by unfold backS; rw [← HBS.out]; exact hr3)
    have HS3 := Lib.hid ((HS2.out.trans (Stp.below hbX)).trans hs3)
    clear hbX hr3 hs3
    simp only [List.take_succ_cons, List.take_zero, List.drop_succ_cons, List.drop_zero]
    repeat still_step
    refine wpStill_nil ?_
    go_wp2_with fail
    obtain ⟨hBx, hlx⟩ : B ≤ (X.setCell ⟨g, 3, none⟩ (.slice (some ⟨FB, 0, none⟩) n cap)).heap.size ∧ (backS st1 tp.base n).stack.length ≤ 1073741824 := ⟨Nat.le_trans HSZ.out HS3.out.size, by show (st1.stack.take _).length ≤ _; rw [List.length_take]; omega⟩
    refine (rpush_rp HR3.out hBx hlx _).mono ?_
    rintro e w4 ⟨rfl, a1, a2, a3, a4, f', p1, p2⟩
    have hq9 : w4.cell? ⟨g, 9, none⟩ = some (.int .i64 st1.value) := p1.at_.2.2.2.2.2.2.2.2.2
    have hf9 : w4.frozen? ⟨g, 9, none⟩ = false := blk_frozen p1.blk 9
    have HP1 := Lib.hid (p1.fld 9 (.int .i64 0) { (backS st1 tp.base n).put st.last with value := 0 } rfl rfl rfl rfl rfl)
    have HP2 := Lib.hid (HS3.out.trans p2)
    clear p1 p2 hBx
    go_wp2_with fail
    go_ret
    exact ⟨ret_bool (by rw [HBR.out]), by rw [HBR.out]; exact ⟨a1, a2, a3, a4, f', HP1.out.1, HP2.out.trans HP1.out.2⟩⟩
theorem two1_any (a b : Int) (w : World) : Calls Tryz.prog 110 #[.int .i64 a, .int .i64 b] w fun e w' => e = .returned (.int .i64 (wrap64 (a + b))) ∧ w' = w := by
 go_enter Tryz.func110, Tryz.ntmps110
 go_wp2
 go_ret
 exact ⟨rfl, rfl⟩
theorem two2_any (a b : Int) (w : World) : Calls Tryz.prog 111 #[.int .i64 a, .int .i64 b] w fun e w' => e = .returned (.int .i64 (wrap64 (a - b))) ∧ w' = w := by
 go_enter Tryz.func111, Tryz.ntmps111
 go_wp2
 go_ret
 exact ⟨rfl, rfl⟩
theorem two3_any (a b : Int) (w : World) : Calls Tryz.prog 112 #[.int .i64 a, .int .i64 b] w fun e w' => e = .returned (.int .i64 (wrap64 (a * b))) ∧ w' = w := by
 go_enter Tryz.func112, Tryz.ntmps112
 go_wp2
 go_ret
 exact ⟨rfl, rfl⟩
theorem two4_any (a b : Int) (w : World) (hb : (b == 0) = false) : Calls Tryz.prog 113 #[.int .i64 a, .int .i64 b] w fun e w' => e = .returned (.int .i64 (wrap64 (a.tdiv b))) ∧ w' = w := by
 have hb' : ¬ b = 0 := by simpa using hb
 go_enter Tryz.func113, Tryz.ntmps113
 go_wp2
 go_ret
 exact ⟨rfl, rfl⟩
theorem two5_any (a b : Int) (w : World) (hb : (b == 0) = false) : Calls Tryz.prog 114 #[.int .i64 a, .int .i64 b] w fun e w' => e = .returned (.int .i64 (a.tmod b)) ∧ w' = w := by
 have hb' : ¬ b = 0 := by simpa using hb
 go_enter Tryz.func114, Tryz.ntmps114
 go_wp2
 go_ret
 exact ⟨rfl, rfl⟩
theorem two7_any (a b : Int) (w : World) : Calls Tryz.prog 119 #[.int .i64 a, .int .i64 b] w fun e w' => e = .returned (.int .i64 (bitV (a == b))) ∧ ∃ n, w' = w.drewN n := by
 go_enter Tryz.func119, Tryz.ntmps119
 go_wp2_with (go_at_call 56; refine (vbit_any (a == b) _).mono ?_; rintro e w1 ⟨rfl, nd, rfl⟩)
 go_ret
 exact ⟨rfl, nd, rfl⟩
theorem two8_any (a b : Int) (w : World) : Calls Tryz.prog 120 #[.int .i64 a, .int .i64 b] w fun e w' => e = .returned (.int .i64 (bitV (a != b))) ∧ ∃ n, w' = w.drewN n := by
 go_enter Tryz.func120, Tryz.ntmps120
 go_wp2_with (go_at_call 56; refine (vbit_any (a != b) _).mono ?_; rintro e w1 ⟨rfl, nd, rfl⟩)
 go_ret
 exact ⟨rfl, nd, rfl⟩
theorem two9_any (a b : Int) (w : World) : Calls Tryz.prog 121 #[.int .i64 a, .int .i64 b] w fun e w' => e = .returned (.int .i64 (bitV (decide (a < b)))) ∧ ∃ n, w' = w.drewN n := by
 go_enter Tryz.func121, Tryz.ntmps121
 go_wp2_with (go_at_call 56; refine (vbit_any (decide (a < b)) _).mono ?_; rintro e w1 ⟨rfl, nd, rfl⟩)
 go_ret
 exact ⟨rfl, nd, rfl⟩
theorem two10_any (a b : Int) (w : World) : Calls Tryz.prog 122 #[.int .i64 a, .int .i64 b] w fun e w' => e = .returned (.int .i64 (bitV (decide (a ≤ b)))) ∧ ∃ n, w' = w.drewN n := by
 go_enter Tryz.func122, Tryz.ntmps122
 go_wp2_with (go_at_call 56; refine (vbit_any (decide (a ≤ b)) _).mono ?_; rintro e w1 ⟨rfl, nd, rfl⟩)
 go_ret
 exact ⟨rfl, nd, rfl⟩
theorem two11_any (a b : Int) (w : World) : Calls Tryz.prog 123 #[.int .i64 a, .int .i64 b] w fun e w' => e = .returned (.int .i64 (bitV (decide (a > b)))) ∧ ∃ n, w' = w.drewN n := by
 go_enter Tryz.func123, Tryz.ntmps123
 go_wp2_with (go_at_call 56; refine (vbit_any (decide (a > b)) _).mono ?_; rintro e w1 ⟨rfl, nd, rfl⟩)
 go_ret
 exact ⟨rfl, nd, rfl⟩
theorem two12_any (a b : Int) (w : World) : Calls Tryz.prog 124 #[.int .i64 a, .int .i64 b] w fun e w' => e = .returned (.int .i64 (bitV (decide (a ≥ b)))) ∧ ∃ n, w' = w.drewN n := by
 go_enter Tryz.func124, Tryz.ntmps124
 go_wp2_with (go_at_call 56; refine (vbit_any (decide (a ≥ b)) _).mono ?_; rintro e w1 ⟨rfl, nd, rfl⟩)
 go_ret
 exact ⟨rfl, nd, rfl⟩
/-! ### a step, and the loop, in plain Lean -/
def szF (a : Int) : Nat := ((fix_size.f a).getD 0).toNat
def divF (a b : Int) : Int := (fix_signed.f 1 ((szF a * 4294967296 / szF b / 18446744073709551616 : Nat) : Int) ((szF a * 4294967296 / szF b % 18446744073709551616 : Nat) : Int) (decide (a < 0) != decide (b < 0))).getD 0
def twoV (op a b : Int) : Int :=
 if op = 8 then wrap64 (a + b) else if op = 9 then wrap64 (a - b) else if op = 10 then wrap64 (a * b) else if op = 11 then wrap64 (a.tdiv b) else if op = 12 then a.tmod b
 else if op = 14 then addF a b else if op = 15 then subF a b else if op = 16 then mulF a b else if op = 17 then divF a b
 else if op = 19 then bitV (a == b) else if op = 20 then bitV (a != b) else if op = 21 then bitV (decide (a < b)) else if op = 22 then bitV (decide (a ≤ b)) else if op = 23 then bitV (decide (a > b)) else bitV (decide (a ≥ b))
def trapR (t : Int) (s : SRun) : SRun := { s with ended := true, trap := t }
def plainB (op : Int) : Bool := op == 1 || op == 2 || op == 3 || op == 4 || op == 5 || op == 28 || op == 29 || op == 33
def oneB (op : Int) : Bool := op == 13 || op == 18 || op == 25 || op == 26 || op == 27
def fnA (x : SImage) (a : Int) : SFn := x.fns.getD a.toNat zFn
def sysA (a : Int) : SSys := callsL.getD a.toNat zSys
def enterR (x : SImage) (A : Nat) (args : List Int) (s : SRun) : SRun := { s with frames := s.frames ++ [⟨A, 0, args ++ (List.replicate (x.fns.getD A zFn).f3.length 0).drop args.length, s.stack.length⟩] }
def SRun.args (s : SRun) (m : Nat) : List Int := s.stack.drop (s.stack.length - m)
def stepI (x : SImage) (i : SInstr) (s : SRun) : SRun :=
 if plainB i.f0 then plainR i s
 else if oneB i.f0 then (s.cut 1).put (oneV i.f0 s.last)
 else if i.f0 = 6 then if (atR i.f1.toNat s).1 then (atR i.f1.toNat s).2 else trapR 3 (atR i.f1.toNat s).2
 else if i.f0 = 7 then if (putR i.f1.toNat s).1 then (putR i.f1.toNat s).2 else trapR 3 (putR i.f1.toNat s).2
 else if i.f0 = 30 then
  if s.frames.length = 64 then trapR 4 (s.cut (fnA x i.f1).f1.length) else enterR x i.f1.toNat (s.args (fnA x i.f1).f1.length) (s.cut (fnA x i.f1).f1.length)
 else if i.f0 = 31 then { s.cut (sysA i.f1).f1.length with asks := s.asks ++ [⟨i.f1, s.args (sysA i.f1).f1.length⟩], waits := true }
 else if i.f0 = 32 then
  let r := backR (decide ((x.fns.getD s.top.fi zFn).f2 ≠ 0)) s
  if r.1 then { r.2 with ended := true } else r.2
 else if s.last = 0 ∧ (i.f0 = 11 ∨ i.f0 = 12 ∨ i.f0 = 17) then trapR 2 ((s.cut 1).cut 1)
 else ((s.cut 1).cut 1).put (twoV i.f0 (s.cut 1).last s.last)
/-- the instruction that comes; the state behind its fetching -/
def SRun.instr (x : SImage) (s : SRun) : SInstr := zi (x.fns.getD s.top.fi zFn).f4 s.top.at_
def SRun.fetch (s : SRun) : SRun := ({ s with fuel := s.fuel - 1 }).setTop { s.top with at_ := s.top.at_ + 1 }
def stepR (x : SImage) (s : SRun) : SRun := if s.fuel = 0 then trapR 1 s else stepI x (s.instr x) s.fetch
def loopR (x : SImage) : Nat → SRun → SRun
 | 0, s => s
 | n + 1, s => let t := stepR x s; if t.ended || t.waits then t else loopR x n t
/-- bounds of a run -/
structure Bd (s : SRun) : Prop where
 st : s.state.length ≤ 1000
 sk : s.stack.length ≤ 100000
 fr : s.frames.length ≤ 64
 f1 : 1 ≤ s.frames.length
 ak : s.asks.length ≤ 4000000
 fu : s.fuel ≤ 1048576
/-- what an instruction asks of the run (behind its fetching) -/
structure PreI (x : SImage) (i : SInstr) (s : SRun) : Prop where
 op : 1 ≤ i.f0 ∧ i.f0 ≤ 33
 loc : i.f0 = 2 ∨ i.f0 = 3 → 0 ≤ i.f1 ∧ i.f1 < s.top.loc.length
 var : i.f0 = 4 ∨ i.f0 = 5 ∨ i.f0 = 6 ∨ i.f0 = 7 → 0 ≤ i.f1 ∧ i.f1 < s.state.length ∧ 0 < (s.state.getD i.f1.toNat []).length ∧ (s.state.getD i.f1.toNat []).length ≤ 1000
 jmp : i.f0 = 28 ∨ i.f0 = 29 → 0 ≤ i.f1
 one : i.f0 = 3 ∨ i.f0 = 5 ∨ i.f0 = 6 ∨ i.f0 = 29 ∨ i.f0 = 33 ∨ oneB i.f0 = true → 0 < s.stack.length
 two : i.f0 = 7 ∨ (8 ≤ i.f0 ∧ i.f0 ≤ 24 ∧ oneB i.f0 = false) → 1 < s.stack.length
 call : i.f0 = 30 → 0 ≤ i.f1 ∧ i.f1 < x.fns.length ∧ (fnA x i.f1).f1.length ≤ s.stack.length ∧ (fnA x i.f1).f1.length ≤ (fnA x i.f1).f3.length ∧ (fnA x i.f1).f3.length ≤ 1000
 sys : i.f0 = 31 → 0 ≤ i.f1 ∧ i.f1 < callsL.length ∧ (sysA i.f1).f1.length ≤ s.stack.length
 dv : i.f0 = 17 → s.last ≠ 0 → szF s.last ≠ 0
 ret : i.f0 = 32 → s.top.base ≤ s.stack.length ∧ ((x.fns.getD s.top.fi zFn).f2 ≠ 0 → s.top.base < s.stack.length)
/-- what the loop asks of a run that goes on -/
structure Pre (x : SImage) (s : SRun) : Prop where
 bd : Bd s
 fi : s.top.fi < x.fns.length
 fl : x.fns.length ≤ 1000
 at_ : s.top.at_ < (x.fns.getD s.top.fi zFn).f4.length
 cl : (x.fns.getD s.top.fi zFn).f4.length ≤ 1000000
 pre : PreI x (s.instr x) s.fetch
/-! ### a scope with two labels: one that is jumped back to, one behind -/
def Exit.jump2 (l0 l1 : Nat) (J0 J1 : Act → World → Prop) (Q : Exit → Act → World → Prop) : Exit → Act → World → Prop
 | .goto l', a, w => (l' = l0 ∧ J0 a w) ∨ (l' = l1 ∧ J1 a w)
 | e, a, w => Q e a w
theorem wp_scope_two {P : Program} {a : Act} {w : World} {Q : Exit → Act → World → Prop} {c r0 r1 : Code} (l0 l1 : Nat) (J0 J1 : Act → World → Prop) (μ : Act → World → Nat) (hf0 : findLabel c l0 = some r0) (hf1 : findLabel c l1 = some r1)
  (first : c.wp P (Exit.jump2 l0 l1 J0 J1 Q) a w)
  (pass0 : ∀ a w, J0 a w → r0.wp P (Exit.jump2 l0 l1 (fun _ _ => False) (fun _ _ => False) Q) a w)
  (pass1 : ∀ a w, J1 a w → r1.wp P (Exit.jump2 l0 l1 J0 (fun a' w' => J1 a' w' ∧ μ a' w' < μ a w) Q) a w) : (Code.scope c).wp P Q a w := by
 intro b k cs
 have hg0 : gotoIn l0 (.inScope c :: k) = some (.code r0 :: .inScope c :: k) := by simp [gotoIn, hf0]
 have hg1 : gotoIn l1 (.inScope c :: k) = some (.code r1 :: .inScope c :: k) := by simp [gotoIn, hf1]
 have key0 : ∀ a w, J0 a w → ∃ e a' w', Q e a' w' ∧ Arrives P (lone (b.at a (.code r0 :: .inScope c :: k)) cs w) b k cs e a' w' := by
  intro a w hJ
  obtain ⟨e, a₁, w₁, hq, harr⟩ := pass0 a w hJ b (.inScope c :: k) cs
  cases e with
  | normal => exact ⟨.normal, a₁, w₁, hq, Steps.trans harr (.one step_inScope)⟩
  | exit id => exact ⟨.exit id, a₁, w₁, hq, fun k' hk => harr k' (by simp [exitTo, hk])⟩
  | goto l' => rcases hq with ⟨_, hq⟩ | ⟨_, hq⟩ <;> exact hq.elim
  | ret => exact ⟨_, a₁, w₁, hq, harr⟩
  | panic ch => exact ⟨_, a₁, w₁, hq, harr⟩
  | outgrown => exact ⟨_, a₁, w₁, hq, harr⟩
 have key : ∀ n a w, μ a w = n → J1 a w → ∃ e a' w', Q e a' w' ∧ Arrives P (lone (b.at a (.code r1 :: .inScope c :: k)) cs w) b k cs e a' w' := by
  intro n
  induction n using Nat.strongRecOn with
  | _ n ih =>
   intro a w hn hJ
   obtain ⟨e, a₁, w₁, hq, harr⟩ := pass1 a w hJ b (.inScope c :: k) cs
   cases e with
   | normal => exact ⟨.normal, a₁, w₁, hq, Steps.trans harr (.one step_inScope)⟩
   | exit id => exact ⟨.exit id, a₁, w₁, hq, fun k' hk => harr k' (by simp [exitTo, hk])⟩
   | goto l' =>
    rcases hq with ⟨rfl, hJ'⟩ | ⟨rfl, hJ', hlt⟩
    ·obtain ⟨e₂, a₂, w₂, hq₂, harr₂⟩ := key0 a₁ w₁ hJ'
     exact ⟨e₂, a₂, w₂, hq₂, .of_steps (harr _ hg0) harr₂⟩
    ·obtain ⟨e₂, a₂, w₂, hq₂, harr₂⟩ := ih _ (by omega) a₁ w₁ rfl hJ'
     exact ⟨e₂, a₂, w₂, hq₂, .of_steps (harr _ hg1) harr₂⟩
   | ret => exact ⟨_, a₁, w₁, hq, harr⟩
   | panic ch => exact ⟨_, a₁, w₁, hq, harr⟩
   | outgrown => exact ⟨_, a₁, w₁, hq, harr⟩
 obtain ⟨e, a₁, w₁, hq, harr⟩ := first b (.inScope c :: k) cs
 cases e with
 | normal => exact ⟨.normal, a₁, w₁, hq, .head step_scope (Steps.trans harr (.one step_inScope))⟩
 | exit id => exact ⟨.exit id, a₁, w₁, hq, fun k' hk => .head step_scope (harr k' (by simp [exitTo, hk]))⟩
 | goto l' =>
  rcases hq with ⟨rfl, hJ'⟩ | ⟨rfl, hJ'⟩
  ·obtain ⟨e₂, a₂, w₂, hq₂, harr₂⟩ := key0 a₁ w₁ hJ'
   exact ⟨e₂, a₂, w₂, hq₂, .of_steps (.head step_scope (harr _ hg0)) harr₂⟩
  ·obtain ⟨e₂, a₂, w₂, hq₂, harr₂⟩ := key _ a₁ w₁ rfl hJ'
   exact ⟨e₂, a₂, w₂, hq₂, .of_steps (.head step_scope (harr _ hg1)) harr₂⟩
 | ret => exact ⟨_, a₁, w₁, hq, .of_steps (.one step_scope) harr⟩
 | panic ch => exact ⟨_, a₁, w₁, hq, .of_steps (.one step_scope) harr⟩
 | outgrown => exact ⟨_, a₁, w₁, hq, .of_steps (.one step_scope) harr⟩
theorem size_eq (a : Int) : fix_size.f a = some ((szF a : Nat) : Int) ∧ szF a < 18446744073709551616 := by
 have h : ∃ x : Int, fix_size.f a = some (IntKind.u64.wrap x) := by
  unfold fix_size.f
  split <;> exact ⟨_, rfl⟩
 obtain ⟨x, hx⟩ := h
 unfold szF
 rw [hx, IntKind.wrap_u64]
 have h1 := Int.emod_nonneg x (show (18446744073709551616 : Int) ≠ 0 by decide)
 have h2 := Int.emod_lt_of_pos x (show (0 : Int) < 18446744073709551616 by decide)
 constructor
 ·rw [Option.getD_some, Int.toNat_of_nonneg h1]
 ·rw [Option.getD_some]; omega
theorem divF_some (a b : Int) : fix_signed.f 1 ((szF a * 4294967296 / szF b / 18446744073709551616 : Nat) : Int) ((szF a * 4294967296 / szF b % 18446744073709551616 : Nat) : Int) (decide (a < 0) != decide (b < 0)) = some (divF a b) := by
 obtain ⟨r, hr⟩ := signed_some ((szF a * 4294967296 / szF b / 18446744073709551616 : Nat) : Int) ((szF a * 4294967296 / szF b % 18446744073709551616 : Nat) : Int) (decide (a < 0) != decide (b < 0))
 unfold divF; rw [hr]; rfl
/-- a division in two steps -/
theorem div_steps (x y : Nat) (hy : 0 < y) : x / 4294967296 / y = x * 4294967296 / y / 18446744073709551616 ∧ (x / 4294967296 % y * 18446744073709551616 + x * 4294967296 % 18446744073709551616) / y = x * 4294967296 / y % 18446744073709551616 := by
 have hX : x * 4294967296 = x / 4294967296 * 18446744073709551616 + x * 4294967296 % 18446744073709551616 := by omega
 have hxl : x * 4294967296 % 18446744073709551616 < 18446744073709551616 := Nat.mod_lt _ (by decide)
 obtain ⟨xl, hxle⟩ : ∃ xl, xl = x * 4294967296 % 18446744073709551616 := ⟨_, rfl⟩
 rw [← hxle] at hX hxl ⊢
 have hd := Nat.div_add_mod (x / 4294967296) y
 have hm := Nat.mod_lt (x / 4294967296) hy
 generalize x / 4294967296 = xh at *
 obtain ⟨q, hq⟩ : ∃ q, q = xh / y := ⟨_, rfl⟩
 obtain ⟨m, hme⟩ : ∃ m, m = xh % y := ⟨_, rfl⟩
 rw [← hq, ← hme] at hd
 rw [← hme] at hm
 rw [← hq, ← hme]
 have e : x * 4294967296 = (m * 18446744073709551616 + xl) + y * (q * 18446744073709551616) := by
  rw [hX, ← hd, Nat.add_mul, Nat.mul_assoc]; omega
 have hlt : (m * 18446744073709551616 + xl) / y < 18446744073709551616 := by
  rw [Nat.div_lt_iff_lt_mul hy]; omega
 rw [e, Nat.add_mul_div_left _ _ hy]
 generalize (m * 18446744073709551616 + xl) / y = c at *
 omega
theorem fixDiv_any (a b : Int) (w : World) (hb : (b == 0) = false) (hr : szF b ≠ 0) : Calls Tryz.prog 118 #[.int .i64 a, .int .i64 b] w fun e w' => e = .returned (.tuple #[.int .i64 (divF a b), .int .i64 0]) ∧ ∃ n, w' = w.drewN n := by
 have HS := Lib.hid (divF_some a b)
 have H1 := Lib.hid (size_eq a).1
 have H2 := Lib.hid (size_eq b).1
 have hl := (size_eq a).2
 have hl2 := (size_eq b).2
 obtain ⟨h5, h6⟩ := div_steps (szF a) (szF b) (by omega)
 rw [← h5, ← h6] at HS
 generalize szF a = x at *
 generalize szF b = y at *
 clear h5 h6
 obtain ⟨xh, hxh⟩ : ∃ xh, xh = x / 4294967296 := ⟨_, rfl⟩
 obtain ⟨xl, hxl⟩ : ∃ xl, xl = x * 4294967296 % 18446744073709551616 := ⟨_, rfl⟩
 obtain ⟨q, hq⟩ : ∃ q, q = xh / y := ⟨_, rfl⟩
 obtain ⟨m, hm⟩ : ∃ m, m = xh % y := ⟨_, rfl⟩
 rw [← hxh, ← hxl, ← hq, ← hm] at HS
 have e1 : (x : Int) / 4294967296 = (xh : Int) := by rw [hxh]; exact (Int.natCast_ediv x 4294967296).symm
 have e2 : IntKind.u64.wrap ((x : Int) * 4294967296) = (xl : Int) := by rw [IntKind.wrap_u64]; omega
 have e3 : (xh : Int) / (y : Int) = (q : Int) := by rw [hq]; exact (Int.natCast_ediv xh y).symm
 have e3a : IntKind.u64.wrap (q : Int) = (q : Int) := wrapN q (by have := Nat.div_le_self xh y; omega)
 have e4 : (xh : Int) % (y : Int) = (m : Int) := by rw [hm]; exact (Int.natCast_emod xh y).symm
 have e4a : IntKind.u64.wrap (m : Int) = (m : Int) := wrapN m (by have := Nat.mod_le xh y; omega)
 have HD := Lib.hid (fun w => div64_any m xl y (by rw [hm]; exact Nat.mod_lt _ (by omega)) hl2 (by omega) w)
 obtain ⟨N, hN⟩ : ∃ N, N = (m * 18446744073709551616 + xl) / y := ⟨_, rfl⟩
 obtain ⟨M, hM⟩ : ∃ M, M = (m * 18446744073709551616 + xl) % y := ⟨_, rfl⟩
 rw [← hN] at HS
 rw [← hN, ← hM] at HD
 clear hN hM hq hm hxh hxl hl hl2
 go_enter Tryz.func118, Tryz.ntmps118
 go_wp2_with (first
  | (go_at_call 157; refine (fix_size.calls a _ _ H1.out).mono ?_; rintro e w1 ⟨rfl, nd, rfl⟩)
  | (go_at_call 157; refine (fix_size.calls b _ _ H2.out).mono ?_; rintro e w1 ⟨rfl, nd, rfl⟩)
  | (go_at_call 160; refine (HD.out _).mono ?_; rintro e w1 ⟨rfl, nd, rfl⟩)
  | (go_at_call 158; refine (fix_signed.calls 1 _ _ _ _ _ HS.out).mono ?_; rintro e w1 ⟨rfl, nd, rfl⟩))
 go_ret2
 exact ⟨rfl, _, rfl⟩
theorem two6_any (a b : Int) (w : World) (hb : (b == 0) = false) (hr : szF b ≠ 0) : Calls Tryz.prog 117 #[.int .i64 a, .int .i64 b] w fun e w' => e = .returned (.int .i64 (divF a b)) ∧ ∃ n, w' = w.drewN n := by
 have HR := Lib.hid (fixDiv_any a b w hb hr)
 clear hr
 go_enter Tryz.func117, Tryz.ntmps117
 go_wp2_with (go_at_call 118; refine HR.out.mono ?_; rintro e w1 ⟨rfl, nd, rfl⟩)
 go_ret
 exact ⟨rfl, nd, rfl⟩
theorem two_8 (w : World) : Calls Tryz.prog 83 #[.int .i64 8] w fun e w' => e = .returned (.func (.func 110) #[] #[]) ∧ w' = w := by
 go_enter Tryz.func83, Tryz.ntmps83
 go_wp2_with fail
 go_ret
 exact ⟨rfl, rfl⟩
theorem two_9 (w : World) : Calls Tryz.prog 83 #[.int .i64 9] w fun e w' => e = .returned (.func (.func 111) #[] #[]) ∧ w' = w := by
 go_enter Tryz.func83, Tryz.ntmps83
 go_wp2_with fail
 go_ret
 exact ⟨rfl, rfl⟩
theorem two_10 (w : World) : Calls Tryz.prog 83 #[.int .i64 10] w fun e w' => e = .returned (.func (.func 112) #[] #[]) ∧ w' = w := by
 go_enter Tryz.func83, Tryz.ntmps83
 go_wp2_with fail
 go_ret
 exact ⟨rfl, rfl⟩
theorem two_11 (w : World) : Calls Tryz.prog 83 #[.int .i64 11] w fun e w' => e = .returned (.func (.func 113) #[] #[]) ∧ w' = w := by
 go_enter Tryz.func83, Tryz.ntmps83
 go_wp2_with fail
 go_ret
 exact ⟨rfl, rfl⟩
theorem two_12 (w : World) : Calls Tryz.prog 83 #[.int .i64 12] w fun e w' => e = .returned (.func (.func 114) #[] #[]) ∧ w' = w := by
 go_enter Tryz.func83, Tryz.ntmps83
 go_wp2_with fail
 go_ret
 exact ⟨rfl, rfl⟩
theorem two_14 (w : World) : Calls Tryz.prog 83 #[.int .i64 14] w fun e w' => e = .returned (.func (.func 115) #[] #[]) ∧ w' = w := by
 go_enter Tryz.func83, Tryz.ntmps83
 go_wp2_with fail
 go_ret
 exact ⟨rfl, rfl⟩
theorem two_15 (w : World) : Calls Tryz.prog 83 #[.int .i64 15] w fun e w' => e = .returned (.func (.func 107) #[] #[]) ∧ w' = w := by
 go_enter Tryz.func83, Tryz.ntmps83
 go_wp2_with fail
 go_ret
 exact ⟨rfl, rfl⟩
theorem two_16 (w : World) : Calls Tryz.prog 83 #[.int .i64 16] w fun e w' => e = .returned (.func (.func 116) #[] #[]) ∧ w' = w := by
 go_enter Tryz.func83, Tryz.ntmps83
 go_wp2_with fail
 go_ret
 exact ⟨rfl, rfl⟩
theorem two_17 (w : World) : Calls Tryz.prog 83 #[.int .i64 17] w fun e w' => e = .returned (.func (.func 117) #[] #[]) ∧ w' = w := by
 go_enter Tryz.func83, Tryz.ntmps83
 go_wp2_with fail
 go_ret
 exact ⟨rfl, rfl⟩
theorem two_19 (w : World) : Calls Tryz.prog 83 #[.int .i64 19] w fun e w' => e = .returned (.func (.func 119) #[] #[]) ∧ w' = w := by
 go_enter Tryz.func83, Tryz.ntmps83
 go_wp2_with fail
 go_ret
 exact ⟨rfl, rfl⟩
theorem two_20 (w : World) : Calls Tryz.prog 83 #[.int .i64 20] w fun e w' => e = .returned (.func (.func 120) #[] #[]) ∧ w' = w := by
 go_enter Tryz.func83, Tryz.ntmps83
 go_wp2_with fail
 go_ret
 exact ⟨rfl, rfl⟩
theorem two_21 (w : World) : Calls Tryz.prog 83 #[.int .i64 21] w fun e w' => e = .returned (.func (.func 121) #[] #[]) ∧ w' = w := by
 go_enter Tryz.func83, Tryz.ntmps83
 go_wp2_with fail
 go_ret
 exact ⟨rfl, rfl⟩
theorem two_22 (w : World) : Calls Tryz.prog 83 #[.int .i64 22] w fun e w' => e = .returned (.func (.func 122) #[] #[]) ∧ w' = w := by
 go_enter Tryz.func83, Tryz.ntmps83
 go_wp2_with fail
 go_ret
 exact ⟨rfl, rfl⟩
theorem two_23 (w : World) : Calls Tryz.prog 83 #[.int .i64 23] w fun e w' => e = .returned (.func (.func 123) #[] #[]) ∧ w' = w := by
 go_enter Tryz.func83, Tryz.ntmps83
 go_wp2_with fail
 go_ret
 exact ⟨rfl, rfl⟩
theorem two_24 (w : World) : Calls Tryz.prog 83 #[.int .i64 24] w fun e w' => e = .returned (.func (.func 124) #[] #[]) ∧ w' = w := by
 go_enter Tryz.func83, Tryz.ntmps83
 go_wp2_with fail
 go_ret
 exact ⟨rfl, rfl⟩
end Go.Proofs.YtedmncldelcbfaaGreatDoor.E
