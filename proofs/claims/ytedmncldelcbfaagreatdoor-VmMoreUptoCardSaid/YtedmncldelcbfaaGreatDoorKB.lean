import Derived.Test.YtedmncldelcbfaaGreatDoorKA
import Derived.Deep.RegionLaw
import Derived.Test.YtedmncldelcbfaaGreatDoorShelf
import Derived.Maps.Own
/- Contracts of the work list, of string builders and of the calls of api: no statement of its own. -/
namespace Go.Proofs.YtedmncldelcbfaaGreatDoor.E
open Go Go.RowKit Go.Proofs.YtedmncldelcbfaaGreatDoorW.PrintWords Go.Proofs.YtedmncldelcbfaaGreatDoorW.PrintLast Go.Proofs.YtedmncldelcbfaaGreatDoorW.PrintMore
set_option linter.unusedVariables false
set_option linter.unusedSimpArgs false
set_option maxRecDepth 100000
set_option maxHeartbeats 2000000
theorem mPush (n g o : Nat) (w : World) : (method (n + 1) 166 (.pointer (some ⟨g, o, none⟩)) "Push").run Tryz.prog w = .ok (239, .pointer (some ⟨g, o, none⟩)) w := by kernel_rfl
theorem mPop (n g o : Nat) (w : World) : (method (n + 1) 166 (.pointer (some ⟨g, o, none⟩)) "Pop").run Tryz.prog w = .ok (238, .pointer (some ⟨g, o, none⟩)) w := by kernel_rfl
theorem mLen0 (n g o : Nat) (w : World) : (method (n + 1) 166 (.pointer (some ⟨g, o, none⟩)) "Len").run Tryz.prog w = (do pure (93, ← loadVar 158 ⟨g, o, none⟩) : Sem (FuncId × Value)).run Tryz.prog w := by kernel_rfl
theorem mLess0 (n g o : Nat) (w : World) : (method (n + 1) 166 (.pointer (some ⟨g, o, none⟩)) "Less").run Tryz.prog w = (do pure (236, ← loadVar 158 ⟨g, o, none⟩) : Sem (FuncId × Value)).run Tryz.prog w := by kernel_rfl
theorem mSwap0 (n g o : Nat) (w : World) : (method (n + 1) 166 (.pointer (some ⟨g, o, none⟩)) "Swap").run Tryz.prog w = (do pure (237, ← loadVar 158 ⟨g, o, none⟩) : Sem (FuncId × Value)).run Tryz.prog w := by kernel_rfl
theorem load_sorted (g o : Nat) (w : World) (v : Value) (hc : w.cell? ⟨g, o, none⟩ = some v) : (loadVar 158 ⟨g, o, none⟩).run Tryz.prog w = .ok v w := by
 have hu := Tryz.underlying158
 go_simp
theorem mLen (n g o : Nat) (w : World) (v : Value) (hc : w.cell? ⟨g, o, none⟩ = some v) : (method (n + 1) 166 (.pointer (some ⟨g, o, none⟩)) "Len").run Tryz.prog w = .ok (93, v) w := by
 rw [mLen0, Sem.run_bind, load_sorted g o w v hc]; rfl
theorem mLess (n g o : Nat) (w : World) (v : Value) (hc : w.cell? ⟨g, o, none⟩ = some v) : (method (n + 1) 166 (.pointer (some ⟨g, o, none⟩)) "Less").run Tryz.prog w = .ok (236, v) w := by
 rw [mLess0, Sem.run_bind, load_sorted g o w v hc]; rfl
theorem mSwap (n g o : Nat) (w : World) (v : Value) (hc : w.cell? ⟨g, o, none⟩ = some v) : (method (n + 1) 166 (.pointer (some ⟨g, o, none⟩)) "Swap").run Tryz.prog w = .ok (237, v) w := by
 rw [mSwap0, Sem.run_bind, load_sorted g o w v hc]; rfl
/-- whole numbers of the call's own -/
def PR (w : World) (base : Nat) (v : Value) (xs : List Int) : Prop := (Kd.int .i64).R 3 w base (fun _ => True) v xs
theorem PR_cell2 {w : World} {base b cap : Nat} {xs : List Int} (h : PR w base (.slice (some ⟨b, 0, none⟩) xs.length cap) xs) (i : Nat) (hi : i < xs.length) : w.cell? ⟨b, i, none⟩ = some (.int .i64 (xs.getD i 0)) ∧ w.frozen? ⟨b, i, none⟩ = false := by
 have := Kd.R_cell (enc := Value.int .i64) (h1 := fun _ => rfl) 0 h (i : Int) (by omega) (by omega)
 simpa [rdOf] using this
theorem PR_cell {w : World} {base b cap : Nat} {xs : List Int} (h : PR w base (.slice (some ⟨b, 0, none⟩) xs.length cap) xs) (i : Nat) (hi : i < xs.length) : w.cell? ⟨b, i, none⟩ = some (.int .i64 (xs.getD i 0)) := (PR_cell2 h i hi).1
theorem PR_put {w : World} {base b cap : Nat} {xs : List Int} (h : PR w base (.slice (some ⟨b, 0, none⟩) xs.length cap) xs) (i : Nat) (x : Int) : PR (w.setCell ⟨b, i, none⟩ (.int .i64 x)) base (.slice (some ⟨b, 0, none⟩) (xs.set i x).length cap) (xs.set i x) ∧ w.grownBy (w.setCell ⟨b, i, none⟩ (.int .i64 x)) (some b) := by
 have := Kd.R_put (enc := Value.int .i64) (h1 := fun _ => rfl) h (i : Int) x
 rw [List.length_set]
 exact this
theorem PR_move {w w1 : World} {base : Nat} {v : Value} {xs : List Int} (h : PR w base v xs) (hm : ∀ k, v.ownBlock = some k → w1.heap[k]? = w.heap[k]?) : PR w1 base v xs :=
 Kd.R_of_own (enc := Value.int .i64) (h1 := fun _ => rfl) (own_move (Kd.own_of_R (enc := Value.int .i64) (h1 := fun _ => rfl) h) hm) (fun _ _ => trivial)
def swapL (xs : List Int) (i j : Nat) : List Int := (xs.set i (xs.getD j 0)).set j (xs.getD i 0)
theorem sLen_any (A : Option Addr) (n c : Nat) (w : World) : Calls Tryz.prog 93 #[.slice A n c] w fun e w' => e = .returned (.int .i64 n) ∧ w = w' := by
 go_enter Tryz.func93, Tryz.ntmps93
 go_wp2_with fail
 go_ret
 exact ⟨rfl, rfl⟩
theorem sLess_any (b cap base : Nat) (xs : List Int) (w : World) (h : PR w base (.slice (some ⟨b, 0, none⟩) xs.length cap) xs) (i j : Nat) (hi : i < xs.length) (hj : j < xs.length) (hl : xs.length ≤ 1073741824) :
  Calls Tryz.prog 236 #[.slice (some ⟨b, 0, none⟩) xs.length cap, .int .i64 i, .int .i64 j] w fun e w' => e = .returned (.bool (decide (xs.getD i 0 < xs.getD j 0))) ∧ ∃ m, w' = w.drewN m := by
 obtain ⟨x, hx⟩ : ∃ x, x = xs.getD i 0 := ⟨_, rfl⟩
 obtain ⟨y, hy⟩ : ∃ y, y = xs.getD j 0 := ⟨_, rfl⟩
 have h1 := PR_cell h i hi
 have h2 := PR_cell h j hj
 rw [← hx] at h1
 rw [← hy] at h2
 rw [← hx, ← hy]
 clear hx hy h
 go_enter Tryz.func236, Tryz.ntmps236
 go_wp2_with fail
 go_quiet (fail)
 go_wp2_with fail
 go_ret
 exact ⟨rfl, _, rfl⟩
theorem sSwap_any (b cap base : Nat) (xs : List Int) (w : World) (h : PR w base (.slice (some ⟨b, 0, none⟩) xs.length cap) xs) (i j : Nat) (hi : i < xs.length) (hj : j < xs.length) (hl : xs.length ≤ 1073741824) :
  Calls Tryz.prog 237 #[.slice (some ⟨b, 0, none⟩) xs.length cap, .int .i64 i, .int .i64 j] w fun e w' => e = .returned (.tuple #[]) ∧ PR w' base (.slice (some ⟨b, 0, none⟩) xs.length cap) (swapL xs i j) ∧ w.grownBy w' (some b) := by
 obtain ⟨x, hx⟩ : ∃ x, x = xs.getD i 0 := ⟨_, rfl⟩
 obtain ⟨y, hy⟩ : ∃ y, y = xs.getD j 0 := ⟨_, rfl⟩
 have h1 := PR_cell h i hi
 have h2 := PR_cell h j hj
 rw [← hx] at h1
 rw [← hy] at h2
 have hf1 := (PR_cell2 h i hi).2
 have hf2 := (PR_cell2 h j hj).2
 have hP1 := PR_put h i y
 have hlt : j < (xs.set i y).length := by rw [List.length_set]; exact hj
 obtain ⟨u, hu⟩ : ∃ u, u = (xs.set i y).getD j 0 := ⟨_, rfl⟩
 have hc2 := PR_cell2 hP1.1 j hlt
 rw [← hu] at hc2
 obtain ⟨h3, h4⟩ := hc2
 have hP2 := PR_put hP1.1 j x
 have HP := Lib.hid (show PR ((w.setCell ⟨b, i, none⟩ (.int .i64 y)).setCell ⟨b, j, none⟩ (.int .i64 x)) base (.slice (some ⟨b, 0, none⟩) xs.length cap) (swapL xs i j) ∧ w.grownBy ((w.setCell ⟨b, i, none⟩ (.int .i64 y)).setCell ⟨b, j, none⟩ (.int .i64 x)) (some b) from by
  have e : swapL xs i j = (xs.set i y).set j x := by unfold swapL; rw [hx, hy]
  rw [e]
  have hl2 : ((xs.set i y).set j x).length = xs.length := by simp
  refine ⟨hl2 ▸ hP2.1, World.grownBy.trans hP1.2 hP2.2⟩)
 clear hx hy h hP1 hP2 hu hlt
 go_enter Tryz.func237, Tryz.ntmps237
 go_wp2_with fail
 go_region
 all_goals go_end0
 all_goals exact ⟨rfl, Kd.R_drew HP.out.1, ⟨HP.out.2.os, HP.out.2.tape, HP.out.2.output, HP.out.2.size, HP.out.2.block⟩⟩
/-- a row of places that lies in a cell of block g -/
structure PS (w : World) (g o : Nat) (cs : Array Value) (t base : Nat) (v : Value) (xs : List Int) : Prop where
 blk : w.heap[g]? = some (.cells cs t (0, 0))
 at_ : cs[o]? = some v
 row : PR w base v xs
 away : some g ≠ v.ownBlock
/-- what such a call turns: block g, and v's row -/
structure FP (w : World) (g : Nat) (v : Value) (w' : World) (v' : Value) : Prop where
 os : w'.os = w.os
 tape : w'.tape = w.tape
 output : w'.output = w.output
 size : w.heap.size ≤ w'.heap.size
 block : ∀ k, k < w.heap.size → k ≠ g → some k ≠ v.ownBlock → w'.heap[k]? = w.heap[k]?
 own : v'.ownBlock = v.ownBlock ∨ ∃ b, v'.ownBlock = some b ∧ w.heap.size ≤ b
theorem FP.refl (w : World) (g : Nat) (v : Value) : FP w g v w v := ⟨rfl, rfl, rfl, Nat.le_refl _, fun _ _ _ _ => rfl, .inl rfl⟩
theorem FP.trans {w w1 w2 : World} {g : Nat} {v v1 v2 : Value} (h : FP w g v w1 v1) (h' : FP w1 g v1 w2 v2) : FP w g v w2 v2 := by
 refine ⟨h'.os.trans h.os, h'.tape.trans h.tape, h'.output.trans h.output, Nat.le_trans h.size h'.size, fun k hk hg hne => ?_, ?_⟩
 ·rw [h'.block k (Nat.lt_of_lt_of_le hk h.size) hg ?_, h.block k hk hg hne]
  rcases h.own with o | ⟨b, o, hb⟩
  ·rw [o]; exact hne
  ·rw [o]; intro e; injection e; omega
 ·rcases h'.own with o' | ⟨b, o', hb⟩
  ·rw [o']; exact h.own
  ·exact .inr ⟨b, o', Nat.le_trans h.size hb⟩
theorem info3 : (Tryz.prog.info? 3).map (fun i => (i.zero, i.size, i.bytes)) = some (some (.int .i64 0), 1, 8) := infoInt
theorem pPush_any (w : World) (g o : Nat) (cs : Array Value) (t base : Nat) (v : Value) (xs : List Int) (h : PS w g o cs t base v xs) (hb : base ≤ w.heap.size) (hl : xs.length ≤ 1073741824) (x : Int) :
  Calls Tryz.prog 239 #[.pointer (some ⟨g, o, none⟩), .iface 3 (.int .i64 x)] w fun e w' => e = .returned (.tuple #[]) ∧ ∃ v', PS w' g o (cs.setIfInBounds o v') t base v' (xs ++ [x]) ∧ FP w g v w' v' := by
 have hc : w.cell? ⟨g, o, none⟩ = some v := (blk_cell h.blk o).trans h.at_
 have hf : w.frozen? ⟨g, o, none⟩ = false := blk_frozen h.blk o
 have hgl := blk_lt h.blk
 have hta : ∀ W : World, (Instr.typeAssert (.iface 3 (.int .i64 x)) 20 3 false).run Tryz.prog W = .ok (.int .i64 x) W := fun W => by kernel_rfl
 have HH := Lib.hid h
 clear h
 go_enter Tryz.func239, Tryz.ntmps239
 go_wp2_with fail
 go_region_law ((first
  | (refine Kd.R_append_step (Kd.int .i64) (w0 := w.drew) (W := w.drew) base (by rfl) _ _ 158 3 (.int .i64 0) 8 rfl Tryz.underlying158 info3 rfl (by decide) (by decide) v xs x [.int .i64 x] (fun _ => True) (fun _ => False) rfl rfl rfl (fun _ h => h.elim) (fun _ _ => trivial) (Kd.R_drew HH.out.row) (Below.refl _ _) hb (by omega) ?_; intro v1 w1 hv1 hb1 hg1 hat1; obtain ⟨A', c', rfl⟩ := Kd.R_slice hv1; have hbk := (hg1.block g (blk_lt HH.out.blk) HH.out.away).trans HH.out.blk; have hc2 : w1.cell? ⟨g, o, none⟩ = some v := (blk_cell hbk o).trans HH.out.at_; have hf2 : w1.frozen? ⟨g, o, none⟩ = false := blk_frozen hbk o; have HBK := Lib.hid hbk; have HV1 := Lib.hid hv1; have HG1 := Lib.hid hg1; have HAT := Lib.hid hat1; clear hbk hv1 hb1 hg1 hat1)))
 all_goals go_end0
 all_goals
  have hgs := HH.out.away
  have hle1 : (xs ++ [x]).length = xs.length + 1 := by simp
  have hv1 : PR w1 base (.slice A' (xs.length + 1) c') (xs ++ [x]) := hle1 ▸ HV1.out
  have hat1 : (Value.slice A' (xs.length + 1) c').ownBlock = v.ownBlock ∨ ∃ b, (Value.slice A' (xs.length + 1) c').ownBlock = some b ∧ w.heap.size ≤ b := hle1 ▸ HAT.out
  have hg1 := HG1.out
  have hne : some g ≠ (Value.slice A' (xs.length + 1) c').ownBlock := by
   rcases hat1 with e | ⟨b, e, hle⟩
   ·rw [e]; exact hgs
   ·rw [e]; intro e2; injection e2 with e2; omega
  refine ⟨rfl, .slice A' (xs.length + 1) c', ⟨blk_set HBK.out o _, ?_, ?_, hne⟩, ⟨hg1.os, hg1.tape, hg1.output, ?_, ?_, hat1⟩⟩
  ·have h1 := HH.out.at_
   rw [Array.getElem?_setIfInBounds]
   have : o < cs.size := (Array.getElem?_eq_some_iff.1 h1).1
   simp [this]
  ·exact PR_move hv1 (fun k hk => Below.heap_setCell _ _ _ k (fun e => hne (by rw [hk]; exact congrArg some e.symm)))
  ·have := hg1.size; simpa using this
  ·intro k hk hkg hkv
   rw [Below.heap_setCell _ _ _ k hkg]
   exact hg1.block k hk hkv
theorem PS.form {w : World} {g o : Nat} {cs : Array Value} {t base : Nat} {v : Value} {xs : List Int} (h : PS w g o cs t base v xs) (hp : 0 < xs.length) : ∃ b cap, v = .slice (some ⟨b, 0, none⟩) xs.length cap ∧ xs.length ≤ cap := by
 obtain ⟨b, cap, e, _⟩ := Kd.R_form h.row hp
 obtain ⟨A, c, e2, hl, _⟩ := Kd.R_reads h.row
 exact ⟨b, cap, e, by rw [e] at e2; injection e2 with _ _ h3; omega⟩
theorem PS.cell {w : World} {g o : Nat} {cs : Array Value} {t base : Nat} {v : Value} {xs : List Int} (h : PS w g o cs t base v xs) : w.cell? ⟨g, o, none⟩ = some v := (blk_cell h.blk o).trans h.at_
theorem take_own {w : World} {base b cap : Nat} {xs : List Int} (n : Nat) (h : PR w base (.slice (some ⟨b, 0, none⟩) xs.length cap) xs) (hn : n ≤ xs.length) : PR w base (.slice (some ⟨b, 0, none⟩) n cap) (xs.take n) := Kd.R_take h hn
theorem pPop_any (w : World) (g o : Nat) (cs : Array Value) (t base : Nat) (v : Value) (xs : List Int) (h : PS w g o cs t base v xs) (n : Nat) (hn : xs.length = n + 1) (hl : xs.length ≤ 1073741824) :
  Calls Tryz.prog 238 #[.pointer (some ⟨g, o, none⟩)] w fun e w' => e = .returned (.iface 3 (.int .i64 (xs.getD n 0))) ∧ ∃ v', PS w' g o (cs.setIfInBounds o v') t base v' (xs.take n) ∧ FP w g v w' v' := by
 obtain ⟨b, cap, rfl, hcap⟩ := h.form (by omega)
 obtain ⟨x, hx⟩ : ∃ x, x = xs.getD n 0 := ⟨_, rfl⟩
 have h1 := PR_cell h.row n (by omega)
 rw [← hx] at h1
 rw [← hx]
 have hc := h.cell
 have hf : w.frozen? ⟨g, o, none⟩ = false := blk_frozen h.blk o
 have HH := Lib.hid h
 have HN := Lib.hid hn
 rw [hn] at hc hcap
 clear h hx hn
 rw [HN.out] at hl
 go_enter Tryz.func238, Tryz.ntmps238
 go_wp2_with fail
 go_ret
 refine ⟨rfl, .slice (some ⟨b, 0, none⟩) n cap, ⟨blk_set HH.out.blk o _, ?_, ?_, HH.out.away⟩, ⟨rfl, rfl, rfl, by simp, ?_, .inl rfl⟩⟩
 ·have h1 := HH.out.at_
  rw [Array.getElem?_setIfInBounds]
  have : o < cs.size := (Array.getElem?_eq_some_iff.1 h1).1
  simp [this]
 ·exact PR_move (take_own n HH.out.row (by have := HN.out; omega)) (fun k hk => Below.heap_setCell _ _ _ k (fun e => HH.out.away (by rw [show (Value.slice (some ⟨b, 0, none⟩) xs.length cap).ownBlock = some k from hk]; exact congrArg some e.symm)))
 ·intro k hk hkg hkv
  rw [Below.heap_setCell _ _ _ k hkg]
def upL (xs : List Int) (j : Nat) : List Int :=
 if h : (j - 1) / 2 = j ∨ ¬ (xs.getD j 0 < xs.getD ((j - 1) / 2) 0) then xs else upL (swapL xs ((j - 1) / 2) j) ((j - 1) / 2)
termination_by j
decreasing_by omega
theorem swapL_length (xs : List Int) (i j : Nat) : (swapL xs i j).length = xs.length := by simp [swapL]
theorem sLess_at (b cap base : Nat) (xs : List Int) (w : World) (h : PR w base (.slice (some ⟨b, 0, none⟩) xs.length cap) xs) (i j : Nat) (ii jj : Int) (e1 : ii = i) (e2 : jj = j) (hi : i < xs.length) (hj : j < xs.length) (hl : xs.length ≤ 1073741824) (r : Bool) (hr : decide (xs.getD i 0 < xs.getD j 0) = r) :
  Calls Tryz.prog 236 #[.slice (some ⟨b, 0, none⟩) xs.length cap, .int .i64 ii, .int .i64 jj] w fun e w' => e = .returned (.bool r) ∧ ∃ m, w' = w.drewN m := by
 subst e1 e2 hr
 exact sLess_any b cap base xs w h i j hi hj hl
theorem sSwap_at (b cap base : Nat) (xs : List Int) (w : World) (h : PR w base (.slice (some ⟨b, 0, none⟩) xs.length cap) xs) (i j : Nat) (ii jj : Int) (e1 : ii = i) (e2 : jj = j) (hi : i < xs.length) (hj : j < xs.length) (hl : xs.length ≤ 1073741824) :
  Calls Tryz.prog 237 #[.slice (some ⟨b, 0, none⟩) xs.length cap, .int .i64 ii, .int .i64 jj] w fun e w' => e = .returned (.tuple #[]) ∧ PR w' base (.slice (some ⟨b, 0, none⟩) xs.length cap) (swapL xs i j) ∧ w.grownBy w' (some b) := by
 subst e1 e2
 exact sSwap_any b cap base xs w h i j hi hj hl
/-- the row turned in place -/
theorem PS.swap {w w' : World} {g o b cap : Nat} {cs : Array Value} {t base : Nat} {xs : List Int} (h : PS w g o cs t base (.slice (some ⟨b, 0, none⟩) xs.length cap) xs) {ys : List Int} (hp : PR w' base (.slice (some ⟨b, 0, none⟩) xs.length cap) ys) (hg : w.grownBy w' (some b)) :
  PS w' g o cs t base (.slice (some ⟨b, 0, none⟩) xs.length cap) ys ∧ FP w g (.slice (some ⟨b, 0, none⟩) xs.length cap) w' (.slice (some ⟨b, 0, none⟩) xs.length cap) :=
 ⟨⟨(hg.block g (blk_lt h.blk) h.away).trans h.blk, h.at_, hp, h.away⟩, ⟨hg.os, hg.tape, hg.output, hg.size, fun k hk _ hv => hg.block k hk hv, .inl rfl⟩⟩
theorem PS.drewN {w : World} {g o : Nat} {cs : Array Value} {t base : Nat} {v : Value} {xs : List Int} (h : PS w g o cs t base v xs) (m : Nat) : PS (w.drewN m) g o cs t base v xs := ⟨h.blk, h.at_, Kd.R_drewN h.row m, h.away⟩
theorem FP.drewN {w w' : World} {g : Nat} {v v' : Value} (h : FP w g v w' v') (m : Nat) : FP w g v (w'.drewN m) v' := ⟨h.os, h.tape, h.output, h.size, h.block, h.own⟩
theorem hUp_any (w : World) (g o : Nat) (cs : Array Value) (t base : Nat) (v : Value) (xs : List Int) (h : PS w g o cs t base v xs) (hl : xs.length ≤ 1073741824) (j : Nat) (hj : j < xs.length) :
  Calls Tryz.prog 174 #[.iface 166 (.pointer (some ⟨g, o, none⟩)), .int .i64 j] w fun e w' => e = .returned (.tuple #[]) ∧ PS w' g o cs t base v (upL xs j) ∧ FP w g v w' v := by
 have HH := Lib.hid h; clear h
 have hLess := fun n w' hcw => mLess n g o w' v hcw
 have hSwap := fun n w' hcw => mSwap n g o w' v hcw
 go_enter Tryz.func174, Tryz.ntmps174
 go_wp2_with fail
 go_loopw [1] (fun a wr => ∃ (k : Nat) (ys : List Int), a = .int .i64 k ∧ k < ys.length ∧ ys.length ≤ 1073741824 ∧ Hid (upL ys k = upL xs j) ∧ Hid (PS wr g o cs t base v ys) ∧ Hid (FP w g v wr v)) (fun a _ => (intOf a).toNat)
 case atStart => exact ⟨j, xs, rfl, hj, hl, rfl, HH.out, FP.refl _ _ _⟩
 case round =>
  obtain ⟨k, ys, rfl, hk, hyl, HU, HP, HF⟩ := hrel
  by_cases hk0 : k = 0
  ·subst hk0
   have HE := Lib.hid (show upL ys 0 = ys from by rw [upL]; simp)
   go_wp2_with fail
   go_end0
   exact ⟨rfl, by rw [← HU.out, HE.out]; exact HP.out, HF.out⟩
  ·obtain ⟨m, rfl⟩ : ∃ m, k = m + 1 := ⟨k - 1, by omega⟩
   have hc := HP.out.cell
   obtain ⟨b, cap, rfl, hcap⟩ := HP.out.form (by omega)
   obtain ⟨i, hi⟩ : ∃ i : Nat, i = m / 2 := ⟨_, rfl⟩
   have hi2 : ((m : Int) / 2) = (i : Int) := by omega
   have hne : ((i : Int) == ((m : Int) + 1)) = false := by simp; omega
   have him : i < m + 1 := by omega
   have HI := Lib.hid hi
   clear hk0 hi
   by_cases hlt : ys.getD (m + 1) 0 < ys.getD i 0
   ·have HE := Lib.hid (show upL ys (m + 1) = upL (swapL ys i (m + 1)) i from by
     rw [upL, dif_neg]
     ·have : (m + 1 - 1) / 2 = i := by have := HI.out; omega
      rw [this]
     ·have : (m + 1 - 1) / 2 = i := by have := HI.out; omega
      rw [this]
      intro h
      rcases h with h | h
      ·omega
      ·exact h hlt)
    have HD := Lib.hid (decide_eq_true hlt)
    clear hlt
    go_wp2_with fail
    refine (sLess_at b cap base ys _ HP.out.row (m + 1) i _ _ (by omega) rfl hk (by omega) hyl true HD.out).mono ?_
    rintro e w1 ⟨rfl, q, rfl⟩
    go_wp2_with fail
    refine (sSwap_at b cap base ys _ (Kd.R_drewN HP.out.row q) i (m + 1) _ _ rfl (by omega) (by omega) hk hyl).mono ?_
    rintro e w2 ⟨rfl, hp2, hg2⟩
    have HS := Lib.hid ((HP.out.drewN q).swap hp2 hg2)
    have hl2 := swapL_length ys i (m + 1)
    have HL2 := Lib.hid hl2
    clear hp2 hg2 hl2
    go_wp2_with fail
    go_roundw
    case rel => exact ⟨i, swapL ys i (m + 1), rfl, by have := HL2.out; omega, by have := HL2.out; omega, by rw [← HE.out]; exact HU.out, HS.out.1, (HF.out.drewN q).trans HS.out.2⟩
    case measure => simp [intOf]; omega
   ·have HE := Lib.hid (show upL ys (m + 1) = ys from by
     rw [upL, dif_pos]
     have : (m + 1 - 1) / 2 = i := by have := HI.out; omega
     rw [this]
     exact .inr hlt)
    have HD := Lib.hid (decide_eq_false hlt)
    clear hlt
    go_wp2_with fail
    refine (sLess_at b cap base ys _ HP.out.row (m + 1) i _ _ (by omega) rfl hk (by omega) hyl false HD.out).mono ?_
    rintro e w1 ⟨rfl, q, rfl⟩
    go_wp2_with fail
    go_end0
    exact ⟨rfl, by rw [← HU.out, HE.out]; exact HP.out.drewN q, HF.out.drewN q⟩
def childL (n : Nat) (xs : List Int) (i : Nat) : Nat := if 2 * i + 2 < n ∧ xs.getD (2 * i + 2) 0 < xs.getD (2 * i + 1) 0 then 2 * i + 2 else 2 * i + 1
def downL (n : Nat) (xs : List Int) (i : Nat) : List Int :=
 if h : 2 * i + 1 < n then
  if xs.getD (childL n xs i) 0 < xs.getD i 0 then downL n (swapL xs i (childL n xs i)) (childL n xs i) else xs
 else xs
termination_by n - i
decreasing_by unfold childL; split <;> omega
theorem childL_lt (n : Nat) (xs : List Int) (i : Nat) (h : 2 * i + 1 < n) : childL n xs i < n ∧ i < childL n xs i := by unfold childL; split <;> omega
/-- some bool is returned -/
def IsB (e : Ending) : Prop := ∃ b, e = .returned (.bool b)
theorem hDown_any (w : World) (g o : Nat) (cs : Array Value) (t base : Nat) (v : Value) (xs : List Int) (h : PS w g o cs t base v xs) (hl : xs.length ≤ 1073741824) (i n : Nat) (hin : i ≤ n) (hn : n ≤ xs.length) :
  Calls Tryz.prog 147 #[.iface 166 (.pointer (some ⟨g, o, none⟩)), .int .i64 i, .int .i64 n] w fun e w' => IsB e ∧ PS w' g o cs t base v (downL n xs i) ∧ FP w g v w' v := by
 have HH := Lib.hid h; clear h
 have hLess := fun n w' hcw => mLess n g o w' v hcw
 have hSwap := fun n w' hcw => mSwap n g o w' v hcw
 go_enter Tryz.func147, Tryz.ntmps147
 go_wp2_with fail
 go_loopw [7] (fun a wr => ∃ (k : Nat) (ys : List Int), a = .int .i64 k ∧ k ≤ n ∧ n ≤ ys.length ∧ ys.length ≤ 1073741824 ∧ Hid (downL n ys k = downL n xs i) ∧ Hid (PS wr g o cs t base v ys) ∧ Hid (FP w g v wr v)) (fun a _ => n - (intOf a).toNat)
 case atStart => exact ⟨i, xs, rfl, hin, hn, hl, rfl, HH.out, FP.refl _ _ _⟩
 case round =>
  obtain ⟨k, ys, rfl, hk, hny, hyl, HU, HP, HF⟩ := hrel
  by_cases hk0 : n ≤ 2 * k + 1
  ·have HE := Lib.hid (show downL n ys k = ys from by rw [downL, dif_neg (by omega)])
   go_wp2_with fail
   go_ret
   exact ⟨⟨_, rfl⟩, by rw [← HU.out, HE.out]; exact HP.out, HF.out⟩
  ·have hc := HP.out.cell
   obtain ⟨b, cap, rfl, hcap⟩ := HP.out.form (by omega)
   have hk1 : 2 * k + 1 < n := by omega
   have HS1 := Lib.hid (show 2 * k + 1 < n from hk1)
   obtain ⟨j, hj⟩ : ∃ j, j = childL n ys k := ⟨_, rfl⟩
   have HJ := Lib.hid hj
   have hjn : j < n := by rw [hj]; exact (childL_lt n ys k hk1).1
   have hkj : k < j := by rw [hj]; exact (childL_lt n ys k hk1).2
   have HD : Hid (downL n ys k = if ys.getD j 0 < ys.getD k 0 then downL n (swapL ys k j) j else ys) := by
    show _ = _
    rw [downL, dif_pos hk1, ← hj]
   clear hk0
   have hcase : (n ≤ 2 * k + 2 ∧ j = 2 * k + 1) ∨ (2 * k + 2 < n ∧ decide (ys.getD (2 * k + 2) 0 < ys.getD (2 * k + 1) 0) = true ∧ j = 2 * k + 2) ∨ (2 * k + 2 < n ∧ decide (ys.getD (2 * k + 2) 0 < ys.getD (2 * k + 1) 0) = false ∧ j = 2 * k + 1) := by
    unfold childL at hj
    split at hj
    ·rename_i h; exact .inr (.inl ⟨h.1, decide_eq_true h.2, hj⟩)
    ·rename_i h
     by_cases h2 : 2 * k + 2 < n
     ·exact .inr (.inr ⟨h2, decide_eq_false (fun h3 => h ⟨h2, h3⟩), hj⟩)
     ·exact .inl ⟨by omega, hj⟩
   clear hj
   rcases hcase with ⟨h2, rfl⟩ | ⟨h2, h3, rfl⟩ | ⟨h2, h3, rfl⟩
   ·go_wp2_with fail
    by_cases hlt : ys.getD (2 * k + 1) 0 < ys.getD k 0
    ·have HD2 := Lib.hid (HD.out.trans (if_pos hlt))
     have HE := Lib.hid (decide_eq_true hlt)
     clear hlt
     refine (sLess_at b cap base ys _ HP.out.row (2 * k + 1) k (2 * (k : Int) + 1) (k : Int) (by omega) rfl (by omega) (by omega) hyl true HE.out).mono ?_
     rintro e w1 ⟨rfl, q, rfl⟩
     go_wp2_with fail
     refine (sSwap_at b cap base ys _ (HP.out.drewN q).row k (2 * k + 1) (k : Int) (2 * (k : Int) + 1) rfl (by omega) (by omega) (by omega) hyl).mono ?_
     rintro e w2 ⟨rfl, hp2, hg2⟩
     have HS := Lib.hid ((HP.out.drewN q).swap hp2 hg2)
     have hl2 := swapL_length ys k (2 * k + 1)
     have HL2 := Lib.hid hl2
     clear hp2 hg2 hl2
     go_wp2_with fail
     go_roundw
     case rel => exact ⟨2 * k + 1, swapL ys k (2 * k + 1), by first | rfl | (refine congrArg _ ?_; omega), by omega, by have := HL2.out; omega, by have := HL2.out; omega, by rw [← HD2.out]; exact HU.out, HS.out.1, (HF.out.drewN q).trans HS.out.2⟩
     case measure => simp [intOf]; omega
    ·have HD2 := Lib.hid (HD.out.trans (if_neg hlt))
     have HE := Lib.hid (decide_eq_false hlt)
     clear hlt
     refine (sLess_at b cap base ys _ HP.out.row (2 * k + 1) k (2 * (k : Int) + 1) (k : Int) (by omega) rfl (by omega) (by omega) hyl false HE.out).mono ?_
     rintro e w1 ⟨rfl, q, rfl⟩
     go_wp2_with fail
     go_ret
     exact ⟨⟨_, rfl⟩, by rw [← HU.out, HD2.out]; exact HP.out.drewN q, HF.out.drewN q⟩
   ·have H3 := Lib.hid h3
    clear h3
    go_wp2_with fail
    refine (sLess_at b cap base ys _ HP.out.row (2 * k + 2) (2 * k + 1) (2 * (k : Int) + 1 + 1) (2 * (k : Int) + 1) (by omega) (by omega) (by omega) (by omega) hyl true H3.out).mono ?_
    rintro e w0 ⟨rfl, q0, rfl⟩
    go_wp2_with fail
    by_cases hlt : ys.getD (2 * k + 2) 0 < ys.getD k 0
    ·have HD2 := Lib.hid (HD.out.trans (if_pos hlt))
     have HE := Lib.hid (decide_eq_true hlt)
     clear hlt
     refine (sLess_at b cap base ys _ (HP.out.drewN q0).row (2 * k + 2) k (2 * (k : Int) + 1 + 1) (k : Int) (by omega) rfl (by omega) (by omega) hyl true HE.out).mono ?_
     rintro e w1 ⟨rfl, q, rfl⟩
     go_wp2_with fail
     refine (sSwap_at b cap base ys _ (HP.out.drewN (q0 + q)).row k (2 * k + 2) (k : Int) (2 * (k : Int) + 1 + 1) rfl (by omega) (by omega) (by omega) hyl).mono ?_
     rintro e w2 ⟨rfl, hp2, hg2⟩
     have HS := Lib.hid ((HP.out.drewN (q0 + q)).swap hp2 hg2)
     have hl2 := swapL_length ys k (2 * k + 2)
     have HL2 := Lib.hid hl2
     clear hp2 hg2 hl2
     go_wp2_with fail
     go_roundw
     case rel => exact ⟨2 * k + 2, swapL ys k (2 * k + 2), by first | rfl | (refine congrArg _ ?_; omega), by omega, by have := HL2.out; omega, by have := HL2.out; omega, by rw [← HD2.out]; exact HU.out, HS.out.1, (HF.out.drewN (q0 + q)).trans HS.out.2⟩
     case measure => simp [intOf]; omega
    ·have HD2 := Lib.hid (HD.out.trans (if_neg hlt))
     have HE := Lib.hid (decide_eq_false hlt)
     clear hlt
     refine (sLess_at b cap base ys _ (HP.out.drewN q0).row (2 * k + 2) k (2 * (k : Int) + 1 + 1) (k : Int) (by omega) rfl (by omega) (by omega) hyl false HE.out).mono ?_
     rintro e w1 ⟨rfl, q, rfl⟩
     go_wp2_with fail
     go_ret
     exact ⟨⟨_, rfl⟩, by rw [← HU.out, HD2.out]; exact HP.out.drewN (q0 + q), HF.out.drewN (q0 + q)⟩
   ·have H3 := Lib.hid h3
    clear h3
    go_wp2_with fail
    refine (sLess_at b cap base ys _ HP.out.row (2 * k + 2) (2 * k + 1) (2 * (k : Int) + 1 + 1) (2 * (k : Int) + 1) (by omega) (by omega) (by omega) (by omega) hyl false H3.out).mono ?_
    rintro e w0 ⟨rfl, q0, rfl⟩
    go_wp2_with fail
    by_cases hlt : ys.getD (2 * k + 1) 0 < ys.getD k 0
    ·have HD2 := Lib.hid (HD.out.trans (if_pos hlt))
     have HE := Lib.hid (decide_eq_true hlt)
     clear hlt
     refine (sLess_at b cap base ys _ (HP.out.drewN q0).row (2 * k + 1) k (2 * (k : Int) + 1) (k : Int) (by omega) rfl (by omega) (by omega) hyl true HE.out).mono ?_
     rintro e w1 ⟨rfl, q, rfl⟩
     go_wp2_with fail
     refine (sSwap_at b cap base ys _ (HP.out.drewN (q0 + q)).row k (2 * k + 1) (k : Int) (2 * (k : Int) + 1) rfl (by omega) (by omega) (by omega) hyl).mono ?_
     rintro e w2 ⟨rfl, hp2, hg2⟩
     have HS := Lib.hid ((HP.out.drewN (q0 + q)).swap hp2 hg2)
     have hl2 := swapL_length ys k (2 * k + 1)
     have HL2 := Lib.hid hl2
     clear hp2 hg2 hl2
     go_wp2_with fail
     go_roundw
     case rel => exact ⟨2 * k + 1, swapL ys k (2 * k + 1), by first | rfl | (refine congrArg _ ?_; omega), by omega, by have := HL2.out; omega, by have := HL2.out; omega, by rw [← HD2.out]; exact HU.out, HS.out.1, (HF.out.drewN (q0 + q)).trans HS.out.2⟩
     case measure => simp [intOf]; omega
    ·have HD2 := Lib.hid (HD.out.trans (if_neg hlt))
     have HE := Lib.hid (decide_eq_false hlt)
     clear hlt
     refine (sLess_at b cap base ys _ (HP.out.drewN q0).row (2 * k + 1) k (2 * (k : Int) + 1) (k : Int) (by omega) rfl (by omega) (by omega) hyl false HE.out).mono ?_
     rintro e w1 ⟨rfl, q, rfl⟩
     go_wp2_with fail
     go_ret
     exact ⟨⟨_, rfl⟩, by rw [← HU.out, HD2.out]; exact HP.out.drewN (q0 + q), HF.out.drewN (q0 + q)⟩
def pushL (xs : List Int) (x : Int) : List Int := upL (xs ++ [x]) xs.length
theorem upL_length (xs : List Int) (j : Nat) : (upL xs j).length = xs.length := by
 fun_induction upL xs j with
 | case1 => rfl
 | case2 xs j h ih => rw [ih, swapL_length]
theorem pushL_length (xs : List Int) (x : Int) : (pushL xs x).length = xs.length + 1 := by simp [pushL, upL_length]
theorem downL_length (n : Nat) (xs : List Int) (i : Nat) : (downL n xs i).length = xs.length := by
 fun_induction downL n xs i with
 | case1 xs i h h2 ih => rw [ih, swapL_length]
 | case2 => rfl
 | case3 => rfl
theorem hPush_any (w : World) (g o : Nat) (cs : Array Value) (t base : Nat) (v : Value) (xs : List Int) (h : PS w g o cs t base v xs) (hb : base ≤ w.heap.size) (hl : xs.length < 1073741824) (x : Int) :
  Calls Tryz.prog 144 #[.iface 166 (.pointer (some ⟨g, o, none⟩)), .iface 3 (.int .i64 x)] w fun e w' => e = .returned (.tuple #[]) ∧ ∃ v', PS w' g o (cs.setIfInBounds o v') t base v' (pushL xs x) ∧ FP w g v w' v' := by
 have HH := Lib.hid h; clear h
 have hPush := fun n w' => mPush n g o w'
 go_enter Tryz.func144, Tryz.ntmps144
 go_wp2_with fail
 refine (pPush_any w g o cs t base v xs HH.out hb (by omega) x).mono ?_
 rintro e w1 ⟨rfl, v1, h1, hf1⟩
 have hc := h1.cell
 have hle1 : (xs ++ [x]).length = xs.length + 1 := by simp
 obtain ⟨b, cap, rfl, hcap⟩ := h1.form (by omega)
 have H1 := Lib.hid h1
 have HF1 := Lib.hid hf1
 clear h1 hf1
 have hLen := fun n w' hcw => mLen n g o w' (.slice (some ⟨b, 0, none⟩) (xs ++ [x]).length cap) hcw
 rw [hle1] at hc hLen hcap
 clear hPush
 have HL := Lib.hid hle1
 clear hle1
 go_wp2_with fail
 refine (sLen_any _ _ _ _).mono ?_
 rintro e w2 ⟨rfl, rfl⟩
 go_wp2_with fail
 refine (hUp_any _ g o _ t base _ (xs ++ [x]) H1.out (by have := HL.out; omega) xs.length (by have := HL.out; omega)).mono ?_
 rintro e w2 ⟨rfl, h2, hf2⟩
 have H2 := Lib.hid h2
 have HF2 := Lib.hid hf2
 clear h2 hf2
 go_wp2_with fail
 go_end0
 exact ⟨rfl, _, H2.out, HF1.out.trans HF2.out⟩
def popL (xs : List Int) : List Int := downL (xs.length - 1) (swapL xs 0 (xs.length - 1)) 0
theorem popL_length (xs : List Int) : (popL xs).length = xs.length := by simp [popL, downL_length, swapL_length]
theorem hPop_any (w : World) (g o : Nat) (cs : Array Value) (t base : Nat) (v : Value) (xs : List Int) (h : PS w g o cs t base v xs) (n : Nat) (hn : xs.length = n + 1) (hl : xs.length ≤ 1073741824) :
  Calls Tryz.prog 95 #[.iface 166 (.pointer (some ⟨g, o, none⟩))] w fun e w' => e = .returned (.iface 3 (.int .i64 ((popL xs).getD n 0))) ∧ ∃ v', PS w' g o (cs.setIfInBounds o v') t base v' ((popL xs).take n) ∧ FP w g v w' v' := by
 have hpop : popL xs = downL n (swapL xs 0 n) 0 := by rw [popL, hn]; rfl
 have HPOP := Lib.hid hpop
 have hc := h.cell
 obtain ⟨b, cap, rfl, hcap⟩ := h.form (by omega)
 have HH := Lib.hid h
 have hLen := fun n w' hcw => mLen n g o w' (.slice (some ⟨b, 0, none⟩) xs.length cap) hcw
 have hSwap := fun n w' hcw => mSwap n g o w' (.slice (some ⟨b, 0, none⟩) xs.length cap) hcw
 have hPop := fun n w' => mPop n g o w'
 have HN := Lib.hid hn
 rw [hn] at hc hLen hSwap hl
 clear h hpop hn hcap
 go_enter Tryz.func95, Tryz.ntmps95
 go_wp2_with fail
 refine (sLen_any _ _ _ _).mono ?_
 rintro e w2 ⟨rfl, rfl⟩
 go_wp2_with fail
 refine (HN.out ▸ sSwap_at b cap base xs w HH.out.row 0 n 0 (n : Int) rfl rfl (by have := HN.out; omega) (by have := HN.out; omega) (by have := HN.out; omega)).mono ?_
 rintro e w1 ⟨rfl, hp1, hg1⟩
 have HS := Lib.hid (HH.out.swap (HN.out ▸ hp1) hg1)
 have hc1 := HS.out.1.cell
 rw [HN.out] at hc1
 have HL2 := Lib.hid (swapL_length xs 0 n)
 clear hp1 hg1 hc
 go_wp2_with fail
 refine (hDown_any w1 g o cs t base _ (swapL xs 0 n) HS.out.1 (by have := HL2.out; have := HN.out; omega) 0 n (by omega) (by have := HL2.out; have := HN.out; omega)).mono ?_
 rintro e w2 ⟨⟨b2, rfl⟩, h2, hf2⟩
 rw [← HPOP.out] at h2
 have H2 := Lib.hid h2
 have HF2 := Lib.hid (HS.out.2.trans hf2)
 have HL3 := Lib.hid (popL_length xs)
 clear h2 hf2 hc1
 go_wp2_with fail
 refine (pPop_any w2 g o cs t base _ (popL xs) H2.out n (by have := HL3.out; have := HN.out; omega) (by have := HL3.out; have := HN.out; omega)).mono ?_
 rintro e w3 ⟨rfl, v3, h3, hf3⟩
 have H3 := Lib.hid h3
 have HF3 := Lib.hid hf3
 clear h3 hf3
 go_wp2_with fail
 go_ret
 exact ⟨rfl, _, H3.out, HF2.out.trans HF3.out⟩
theorem copyCheck_used (b : Nat) (w : World) (h0 : w.cell? ⟨b, 0, none⟩ = some (.pointer (some ⟨b, 0, none⟩))) :
  Calls Tryz.prog 212 #[.pointer (some ⟨b, 0, none⟩)] w fun e w' => e = .returned (.tuple #[]) ∧ w' = w := by
 obtain ⟨j, hj, hjs⟩ := Option.map_eq_some_iff.1 Tryz.Builder_Extra_169.sizeBuilder
 have hj' : Tryz.prog.info? 243 = some j := hj
 go_enter Tryz.func212, Tryz.ntmps212
 go_wp2_with fail
 rw [Lib.run_neq_ptr_same w _ Tryz.underlying241 hj']
 go_wp2_with fail
 go_end0
 exact ⟨rfl, rfl⟩
theorem copyCheck_fresh (b : Nat) (w : World) (h0 : w.cell? ⟨b, 0, none⟩ = some (.pointer none)) (hsh : w.shape? b = some (243, 2)) (hfz : w.frozen? ⟨b, 0, none⟩ = false) :
  Calls Tryz.prog 212 #[.pointer (some ⟨b, 0, none⟩)] w fun e w' => e = .returned (.tuple #[]) ∧ w' = w.setCell ⟨b, 0, none⟩ (.pointer (some ⟨b, 0, none⟩)) := by
 obtain ⟨j, hj, hjs⟩ := Option.map_eq_some_iff.1 Tryz.Builder_Extra_169.sizeBuilder
 have hj' : Tryz.prog.info? 243 = some j := hj
 go_enter Tryz.func212, Tryz.ntmps212
 go_wp2_with fail
 rw [Lib.run_to_unsafe w ⟨b, 0, none⟩ Tryz.underlying241 Tryz.underlying260 hj' (by rw [hjs]; decide) hsh (Nat.zero_lt_succ 1)]
 simp only [Result.andThen]
 rw [Oper.upon_value]
 go_wp2_with fail
 rw [run_callFunc_extern Tryz.func217 (by kernel_rfl) (by kernel_rfl) (by kernel_rfl) (e := Extern.AbiNoEscape.same) (by kernel_rfl)]
 rw [Lib.run_noEscape]
 simp only [Result.andThen]
 rw [Oper.upon_value]
 go_wp2_with fail
 rw [Lib.run_from_unsafe w ⟨b, 0, none⟩ Tryz.underlying260 Tryz.underlying241 hj' hsh Tryz.Builder_Extra_169.liesBuilder]
 simp only [Result.andThen]
 rw [Oper.upon_value]
 go_wp2_with fail
 go_end0
 exact ⟨rfl, rfl⟩
theorem copyCheck_any (B b : Nat) (bs : List Value) (w : World) (h : Lib.IsBuilder 243 5 B b bs w) :
  Calls Tryz.prog 212 #[.pointer (some ⟨b, 0, none⟩)] w fun e w' => e = .returned (.tuple #[]) ∧ (Lib.BuilderAt 243 5 B b (.pointer (some ⟨b, 0, none⟩)) bs w' ∧ Below B w w') := by
 rcases h with h | h
 ·refine (copyCheck_fresh b w h.cell0 h.shape h.frozen0).mono ?_
  rintro e w' ⟨rfl, rfl⟩
  exact ⟨rfl, h.used _, (Below.refl B w).setCell (p := ⟨b, 0, none⟩) h.1 _⟩
 ·refine (copyCheck_used b w h.cell0).mono ?_
  rintro e w' ⟨rfl, rfl⟩
  exact ⟨rfl, h, Below.refl B _⟩
theorem wByte_any (B b : Nat) (bs : List Value) (c : Int) (w : World) (h : Lib.IsBuilder 243 5 B b bs w) (hlen : bs.length + 1 ≤ 140737488355328) (hBw : B ≤ w.heap.size) :
  Calls Tryz.prog 193 #[.pointer (some ⟨b, 0, none⟩), .int .u8 c] w fun e w' => e = .returned .nilIface ∧ (Lib.BuilderAt 243 5 B b (.pointer (some ⟨b, 0, none⟩)) (bs ++ [.int .u8 c]) w' ∧ Below B w w') := by
 obtain ⟨i0, hi, hz0, hz1, hz2⟩ := info_parts Tryz.Builder_Extra_169.infoByte
 have hi' : Tryz.prog.info? 5 = some i0 := hi
 go_enter Tryz.func193, Tryz.ntmps193
 go_wp2_with fail
 refine (copyCheck_any B b bs _ h).mono ?_
 rintro e w1 ⟨rfl, h1, hb1⟩
 obtain ⟨hB, v, hbk, hown, hne⟩ := h1
 have c0 : w1.cell? ⟨b, 0, none⟩ = some (.pointer (some ⟨b, 0, none⟩)) := by rw [Lib.cell_of_heap hbk]; rfl
 have c1 : w1.cell? ⟨b, 1, none⟩ = some v := by rw [Lib.cell_of_heap hbk]; rfl
 go_wp2_with (at_builtin; refine wpList_append_own _ rfl _ _ 99 rfl B 5 i0 (.int .u8 0) 1 1 Tryz.underlying99 hi' hz0 hz1 hz2 rfl (by decide) _ _ _ rfl (hown.alloc _) ⟨w1.heap.size, 0, none⟩ 1 1 [.int .u8 c] rfl rfl ?c1 ?c2 ?c3 ?c4 ?c5 ?_)
 case c1 =>
  intro j u hj
  match j, hj with
  | 0, hj => simp at hj; subst hj; simp [Addr.add]
 case c2 => intro u hu; simp at hu; subst hu; rfl
 case c3 => unfold maxLen; omega
 case c4 => omega
 case c5 => have := hb1.size; simp; omega
 intro v' w2 hown' hgrow _
 have hlt : b < w1.heap.size := by
  rcases Nat.lt_or_ge b w1.heap.size with h' | h'
  ·exact h'
  ·simp [Array.getElem?_eq_none h'] at hbk
 have hb2 : w2.heap[b]? = some (.cells #[.pointer (some ⟨b, 0, none⟩), v] 243 (0, 0)) := by
  rw [hgrow.block b (by simp; omega) (fun e => hne e.symm), Lib.alloc_old w1 _ b hlt]
  exact hbk
 have d0 : w2.cell? ⟨b, 0, none⟩ = some (.pointer (some ⟨b, 0, none⟩)) := by rw [Lib.cell_of_heap hb2]; rfl
 have d1 : w2.cell? ⟨b, 1, none⟩ = some v := by rw [Lib.cell_of_heap hb2]; rfl
 have f1 : w2.frozen? ⟨b, 1, none⟩ = false := Lib.frozen_of_heap hb2 1
 obtain ⟨g, cap, rfl⟩ : ∃ g cap, v' = .slice (some ⟨g, 0, none⟩) (bs.length + 1) cap := by
  rcases hown'.2 with ⟨_, h0⟩ | ⟨g, cap, cur, hv, _⟩
  ·omega
  ·exact ⟨g, cap, hv⟩
 go_wp2_with fail
 go_ret
 refine ⟨rfl, ?_, ?_⟩
 ·exact Lib.BuilderAt.put (T := 243) (e := 5) hB hb2 (bs' := bs ++ [.int .u8 c]) (by simpa using hown') (by decide)
 ·exact ((hb1.alloc (by have := hb1.size; omega) _).grown hgrow (by have := hb1.size; simp; omega) (fun k hk => (hown.lt k hk).1)).setCell (p := ⟨b, 1, none⟩) hB _
def letterOf (t : Int) : UInt8 := if t = 0 then 46 else if t = 1 then 105 else if t = 2 then 102 else if t = 3 then 98 else 101
def rowS (l : List Int) : ByteArray := ⟨(l.map letterOf).toArray⟩
theorem take_step (l : List Int) (k : Nat) (hk : k < l.length) : l.take (k + 1) = l.take k ++ [l.getD k 0] := by
 rw [List.take_add_one, List.getElem?_eq_getElem hk, List.getD_eq_getElem?_getD, List.getElem?_eq_getElem hk]; rfl
theorem getD_mem_int (l : List Int) (k : Nat) (hk : k < l.length) (x : Int) (hx : x = l.getD k 0) : x ∈ l := by
 rw [hx, List.getD_eq_getElem?_getD, List.getElem?_eq_getElem hk]; exact List.getElem_mem hk
theorem vrow_any (A : Option Addr) (c : Nat) (l : List Int) (w : World) (hr : Kd.C (Kd.int .i64) w A l.length l) (hl : l.length ≤ 1099511627776) (ht : ∀ x ∈ l, 0 ≤ x ∧ x ≤ 4) :
  Calls Tryz.prog 175 #[.slice A l.length c] w fun e w' => e = .returned (.string (rowS l)) ∧ Below w.heap.size w w' := by
 have HR := Lib.hid hr
 have HT := Lib.hid ht
 clear hr ht
 go_enter Tryz.func175, Tryz.ntmps175
 go_wp2_with fail
 go_loopw [8] (fun i wr => ∃ k : Nat, k ≤ l.length ∧ i = .int .i64 k ∧ Hid (Lib.IsBuilder 243 5 w.heap.size w.heap.size (Lib.byteCells ((l.take k).map letterOf)) wr) ∧ Hid (Below w.heap.size w wr)) (fun i _ => l.length - (intOf i).toNat)
 case atStart => exact ⟨0, by omega, rfl, Lib.fresh_isBuilder _ _ _, below_alloc (Below.refl _ _) _⟩
 case round =>
  obtain ⟨k, hk, rfl, HI, HB⟩ := hrel
  by_cases hlt : k < l.length
  ·obtain ⟨ad, x, rfl, hc, HX⟩ := int_at (Kd.C_below HR.out HB.out) k hlt
   have hx5 := HT.out x (getD_mem_int l k hlt x HX.out)
   have HL := Lib.hid (show (l.take (k + 1)).map letterOf = (l.take k).map letterOf ++ [letterOf x] from by rw [take_step l k hlt, HX.out]; simp)
   have hxx : x = 0 ∨ x = 1 ∨ x = 2 ∨ x = 3 ∨ x = 4 := by omega
   clear hx5
   rcases hxx with rfl | rfl | rfl | rfl | rfl
   all_goals
    go_wp2_with fail
    refine (wByte_any w.heap.size w.heap.size _ _ _ HI.out (by rw [Lib.byteCells_length]; simp; omega) HB.out.size).mono ?_
    rintro e w1 ⟨rfl, h1, hb1⟩
    have H1 := Lib.hid (show Lib.IsBuilder 243 5 w.heap.size w.heap.size (Lib.byteCells ((l.take (k + 1)).map letterOf)) w1 from by
     rw [HL.out]
     unfold Lib.byteCells at h1 ⊢
     rw [List.map_append]
     exact .inr h1)
    have HB1 := Lib.hid (HB.out.trans hb1)
    clear h1 hb1
    go_wp2_with fail
    go_roundw
    case rel => exact ⟨k + 1, by omega, by go_num, H1.out, HB1.out⟩
    case measure => simp [intOf]; omega
  ·obtain rfl : k = l.length := by omega
   go_wp2_with fail
   refine (Tryz.Builder_String_any w.heap.size w.heap.size _ _ HI.out HB.out.size).mono ?_
   rintro e w1 ⟨rfl, hb1⟩
   have HB1 := Lib.hid (HB.out.trans hb1)
   clear hb1
   go_wp2_with fail
   go_ret
   exact ⟨rfl, HB1.out⟩
def resultS (t : Int) : ByteArray := if t = 0 then ⟨#[]⟩ else rowS [t]
theorem C_one (w : World) (t : Int) : Kd.C (Kd.int .i64) (w.alloc (.cells #[.int .i64 t] 3)) (some ⟨w.heap.size, 0, none⟩) ([t] : List Int).length [t] :=
 C_blk .i64 [t] (heap_alloc_new w _) 1 (by simp) (by simp)
theorem trim_row (t : Int) (ht : 0 ≤ t ∧ t ≤ 4) : (⟨(Lib.trimPrefix (rowS [t]).data.toList [46]).toArray⟩ : ByteArray) = resultS t := by
 have hxx : t = 0 ∨ t = 1 ∨ t = 2 ∨ t = 3 ∨ t = 4 := by omega
 rcases hxx with rfl | rfl | rfl | rfl | rfl <;> rfl
theorem result_any (t : Int) (w : World) (ht : 0 ≤ t ∧ t ≤ 4) :
  Calls Tryz.prog 178 #[.int .i64 t] w fun e w' => e = .returned (.string (resultS t)) ∧ Below w.heap.size w w' := by
 have HT := Lib.hid ht
 clear ht
 go_enter Tryz.func178, Tryz.ntmps178
 go_wp2_with fail
 refine (vrow_any _ 1 [t] _ (C_one w t) (by simp) (fun x hx => by have := HT.out; simp at hx; omega)).mono ?_
 rintro e w1 ⟨rfl, hb1⟩
 have HB1 := Lib.hid (below_next (below_alloc (Below.refl _ _) _) hb1)
 clear hb1
 go_wp2_with fail
 refine (Tryz.strings_TrimPrefix _ _ _).mono ?_
 rintro e w2 ⟨rfl, rfl⟩
 have HTR := Lib.hid (trim_row t HT.out)
 go_wp2_with fail
 go_ret
 exact ⟨by rw [← HTR.out]; rfl, HB1.out⟩
/-- a map in block b: its entries in the order in which they came -/
def MM {κ υ : Type} (ek : κ → Value) (ev : υ → Value) (w : World) (b : Nat) (l : List (κ × υ)) : Prop :=
 ∃ es clock, w.heap[b]? = some (.map es clock) ∧ es.toList.map (fun e => (e.key, e.val)) = l.map (fun p => (ek p.1, ev p.2))
theorem MM.move {κ υ : Type} {ek : κ → Value} {ev : υ → Value} {w w' : World} {b : Nat} {l : List (κ × υ)} (h : MM ek ev w b l) (hb : w'.heap[b]? = w.heap[b]?) : MM ek ev w' b l := by
 obtain ⟨es, c, h1, h2⟩ := h
 exact ⟨es, c, hb.trans h1, h2⟩
theorem MM.lt {κ υ : Type} {ek : κ → Value} {ev : υ → Value} {w : World} {b : Nat} {l : List (κ × υ)} (h : MM ek ev w b l) : b < w.heap.size := by
 obtain ⟨es, c, h1, h2⟩ := h
 exact (Array.getElem?_eq_some_iff.1 h1).1
theorem findNow_spec {κ υ : Type} [BEq κ] (kind : TypeDesc) (ek : κ → Value) (ev : υ → Value) (hs : ∀ a b, Instr.sameNow kind (ek a) (ek b) = some (a == b)) (k : κ) :
  ∀ (es : List MapEntry) (l : List (κ × υ)) (i : Nat), es.map (fun e => (e.key, e.val)) = l.map (fun p => (ek p.1, ev p.2)) →
   ∃ r, Instr.findNow kind (ek k) es i = some r ∧ r.map (·.2) = (l.lookup k).map ev
 | [], [], i, _ => ⟨none, rfl, rfl⟩
 | [], _ :: _, _, h => by simp at h
 | _ :: _, [], _, h => by simp at h
 | e :: es, p :: l, i, h => by
  obtain ⟨h1, h2⟩ := List.cons.inj h
  have hk : e.key = ek p.1 := congrArg Prod.fst h1
  have hv : e.val = ev p.2 := congrArg Prod.snd h1
  unfold Instr.findNow
  rw [hk, hs]
  by_cases hkp : (k == p.1) = true
  ·rw [hkp]
   exact ⟨some (i, e.val), rfl, by simp [List.lookup, hkp, hv]⟩
  ·have hkp' := Bool.eq_false_iff.2 hkp
   rw [hkp']
   obtain ⟨r, hr, hr2⟩ := findNow_spec kind ek ev hs k es l (i + 1) h2
   exact ⟨r, hr, by obtain ⟨p1, p2⟩ := p; simp only [List.lookup, hkp', hr2]⟩
def ekI : Int → Value := Value.int .i64
def evS : ByteArray → Value := Value.string
def ekS : ByteArray → Value := Value.string
def evB : Bool → Value := Value.bool
theorem sameI (a b : Int) : Instr.sameNow (.int .i64) (ekI a) (ekI b) = some (a == b) := by simp [Instr.sameNow, ekI]
theorem sameS (a b : ByteArray) : Instr.sameNow .string (ekS a) (ekS b) = some (a == b) := rfl
theorem zS (w : World) : (zeroValue 9).run Tryz.prog w = .ok (.string ⟨#[]⟩) w := by kernel_rfl
theorem zB (w : World) : (zeroValue 4).run Tryz.prog w = .ok (.bool false) w := by kernel_rfl
theorem checkI (w : World) (b : Bool) (k : Int) : (Instr.checkKey b 10000 3 (.int .i64 k)).run Tryz.prog w = .ok () w := by
 kernel_rfl
theorem checkS (w : World) (b : Bool) (k : ByteArray) : (Instr.checkKey b 10000 9 (.string k)).run Tryz.prog w = .ok () w := by
 kernel_rfl
theorem noted_look {w : World} {b : Nat} {l : List (Int × ByteArray)} (h : MM ekI evS w b l) (k : Int) :
  (Instr.lookup 157 (.map (some b)) (.int .i64 k) true).run Tryz.prog w = .ok (.tuple #[.string ((l.lookup k).getD ⟨#[]⟩), .bool (l.lookup k).isSome]) w := by
 obtain ⟨es, c, hb, he⟩ := h
 obtain ⟨r, hr, hr2⟩ := findNow_spec (.int .i64) ekI evS sameI k es.toList l 0 he
 have hu := run_underlying (Tryz.underlying157) (w := w)
 have hi := run_underlying (Tryz.underlying3) (w := w)
 have hfk : (Instr.findKey 3 (.int .i64 k) es.toList).run Tryz.prog w = .ok r w := by
  simp [Instr.findKey, hi]
  have hr' : Instr.findNow (TypeDesc.int IntKind.i64) (.int .i64 k) es.toList 0 = some r := hr
  rw [hr']; rfl
 cases hlk : l.lookup k with
 | none =>
  rw [hlk] at hr2
  obtain rfl : r = none := by cases r <;> simp_all
  simp [Instr.lookup, hu, MapKept.run_getObj_map hb, checkI, hfk, Result.andThen, zS]
 | some v =>
  rw [hlk] at hr2
  obtain ⟨j, rfl⟩ : ∃ j, r = some (j, evS v) := by
   cases r with
   | none => simp at hr2
   | some q => obtain ⟨j, u⟩ := q; simp at hr2; exact ⟨j, by rw [hr2]⟩
  simp [Instr.lookup, hu, MapKept.run_getObj_map hb, checkI, hfk, Result.andThen, evS]
theorem noted_get {w : World} {b : Nat} {l : List (Int × ByteArray)} (h : MM ekI evS w b l) (k : Int) :
  (Instr.lookup 157 (.map (some b)) (.int .i64 k) false).run Tryz.prog w = .ok (.string ((l.lookup k).getD ⟨#[]⟩)) w := by
 obtain ⟨es, c, hb, he⟩ := h
 obtain ⟨r, hr, hr2⟩ := findNow_spec (.int .i64) ekI evS sameI k es.toList l 0 he
 have hu := run_underlying (Tryz.underlying157) (w := w)
 have hi := run_underlying (Tryz.underlying3) (w := w)
 have hfk : (Instr.findKey 3 (.int .i64 k) es.toList).run Tryz.prog w = .ok r w := by
  simp [Instr.findKey, hi]
  have hr' : Instr.findNow (TypeDesc.int IntKind.i64) (.int .i64 k) es.toList 0 = some r := hr
  rw [hr']; rfl
 cases hlk : l.lookup k with
 | none =>
  rw [hlk] at hr2
  obtain rfl : r = none := by cases r <;> simp_all
  simp [Instr.lookup, hu, MapKept.run_getObj_map hb, checkI, hfk, Result.andThen, zS]
 | some v =>
  rw [hlk] at hr2
  obtain ⟨j, rfl⟩ : ∃ j, r = some (j, evS v) := by
   cases r with
   | none => simp at hr2
   | some q => obtain ⟨j, u⟩ := q; simp at hr2; exact ⟨j, by rw [hr2]⟩
  simp [Instr.lookup, hu, MapKept.run_getObj_map hb, checkI, hfk, Result.andThen, evS]
theorem seen_get {w : World} {b : Nat} {l : List (ByteArray × Bool)} (h : MM ekS evB w b l) (k : ByteArray) :
  (Instr.lookup 123 (.map (some b)) (.string k) false).run Tryz.prog w = .ok (.bool ((l.lookup k).getD false)) w := by
 obtain ⟨es, c, hb, he⟩ := h
 obtain ⟨r, hr, hr2⟩ := findNow_spec .string ekS evB sameS k es.toList l 0 he
 have hu := run_underlying (Tryz.underlying123) (w := w)
 have hi := run_underlying (Tryz.underlying9) (w := w)
 have hfk : (Instr.findKey 9 (.string k) es.toList).run Tryz.prog w = .ok r w := by
  simp [Instr.findKey, hi]
  have hr' : Instr.findNow TypeDesc.string (.string k) es.toList 0 = some r := hr
  rw [hr']; rfl
 cases hlk : l.lookup k with
 | none =>
  rw [hlk] at hr2
  obtain rfl : r = none := by cases r <;> simp_all
  simp [Instr.lookup, hu, MapKept.run_getObj_map hb, checkS, hfk, Result.andThen, zB]
 | some v =>
  rw [hlk] at hr2
  obtain ⟨j, rfl⟩ : ∃ j, r = some (j, evB v) := by
   cases r with
   | none => simp at hr2
   | some q => obtain ⟨j, u⟩ := q; simp at hr2; exact ⟨j, by rw [hr2]⟩
  simp [Instr.lookup, hu, MapKept.run_getObj_map hb, checkS, hfk, Result.andThen, evB]
def setB (w : World) (b : Nat) (o : Obj) : World := { w with heap := w.heap.setIfInBounds b o }
/-- block b alone is another -/
def Only (b : Nat) (w w' : World) : Prop := w'.os = w.os ∧ w'.tape = w.tape ∧ w'.output = w.output ∧ w'.heap.size = w.heap.size ∧ ∀ k, k ≠ b → w'.heap[k]? = w.heap[k]?
theorem only_set (w : World) (b : Nat) (o : Obj) : Only b w (setB w b o) :=
 ⟨rfl, rfl, rfl, by simp [setB], fun k hk => by simp [setB, Array.getElem?_setIfInBounds, Ne.symm hk]⟩
theorem MM.push {κ υ : Type} {ek : κ → Value} {ev : υ → Value} {w : World} {b : Nat} {l : List (κ × υ)} {es : Array MapEntry} {clock : Nat} (hb : w.heap[b]? = some (.map es clock)) (he : es.toList.map (fun e => (e.key, e.val)) = l.map (fun p => (ek p.1, ev p.2))) (k : κ) (v : υ) :
  MM ek ev (setB w b (.map (es.push { key := ek k, val := ev v, born := clock }) (clock + 1))) b (l ++ [(k, v)]) := by
 refine ⟨es.push { key := ek k, val := ev v, born := clock }, clock + 1, ?_, ?_⟩
 ·have hlt := (Array.getElem?_eq_some_iff.1 hb).1
  simp [setB, Array.getElem?_setIfInBounds, hlt]
 ·simp [he]
theorem noted_put {w : World} {b : Nat} {l : List (Int × ByteArray)} (h : MM ekI evS w b l) (k : Int) (hk : l.lookup k = none) (s : ByteArray) :
  ∃ w', (Instr.mapUpdate 157 (.map (some b)) (.int .i64 k) (.string s)).run Tryz.prog w = .ok () w' ∧ MM ekI evS w' b (l ++ [(k, s)]) ∧ Only b w w' := by
 obtain ⟨es, c, hb, he⟩ := h
 obtain ⟨r, hr, hr2⟩ := findNow_spec (.int .i64) ekI evS sameI k es.toList l 0 he
 have hu := run_underlying (Tryz.underlying157) (w := w)
 have hi := run_underlying (Tryz.underlying3) (w := w)
 rw [hk] at hr2
 obtain rfl : r = none := by cases r <;> simp_all
 have hfk : (Instr.findKey 3 (.int .i64 k) es.toList).run Tryz.prog w = .ok none w := by
  simp [Instr.findKey, hi]
  have hr' : Instr.findNow (TypeDesc.int IntKind.i64) (.int .i64 k) es.toList 0 = some none := hr
  rw [hr']; rfl
 refine ⟨setB w b _, ?_, MM.push hb he k s, only_set _ _ _⟩
 simp [Instr.mapUpdate, hu, MapKept.run_getObj_map hb, checkI, hfk, MapKept.run_setObj_map _ hb, Result.andThen, setB, ekI, evS]
theorem seen_put {w : World} {b : Nat} {l : List (ByteArray × Bool)} (h : MM ekS evB w b l) (k : ByteArray) (hk : l.lookup k = none) (s : Bool) :
  ∃ w', (Instr.mapUpdate 123 (.map (some b)) (.string k) (.bool s)).run Tryz.prog w = .ok () w' ∧ MM ekS evB w' b (l ++ [(k, s)]) ∧ Only b w w' := by
 obtain ⟨es, c, hb, he⟩ := h
 obtain ⟨r, hr, hr2⟩ := findNow_spec .string ekS evB sameS k es.toList l 0 he
 have hu := run_underlying (Tryz.underlying123) (w := w)
 have hi := run_underlying (Tryz.underlying9) (w := w)
 rw [hk] at hr2
 obtain rfl : r = none := by cases r <;> simp_all
 have hfk : (Instr.findKey 9 (.string k) es.toList).run Tryz.prog w = .ok none w := by
  simp [Instr.findKey, hi]
  have hr' : Instr.findNow TypeDesc.string (.string k) es.toList 0 = some none := hr
  rw [hr']; rfl
 refine ⟨setB w b _, ?_, MM.push hb he k s, only_set _ _ _⟩
 simp [Instr.mapUpdate, hu, MapKept.run_getObj_map hb, checkS, hfk, MapKept.run_setObj_map _ hb, Result.andThen, setB, ekS, evB]
def gotS (stack takes : ByteArray) : ByteArray := stack.extract (stack.size - takes.size) stack.size
def endsB (stack takes : ByteArray) : Bool :=
 decide (takes.size ≤ stack.size) &&
  if Lib.hasPrefix takes.data.toList [84] then takes.size == 1 || bt (gotS stack takes) 0 == bt (gotS stack takes) 1
  else if takes.toList == [78, 78] then (gotS stack takes).toList == [105, 105] || (gotS stack takes).toList == [102, 102]
  else (gotS stack takes).toList == takes.toList
theorem hasPrefix_pos (l : List UInt8) (x : UInt8) (h : Lib.hasPrefix l [x] = true) : 1 ≤ l.length := by
 cases l with
 | nil => simp [Lib.hasPrefix, List.isPrefixOf] at h
 | cons => simp
theorem ends_any (stack takes : ByteArray) (w : World) (h1 : stack.size ≤ 1073741824) (h2 : takes.size ≤ 1073741824) :
  Calls Tryz.prog 146 #[.string stack, .string takes] w fun e w' => e = .returned (.bool (endsB stack takes)) ∧ ∃ m, w' = w.drewN m := by
 by_cases hle : takes.size ≤ stack.size
 ·obtain ⟨g, hg⟩ : ∃ g, stack.extract (stack.size - takes.size) stack.size = g := ⟨_, rfl⟩
  have hgs : g.size = takes.size := by rw [← hg, ByteArray.size_extract]; omega
  have HE := Lib.hid (show endsB stack takes = if Lib.hasPrefix takes.data.toList [84] then takes.size == 1 || bt g 0 == bt g 1 else if takes.toList == [78, 78] then g.toList == [105, 105] || g.toList == [102, 102] else g.toList == takes.toList from by
   unfold endsB gotS; rw [hg]; simp [hle])
  go_enter Tryz.func146, Tryz.ntmps146
  go_wp2_with fail
  refine (Tryz.strings_HasPrefix _ _ _).mono ?_
  rintro e w2 ⟨rfl, rfl⟩
  cases hT : Lib.hasPrefix takes.data.toList (⟨#[84]⟩ : ByteArray).data.toList
  ·have HT := Lib.hid (show Lib.hasPrefix takes.data.toList [84] = false from hT)
   obtain ⟨b1, hb1⟩ : ∃ b, (takes.toList == [78, 78]) = b := ⟨_, rfl⟩
   obtain ⟨b2, hb2⟩ : ∃ b, (g.toList == [105, 105]) = b := ⟨_, rfl⟩
   obtain ⟨b3, hb3⟩ : ∃ b, (g.toList == [102, 102]) = b := ⟨_, rfl⟩
   obtain ⟨b4, hb4⟩ : ∃ b, (g.toList == takes.toList) = b := ⟨_, rfl⟩
   have HE2 := Lib.hid (show endsB stack takes = if b1 then b2 || b3 else b4 from by rw [HE.out, HT.out, hb1, hb2, hb3, hb4]; rfl)
   clear hT
   cases b1
   ·go_wp2_with fail
    go_ret
    exact ⟨ret_bool (by rw [HE2.out]; rfl), 0, rfl⟩
   ·cases b2
    all_goals
     go_wp2_with fail
     go_ret
     exact ⟨ret_bool (by rw [HE2.out]; rfl), 0, rfl⟩
  ·have HT := Lib.hid (show Lib.hasPrefix takes.data.toList [84] = true from hT)
   have hpos := hasPrefix_pos _ _ HT.out
   have hpos' : 1 ≤ takes.size := by simpa using hpos
   clear hT hpos
   by_cases h1 : takes.size = 1
   ·have HE2 := Lib.hid (show endsB stack takes = true from by rw [HE.out, HT.out]; simp [h1])
    go_wp2_with fail
    go_quiet (fail)
    go_wp2_with fail
    go_ret
    exact ⟨ret_bool (by rw [HE2.out]), _, rfl⟩
   ·have hq : ((g[0].toNat : Nat) : Int) = bt g 0 := bt_at g 0 (by omega)
    have hq1 : ((g[1].toNat : Nat) : Int) = bt g 1 := bt_at g 1 (by omega)
    have h1' : ((takes.size : Int) == 1) = false := by simp; omega
    have HE2 := Lib.hid (show endsB stack takes = (bt g 0 == bt g 1) from by rw [HE.out, HT.out]; simp [h1])
    go_wp2_with fail
    go_quiet (fail)
    go_wp2_with fail
    go_ret
    exact ⟨ret_bool (by rw [HE2.out]), _, rfl⟩
 ·have HE := Lib.hid (show endsB stack takes = false from by unfold endsB; simp [hle])
  go_enter Tryz.func146, Tryz.ntmps146
  go_wp2_with fail
  go_ret
  exact ⟨ret_bool (by rw [HE.out]), 0, rfl⟩
/-- what a looker's block holds -/
structure Lk where
 v0 : Value
 v1 : Value
 v2 : Value
 v3 : Value
 v4 : Value
 v5 : Value
 v6 : Value
 n : Int
 m : Nat
 s : Value
 most : Int
 fc : Int
 fa : Int
def Lk.cells (l : Lk) : Array Value := #[l.v0, l.v1, l.v2, l.v3, l.v4, l.v5, l.v6, .int .i64 l.n, .map (some l.m), l.s, .int .i64 l.most, .int .i64 l.fc, .int .i64 l.fa]
def LB (w : World) (g : Nat) (l : Lk) : Prop := w.heap[g]? = some (.cells l.cells 162 (0, 0))
theorem LB.at_ {w : World} {g : Nat} {l : Lk} (h : LB w g l) : w.cell? ⟨g, 0, none⟩ = some l.v0 ∧ w.cell? ⟨g, 1, none⟩ = some l.v1 ∧ w.cell? ⟨g, 2, none⟩ = some l.v2 ∧ w.cell? ⟨g, 3, none⟩ = some l.v3 ∧ w.cell? ⟨g, 4, none⟩ = some l.v4 ∧ w.cell? ⟨g, 5, none⟩ = some l.v5 ∧ w.cell? ⟨g, 6, none⟩ = some l.v6 ∧ w.cell? ⟨g, 7, none⟩ = some (.int .i64 l.n) ∧ w.cell? ⟨g, 8, none⟩ = some (.map (some l.m)) ∧ w.cell? ⟨g, 9, none⟩ = some l.s ∧ w.cell? ⟨g, 10, none⟩ = some (.int .i64 l.most) ∧ w.cell? ⟨g, 11, none⟩ = some (.int .i64 l.fc) ∧ w.cell? ⟨g, 12, none⟩ = some (.int .i64 l.fa) :=
 ⟨(blk_cell h 0).trans rfl, (blk_cell h 1).trans rfl, (blk_cell h 2).trans rfl, (blk_cell h 3).trans rfl, (blk_cell h 4).trans rfl, (blk_cell h 5).trans rfl, (blk_cell h 6).trans rfl, (blk_cell h 7).trans rfl, (blk_cell h 8).trans rfl, (blk_cell h 9).trans rfl, (blk_cell h 10).trans rfl, (blk_cell h 11).trans rfl, (blk_cell h 12).trans rfl⟩
theorem wrong_any (w : World) (g : Nat) (l : Lk) (h : LB w g l) (hn : 0 ≤ l.n ∧ l.n ≤ 1000) (code at_ : Int) (ha : 0 ≤ at_ ∧ at_ ≤ 1073741824) :
  Calls Tryz.prog 143 #[.pointer (some ⟨g, 0, none⟩), .int .i64 code, .int .i64 at_] w fun e w' => e = .returned (.bool false) ∧ LB w' g { l with fc := code, fa := l.n * 65536 + at_ } ∧ Only g w w' := by
 obtain ⟨c0, c1, c2, c3, c4, c5, c6, c7, c8, c9, c10, c11, c12⟩ := h.at_
 have hf11 : w.frozen? ⟨g, 11, none⟩ = false := blk_frozen h 11
 have hf12 : w.frozen? ⟨g, 12, none⟩ = false := blk_frozen h 12
 have HH := Lib.hid h
 obtain ⟨n, hn'⟩ : ∃ n, n = l.n := ⟨_, rfl⟩
 have HN := Lib.hid hn'
 rw [← hn'] at c7 hn
 clear h hn' c0 c1 c2 c3 c4 c5 c6 c8 c9 c10
 go_enter Tryz.func143, Tryz.ntmps143
 go_wp2_with fail
 go_ret
 refine ⟨rfl, ?_, rfl, rfl, rfl, by simp, fun k hk => ?_⟩
 ·rw [HN.out]
  exact blk_put (blk_put HH.out 11 (.int .i64 code) rfl) 12 _ rfl
 ·rw [Below.heap_setCell _ _ _ k hk, Below.heap_setCell _ _ _ k hk]
/-- what a looker is of, read in w0 -/
structure LkR (w0 : World) (x : SImage) (f : SFn) (l : Lk) : Prop where
 gl : ∃ A c, l.v0 = .slice A x.globs.length c ∧ x.globs.length ≤ c ∧ kGlob.C w0 A x.globs.length x.globs
 fn : ∃ A c, l.v1 = .slice A x.fns.length c ∧ x.fns.length ≤ c ∧ kFn.C w0 A x.fns.length x.fns
 re : l.v4 = .int .i64 f.f2
 lo : ∃ A c, l.v5 = .slice A f.f3.length c ∧ f.f3.length ≤ c ∧ (Kd.int .i64).C w0 A f.f3.length f.f3
 co : ∃ A c, l.v6 = .slice A f.f4.length c ∧ f.f4.length ≤ c ∧ kInstr.C w0 A f.f4.length f.f4
def zg (l : List SGlob) (n : Int) : SGlob := l.getD n.toNat zGlob
def globS (x : SImage) (n : Int) (el : Bool) : ByteArray :=
 if 0 ≤ n ∧ n < x.globs.length ∧ decide (0 < (zg x.globs n).f1) = el then rowS [(zg x.globs n).f0] else ⟨#[]⟩
theorem getD_mem_glob (l : List SGlob) (k : Nat) (hk : k < l.length) : l.getD k zGlob ∈ l := by
 rw [List.getD_eq_getElem?_getD, List.getElem?_eq_getElem hk]; exact List.getElem_mem hk
theorem vglob_any (w0 w : World) (x : SImage) (f : SFn) (g : Nat) (l : Lk) (hR : LkR w0 x f l) (hB : Below w0.heap.size w0 w) (h : LB w g l) (hx : x.globs.length ≤ 64) (ht : ∀ y ∈ x.globs, 0 ≤ y.f0 ∧ y.f0 ≤ 4) (n : Int) (el : Bool) :
  Calls Tryz.prog 176 #[.pointer (some ⟨g, 0, none⟩), .int .i64 n, .bool el] w fun e w' => e = .returned (.string (globS x n el)) ∧ Below w.heap.size w w' := by
 obtain ⟨A, c, hv, hlc, hC⟩ := hR.gl
 have hc0 := h.at_.1
 rw [hv] at hc0
 have HC := Lib.hid (Kd.C_below hC hB)
 have HT := Lib.hid ht
 clear hR hB h hC hv ht
 by_cases h0 : 0 ≤ n
 ·obtain ⟨k, rfl⟩ : ∃ k : Nat, n = k := ⟨n.toNat, by omega⟩
  by_cases hlt : k < x.globs.length
  ·obtain ⟨ad, rfl, h0, h1, h2⟩ := at_TGlob HC.out (k : Int) (by omega) (by omega)
   obtain ⟨y, hy⟩ : ∃ y, y = rd_TGlob x.globs (k : Int) := ⟨_, rfl⟩
   rw [← hy] at h0 h1 h2
   simp only [Int.toNat_natCast] at h0 h1 h2
   have HY : Hid (y = x.globs.getD k zGlob) := by rw [hy]; rfl
   clear hy
   have HTy := Lib.hid (show 0 ≤ y.f0 ∧ y.f0 ≤ 4 from by rw [HY.out]; exact HT.out _ (getD_mem_glob _ k hlt))
   obtain ⟨b, hb⟩ : ∃ b, decide (0 < y.f1) = b := ⟨_, rfl⟩
   have HG := Lib.hid (show globS x k el = if b = el then rowS [y.f0] else ⟨#[]⟩ from by
    unfold globS zg
    rw [Int.toNat_natCast, ← HY.out, hb]
    by_cases hbe : b = el
    ·simp [hbe]; omega
    ·simp [hbe])
   have hb' : decide (y.f1 > 0) = b := hb
   clear hb
   by_cases hbe : b = el
   ·subst hbe
    have HG2 := Lib.hid (show globS x k b = rowS [y.f0] from by rw [HG.out]; simp)
    clear HG
    cases b
    all_goals
     go_enter Tryz.func176, Tryz.ntmps176
     go_wp2_with fail
     refine (vrow_any _ 1 [y.f0] _ (C_one w y.f0) (by simp) (fun u hu => by have := HTy.out; simp at hu; omega)).mono ?_
     rintro e w1 ⟨rfl, hb1⟩
     have HB1 := Lib.hid (below_next (below_alloc (Below.refl _ _) _) hb1)
     clear hb1
     go_wp2_with fail
     go_ret
     exact ⟨by rw [HG2.out]; rfl, HB1.out⟩
   ·have HG2 := Lib.hid (show globS x k el = ⟨#[]⟩ from by rw [HG.out]; simp [hbe])
    clear HG
    cases b <;> cases el
    ·simp at hbe
    ·go_enter Tryz.func176, Tryz.ntmps176
     go_wp2_with fail
     go_ret
     exact ⟨by rw [HG2.out]; rfl, Below.refl _ _⟩
    ·go_enter Tryz.func176, Tryz.ntmps176
     go_wp2_with fail
     go_ret
     exact ⟨by rw [HG2.out]; rfl, Below.refl _ _⟩
    ·simp at hbe
  ·have HG := Lib.hid (show globS x k el = ⟨#[]⟩ from by unfold globS; rw [if_neg]; omega)
   go_enter Tryz.func176, Tryz.ntmps176
   go_wp2_with fail
   go_ret
   exact ⟨by rw [HG.out]; rfl, Below.refl _ _⟩
 ·have HG := Lib.hid (show globS x n el = ⟨#[]⟩ from by unfold globS; rw [if_neg]; omega)
  go_enter Tryz.func176, Tryz.ntmps176
  go_wp2_with fail
  go_ret
  exact ⟨by rw [HG.out]; rfl, Below.refl _ _⟩
/-! ### api_Backs: function 13 -/
def api_Backs.f  : Option ((List (SSys))) := some (([(⟨(⟨#[115, 116, 97, 114, 116]⟩ : ByteArray), ([] : List Int), 0⟩ : SSys), (⟨(⟨#[106, 111, 105, 110]⟩ : ByteArray), (([1] : List Int)), 0⟩ : SSys), (⟨(⟨#[108, 101, 97, 118, 101]⟩ : ByteArray), (([1] : List Int)), 0⟩ : SSys), (⟨(⟨#[105, 110, 112, 117, 116]⟩ : ByteArray), (([1, 1] : List Int)), 0⟩ : SSys), (⟨(⟨#[116, 105, 99, 107]⟩ : ByteArray), ([] : List Int), 0⟩ : SSys), (⟨(⟨#[116, 111, 117, 99, 104]⟩ : ByteArray), (([4, 4] : List Int)), 0⟩ : SSys)] : List (SSys)))
set_option maxHeartbeats 8000000 in
set_option maxRecDepth 100000 in
theorem api_Backs.calls  (r : List (SSys)) (w : World) (h : api_Backs.f  = some r) :
  Calls Tryz.prog 63 #[] w fun e w' => ∃ v0_ : Value, e = .returned (v0_) ∧ Kd.N kSys 119 w' w.heap.size (fun k_ => (w.heap.size ≤ k_)) v0_ r ∧ Below w.heap.size w w' := by
 have huSys := Tryz.underlying119
 have HB := Aside0.mk (Below.refl w.heap.size w)
 have H : (some (([(⟨(⟨#[115, 116, 97, 114, 116]⟩ : ByteArray), ([] : List Int), 0⟩ : SSys), (⟨(⟨#[106, 111, 105, 110]⟩ : ByteArray), (([1] : List Int)), 0⟩ : SSys), (⟨(⟨#[108, 101, 97, 118, 101]⟩ : ByteArray), (([1] : List Int)), 0⟩ : SSys), (⟨(⟨#[105, 110, 112, 117, 116]⟩ : ByteArray), (([1, 1] : List Int)), 0⟩ : SSys), (⟨(⟨#[116, 105, 99, 107]⟩ : ByteArray), ([] : List Int), 0⟩ : SSys), (⟨(⟨#[116, 111, 117, 99, 104]⟩ : ByteArray), (([4, 4] : List Int)), 0⟩ : SSys)] : List (SSys)))) = some r := h
 clear h
 obtain ⟨y106, hy106⟩ : ∃ y_ : List Int, y_ = (([1] : List Int)) := ⟨_, rfl⟩
 have Ny106 := Aside0.mk hy106
 clear hy106
 obtain ⟨y109, hy109⟩ : ∃ y_ : List Int, y_ = (([1] : List Int)) := ⟨_, rfl⟩
 have Ny109 := Aside0.mk hy109
 clear hy109
 obtain ⟨y112, hy112⟩ : ∃ y_ : List Int, y_ = (([1, 1] : List Int)) := ⟨_, rfl⟩
 have Ny112 := Aside0.mk hy112
 clear hy112
 obtain ⟨y115, hy115⟩ : ∃ y_ : List Int, y_ = (([4, 4] : List Int)) := ⟨_, rfl⟩
 have Ny115 := Aside0.mk hy115
 clear hy115
 obtain ⟨y118, hy118⟩ : ∃ y_ : List (SSys), y_ = (([(⟨(⟨#[115, 116, 97, 114, 116]⟩ : ByteArray), ([] : List Int), 0⟩ : SSys), (⟨(⟨#[106, 111, 105, 110]⟩ : ByteArray), y106, 0⟩ : SSys), (⟨(⟨#[108, 101, 97, 118, 101]⟩ : ByteArray), y109, 0⟩ : SSys), (⟨(⟨#[105, 110, 112, 117, 116]⟩ : ByteArray), y112, 0⟩ : SSys), (⟨(⟨#[116, 105, 99, 107]⟩ : ByteArray), ([] : List Int), 0⟩ : SSys), (⟨(⟨#[116, 111, 117, 99, 104]⟩ : ByteArray), y115, 0⟩ : SSys)] : List (SSys))) := ⟨_, rfl⟩
 replace H : (some y118) = some r := by rw [hy118, Ny115.out, Ny112.out, Ny109.out, Ny106.out]; exact H
 have Ny118 := Aside0.mk hy118
 clear hy118
 obtain rfl := Option.some.inj H
 go_enter Tryz.func63, Tryz.ntmps63
 go_wp2_with (first | ((with_reducible refine gate_dst (N := 2) rfl ?_); refine Kd.R_lit (Kd.int .i64) _ 3 ?hg (N := 2) ?hd (xs := ([1] : List Int)) (inner := [.int .i64 1]) (ok := fun _ => True) (okp := fun _ => True) ?hr ?hp (fun _ hk => hk) trivial (Below.refl _ _) (Nat.le_refl _) (by simp) ?_; (case hd => rfl); (case hg => rfl); (case hr => first | (go_simp; done) | (go_simp; rfl)); (case hp => exact (Reps.one (show Kd.M (Kd.int .i64) _ _ _ 1 [.int .i64 1] from rfl) (Reps.none _ _))); intro v107 w1 ho2 hb hg_ hnew_; clear hg_ hnew_; (first | rw [← Ny106.out] at ho2 | (simp only [Int.reduceToNat] at ho2; rw [← Ny106.out] at ho2)); have n0_ := Aside0.mk (Kd.R_lower (Kd.R_newM (M := fun k_ => (w.heap.size ≤ k_)) ho2 (below_size (by repeat (first | (with_reducible first | exact HB.out | apply below_alloc | apply pw_below_drewN | apply below_drew1) | exact HB.out))) (fun k_ h_ => h_)) (below_size (by repeat (first | (with_reducible first | exact HB.out | apply below_alloc | apply pw_below_drewN | apply below_drew1) | exact HB.out)))); have n1_ := Aside0.mk (below_step (by repeat (first | (with_reducible first | exact HB.out | apply below_alloc | apply pw_below_drewN | apply below_drew1) | exact HB.out)) hb); clear HB; have HO108 := n0_; have HB := n1_; clear n0_ n1_; clear hb ho2; obtain ⟨Ao3, co3, eo3⟩ := Kd.R_slice HO108.out; subst eo3) | ((with_reducible refine gate_dst (N := 4) rfl ?_); refine Kd.R_lit (Kd.int .i64) _ 3 ?hg (N := 4) ?hd (xs := ([1] : List Int)) (inner := [.int .i64 1]) (ok := fun _ => True) (okp := fun _ => True) ?hr ?hp (fun _ hk => hk) trivial (Below.refl _ _) (Nat.le_refl _) (by simp) ?_; (case hd => rfl); (case hg => rfl); (case hr => first | (go_simp; done) | (go_simp; rfl)); (case hp => exact (Reps.one (show Kd.M (Kd.int .i64) _ _ _ 1 [.int .i64 1] from rfl) (Reps.none _ _))); intro v110 w4 ho5 hb hg_ hnew_; clear hg_ hnew_; (first | rw [← Ny109.out] at ho5 | (simp only [Int.reduceToNat] at ho5; rw [← Ny109.out] at ho5)); have n0_ := Aside0.mk (Kd.R_elder' (by (with_reducible repeat (first | apply Kd.R_alloc | apply Kd.R_drewN | apply Kd.R_drew)); exact HO108.out) (Kd.R_base ho5) hb); have n1_ := Aside0.mk (Kd.R_lower (Kd.R_new' (Kd.R_newM (M := fun k_ => (w.heap.size ≤ k_)) ho5 (below_size (by repeat (first | (with_reducible first | exact HB.out | apply below_alloc | apply pw_below_drewN | apply below_drew1) | exact HB.out))) (fun k_ h_ => h_)) (Kd.R_lt (by (with_reducible repeat (first | apply Kd.R_alloc | apply Kd.R_drewN | apply Kd.R_drew)); exact HO108.out))) (below_size (by repeat (first | (with_reducible first | exact HB.out | apply below_alloc | apply pw_below_drewN | apply below_drew1) | exact HB.out)))); have n2_ := Aside0.mk (below_step (by repeat (first | (with_reducible first | exact HB.out | apply below_alloc | apply pw_below_drewN | apply below_drew1) | exact HB.out)) hb); clear HO108; clear HB; have HO108 := n0_; have HO111 := n1_; have HB := n2_; clear n0_ n1_ n2_; clear hb ho5; obtain ⟨Ao6, co6, eo6⟩ := Kd.R_slice HO111.out; subst eo6) | ((with_reducible refine gate_dst (N := 6) rfl ?_); refine Kd.R_lit (Kd.int .i64) _ 3 ?hg (N := 6) ?hd (xs := ([1, 1] : List Int)) (inner := [.int .i64 1, .int .i64 1]) (ok := fun _ => True) (okp := fun _ => True) ?hr ?hp (fun _ hk => hk) trivial (Below.refl _ _) (Nat.le_refl _) (by simp) ?_; (case hd => rfl); (case hg => rfl); (case hr => first | (go_simp; done) | (go_simp; rfl)); (case hp => exact (Reps.one (show Kd.M (Kd.int .i64) _ _ _ 1 [.int .i64 1] from rfl) (Reps.one (show Kd.M (Kd.int .i64) _ _ _ 1 [.int .i64 1] from rfl) (Reps.none _ _)))); intro v113 w7 ho8 hb hg_ hnew_; clear hg_ hnew_; (first | rw [← Ny112.out] at ho8 | (simp only [Int.reduceToNat] at ho8; rw [← Ny112.out] at ho8)); have n0_ := Aside0.mk (Kd.R_elder' (by (with_reducible repeat (first | apply Kd.R_alloc | apply Kd.R_drewN | apply Kd.R_drew)); exact HO108.out) (Kd.R_base ho8) hb); have n1_ := Aside0.mk (Kd.R_elder' (by (with_reducible repeat (first | apply Kd.R_alloc | apply Kd.R_drewN | apply Kd.R_drew)); exact HO111.out) (Kd.R_base ho8) hb); have n2_ := Aside0.mk (Kd.R_lower (Kd.R_new' (Kd.R_new' (Kd.R_newM (M := fun k_ => (w.heap.size ≤ k_)) ho8 (below_size (by repeat (first | (with_reducible first | exact HB.out | apply below_alloc | apply pw_below_drewN | apply below_drew1) | exact HB.out))) (fun k_ h_ => h_)) (Kd.R_lt (by (with_reducible repeat (first | apply Kd.R_alloc | apply Kd.R_drewN | apply Kd.R_drew)); exact HO108.out))) (Kd.R_lt (by (with_reducible repeat (first | apply Kd.R_alloc | apply Kd.R_drewN | apply Kd.R_drew)); exact HO111.out))) (below_size (by repeat (first | (with_reducible first | exact HB.out | apply below_alloc | apply pw_below_drewN | apply below_drew1) | exact HB.out)))); have n3_ := Aside0.mk (below_step (by repeat (first | (with_reducible first | exact HB.out | apply below_alloc | apply pw_below_drewN | apply below_drew1) | exact HB.out)) hb); clear HO108; clear HO111; clear HB; have HO108 := n0_; have HO111 := n1_; have HO114 := n2_; have HB := n3_; clear n0_ n1_ n2_ n3_; clear hb ho8; obtain ⟨Ao9, co9, eo9⟩ := Kd.R_slice HO114.out; subst eo9) | ((with_reducible refine gate_dst (N := 9) rfl ?_); refine Kd.R_lit (Kd.int .i64) _ 3 ?hg (N := 9) ?hd (xs := ([4, 4] : List Int)) (inner := [.int .i64 4, .int .i64 4]) (ok := fun _ => True) (okp := fun _ => True) ?hr ?hp (fun _ hk => hk) trivial (Below.refl _ _) (Nat.le_refl _) (by simp) ?_; (case hd => rfl); (case hg => rfl); (case hr => first | (go_simp; done) | (go_simp; rfl)); (case hp => exact (Reps.one (show Kd.M (Kd.int .i64) _ _ _ 4 [.int .i64 4] from rfl) (Reps.one (show Kd.M (Kd.int .i64) _ _ _ 4 [.int .i64 4] from rfl) (Reps.none _ _)))); intro v116 w10 ho11 hb hg_ hnew_; clear hg_ hnew_; (first | rw [← Ny115.out] at ho11 | (simp only [Int.reduceToNat] at ho11; rw [← Ny115.out] at ho11)); have n0_ := Aside0.mk (Kd.R_elder' (by (with_reducible repeat (first | apply Kd.R_alloc | apply Kd.R_drewN | apply Kd.R_drew)); exact HO108.out) (Kd.R_base ho11) hb); have n1_ := Aside0.mk (Kd.R_elder' (by (with_reducible repeat (first | apply Kd.R_alloc | apply Kd.R_drewN | apply Kd.R_drew)); exact HO111.out) (Kd.R_base ho11) hb); have n2_ := Aside0.mk (Kd.R_elder' (by (with_reducible repeat (first | apply Kd.R_alloc | apply Kd.R_drewN | apply Kd.R_drew)); exact HO114.out) (Kd.R_base ho11) hb); have n3_ := Aside0.mk (Kd.R_lower (Kd.R_new' (Kd.R_new' (Kd.R_new' (Kd.R_newM (M := fun k_ => (w.heap.size ≤ k_)) ho11 (below_size (by repeat (first | (with_reducible first | exact HB.out | apply below_alloc | apply pw_below_drewN | apply below_drew1) | exact HB.out))) (fun k_ h_ => h_)) (Kd.R_lt (by (with_reducible repeat (first | apply Kd.R_alloc | apply Kd.R_drewN | apply Kd.R_drew)); exact HO108.out))) (Kd.R_lt (by (with_reducible repeat (first | apply Kd.R_alloc | apply Kd.R_drewN | apply Kd.R_drew)); exact HO111.out))) (Kd.R_lt (by (with_reducible repeat (first | apply Kd.R_alloc | apply Kd.R_drewN | apply Kd.R_drew)); exact HO114.out))) (below_size (by repeat (first | (with_reducible first | exact HB.out | apply below_alloc | apply pw_below_drewN | apply below_drew1) | exact HB.out)))); have n4_ := Aside0.mk (below_step (by repeat (first | (with_reducible first | exact HB.out | apply below_alloc | apply pw_below_drewN | apply below_drew1) | exact HB.out)) hb); clear HO108; clear HO111; clear HO114; clear HB; have HO108 := n0_; have HO111 := n1_; have HO114 := n2_; have HO117 := n3_; have HB := n4_; clear n0_ n1_ n2_ n3_ n4_; clear hb ho11; obtain ⟨Ao12, co12, eo12⟩ := Kd.R_slice HO117.out; subst eo12) | ((with_reducible refine gate_dst (N := 11) rfl ?_); refine Kd.N_lit kSys _ 119 ?hg (N' := 11) ?hd (xs := ([(⟨(⟨#[115, 116, 97, 114, 116]⟩ : ByteArray), ([] : List Int), 0⟩ : SSys), (⟨(⟨#[106, 111, 105, 110]⟩ : ByteArray), y106, 0⟩ : SSys), (⟨(⟨#[108, 101, 97, 118, 101]⟩ : ByteArray), y109, 0⟩ : SSys), (⟨(⟨#[105, 110, 112, 117, 116]⟩ : ByteArray), y112, 0⟩ : SSys), (⟨(⟨#[116, 105, 99, 107]⟩ : ByteArray), ([] : List Int), 0⟩ : SSys), (⟨(⟨#[116, 111, 117, 99, 104]⟩ : ByteArray), y115, 0⟩ : SSys)] : List (SSys))) (inner := [.string (⟨#[115, 116, 97, 114, 116]⟩ : ByteArray), .slice none 0 0, .int .i64 0, .string (⟨#[106, 111, 105, 110]⟩ : ByteArray), .slice Ao3 y106.length co3, .int .i64 0, .string (⟨#[108, 101, 97, 118, 101]⟩ : ByteArray), .slice Ao6 y109.length co6, .int .i64 0, .string (⟨#[105, 110, 112, 117, 116]⟩ : ByteArray), .slice Ao9 y112.length co9, .int .i64 0, .string (⟨#[116, 105, 99, 107]⟩ : ByteArray), .slice none 0 0, .int .i64 0, .string (⟨#[116, 111, 117, 99, 104]⟩ : ByteArray), .slice Ao12 y115.length co12, .int .i64 0]) (ok := (fun k_ => (w.heap.size ≤ k_))) (okp := (fun k_ => (w.heap.size ≤ k_))) ?hr ?hp (fun _ hk => hk) ((show ∀ k_, w10.heap.size ≤ k_ → (fun k_ => (w.heap.size ≤ k_)) k_ from fun k_ hk => (Nat.le_trans (below_size (by repeat (first | (with_reducible first | exact HB.out | apply below_alloc | apply pw_below_drewN | apply below_drew1) | exact HB.out))) hk)) _ (Nat.le_refl _)) (Below.refl _ _) (Nat.le_refl _) (by simp) ?_; (case hd => rfl); (case hg => rfl); (case hr => first | (go_simp; done) | (go_simp; rfl)); (case hp => exact (Reps.c3 (show Kd.FK kSys _ _ (⟨(⟨#[115, 116, 97, 114, 116]⟩ : ByteArray), ([] : List Int), 0⟩ : SSys) [.string (⟨#[115, 116, 97, 114, 116]⟩ : ByteArray), .slice none 0 0, .int .i64 0] from (kSys_mkF _ _ (⟨(⟨#[115, 116, 97, 114, 116]⟩ : ByteArray), ([] : List Int), 0⟩ : SSys) (Nat.le_refl _) (Kd.F_nil _ _ _))) (Reps.c3 (show Kd.FK kSys _ _ (⟨(⟨#[106, 111, 105, 110]⟩ : ByteArray), y106, 0⟩ : SSys) [.string (⟨#[106, 111, 105, 110]⟩ : ByteArray), .slice Ao3 y106.length co3, .int .i64 0] from (kSys_mkF _ _ (⟨(⟨#[106, 111, 105, 110]⟩ : ByteArray), y106, 0⟩ : SSys) (Kd.R_reads' (Kd.R_mono (ok' := (fun k_ => (w.heap.size ≤ k_))) (HO108.out) (fun k_ hk => hk.1.1.1.1))).2.1 (Kd.R_F (Kd.R_mono (ok' := (fun k_ => (w.heap.size ≤ k_))) (HO108.out) (fun k_ hk => hk.1.1.1.1))))) (Reps.c3 (show Kd.FK kSys _ _ (⟨(⟨#[108, 101, 97, 118, 101]⟩ : ByteArray), y109, 0⟩ : SSys) [.string (⟨#[108, 101, 97, 118, 101]⟩ : ByteArray), .slice Ao6 y109.length co6, .int .i64 0] from (kSys_mkF _ _ (⟨(⟨#[108, 101, 97, 118, 101]⟩ : ByteArray), y109, 0⟩ : SSys) (Kd.R_reads' (Kd.R_mono (ok' := (fun k_ => (w.heap.size ≤ k_))) (HO111.out) (fun k_ hk => hk.1.1.1.1))).2.1 (Kd.R_F (Kd.R_mono (ok' := (fun k_ => (w.heap.size ≤ k_))) (HO111.out) (fun k_ hk => hk.1.1.1.1))))) (Reps.c3 (show Kd.FK kSys _ _ (⟨(⟨#[105, 110, 112, 117, 116]⟩ : ByteArray), y112, 0⟩ : SSys) [.string (⟨#[105, 110, 112, 117, 116]⟩ : ByteArray), .slice Ao9 y112.length co9, .int .i64 0] from (kSys_mkF _ _ (⟨(⟨#[105, 110, 112, 117, 116]⟩ : ByteArray), y112, 0⟩ : SSys) (Kd.R_reads' (Kd.R_mono (ok' := (fun k_ => (w.heap.size ≤ k_))) (HO114.out) (fun k_ hk => hk.1.1.1.1))).2.1 (Kd.R_F (Kd.R_mono (ok' := (fun k_ => (w.heap.size ≤ k_))) (HO114.out) (fun k_ hk => hk.1.1.1.1))))) (Reps.c3 (show Kd.FK kSys _ _ (⟨(⟨#[116, 105, 99, 107]⟩ : ByteArray), ([] : List Int), 0⟩ : SSys) [.string (⟨#[116, 105, 99, 107]⟩ : ByteArray), .slice none 0 0, .int .i64 0] from (kSys_mkF _ _ (⟨(⟨#[116, 105, 99, 107]⟩ : ByteArray), ([] : List Int), 0⟩ : SSys) (Nat.le_refl _) (Kd.F_nil _ _ _))) (Reps.c3 (show Kd.FK kSys _ _ (⟨(⟨#[116, 111, 117, 99, 104]⟩ : ByteArray), y115, 0⟩ : SSys) [.string (⟨#[116, 111, 117, 99, 104]⟩ : ByteArray), .slice Ao12 y115.length co12, .int .i64 0] from (kSys_mkF _ _ (⟨(⟨#[116, 111, 117, 99, 104]⟩ : ByteArray), y115, 0⟩ : SSys) (Kd.R_reads' (Kd.R_mono (ok' := (fun k_ => (w.heap.size ≤ k_))) (HO117.out) (fun k_ hk => hk.1.1.1.1))).2.1 (Kd.R_F (Kd.R_mono (ok' := (fun k_ => (w.heap.size ≤ k_))) (HO117.out) (fun k_ hk => hk.1.1.1.1))))) (Reps.none _ _)))))))); intro v119 w13 ho14 hb hg_ hnew_; clear hg_ hnew_; (first | rw [← Ny118.out] at ho14 | (simp only [Int.reduceToNat] at ho14; rw [← Ny118.out] at ho14)); have n0_ := Aside0.mk (Kd.N_lower ho14 (below_size (by repeat (first | (with_reducible first | exact HB.out | apply below_alloc | apply pw_below_drewN | apply below_drew1) | exact HB.out)))); have n1_ := Aside0.mk (below_step (by repeat (first | (with_reducible first | exact HB.out | apply below_alloc | apply pw_below_drewN | apply below_drew1) | exact HB.out)) hb); clear HB; clear HO108; clear HO111; clear HO114; clear HO117; have HO120 := n0_; have HB := n1_; clear n0_ n1_; clear hb ho14))
 go_ret
 exact ⟨_, by first | rfl | (simp [errW_none, errW_some] <;> rfl) | (simp [*, errW_none, errW_some] <;> rfl), by (with_reducible repeat (first | apply Kd.N_alloc | apply Kd.N_drewN | apply Kd.N_drew)); exact HO120.out, by repeat (first | (with_reducible first | exact HB.out | apply below_alloc | apply pw_below_drewN | apply below_drew1) | exact HB.out)⟩
/-! ### api_Calls: function 56 -/
def api_Calls.f  : Option ((List (SSys))) := some (([(⟨(⟨#[115, 112, 97, 119, 110]⟩ : ByteArray), (([2, 2, 1] : List Int)), 4⟩ : SSys), (⟨(⟨#[107, 105, 108, 108]⟩ : ByteArray), (([4] : List Int)), 0⟩ : SSys), (⟨(⟨#[97, 108, 105, 118, 101]⟩ : ByteArray), (([4] : List Int)), 3⟩ : SSys), (⟨(⟨#[103, 101, 116, 120]⟩ : ByteArray), (([4] : List Int)), 2⟩ : SSys), (⟨(⟨#[103, 101, 116, 121]⟩ : ByteArray), (([4] : List Int)), 2⟩ : SSys), (⟨(⟨#[112, 108, 97, 99, 101]⟩ : ByteArray), (([4, 2, 2] : List Int)), 3⟩ : SSys), (⟨(⟨#[112, 117, 115, 104]⟩ : ByteArray), (([4, 2, 2] : List Int)), 0⟩ : SSys), (⟨(⟨#[115, 105, 122, 101]⟩ : ByteArray), (([4, 2] : List Int)), 0⟩ : SSys), (⟨(⟨#[116, 97, 103]⟩ : ByteArray), (([4] : List Int)), 1⟩ : SSys), (⟨(⟨#[109, 97, 114, 107]⟩ : ByteArray), (([4, 1] : List Int)), 0⟩ : SSys), (⟨(⟨#[111, 119, 110, 101, 114]⟩ : ByteArray), (([4] : List Int)), 1⟩ : SSys), (⟨(⟨#[99, 111, 117, 110, 116]⟩ : ByteArray), ([] : List Int), 1⟩ : SSys), (⟨(⟨#[110, 116, 104]⟩ : ByteArray), (([1] : List Int)), 4⟩ : SSys), (⟨(⟨#[110, 111, 119]⟩ : ByteArray), ([] : List Int), 1⟩ : SSys), (⟨(⟨#[114, 97, 110, 100, 111, 109]⟩ : ByteArray), (([1] : List Int)), 1⟩ : SSys), (⟨(⟨#[115, 99, 111, 114, 101]⟩ : ByteArray), (([1, 1] : List Int)), 0⟩ : SSys)] : List (SSys)))
set_option maxHeartbeats 8000000 in
set_option maxRecDepth 100000 in
theorem api_Calls.calls  (r : List (SSys)) (w : World) (h : api_Calls.f  = some r) :
  Calls Tryz.prog 38 #[] w fun e w' => ∃ v0_ : Value, e = .returned (v0_) ∧ Kd.N kSys 119 w' w.heap.size (fun k_ => (w.heap.size ≤ k_)) v0_ r ∧ Below w.heap.size w w' := by
 have huSys := Tryz.underlying119
 have HB := Aside0.mk (Below.refl w.heap.size w)
 have H : (some (([(⟨(⟨#[115, 112, 97, 119, 110]⟩ : ByteArray), (([2, 2, 1] : List Int)), 4⟩ : SSys), (⟨(⟨#[107, 105, 108, 108]⟩ : ByteArray), (([4] : List Int)), 0⟩ : SSys), (⟨(⟨#[97, 108, 105, 118, 101]⟩ : ByteArray), (([4] : List Int)), 3⟩ : SSys), (⟨(⟨#[103, 101, 116, 120]⟩ : ByteArray), (([4] : List Int)), 2⟩ : SSys), (⟨(⟨#[103, 101, 116, 121]⟩ : ByteArray), (([4] : List Int)), 2⟩ : SSys), (⟨(⟨#[112, 108, 97, 99, 101]⟩ : ByteArray), (([4, 2, 2] : List Int)), 3⟩ : SSys), (⟨(⟨#[112, 117, 115, 104]⟩ : ByteArray), (([4, 2, 2] : List Int)), 0⟩ : SSys), (⟨(⟨#[115, 105, 122, 101]⟩ : ByteArray), (([4, 2] : List Int)), 0⟩ : SSys), (⟨(⟨#[116, 97, 103]⟩ : ByteArray), (([4] : List Int)), 1⟩ : SSys), (⟨(⟨#[109, 97, 114, 107]⟩ : ByteArray), (([4, 1] : List Int)), 0⟩ : SSys), (⟨(⟨#[111, 119, 110, 101, 114]⟩ : ByteArray), (([4] : List Int)), 1⟩ : SSys), (⟨(⟨#[99, 111, 117, 110, 116]⟩ : ByteArray), ([] : List Int), 1⟩ : SSys), (⟨(⟨#[110, 116, 104]⟩ : ByteArray), (([1] : List Int)), 4⟩ : SSys), (⟨(⟨#[110, 111, 119]⟩ : ByteArray), ([] : List Int), 1⟩ : SSys), (⟨(⟨#[114, 97, 110, 100, 111, 109]⟩ : ByteArray), (([1] : List Int)), 1⟩ : SSys), (⟨(⟨#[115, 99, 111, 114, 101]⟩ : ByteArray), (([1, 1] : List Int)), 0⟩ : SSys)] : List (SSys)))) = some r := h
 clear h
 obtain ⟨y129, hy129⟩ : ∃ y_ : List Int, y_ = (([2, 2, 1] : List Int)) := ⟨_, rfl⟩
 have Ny129 := Aside0.mk hy129
 clear hy129
 obtain ⟨y132, hy132⟩ : ∃ y_ : List Int, y_ = (([4] : List Int)) := ⟨_, rfl⟩
 have Ny132 := Aside0.mk hy132
 clear hy132
 obtain ⟨y135, hy135⟩ : ∃ y_ : List Int, y_ = (([4] : List Int)) := ⟨_, rfl⟩
 have Ny135 := Aside0.mk hy135
 clear hy135
 obtain ⟨y138, hy138⟩ : ∃ y_ : List Int, y_ = (([4] : List Int)) := ⟨_, rfl⟩
 have Ny138 := Aside0.mk hy138
 clear hy138
 obtain ⟨y141, hy141⟩ : ∃ y_ : List Int, y_ = (([4] : List Int)) := ⟨_, rfl⟩
 have Ny141 := Aside0.mk hy141
 clear hy141
 obtain ⟨y144, hy144⟩ : ∃ y_ : List Int, y_ = (([4, 2, 2] : List Int)) := ⟨_, rfl⟩
 have Ny144 := Aside0.mk hy144
 clear hy144
 obtain ⟨y147, hy147⟩ : ∃ y_ : List Int, y_ = (([4, 2, 2] : List Int)) := ⟨_, rfl⟩
 have Ny147 := Aside0.mk hy147
 clear hy147
 obtain ⟨y150, hy150⟩ : ∃ y_ : List Int, y_ = (([4, 2] : List Int)) := ⟨_, rfl⟩
 have Ny150 := Aside0.mk hy150
 clear hy150
 obtain ⟨y153, hy153⟩ : ∃ y_ : List Int, y_ = (([4] : List Int)) := ⟨_, rfl⟩
 have Ny153 := Aside0.mk hy153
 clear hy153
 obtain ⟨y156, hy156⟩ : ∃ y_ : List Int, y_ = (([4, 1] : List Int)) := ⟨_, rfl⟩
 have Ny156 := Aside0.mk hy156
 clear hy156
 obtain ⟨y159, hy159⟩ : ∃ y_ : List Int, y_ = (([4] : List Int)) := ⟨_, rfl⟩
 have Ny159 := Aside0.mk hy159
 clear hy159
 obtain ⟨y162, hy162⟩ : ∃ y_ : List Int, y_ = (([1] : List Int)) := ⟨_, rfl⟩
 have Ny162 := Aside0.mk hy162
 clear hy162
 obtain ⟨y165, hy165⟩ : ∃ y_ : List Int, y_ = (([1] : List Int)) := ⟨_, rfl⟩
 have Ny165 := Aside0.mk hy165
 clear hy165
 obtain ⟨y168, hy168⟩ : ∃ y_ : List Int, y_ = (([1, 1] : List Int)) := ⟨_, rfl⟩
 have Ny168 := Aside0.mk hy168
 clear hy168
 obtain ⟨y171, hy171⟩ : ∃ y_ : List (SSys), y_ = (([(⟨(⟨#[115, 112, 97, 119, 110]⟩ : ByteArray), y129, 4⟩ : SSys), (⟨(⟨#[107, 105, 108, 108]⟩ : ByteArray), y132, 0⟩ : SSys), (⟨(⟨#[97, 108, 105, 118, 101]⟩ : ByteArray), y135, 3⟩ : SSys), (⟨(⟨#[103, 101, 116, 120]⟩ : ByteArray), y138, 2⟩ : SSys), (⟨(⟨#[103, 101, 116, 121]⟩ : ByteArray), y141, 2⟩ : SSys), (⟨(⟨#[112, 108, 97, 99, 101]⟩ : ByteArray), y144, 3⟩ : SSys), (⟨(⟨#[112, 117, 115, 104]⟩ : ByteArray), y147, 0⟩ : SSys), (⟨(⟨#[115, 105, 122, 101]⟩ : ByteArray), y150, 0⟩ : SSys), (⟨(⟨#[116, 97, 103]⟩ : ByteArray), y153, 1⟩ : SSys), (⟨(⟨#[109, 97, 114, 107]⟩ : ByteArray), y156, 0⟩ : SSys), (⟨(⟨#[111, 119, 110, 101, 114]⟩ : ByteArray), y159, 1⟩ : SSys), (⟨(⟨#[99, 111, 117, 110, 116]⟩ : ByteArray), ([] : List Int), 1⟩ : SSys), (⟨(⟨#[110, 116, 104]⟩ : ByteArray), y162, 4⟩ : SSys), (⟨(⟨#[110, 111, 119]⟩ : ByteArray), ([] : List Int), 1⟩ : SSys), (⟨(⟨#[114, 97, 110, 100, 111, 109]⟩ : ByteArray), y165, 1⟩ : SSys), (⟨(⟨#[115, 99, 111, 114, 101]⟩ : ByteArray), y168, 0⟩ : SSys)] : List (SSys))) := ⟨_, rfl⟩
 replace H : (some y171) = some r := by rw [hy171, Ny168.out, Ny165.out, Ny162.out, Ny159.out, Ny156.out, Ny153.out, Ny150.out, Ny147.out, Ny144.out, Ny141.out, Ny138.out, Ny135.out, Ny132.out, Ny129.out]; exact H
 have Ny171 := Aside0.mk hy171
 clear hy171
 obtain rfl := Option.some.inj H
 go_enter Tryz.func38, Tryz.ntmps38
 go_wp2_with (first | ((with_reducible refine gate_dst (N := 1) rfl ?_); refine Kd.R_lit (Kd.int .i64) _ 3 ?hg (N := 1) ?hd (xs := ([2, 2, 1] : List Int)) (inner := [.int .i64 2, .int .i64 2, .int .i64 1]) (ok := fun _ => True) (okp := fun _ => True) ?hr ?hp (fun _ hk => hk) trivial (Below.refl _ _) (Nat.le_refl _) (by simp) ?_; (case hd => rfl); (case hg => rfl); (case hr => first | (go_simp; done) | (go_simp; rfl)); (case hp => exact (Reps.one (show Kd.M (Kd.int .i64) _ _ _ 2 [.int .i64 2] from rfl) (Reps.one (show Kd.M (Kd.int .i64) _ _ _ 2 [.int .i64 2] from rfl) (Reps.one (show Kd.M (Kd.int .i64) _ _ _ 1 [.int .i64 1] from rfl) (Reps.none _ _))))); intro v130 w1 ho2 hb hg_ hnew_; clear hg_ hnew_; (first | rw [← Ny129.out] at ho2 | (simp only [Int.reduceToNat] at ho2; rw [← Ny129.out] at ho2)); have n0_ := Aside0.mk (Kd.R_lower (Kd.R_newM (M := fun k_ => (w.heap.size ≤ k_)) ho2 (below_size (by repeat (first | (with_reducible first | exact HB.out | apply below_alloc | apply pw_below_drewN | apply below_drew1) | exact HB.out))) (fun k_ h_ => h_)) (below_size (by repeat (first | (with_reducible first | exact HB.out | apply below_alloc | apply pw_below_drewN | apply below_drew1) | exact HB.out)))); have n1_ := Aside0.mk (below_step (by repeat (first | (with_reducible first | exact HB.out | apply below_alloc | apply pw_below_drewN | apply below_drew1) | exact HB.out)) hb); clear HB; have HO131 := n0_; have HB := n1_; clear n0_ n1_; clear hb ho2; obtain ⟨Ao3, co3, eo3⟩ := Kd.R_slice HO131.out; subst eo3) | ((with_reducible refine gate_dst (N := 3) rfl ?_); refine Kd.R_lit (Kd.int .i64) _ 3 ?hg (N := 3) ?hd (xs := ([4] : List Int)) (inner := [.int .i64 4]) (ok := fun _ => True) (okp := fun _ => True) ?hr ?hp (fun _ hk => hk) trivial (Below.refl _ _) (Nat.le_refl _) (by simp) ?_; (case hd => rfl); (case hg => rfl); (case hr => first | (go_simp; done) | (go_simp; rfl)); (case hp => exact (Reps.one (show Kd.M (Kd.int .i64) _ _ _ 4 [.int .i64 4] from rfl) (Reps.none _ _))); intro v133 w4 ho5 hb hg_ hnew_; clear hg_ hnew_; (first | rw [← Ny132.out] at ho5 | (simp only [Int.reduceToNat] at ho5; rw [← Ny132.out] at ho5)); have n0_ := Aside0.mk (Kd.R_elder' (by (with_reducible repeat (first | apply Kd.R_alloc | apply Kd.R_drewN | apply Kd.R_drew)); exact HO131.out) (Kd.R_base ho5) hb); have n1_ := Aside0.mk (Kd.R_lower (Kd.R_new' (Kd.R_newM (M := fun k_ => (w.heap.size ≤ k_)) ho5 (below_size (by repeat (first | (with_reducible first | exact HB.out | apply below_alloc | apply pw_below_drewN | apply below_drew1) | exact HB.out))) (fun k_ h_ => h_)) (Kd.R_lt (by (with_reducible repeat (first | apply Kd.R_alloc | apply Kd.R_drewN | apply Kd.R_drew)); exact HO131.out))) (below_size (by repeat (first | (with_reducible first | exact HB.out | apply below_alloc | apply pw_below_drewN | apply below_drew1) | exact HB.out)))); have n2_ := Aside0.mk (below_step (by repeat (first | (with_reducible first | exact HB.out | apply below_alloc | apply pw_below_drewN | apply below_drew1) | exact HB.out)) hb); clear HO131; clear HB; have HO131 := n0_; have HO134 := n1_; have HB := n2_; clear n0_ n1_ n2_; clear hb ho5; obtain ⟨Ao6, co6, eo6⟩ := Kd.R_slice HO134.out; subst eo6) | ((with_reducible refine gate_dst (N := 5) rfl ?_); refine Kd.R_lit (Kd.int .i64) _ 3 ?hg (N := 5) ?hd (xs := ([4] : List Int)) (inner := [.int .i64 4]) (ok := fun _ => True) (okp := fun _ => True) ?hr ?hp (fun _ hk => hk) trivial (Below.refl _ _) (Nat.le_refl _) (by simp) ?_; (case hd => rfl); (case hg => rfl); (case hr => first | (go_simp; done) | (go_simp; rfl)); (case hp => exact (Reps.one (show Kd.M (Kd.int .i64) _ _ _ 4 [.int .i64 4] from rfl) (Reps.none _ _))); intro v136 w7 ho8 hb hg_ hnew_; clear hg_ hnew_; (first | rw [← Ny135.out] at ho8 | (simp only [Int.reduceToNat] at ho8; rw [← Ny135.out] at ho8)); have n0_ := Aside0.mk (Kd.R_elder' (by (with_reducible repeat (first | apply Kd.R_alloc | apply Kd.R_drewN | apply Kd.R_drew)); exact HO131.out) (Kd.R_base ho8) hb); have n1_ := Aside0.mk (Kd.R_elder' (by (with_reducible repeat (first | apply Kd.R_alloc | apply Kd.R_drewN | apply Kd.R_drew)); exact HO134.out) (Kd.R_base ho8) hb); have n2_ := Aside0.mk (Kd.R_lower (Kd.R_new' (Kd.R_new' (Kd.R_newM (M := fun k_ => (w.heap.size ≤ k_)) ho8 (below_size (by repeat (first | (with_reducible first | exact HB.out | apply below_alloc | apply pw_below_drewN | apply below_drew1) | exact HB.out))) (fun k_ h_ => h_)) (Kd.R_lt (by (with_reducible repeat (first | apply Kd.R_alloc | apply Kd.R_drewN | apply Kd.R_drew)); exact HO131.out))) (Kd.R_lt (by (with_reducible repeat (first | apply Kd.R_alloc | apply Kd.R_drewN | apply Kd.R_drew)); exact HO134.out))) (below_size (by repeat (first | (with_reducible first | exact HB.out | apply below_alloc | apply pw_below_drewN | apply below_drew1) | exact HB.out)))); have n3_ := Aside0.mk (below_step (by repeat (first | (with_reducible first | exact HB.out | apply below_alloc | apply pw_below_drewN | apply below_drew1) | exact HB.out)) hb); clear HO131; clear HO134; clear HB; have HO131 := n0_; have HO134 := n1_; have HO137 := n2_; have HB := n3_; clear n0_ n1_ n2_ n3_; clear hb ho8; obtain ⟨Ao9, co9, eo9⟩ := Kd.R_slice HO137.out; subst eo9) | ((with_reducible refine gate_dst (N := 7) rfl ?_); refine Kd.R_lit (Kd.int .i64) _ 3 ?hg (N := 7) ?hd (xs := ([4] : List Int)) (inner := [.int .i64 4]) (ok := fun _ => True) (okp := fun _ => True) ?hr ?hp (fun _ hk => hk) trivial (Below.refl _ _) (Nat.le_refl _) (by simp) ?_; (case hd => rfl); (case hg => rfl); (case hr => first | (go_simp; done) | (go_simp; rfl)); (case hp => exact (Reps.one (show Kd.M (Kd.int .i64) _ _ _ 4 [.int .i64 4] from rfl) (Reps.none _ _))); intro v139 w10 ho11 hb hg_ hnew_; clear hg_ hnew_; (first | rw [← Ny138.out] at ho11 | (simp only [Int.reduceToNat] at ho11; rw [← Ny138.out] at ho11)); have n0_ := Aside0.mk (Kd.R_elder' (by (with_reducible repeat (first | apply Kd.R_alloc | apply Kd.R_drewN | apply Kd.R_drew)); exact HO131.out) (Kd.R_base ho11) hb); have n1_ := Aside0.mk (Kd.R_elder' (by (with_reducible repeat (first | apply Kd.R_alloc | apply Kd.R_drewN | apply Kd.R_drew)); exact HO134.out) (Kd.R_base ho11) hb); have n2_ := Aside0.mk (Kd.R_elder' (by (with_reducible repeat (first | apply Kd.R_alloc | apply Kd.R_drewN | apply Kd.R_drew)); exact HO137.out) (Kd.R_base ho11) hb); have n3_ := Aside0.mk (Kd.R_lower (Kd.R_new' (Kd.R_new' (Kd.R_new' (Kd.R_newM (M := fun k_ => (w.heap.size ≤ k_)) ho11 (below_size (by repeat (first | (with_reducible first | exact HB.out | apply below_alloc | apply pw_below_drewN | apply below_drew1) | exact HB.out))) (fun k_ h_ => h_)) (Kd.R_lt (by (with_reducible repeat (first | apply Kd.R_alloc | apply Kd.R_drewN | apply Kd.R_drew)); exact HO131.out))) (Kd.R_lt (by (with_reducible repeat (first | apply Kd.R_alloc | apply Kd.R_drewN | apply Kd.R_drew)); exact HO134.out))) (Kd.R_lt (by (with_reducible repeat (first | apply Kd.R_alloc | apply Kd.R_drewN | apply Kd.R_drew)); exact HO137.out))) (below_size (by repeat (first | (with_reducible first | exact HB.out | apply below_alloc | apply pw_below_drewN | apply below_drew1) | exact HB.out)))); have n4_ := Aside0.mk (below_step (by repeat (first | (with_reducible first | exact HB.out | apply below_alloc | apply pw_below_drewN | apply below_drew1) | exact HB.out)) hb); clear HO131; clear HO134; clear HO137; clear HB; have HO131 := n0_; have HO134 := n1_; have HO137 := n2_; have HO140 := n3_; have HB := n4_; clear n0_ n1_ n2_ n3_ n4_; clear hb ho11; obtain ⟨Ao12, co12, eo12⟩ := Kd.R_slice HO140.out; subst eo12) | ((with_reducible refine gate_dst (N := 9) rfl ?_); refine Kd.R_lit (Kd.int .i64) _ 3 ?hg (N := 9) ?hd (xs := ([4] : List Int)) (inner := [.int .i64 4]) (ok := fun _ => True) (okp := fun _ => True) ?hr ?hp (fun _ hk => hk) trivial (Below.refl _ _) (Nat.le_refl _) (by simp) ?_; (case hd => rfl); (case hg => rfl); (case hr => first | (go_simp; done) | (go_simp; rfl)); (case hp => exact (Reps.one (show Kd.M (Kd.int .i64) _ _ _ 4 [.int .i64 4] from rfl) (Reps.none _ _))); intro v142 w13 ho14 hb hg_ hnew_; clear hg_ hnew_; (first | rw [← Ny141.out] at ho14 | (simp only [Int.reduceToNat] at ho14; rw [← Ny141.out] at ho14)); have n0_ := Aside0.mk (Kd.R_elder' (by (with_reducible repeat (first | apply Kd.R_alloc | apply Kd.R_drewN | apply Kd.R_drew)); exact HO131.out) (Kd.R_base ho14) hb); have n1_ := Aside0.mk (Kd.R_elder' (by (with_reducible repeat (first | apply Kd.R_alloc | apply Kd.R_drewN | apply Kd.R_drew)); exact HO134.out) (Kd.R_base ho14) hb); have n2_ := Aside0.mk (Kd.R_elder' (by (with_reducible repeat (first | apply Kd.R_alloc | apply Kd.R_drewN | apply Kd.R_drew)); exact HO137.out) (Kd.R_base ho14) hb); have n3_ := Aside0.mk (Kd.R_elder' (by (with_reducible repeat (first | apply Kd.R_alloc | apply Kd.R_drewN | apply Kd.R_drew)); exact HO140.out) (Kd.R_base ho14) hb); have n4_ := Aside0.mk (Kd.R_lower (Kd.R_new' (Kd.R_new' (Kd.R_new' (Kd.R_new' (Kd.R_newM (M := fun k_ => (w.heap.size ≤ k_)) ho14 (below_size (by repeat (first | (with_reducible first | exact HB.out | apply below_alloc | apply pw_below_drewN | apply below_drew1) | exact HB.out))) (fun k_ h_ => h_)) (Kd.R_lt (by (with_reducible repeat (first | apply Kd.R_alloc | apply Kd.R_drewN | apply Kd.R_drew)); exact HO131.out))) (Kd.R_lt (by (with_reducible repeat (first | apply Kd.R_alloc | apply Kd.R_drewN | apply Kd.R_drew)); exact HO134.out))) (Kd.R_lt (by (with_reducible repeat (first | apply Kd.R_alloc | apply Kd.R_drewN | apply Kd.R_drew)); exact HO137.out))) (Kd.R_lt (by (with_reducible repeat (first | apply Kd.R_alloc | apply Kd.R_drewN | apply Kd.R_drew)); exact HO140.out))) (below_size (by repeat (first | (with_reducible first | exact HB.out | apply below_alloc | apply pw_below_drewN | apply below_drew1) | exact HB.out)))); have n5_ := Aside0.mk (below_step (by repeat (first | (with_reducible first | exact HB.out | apply below_alloc | apply pw_below_drewN | apply below_drew1) | exact HB.out)) hb); clear HO131; clear HO134; clear HO137; clear HO140; clear HB; have HO131 := n0_; have HO134 := n1_; have HO137 := n2_; have HO140 := n3_; have HO143 := n4_; have HB := n5_; clear n0_ n1_ n2_ n3_ n4_ n5_; clear hb ho14; obtain ⟨Ao15, co15, eo15⟩ := Kd.R_slice HO143.out; subst eo15) | ((with_reducible refine gate_dst (N := 11) rfl ?_); refine Kd.R_lit (Kd.int .i64) _ 3 ?hg (N := 11) ?hd (xs := ([4, 2, 2] : List Int)) (inner := [.int .i64 4, .int .i64 2, .int .i64 2]) (ok := fun _ => True) (okp := fun _ => True) ?hr ?hp (fun _ hk => hk) trivial (Below.refl _ _) (Nat.le_refl _) (by simp) ?_; (case hd => rfl); (case hg => rfl); (case hr => first | (go_simp; done) | (go_simp; rfl)); (case hp => exact (Reps.one (show Kd.M (Kd.int .i64) _ _ _ 4 [.int .i64 4] from rfl) (Reps.one (show Kd.M (Kd.int .i64) _ _ _ 2 [.int .i64 2] from rfl) (Reps.one (show Kd.M (Kd.int .i64) _ _ _ 2 [.int .i64 2] from rfl) (Reps.none _ _))))); intro v145 w16 ho17 hb hg_ hnew_; clear hg_ hnew_; (first | rw [← Ny144.out] at ho17 | (simp only [Int.reduceToNat] at ho17; rw [← Ny144.out] at ho17)); have n0_ := Aside0.mk (Kd.R_elder' (by (with_reducible repeat (first | apply Kd.R_alloc | apply Kd.R_drewN | apply Kd.R_drew)); exact HO131.out) (Kd.R_base ho17) hb); have n1_ := Aside0.mk (Kd.R_elder' (by (with_reducible repeat (first | apply Kd.R_alloc | apply Kd.R_drewN | apply Kd.R_drew)); exact HO134.out) (Kd.R_base ho17) hb); have n2_ := Aside0.mk (Kd.R_elder' (by (with_reducible repeat (first | apply Kd.R_alloc | apply Kd.R_drewN | apply Kd.R_drew)); exact HO137.out) (Kd.R_base ho17) hb); have n3_ := Aside0.mk (Kd.R_elder' (by (with_reducible repeat (first | apply Kd.R_alloc | apply Kd.R_drewN | apply Kd.R_drew)); exact HO140.out) (Kd.R_base ho17) hb); have n4_ := Aside0.mk (Kd.R_elder' (by (with_reducible repeat (first | apply Kd.R_alloc | apply Kd.R_drewN | apply Kd.R_drew)); exact HO143.out) (Kd.R_base ho17) hb); have n5_ := Aside0.mk (Kd.R_lower (Kd.R_new' (Kd.R_new' (Kd.R_new' (Kd.R_new' (Kd.R_new' (Kd.R_newM (M := fun k_ => (w.heap.size ≤ k_)) ho17 (below_size (by repeat (first | (with_reducible first | exact HB.out | apply below_alloc | apply pw_below_drewN | apply below_drew1) | exact HB.out))) (fun k_ h_ => h_)) (Kd.R_lt (by (with_reducible repeat (first | apply Kd.R_alloc | apply Kd.R_drewN | apply Kd.R_drew)); exact HO131.out))) (Kd.R_lt (by (with_reducible repeat (first | apply Kd.R_alloc | apply Kd.R_drewN | apply Kd.R_drew)); exact HO134.out))) (Kd.R_lt (by (with_reducible repeat (first | apply Kd.R_alloc | apply Kd.R_drewN | apply Kd.R_drew)); exact HO137.out))) (Kd.R_lt (by (with_reducible repeat (first | apply Kd.R_alloc | apply Kd.R_drewN | apply Kd.R_drew)); exact HO140.out))) (Kd.R_lt (by (with_reducible repeat (first | apply Kd.R_alloc | apply Kd.R_drewN | apply Kd.R_drew)); exact HO143.out))) (below_size (by repeat (first | (with_reducible first | exact HB.out | apply below_alloc | apply pw_below_drewN | apply below_drew1) | exact HB.out)))); have n6_ := Aside0.mk (below_step (by repeat (first | (with_reducible first | exact HB.out | apply below_alloc | apply pw_below_drewN | apply below_drew1) | exact HB.out)) hb); clear HO131; clear HO134; clear HO137; clear HO140; clear HO143; clear HB; have HO131 := n0_; have HO134 := n1_; have HO137 := n2_; have HO140 := n3_; have HO143 := n4_; have HO146 := n5_; have HB := n6_; clear n0_ n1_ n2_ n3_ n4_ n5_ n6_; clear hb ho17; obtain ⟨Ao18, co18, eo18⟩ := Kd.R_slice HO146.out; subst eo18) | ((with_reducible refine gate_dst (N := 13) rfl ?_); refine Kd.R_lit (Kd.int .i64) _ 3 ?hg (N := 13) ?hd (xs := ([4, 2, 2] : List Int)) (inner := [.int .i64 4, .int .i64 2, .int .i64 2]) (ok := fun _ => True) (okp := fun _ => True) ?hr ?hp (fun _ hk => hk) trivial (Below.refl _ _) (Nat.le_refl _) (by simp) ?_; (case hd => rfl); (case hg => rfl); (case hr => first | (go_simp; done) | (go_simp; rfl)); (case hp => exact (Reps.one (show Kd.M (Kd.int .i64) _ _ _ 4 [.int .i64 4] from rfl) (Reps.one (show Kd.M (Kd.int .i64) _ _ _ 2 [.int .i64 2] from rfl) (Reps.one (show Kd.M (Kd.int .i64) _ _ _ 2 [.int .i64 2] from rfl) (Reps.none _ _))))); intro v148 w19 ho20 hb hg_ hnew_; clear hg_ hnew_; (first | rw [← Ny147.out] at ho20 | (simp only [Int.reduceToNat] at ho20; rw [← Ny147.out] at ho20)); have n0_ := Aside0.mk (Kd.R_elder' (by (with_reducible repeat (first | apply Kd.R_alloc | apply Kd.R_drewN | apply Kd.R_drew)); exact HO131.out) (Kd.R_base ho20) hb); have n1_ := Aside0.mk (Kd.R_elder' (by (with_reducible repeat (first | apply Kd.R_alloc | apply Kd.R_drewN | apply Kd.R_drew)); exact HO134.out) (Kd.R_base ho20) hb); have n2_ := Aside0.mk (Kd.R_elder' (by (with_reducible repeat (first | apply Kd.R_alloc | apply Kd.R_drewN | apply Kd.R_drew)); exact HO137.out) (Kd.R_base ho20) hb); have n3_ := Aside0.mk (Kd.R_elder' (by (with_reducible repeat (first | apply Kd.R_alloc | apply Kd.R_drewN | apply Kd.R_drew)); exact HO140.out) (Kd.R_base ho20) hb); have n4_ := Aside0.mk (Kd.R_elder' (by (with_reducible repeat (first | apply Kd.R_alloc | apply Kd.R_drewN | apply Kd.R_drew)); exact HO143.out) (Kd.R_base ho20) hb); have n5_ := Aside0.mk (Kd.R_elder' (by (with_reducible repeat (first | apply Kd.R_alloc | apply Kd.R_drewN | apply Kd.R_drew)); exact HO146.out) (Kd.R_base ho20) hb); have n6_ := Aside0.mk (Kd.R_lower (Kd.R_new' (Kd.R_new' (Kd.R_new' (Kd.R_new' (Kd.R_new' (Kd.R_new' (Kd.R_newM (M := fun k_ => (w.heap.size ≤ k_)) ho20 (below_size (by repeat (first | (with_reducible first | exact HB.out | apply below_alloc | apply pw_below_drewN | apply below_drew1) | exact HB.out))) (fun k_ h_ => h_)) (Kd.R_lt (by (with_reducible repeat (first | apply Kd.R_alloc | apply Kd.R_drewN | apply Kd.R_drew)); exact HO131.out))) (Kd.R_lt (by (with_reducible repeat (first | apply Kd.R_alloc | apply Kd.R_drewN | apply Kd.R_drew)); exact HO134.out))) (Kd.R_lt (by (with_reducible repeat (first | apply Kd.R_alloc | apply Kd.R_drewN | apply Kd.R_drew)); exact HO137.out))) (Kd.R_lt (by (with_reducible repeat (first | apply Kd.R_alloc | apply Kd.R_drewN | apply Kd.R_drew)); exact HO140.out))) (Kd.R_lt (by (with_reducible repeat (first | apply Kd.R_alloc | apply Kd.R_drewN | apply Kd.R_drew)); exact HO143.out))) (Kd.R_lt (by (with_reducible repeat (first | apply Kd.R_alloc | apply Kd.R_drewN | apply Kd.R_drew)); exact HO146.out))) (below_size (by repeat (first | (with_reducible first | exact HB.out | apply below_alloc | apply pw_below_drewN | apply below_drew1) | exact HB.out)))); have n7_ := Aside0.mk (below_step (by repeat (first | (with_reducible first | exact HB.out | apply below_alloc | apply pw_below_drewN | apply below_drew1) | exact HB.out)) hb); clear HO131; clear HO134; clear HO137; clear HO140; clear HO143; clear HO146; clear HB; have HO131 := n0_; have HO134 := n1_; have HO137 := n2_; have HO140 := n3_; have HO143 := n4_; have HO146 := n5_; have HO149 := n6_; have HB := n7_; clear n0_ n1_ n2_ n3_ n4_ n5_ n6_ n7_; clear hb ho20; obtain ⟨Ao21, co21, eo21⟩ := Kd.R_slice HO149.out; subst eo21) | ((with_reducible refine gate_dst (N := 15) rfl ?_); refine Kd.R_lit (Kd.int .i64) _ 3 ?hg (N := 15) ?hd (xs := ([4, 2] : List Int)) (inner := [.int .i64 4, .int .i64 2]) (ok := fun _ => True) (okp := fun _ => True) ?hr ?hp (fun _ hk => hk) trivial (Below.refl _ _) (Nat.le_refl _) (by simp) ?_; (case hd => rfl); (case hg => rfl); (case hr => first | (go_simp; done) | (go_simp; rfl)); (case hp => exact (Reps.one (show Kd.M (Kd.int .i64) _ _ _ 4 [.int .i64 4] from rfl) (Reps.one (show Kd.M (Kd.int .i64) _ _ _ 2 [.int .i64 2] from rfl) (Reps.none _ _)))); intro v151 w22 ho23 hb hg_ hnew_; clear hg_ hnew_; (first | rw [← Ny150.out] at ho23 | (simp only [Int.reduceToNat] at ho23; rw [← Ny150.out] at ho23)); have n0_ := Aside0.mk (Kd.R_elder' (by (with_reducible repeat (first | apply Kd.R_alloc | apply Kd.R_drewN | apply Kd.R_drew)); exact HO131.out) (Kd.R_base ho23) hb); have n1_ := Aside0.mk (Kd.R_elder' (by (with_reducible repeat (first | apply Kd.R_alloc | apply Kd.R_drewN | apply Kd.R_drew)); exact HO134.out) (Kd.R_base ho23) hb); have n2_ := Aside0.mk (Kd.R_elder' (by (with_reducible repeat (first | apply Kd.R_alloc | apply Kd.R_drewN | apply Kd.R_drew)); exact HO137.out) (Kd.R_base ho23) hb); have n3_ := Aside0.mk (Kd.R_elder' (by (with_reducible repeat (first | apply Kd.R_alloc | apply Kd.R_drewN | apply Kd.R_drew)); exact HO140.out) (Kd.R_base ho23) hb); have n4_ := Aside0.mk (Kd.R_elder' (by (with_reducible repeat (first | apply Kd.R_alloc | apply Kd.R_drewN | apply Kd.R_drew)); exact HO143.out) (Kd.R_base ho23) hb); have n5_ := Aside0.mk (Kd.R_elder' (by (with_reducible repeat (first | apply Kd.R_alloc | apply Kd.R_drewN | apply Kd.R_drew)); exact HO146.out) (Kd.R_base ho23) hb); have n6_ := Aside0.mk (Kd.R_elder' (by (with_reducible repeat (first | apply Kd.R_alloc | apply Kd.R_drewN | apply Kd.R_drew)); exact HO149.out) (Kd.R_base ho23) hb); have n7_ := Aside0.mk (Kd.R_lower (Kd.R_new' (Kd.R_new' (Kd.R_new' (Kd.R_new' (Kd.R_new' (Kd.R_new' (Kd.R_new' (Kd.R_newM (M := fun k_ => (w.heap.size ≤ k_)) ho23 (below_size (by repeat (first | (with_reducible first | exact HB.out | apply below_alloc | apply pw_below_drewN | apply below_drew1) | exact HB.out))) (fun k_ h_ => h_)) (Kd.R_lt (by (with_reducible repeat (first | apply Kd.R_alloc | apply Kd.R_drewN | apply Kd.R_drew)); exact HO131.out))) (Kd.R_lt (by (with_reducible repeat (first | apply Kd.R_alloc | apply Kd.R_drewN | apply Kd.R_drew)); exact HO134.out))) (Kd.R_lt (by (with_reducible repeat (first | apply Kd.R_alloc | apply Kd.R_drewN | apply Kd.R_drew)); exact HO137.out))) (Kd.R_lt (by (with_reducible repeat (first | apply Kd.R_alloc | apply Kd.R_drewN | apply Kd.R_drew)); exact HO140.out))) (Kd.R_lt (by (with_reducible repeat (first | apply Kd.R_alloc | apply Kd.R_drewN | apply Kd.R_drew)); exact HO143.out))) (Kd.R_lt (by (with_reducible repeat (first | apply Kd.R_alloc | apply Kd.R_drewN | apply Kd.R_drew)); exact HO146.out))) (Kd.R_lt (by (with_reducible repeat (first | apply Kd.R_alloc | apply Kd.R_drewN | apply Kd.R_drew)); exact HO149.out))) (below_size (by repeat (first | (with_reducible first | exact HB.out | apply below_alloc | apply pw_below_drewN | apply below_drew1) | exact HB.out)))); have n8_ := Aside0.mk (below_step (by repeat (first | (with_reducible first | exact HB.out | apply below_alloc | apply pw_below_drewN | apply below_drew1) | exact HB.out)) hb); clear HO131; clear HO134; clear HO137; clear HO140; clear HO143; clear HO146; clear HO149; clear HB; have HO131 := n0_; have HO134 := n1_; have HO137 := n2_; have HO140 := n3_; have HO143 := n4_; have HO146 := n5_; have HO149 := n6_; have HO152 := n7_; have HB := n8_; clear n0_ n1_ n2_ n3_ n4_ n5_ n6_ n7_ n8_; clear hb ho23; obtain ⟨Ao24, co24, eo24⟩ := Kd.R_slice HO152.out; subst eo24) | ((with_reducible refine gate_dst (N := 17) rfl ?_); refine Kd.R_lit (Kd.int .i64) _ 3 ?hg (N := 17) ?hd (xs := ([4] : List Int)) (inner := [.int .i64 4]) (ok := fun _ => True) (okp := fun _ => True) ?hr ?hp (fun _ hk => hk) trivial (Below.refl _ _) (Nat.le_refl _) (by simp) ?_; (case hd => rfl); (case hg => rfl); (case hr => first | (go_simp; done) | (go_simp; rfl)); (case hp => exact (Reps.one (show Kd.M (Kd.int .i64) _ _ _ 4 [.int .i64 4] from rfl) (Reps.none _ _))); intro v154 w25 ho26 hb hg_ hnew_; clear hg_ hnew_; (first | rw [← Ny153.out] at ho26 | (simp only [Int.reduceToNat] at ho26; rw [← Ny153.out] at ho26)); have n0_ := Aside0.mk (Kd.R_elder' (by (with_reducible repeat (first | apply Kd.R_alloc | apply Kd.R_drewN | apply Kd.R_drew)); exact HO131.out) (Kd.R_base ho26) hb); have n1_ := Aside0.mk (Kd.R_elder' (by (with_reducible repeat (first | apply Kd.R_alloc | apply Kd.R_drewN | apply Kd.R_drew)); exact HO134.out) (Kd.R_base ho26) hb); have n2_ := Aside0.mk (Kd.R_elder' (by (with_reducible repeat (first | apply Kd.R_alloc | apply Kd.R_drewN | apply Kd.R_drew)); exact HO137.out) (Kd.R_base ho26) hb); have n3_ := Aside0.mk (Kd.R_elder' (by (with_reducible repeat (first | apply Kd.R_alloc | apply Kd.R_drewN | apply Kd.R_drew)); exact HO140.out) (Kd.R_base ho26) hb); have n4_ := Aside0.mk (Kd.R_elder' (by (with_reducible repeat (first | apply Kd.R_alloc | apply Kd.R_drewN | apply Kd.R_drew)); exact HO143.out) (Kd.R_base ho26) hb); have n5_ := Aside0.mk (Kd.R_elder' (by (with_reducible repeat (first | apply Kd.R_alloc | apply Kd.R_drewN | apply Kd.R_drew)); exact HO146.out) (Kd.R_base ho26) hb); have n6_ := Aside0.mk (Kd.R_elder' (by (with_reducible repeat (first | apply Kd.R_alloc | apply Kd.R_drewN | apply Kd.R_drew)); exact HO149.out) (Kd.R_base ho26) hb); have n7_ := Aside0.mk (Kd.R_elder' (by (with_reducible repeat (first | apply Kd.R_alloc | apply Kd.R_drewN | apply Kd.R_drew)); exact HO152.out) (Kd.R_base ho26) hb); have n8_ := Aside0.mk (Kd.R_lower (Kd.R_new' (Kd.R_new' (Kd.R_new' (Kd.R_new' (Kd.R_new' (Kd.R_new' (Kd.R_new' (Kd.R_new' (Kd.R_newM (M := fun k_ => (w.heap.size ≤ k_)) ho26 (below_size (by repeat (first | (with_reducible first | exact HB.out | apply below_alloc | apply pw_below_drewN | apply below_drew1) | exact HB.out))) (fun k_ h_ => h_)) (Kd.R_lt (by (with_reducible repeat (first | apply Kd.R_alloc | apply Kd.R_drewN | apply Kd.R_drew)); exact HO131.out))) (Kd.R_lt (by (with_reducible repeat (first | apply Kd.R_alloc | apply Kd.R_drewN | apply Kd.R_drew)); exact HO134.out))) (Kd.R_lt (by (with_reducible repeat (first | apply Kd.R_alloc | apply Kd.R_drewN | apply Kd.R_drew)); exact HO137.out))) (Kd.R_lt (by (with_reducible repeat (first | apply Kd.R_alloc | apply Kd.R_drewN | apply Kd.R_drew)); exact HO140.out))) (Kd.R_lt (by (with_reducible repeat (first | apply Kd.R_alloc | apply Kd.R_drewN | apply Kd.R_drew)); exact HO143.out))) (Kd.R_lt (by (with_reducible repeat (first | apply Kd.R_alloc | apply Kd.R_drewN | apply Kd.R_drew)); exact HO146.out))) (Kd.R_lt (by (with_reducible repeat (first | apply Kd.R_alloc | apply Kd.R_drewN | apply Kd.R_drew)); exact HO149.out))) (Kd.R_lt (by (with_reducible repeat (first | apply Kd.R_alloc | apply Kd.R_drewN | apply Kd.R_drew)); exact HO152.out))) (below_size (by repeat (first | (with_reducible first | exact HB.out | apply below_alloc | apply pw_below_drewN | apply below_drew1) | exact HB.out)))); have n9_ := Aside0.mk (below_step (by repeat (first | (with_reducible first | exact HB.out | apply below_alloc | apply pw_below_drewN | apply below_drew1) | exact HB.out)) hb); clear HO131; clear HO134; clear HO137; clear HO140; clear HO143; clear HO146; clear HO149; clear HO152; clear HB; have HO131 := n0_; have HO134 := n1_; have HO137 := n2_; have HO140 := n3_; have HO143 := n4_; have HO146 := n5_; have HO149 := n6_; have HO152 := n7_; have HO155 := n8_; have HB := n9_; clear n0_ n1_ n2_ n3_ n4_ n5_ n6_ n7_ n8_ n9_; clear hb ho26; obtain ⟨Ao27, co27, eo27⟩ := Kd.R_slice HO155.out; subst eo27) | ((with_reducible refine gate_dst (N := 19) rfl ?_); refine Kd.R_lit (Kd.int .i64) _ 3 ?hg (N := 19) ?hd (xs := ([4, 1] : List Int)) (inner := [.int .i64 4, .int .i64 1]) (ok := fun _ => True) (okp := fun _ => True) ?hr ?hp (fun _ hk => hk) trivial (Below.refl _ _) (Nat.le_refl _) (by simp) ?_; (case hd => rfl); (case hg => rfl); (case hr => first | (go_simp; done) | (go_simp; rfl)); (case hp => exact (Reps.one (show Kd.M (Kd.int .i64) _ _ _ 4 [.int .i64 4] from rfl) (Reps.one (show Kd.M (Kd.int .i64) _ _ _ 1 [.int .i64 1] from rfl) (Reps.none _ _)))); intro v157 w28 ho29 hb hg_ hnew_; clear hg_ hnew_; (first | rw [← Ny156.out] at ho29 | (simp only [Int.reduceToNat] at ho29; rw [← Ny156.out] at ho29)); have n0_ := Aside0.mk (Kd.R_elder' (by (with_reducible repeat (first | apply Kd.R_alloc | apply Kd.R_drewN | apply Kd.R_drew)); exact HO131.out) (Kd.R_base ho29) hb); have n1_ := Aside0.mk (Kd.R_elder' (by (with_reducible repeat (first | apply Kd.R_alloc | apply Kd.R_drewN | apply Kd.R_drew)); exact HO134.out) (Kd.R_base ho29) hb); have n2_ := Aside0.mk (Kd.R_elder' (by (with_reducible repeat (first | apply Kd.R_alloc | apply Kd.R_drewN | apply Kd.R_drew)); exact HO137.out) (Kd.R_base ho29) hb); have n3_ := Aside0.mk (Kd.R_elder' (by (with_reducible repeat (first | apply Kd.R_alloc | apply Kd.R_drewN | apply Kd.R_drew)); exact HO140.out) (Kd.R_base ho29) hb); have n4_ := Aside0.mk (Kd.R_elder' (by (with_reducible repeat (first | apply Kd.R_alloc | apply Kd.R_drewN | apply Kd.R_drew)); exact HO143.out) (Kd.R_base ho29) hb); have n5_ := Aside0.mk (Kd.R_elder' (by (with_reducible repeat (first | apply Kd.R_alloc | apply Kd.R_drewN | apply Kd.R_drew)); exact HO146.out) (Kd.R_base ho29) hb); have n6_ := Aside0.mk (Kd.R_elder' (by (with_reducible repeat (first | apply Kd.R_alloc | apply Kd.R_drewN | apply Kd.R_drew)); exact HO149.out) (Kd.R_base ho29) hb); have n7_ := Aside0.mk (Kd.R_elder' (by (with_reducible repeat (first | apply Kd.R_alloc | apply Kd.R_drewN | apply Kd.R_drew)); exact HO152.out) (Kd.R_base ho29) hb); have n8_ := Aside0.mk (Kd.R_elder' (by (with_reducible repeat (first | apply Kd.R_alloc | apply Kd.R_drewN | apply Kd.R_drew)); exact HO155.out) (Kd.R_base ho29) hb); have n9_ := Aside0.mk (Kd.R_lower (Kd.R_new' (Kd.R_new' (Kd.R_new' (Kd.R_new' (Kd.R_new' (Kd.R_new' (Kd.R_new' (Kd.R_new' (Kd.R_new' (Kd.R_newM (M := fun k_ => (w.heap.size ≤ k_)) ho29 (below_size (by repeat (first | (with_reducible first | exact HB.out | apply below_alloc | apply pw_below_drewN | apply below_drew1) | exact HB.out))) (fun k_ h_ => h_)) (Kd.R_lt (by (with_reducible repeat (first | apply Kd.R_alloc | apply Kd.R_drewN | apply Kd.R_drew)); exact HO131.out))) (Kd.R_lt (by (with_reducible repeat (first | apply Kd.R_alloc | apply Kd.R_drewN | apply Kd.R_drew)); exact HO134.out))) (Kd.R_lt (by (with_reducible repeat (first | apply Kd.R_alloc | apply Kd.R_drewN | apply Kd.R_drew)); exact HO137.out))) (Kd.R_lt (by (with_reducible repeat (first | apply Kd.R_alloc | apply Kd.R_drewN | apply Kd.R_drew)); exact HO140.out))) (Kd.R_lt (by (with_reducible repeat (first | apply Kd.R_alloc | apply Kd.R_drewN | apply Kd.R_drew)); exact HO143.out))) (Kd.R_lt (by (with_reducible repeat (first | apply Kd.R_alloc | apply Kd.R_drewN | apply Kd.R_drew)); exact HO146.out))) (Kd.R_lt (by (with_reducible repeat (first | apply Kd.R_alloc | apply Kd.R_drewN | apply Kd.R_drew)); exact HO149.out))) (Kd.R_lt (by (with_reducible repeat (first | apply Kd.R_alloc | apply Kd.R_drewN | apply Kd.R_drew)); exact HO152.out))) (Kd.R_lt (by (with_reducible repeat (first | apply Kd.R_alloc | apply Kd.R_drewN | apply Kd.R_drew)); exact HO155.out))) (below_size (by repeat (first | (with_reducible first | exact HB.out | apply below_alloc | apply pw_below_drewN | apply below_drew1) | exact HB.out)))); have n10_ := Aside0.mk (below_step (by repeat (first | (with_reducible first | exact HB.out | apply below_alloc | apply pw_below_drewN | apply below_drew1) | exact HB.out)) hb); clear HO131; clear HO134; clear HO137; clear HO140; clear HO143; clear HO146; clear HO149; clear HO152; clear HO155; clear HB; have HO131 := n0_; have HO134 := n1_; have HO137 := n2_; have HO140 := n3_; have HO143 := n4_; have HO146 := n5_; have HO149 := n6_; have HO152 := n7_; have HO155 := n8_; have HO158 := n9_; have HB := n10_; clear n0_ n1_ n2_ n3_ n4_ n5_ n6_ n7_ n8_ n9_ n10_; clear hb ho29; obtain ⟨Ao30, co30, eo30⟩ := Kd.R_slice HO158.out; subst eo30) | ((with_reducible refine gate_dst (N := 21) rfl ?_); refine Kd.R_lit (Kd.int .i64) _ 3 ?hg (N := 21) ?hd (xs := ([4] : List Int)) (inner := [.int .i64 4]) (ok := fun _ => True) (okp := fun _ => True) ?hr ?hp (fun _ hk => hk) trivial (Below.refl _ _) (Nat.le_refl _) (by simp) ?_; (case hd => rfl); (case hg => rfl); (case hr => first | (go_simp; done) | (go_simp; rfl)); (case hp => exact (Reps.one (show Kd.M (Kd.int .i64) _ _ _ 4 [.int .i64 4] from rfl) (Reps.none _ _))); intro v160 w31 ho32 hb hg_ hnew_; clear hg_ hnew_; (first | rw [← Ny159.out] at ho32 | (simp only [Int.reduceToNat] at ho32; rw [← Ny159.out] at ho32)); have n0_ := Aside0.mk (Kd.R_elder' (by (with_reducible repeat (first | apply Kd.R_alloc | apply Kd.R_drewN | apply Kd.R_drew)); exact HO131.out) (Kd.R_base ho32) hb); have n1_ := Aside0.mk (Kd.R_elder' (by (with_reducible repeat (first | apply Kd.R_alloc | apply Kd.R_drewN | apply Kd.R_drew)); exact HO134.out) (Kd.R_base ho32) hb); have n2_ := Aside0.mk (Kd.R_elder' (by (with_reducible repeat (first | apply Kd.R_alloc | apply Kd.R_drewN | apply Kd.R_drew)); exact HO137.out) (Kd.R_base ho32) hb); have n3_ := Aside0.mk (Kd.R_elder' (by (with_reducible repeat (first | apply Kd.R_alloc | apply Kd.R_drewN | apply Kd.R_drew)); exact HO140.out) (Kd.R_base ho32) hb); have n4_ := Aside0.mk (Kd.R_elder' (by (with_reducible repeat (first | apply Kd.R_alloc | apply Kd.R_drewN | apply Kd.R_drew)); exact HO143.out) (Kd.R_base ho32) hb); have n5_ := Aside0.mk (Kd.R_elder' (by (with_reducible repeat (first | apply Kd.R_alloc | apply Kd.R_drewN | apply Kd.R_drew)); exact HO146.out) (Kd.R_base ho32) hb); have n6_ := Aside0.mk (Kd.R_elder' (by (with_reducible repeat (first | apply Kd.R_alloc | apply Kd.R_drewN | apply Kd.R_drew)); exact HO149.out) (Kd.R_base ho32) hb); have n7_ := Aside0.mk (Kd.R_elder' (by (with_reducible repeat (first | apply Kd.R_alloc | apply Kd.R_drewN | apply Kd.R_drew)); exact HO152.out) (Kd.R_base ho32) hb); have n8_ := Aside0.mk (Kd.R_elder' (by (with_reducible repeat (first | apply Kd.R_alloc | apply Kd.R_drewN | apply Kd.R_drew)); exact HO155.out) (Kd.R_base ho32) hb); have n9_ := Aside0.mk (Kd.R_elder' (by (with_reducible repeat (first | apply Kd.R_alloc | apply Kd.R_drewN | apply Kd.R_drew)); exact HO158.out) (Kd.R_base ho32) hb); have n10_ := Aside0.mk (Kd.R_lower (Kd.R_new' (Kd.R_new' (Kd.R_new' (Kd.R_new' (Kd.R_new' (Kd.R_new' (Kd.R_new' (Kd.R_new' (Kd.R_new' (Kd.R_new' (Kd.R_newM (M := fun k_ => (w.heap.size ≤ k_)) ho32 (below_size (by repeat (first | (with_reducible first | exact HB.out | apply below_alloc | apply pw_below_drewN | apply below_drew1) | exact HB.out))) (fun k_ h_ => h_)) (Kd.R_lt (by (with_reducible repeat (first | apply Kd.R_alloc | apply Kd.R_drewN | apply Kd.R_drew)); exact HO131.out))) (Kd.R_lt (by (with_reducible repeat (first | apply Kd.R_alloc | apply Kd.R_drewN | apply Kd.R_drew)); exact HO134.out))) (Kd.R_lt (by (with_reducible repeat (first | apply Kd.R_alloc | apply Kd.R_drewN | apply Kd.R_drew)); exact HO137.out))) (Kd.R_lt (by (with_reducible repeat (first | apply Kd.R_alloc | apply Kd.R_drewN | apply Kd.R_drew)); exact HO140.out))) (Kd.R_lt (by (with_reducible repeat (first | apply Kd.R_alloc | apply Kd.R_drewN | apply Kd.R_drew)); exact HO143.out))) (Kd.R_lt (by (with_reducible repeat (first | apply Kd.R_alloc | apply Kd.R_drewN | apply Kd.R_drew)); exact HO146.out))) (Kd.R_lt (by (with_reducible repeat (first | apply Kd.R_alloc | apply Kd.R_drewN | apply Kd.R_drew)); exact HO149.out))) (Kd.R_lt (by (with_reducible repeat (first | apply Kd.R_alloc | apply Kd.R_drewN | apply Kd.R_drew)); exact HO152.out))) (Kd.R_lt (by (with_reducible repeat (first | apply Kd.R_alloc | apply Kd.R_drewN | apply Kd.R_drew)); exact HO155.out))) (Kd.R_lt (by (with_reducible repeat (first | apply Kd.R_alloc | apply Kd.R_drewN | apply Kd.R_drew)); exact HO158.out))) (below_size (by repeat (first | (with_reducible first | exact HB.out | apply below_alloc | apply pw_below_drewN | apply below_drew1) | exact HB.out)))); have n11_ := Aside0.mk (below_step (by repeat (first | (with_reducible first | exact HB.out | apply below_alloc | apply pw_below_drewN | apply below_drew1) | exact HB.out)) hb); clear HO131; clear HO134; clear HO137; clear HO140; clear HO143; clear HO146; clear HO149; clear HO152; clear HO155; clear HO158; clear HB; have HO131 := n0_; have HO134 := n1_; have HO137 := n2_; have HO140 := n3_; have HO143 := n4_; have HO146 := n5_; have HO149 := n6_; have HO152 := n7_; have HO155 := n8_; have HO158 := n9_; have HO161 := n10_; have HB := n11_; clear n0_ n1_ n2_ n3_ n4_ n5_ n6_ n7_ n8_ n9_ n10_ n11_; clear hb ho32; obtain ⟨Ao33, co33, eo33⟩ := Kd.R_slice HO161.out; subst eo33) | ((with_reducible refine gate_dst (N := 24) rfl ?_); refine Kd.R_lit (Kd.int .i64) _ 3 ?hg (N := 24) ?hd (xs := ([1] : List Int)) (inner := [.int .i64 1]) (ok := fun _ => True) (okp := fun _ => True) ?hr ?hp (fun _ hk => hk) trivial (Below.refl _ _) (Nat.le_refl _) (by simp) ?_; (case hd => rfl); (case hg => rfl); (case hr => first | (go_simp; done) | (go_simp; rfl)); (case hp => exact (Reps.one (show Kd.M (Kd.int .i64) _ _ _ 1 [.int .i64 1] from rfl) (Reps.none _ _))); intro v163 w34 ho35 hb hg_ hnew_; clear hg_ hnew_; (first | rw [← Ny162.out] at ho35 | (simp only [Int.reduceToNat] at ho35; rw [← Ny162.out] at ho35)); have n0_ := Aside0.mk (Kd.R_elder' (by (with_reducible repeat (first | apply Kd.R_alloc | apply Kd.R_drewN | apply Kd.R_drew)); exact HO131.out) (Kd.R_base ho35) hb); have n1_ := Aside0.mk (Kd.R_elder' (by (with_reducible repeat (first | apply Kd.R_alloc | apply Kd.R_drewN | apply Kd.R_drew)); exact HO134.out) (Kd.R_base ho35) hb); have n2_ := Aside0.mk (Kd.R_elder' (by (with_reducible repeat (first | apply Kd.R_alloc | apply Kd.R_drewN | apply Kd.R_drew)); exact HO137.out) (Kd.R_base ho35) hb); have n3_ := Aside0.mk (Kd.R_elder' (by (with_reducible repeat (first | apply Kd.R_alloc | apply Kd.R_drewN | apply Kd.R_drew)); exact HO140.out) (Kd.R_base ho35) hb); have n4_ := Aside0.mk (Kd.R_elder' (by (with_reducible repeat (first | apply Kd.R_alloc | apply Kd.R_drewN | apply Kd.R_drew)); exact HO143.out) (Kd.R_base ho35) hb); have n5_ := Aside0.mk (Kd.R_elder' (by (with_reducible repeat (first | apply Kd.R_alloc | apply Kd.R_drewN | apply Kd.R_drew)); exact HO146.out) (Kd.R_base ho35) hb); have n6_ := Aside0.mk (Kd.R_elder' (by (with_reducible repeat (first | apply Kd.R_alloc | apply Kd.R_drewN | apply Kd.R_drew)); exact HO149.out) (Kd.R_base ho35) hb); have n7_ := Aside0.mk (Kd.R_elder' (by (with_reducible repeat (first | apply Kd.R_alloc | apply Kd.R_drewN | apply Kd.R_drew)); exact HO152.out) (Kd.R_base ho35) hb); have n8_ := Aside0.mk (Kd.R_elder' (by (with_reducible repeat (first | apply Kd.R_alloc | apply Kd.R_drewN | apply Kd.R_drew)); exact HO155.out) (Kd.R_base ho35) hb); have n9_ := Aside0.mk (Kd.R_elder' (by (with_reducible repeat (first | apply Kd.R_alloc | apply Kd.R_drewN | apply Kd.R_drew)); exact HO158.out) (Kd.R_base ho35) hb); have n10_ := Aside0.mk (Kd.R_elder' (by (with_reducible repeat (first | apply Kd.R_alloc | apply Kd.R_drewN | apply Kd.R_drew)); exact HO161.out) (Kd.R_base ho35) hb); have n11_ := Aside0.mk (Kd.R_lower (Kd.R_new' (Kd.R_new' (Kd.R_new' (Kd.R_new' (Kd.R_new' (Kd.R_new' (Kd.R_new' (Kd.R_new' (Kd.R_new' (Kd.R_new' (Kd.R_new' (Kd.R_newM (M := fun k_ => (w.heap.size ≤ k_)) ho35 (below_size (by repeat (first | (with_reducible first | exact HB.out | apply below_alloc | apply pw_below_drewN | apply below_drew1) | exact HB.out))) (fun k_ h_ => h_)) (Kd.R_lt (by (with_reducible repeat (first | apply Kd.R_alloc | apply Kd.R_drewN | apply Kd.R_drew)); exact HO131.out))) (Kd.R_lt (by (with_reducible repeat (first | apply Kd.R_alloc | apply Kd.R_drewN | apply Kd.R_drew)); exact HO134.out))) (Kd.R_lt (by (with_reducible repeat (first | apply Kd.R_alloc | apply Kd.R_drewN | apply Kd.R_drew)); exact HO137.out))) (Kd.R_lt (by (with_reducible repeat (first | apply Kd.R_alloc | apply Kd.R_drewN | apply Kd.R_drew)); exact HO140.out))) (Kd.R_lt (by (with_reducible repeat (first | apply Kd.R_alloc | apply Kd.R_drewN | apply Kd.R_drew)); exact HO143.out))) (Kd.R_lt (by (with_reducible repeat (first | apply Kd.R_alloc | apply Kd.R_drewN | apply Kd.R_drew)); exact HO146.out))) (Kd.R_lt (by (with_reducible repeat (first | apply Kd.R_alloc | apply Kd.R_drewN | apply Kd.R_drew)); exact HO149.out))) (Kd.R_lt (by (with_reducible repeat (first | apply Kd.R_alloc | apply Kd.R_drewN | apply Kd.R_drew)); exact HO152.out))) (Kd.R_lt (by (with_reducible repeat (first | apply Kd.R_alloc | apply Kd.R_drewN | apply Kd.R_drew)); exact HO155.out))) (Kd.R_lt (by (with_reducible repeat (first | apply Kd.R_alloc | apply Kd.R_drewN | apply Kd.R_drew)); exact HO158.out))) (Kd.R_lt (by (with_reducible repeat (first | apply Kd.R_alloc | apply Kd.R_drewN | apply Kd.R_drew)); exact HO161.out))) (below_size (by repeat (first | (with_reducible first | exact HB.out | apply below_alloc | apply pw_below_drewN | apply below_drew1) | exact HB.out)))); have n12_ := Aside0.mk (below_step (by repeat (first | (with_reducible first | exact HB.out | apply below_alloc | apply pw_below_drewN | apply below_drew1) | exact HB.out)) hb); clear HO131; clear HO134; clear HO137; clear HO140; clear HO143; clear HO146; clear HO149; clear HO152; clear HO155; clear HO158; clear HO161; clear HB; have HO131 := n0_; have HO134 := n1_; have HO137 := n2_; have HO140 := n3_; have HO143 := n4_; have HO146 := n5_; have HO149 := n6_; have HO152 := n7_; have HO155 := n8_; have HO158 := n9_; have HO161 := n10_; have HO164 := n11_; have HB := n12_; clear n0_ n1_ n2_ n3_ n4_ n5_ n6_ n7_ n8_ n9_ n10_ n11_ n12_; clear hb ho35; obtain ⟨Ao36, co36, eo36⟩ := Kd.R_slice HO164.out; subst eo36) | ((with_reducible refine gate_dst (N := 27) rfl ?_); refine Kd.R_lit (Kd.int .i64) _ 3 ?hg (N := 27) ?hd (xs := ([1] : List Int)) (inner := [.int .i64 1]) (ok := fun _ => True) (okp := fun _ => True) ?hr ?hp (fun _ hk => hk) trivial (Below.refl _ _) (Nat.le_refl _) (by simp) ?_; (case hd => rfl); (case hg => rfl); (case hr => first | (go_simp; done) | (go_simp; rfl)); (case hp => exact (Reps.one (show Kd.M (Kd.int .i64) _ _ _ 1 [.int .i64 1] from rfl) (Reps.none _ _))); intro v166 w37 ho38 hb hg_ hnew_; clear hg_ hnew_; (first | rw [← Ny165.out] at ho38 | (simp only [Int.reduceToNat] at ho38; rw [← Ny165.out] at ho38)); have n0_ := Aside0.mk (Kd.R_elder' (by (with_reducible repeat (first | apply Kd.R_alloc | apply Kd.R_drewN | apply Kd.R_drew)); exact HO131.out) (Kd.R_base ho38) hb); have n1_ := Aside0.mk (Kd.R_elder' (by (with_reducible repeat (first | apply Kd.R_alloc | apply Kd.R_drewN | apply Kd.R_drew)); exact HO134.out) (Kd.R_base ho38) hb); have n2_ := Aside0.mk (Kd.R_elder' (by (with_reducible repeat (first | apply Kd.R_alloc | apply Kd.R_drewN | apply Kd.R_drew)); exact HO137.out) (Kd.R_base ho38) hb); have n3_ := Aside0.mk (Kd.R_elder' (by (with_reducible repeat (first | apply Kd.R_alloc | apply Kd.R_drewN | apply Kd.R_drew)); exact HO140.out) (Kd.R_base ho38) hb); have n4_ := Aside0.mk (Kd.R_elder' (by (with_reducible repeat (first | apply Kd.R_alloc | apply Kd.R_drewN | apply Kd.R_drew)); exact HO143.out) (Kd.R_base ho38) hb); have n5_ := Aside0.mk (Kd.R_elder' (by (with_reducible repeat (first | apply Kd.R_alloc | apply Kd.R_drewN | apply Kd.R_drew)); exact HO146.out) (Kd.R_base ho38) hb); have n6_ := Aside0.mk (Kd.R_elder' (by (with_reducible repeat (first | apply Kd.R_alloc | apply Kd.R_drewN | apply Kd.R_drew)); exact HO149.out) (Kd.R_base ho38) hb); have n7_ := Aside0.mk (Kd.R_elder' (by (with_reducible repeat (first | apply Kd.R_alloc | apply Kd.R_drewN | apply Kd.R_drew)); exact HO152.out) (Kd.R_base ho38) hb); have n8_ := Aside0.mk (Kd.R_elder' (by (with_reducible repeat (first | apply Kd.R_alloc | apply Kd.R_drewN | apply Kd.R_drew)); exact HO155.out) (Kd.R_base ho38) hb); have n9_ := Aside0.mk (Kd.R_elder' (by (with_reducible repeat (first | apply Kd.R_alloc | apply Kd.R_drewN | apply Kd.R_drew)); exact HO158.out) (Kd.R_base ho38) hb); have n10_ := Aside0.mk (Kd.R_elder' (by (with_reducible repeat (first | apply Kd.R_alloc | apply Kd.R_drewN | apply Kd.R_drew)); exact HO161.out) (Kd.R_base ho38) hb); have n11_ := Aside0.mk (Kd.R_elder' (by (with_reducible repeat (first | apply Kd.R_alloc | apply Kd.R_drewN | apply Kd.R_drew)); exact HO164.out) (Kd.R_base ho38) hb); have n12_ := Aside0.mk (Kd.R_lower (Kd.R_new' (Kd.R_new' (Kd.R_new' (Kd.R_new' (Kd.R_new' (Kd.R_new' (Kd.R_new' (Kd.R_new' (Kd.R_new' (Kd.R_new' (Kd.R_new' (Kd.R_new' (Kd.R_newM (M := fun k_ => (w.heap.size ≤ k_)) ho38 (below_size (by repeat (first | (with_reducible first | exact HB.out | apply below_alloc | apply pw_below_drewN | apply below_drew1) | exact HB.out))) (fun k_ h_ => h_)) (Kd.R_lt (by (with_reducible repeat (first | apply Kd.R_alloc | apply Kd.R_drewN | apply Kd.R_drew)); exact HO131.out))) (Kd.R_lt (by (with_reducible repeat (first | apply Kd.R_alloc | apply Kd.R_drewN | apply Kd.R_drew)); exact HO134.out))) (Kd.R_lt (by (with_reducible repeat (first | apply Kd.R_alloc | apply Kd.R_drewN | apply Kd.R_drew)); exact HO137.out))) (Kd.R_lt (by (with_reducible repeat (first | apply Kd.R_alloc | apply Kd.R_drewN | apply Kd.R_drew)); exact HO140.out))) (Kd.R_lt (by (with_reducible repeat (first | apply Kd.R_alloc | apply Kd.R_drewN | apply Kd.R_drew)); exact HO143.out))) (Kd.R_lt (by (with_reducible repeat (first | apply Kd.R_alloc | apply Kd.R_drewN | apply Kd.R_drew)); exact HO146.out))) (Kd.R_lt (by (with_reducible repeat (first | apply Kd.R_alloc | apply Kd.R_drewN | apply Kd.R_drew)); exact HO149.out))) (Kd.R_lt (by (with_reducible repeat (first | apply Kd.R_alloc | apply Kd.R_drewN | apply Kd.R_drew)); exact HO152.out))) (Kd.R_lt (by (with_reducible repeat (first | apply Kd.R_alloc | apply Kd.R_drewN | apply Kd.R_drew)); exact HO155.out))) (Kd.R_lt (by (with_reducible repeat (first | apply Kd.R_alloc | apply Kd.R_drewN | apply Kd.R_drew)); exact HO158.out))) (Kd.R_lt (by (with_reducible repeat (first | apply Kd.R_alloc | apply Kd.R_drewN | apply Kd.R_drew)); exact HO161.out))) (Kd.R_lt (by (with_reducible repeat (first | apply Kd.R_alloc | apply Kd.R_drewN | apply Kd.R_drew)); exact HO164.out))) (below_size (by repeat (first | (with_reducible first | exact HB.out | apply below_alloc | apply pw_below_drewN | apply below_drew1) | exact HB.out)))); have n13_ := Aside0.mk (below_step (by repeat (first | (with_reducible first | exact HB.out | apply below_alloc | apply pw_below_drewN | apply below_drew1) | exact HB.out)) hb); clear HO131; clear HO134; clear HO137; clear HO140; clear HO143; clear HO146; clear HO149; clear HO152; clear HO155; clear HO158; clear HO161; clear HO164; clear HB; have HO131 := n0_; have HO134 := n1_; have HO137 := n2_; have HO140 := n3_; have HO143 := n4_; have HO146 := n5_; have HO149 := n6_; have HO152 := n7_; have HO155 := n8_; have HO158 := n9_; have HO161 := n10_; have HO164 := n11_; have HO167 := n12_; have HB := n13_; clear n0_ n1_ n2_ n3_ n4_ n5_ n6_ n7_ n8_ n9_ n10_ n11_ n12_ n13_; clear hb ho38; obtain ⟨Ao39, co39, eo39⟩ := Kd.R_slice HO167.out; subst eo39) | ((with_reducible refine gate_dst (N := 29) rfl ?_); refine Kd.R_lit (Kd.int .i64) _ 3 ?hg (N := 29) ?hd (xs := ([1, 1] : List Int)) (inner := [.int .i64 1, .int .i64 1]) (ok := fun _ => True) (okp := fun _ => True) ?hr ?hp (fun _ hk => hk) trivial (Below.refl _ _) (Nat.le_refl _) (by simp) ?_; (case hd => rfl); (case hg => rfl); (case hr => first | (go_simp; done) | (go_simp; rfl)); (case hp => exact (Reps.one (show Kd.M (Kd.int .i64) _ _ _ 1 [.int .i64 1] from rfl) (Reps.one (show Kd.M (Kd.int .i64) _ _ _ 1 [.int .i64 1] from rfl) (Reps.none _ _)))); intro v169 w40 ho41 hb hg_ hnew_; clear hg_ hnew_; (first | rw [← Ny168.out] at ho41 | (simp only [Int.reduceToNat] at ho41; rw [← Ny168.out] at ho41)); have n0_ := Aside0.mk (Kd.R_elder' (by (with_reducible repeat (first | apply Kd.R_alloc | apply Kd.R_drewN | apply Kd.R_drew)); exact HO131.out) (Kd.R_base ho41) hb); have n1_ := Aside0.mk (Kd.R_elder' (by (with_reducible repeat (first | apply Kd.R_alloc | apply Kd.R_drewN | apply Kd.R_drew)); exact HO134.out) (Kd.R_base ho41) hb); have n2_ := Aside0.mk (Kd.R_elder' (by (with_reducible repeat (first | apply Kd.R_alloc | apply Kd.R_drewN | apply Kd.R_drew)); exact HO137.out) (Kd.R_base ho41) hb); have n3_ := Aside0.mk (Kd.R_elder' (by (with_reducible repeat (first | apply Kd.R_alloc | apply Kd.R_drewN | apply Kd.R_drew)); exact HO140.out) (Kd.R_base ho41) hb); have n4_ := Aside0.mk (Kd.R_elder' (by (with_reducible repeat (first | apply Kd.R_alloc | apply Kd.R_drewN | apply Kd.R_drew)); exact HO143.out) (Kd.R_base ho41) hb); have n5_ := Aside0.mk (Kd.R_elder' (by (with_reducible repeat (first | apply Kd.R_alloc | apply Kd.R_drewN | apply Kd.R_drew)); exact HO146.out) (Kd.R_base ho41) hb); have n6_ := Aside0.mk (Kd.R_elder' (by (with_reducible repeat (first | apply Kd.R_alloc | apply Kd.R_drewN | apply Kd.R_drew)); exact HO149.out) (Kd.R_base ho41) hb); have n7_ := Aside0.mk (Kd.R_elder' (by (with_reducible repeat (first | apply Kd.R_alloc | apply Kd.R_drewN | apply Kd.R_drew)); exact HO152.out) (Kd.R_base ho41) hb); have n8_ := Aside0.mk (Kd.R_elder' (by (with_reducible repeat (first | apply Kd.R_alloc | apply Kd.R_drewN | apply Kd.R_drew)); exact HO155.out) (Kd.R_base ho41) hb); have n9_ := Aside0.mk (Kd.R_elder' (by (with_reducible repeat (first | apply Kd.R_alloc | apply Kd.R_drewN | apply Kd.R_drew)); exact HO158.out) (Kd.R_base ho41) hb); have n10_ := Aside0.mk (Kd.R_elder' (by (with_reducible repeat (first | apply Kd.R_alloc | apply Kd.R_drewN | apply Kd.R_drew)); exact HO161.out) (Kd.R_base ho41) hb); have n11_ := Aside0.mk (Kd.R_elder' (by (with_reducible repeat (first | apply Kd.R_alloc | apply Kd.R_drewN | apply Kd.R_drew)); exact HO164.out) (Kd.R_base ho41) hb); have n12_ := Aside0.mk (Kd.R_elder' (by (with_reducible repeat (first | apply Kd.R_alloc | apply Kd.R_drewN | apply Kd.R_drew)); exact HO167.out) (Kd.R_base ho41) hb); have n13_ := Aside0.mk (Kd.R_lower (Kd.R_new' (Kd.R_new' (Kd.R_new' (Kd.R_new' (Kd.R_new' (Kd.R_new' (Kd.R_new' (Kd.R_new' (Kd.R_new' (Kd.R_new' (Kd.R_new' (Kd.R_new' (Kd.R_new' (Kd.R_newM (M := fun k_ => (w.heap.size ≤ k_)) ho41 (below_size (by repeat (first | (with_reducible first | exact HB.out | apply below_alloc | apply pw_below_drewN | apply below_drew1) | exact HB.out))) (fun k_ h_ => h_)) (Kd.R_lt (by (with_reducible repeat (first | apply Kd.R_alloc | apply Kd.R_drewN | apply Kd.R_drew)); exact HO131.out))) (Kd.R_lt (by (with_reducible repeat (first | apply Kd.R_alloc | apply Kd.R_drewN | apply Kd.R_drew)); exact HO134.out))) (Kd.R_lt (by (with_reducible repeat (first | apply Kd.R_alloc | apply Kd.R_drewN | apply Kd.R_drew)); exact HO137.out))) (Kd.R_lt (by (with_reducible repeat (first | apply Kd.R_alloc | apply Kd.R_drewN | apply Kd.R_drew)); exact HO140.out))) (Kd.R_lt (by (with_reducible repeat (first | apply Kd.R_alloc | apply Kd.R_drewN | apply Kd.R_drew)); exact HO143.out))) (Kd.R_lt (by (with_reducible repeat (first | apply Kd.R_alloc | apply Kd.R_drewN | apply Kd.R_drew)); exact HO146.out))) (Kd.R_lt (by (with_reducible repeat (first | apply Kd.R_alloc | apply Kd.R_drewN | apply Kd.R_drew)); exact HO149.out))) (Kd.R_lt (by (with_reducible repeat (first | apply Kd.R_alloc | apply Kd.R_drewN | apply Kd.R_drew)); exact HO152.out))) (Kd.R_lt (by (with_reducible repeat (first | apply Kd.R_alloc | apply Kd.R_drewN | apply Kd.R_drew)); exact HO155.out))) (Kd.R_lt (by (with_reducible repeat (first | apply Kd.R_alloc | apply Kd.R_drewN | apply Kd.R_drew)); exact HO158.out))) (Kd.R_lt (by (with_reducible repeat (first | apply Kd.R_alloc | apply Kd.R_drewN | apply Kd.R_drew)); exact HO161.out))) (Kd.R_lt (by (with_reducible repeat (first | apply Kd.R_alloc | apply Kd.R_drewN | apply Kd.R_drew)); exact HO164.out))) (Kd.R_lt (by (with_reducible repeat (first | apply Kd.R_alloc | apply Kd.R_drewN | apply Kd.R_drew)); exact HO167.out))) (below_size (by repeat (first | (with_reducible first | exact HB.out | apply below_alloc | apply pw_below_drewN | apply below_drew1) | exact HB.out)))); have n14_ := Aside0.mk (below_step (by repeat (first | (with_reducible first | exact HB.out | apply below_alloc | apply pw_below_drewN | apply below_drew1) | exact HB.out)) hb); clear HO131; clear HO134; clear HO137; clear HO140; clear HO143; clear HO146; clear HO149; clear HO152; clear HO155; clear HO158; clear HO161; clear HO164; clear HO167; clear HB; have HO131 := n0_; have HO134 := n1_; have HO137 := n2_; have HO140 := n3_; have HO143 := n4_; have HO146 := n5_; have HO149 := n6_; have HO152 := n7_; have HO155 := n8_; have HO158 := n9_; have HO161 := n10_; have HO164 := n11_; have HO167 := n12_; have HO170 := n13_; have HB := n14_; clear n0_ n1_ n2_ n3_ n4_ n5_ n6_ n7_ n8_ n9_ n10_ n11_ n12_ n13_ n14_; clear hb ho41; obtain ⟨Ao42, co42, eo42⟩ := Kd.R_slice HO170.out; subst eo42) | ((with_reducible refine gate_dst (N := 31) rfl ?_); refine Kd.N_lit kSys _ 119 ?hg (N' := 31) ?hd (xs := ([(⟨(⟨#[115, 112, 97, 119, 110]⟩ : ByteArray), y129, 4⟩ : SSys), (⟨(⟨#[107, 105, 108, 108]⟩ : ByteArray), y132, 0⟩ : SSys), (⟨(⟨#[97, 108, 105, 118, 101]⟩ : ByteArray), y135, 3⟩ : SSys), (⟨(⟨#[103, 101, 116, 120]⟩ : ByteArray), y138, 2⟩ : SSys), (⟨(⟨#[103, 101, 116, 121]⟩ : ByteArray), y141, 2⟩ : SSys), (⟨(⟨#[112, 108, 97, 99, 101]⟩ : ByteArray), y144, 3⟩ : SSys), (⟨(⟨#[112, 117, 115, 104]⟩ : ByteArray), y147, 0⟩ : SSys), (⟨(⟨#[115, 105, 122, 101]⟩ : ByteArray), y150, 0⟩ : SSys), (⟨(⟨#[116, 97, 103]⟩ : ByteArray), y153, 1⟩ : SSys), (⟨(⟨#[109, 97, 114, 107]⟩ : ByteArray), y156, 0⟩ : SSys), (⟨(⟨#[111, 119, 110, 101, 114]⟩ : ByteArray), y159, 1⟩ : SSys), (⟨(⟨#[99, 111, 117, 110, 116]⟩ : ByteArray), ([] : List Int), 1⟩ : SSys), (⟨(⟨#[110, 116, 104]⟩ : ByteArray), y162, 4⟩ : SSys), (⟨(⟨#[110, 111, 119]⟩ : ByteArray), ([] : List Int), 1⟩ : SSys), (⟨(⟨#[114, 97, 110, 100, 111, 109]⟩ : ByteArray), y165, 1⟩ : SSys), (⟨(⟨#[115, 99, 111, 114, 101]⟩ : ByteArray), y168, 0⟩ : SSys)] : List (SSys))) (inner := [.string (⟨#[115, 112, 97, 119, 110]⟩ : ByteArray), .slice Ao3 y129.length co3, .int .i64 4, .string (⟨#[107, 105, 108, 108]⟩ : ByteArray), .slice Ao6 y132.length co6, .int .i64 0, .string (⟨#[97, 108, 105, 118, 101]⟩ : ByteArray), .slice Ao9 y135.length co9, .int .i64 3, .string (⟨#[103, 101, 116, 120]⟩ : ByteArray), .slice Ao12 y138.length co12, .int .i64 2, .string (⟨#[103, 101, 116, 121]⟩ : ByteArray), .slice Ao15 y141.length co15, .int .i64 2, .string (⟨#[112, 108, 97, 99, 101]⟩ : ByteArray), .slice Ao18 y144.length co18, .int .i64 3, .string (⟨#[112, 117, 115, 104]⟩ : ByteArray), .slice Ao21 y147.length co21, .int .i64 0, .string (⟨#[115, 105, 122, 101]⟩ : ByteArray), .slice Ao24 y150.length co24, .int .i64 0, .string (⟨#[116, 97, 103]⟩ : ByteArray), .slice Ao27 y153.length co27, .int .i64 1, .string (⟨#[109, 97, 114, 107]⟩ : ByteArray), .slice Ao30 y156.length co30, .int .i64 0, .string (⟨#[111, 119, 110, 101, 114]⟩ : ByteArray), .slice Ao33 y159.length co33, .int .i64 1, .string (⟨#[99, 111, 117, 110, 116]⟩ : ByteArray), .slice none 0 0, .int .i64 1, .string (⟨#[110, 116, 104]⟩ : ByteArray), .slice Ao36 y162.length co36, .int .i64 4, .string (⟨#[110, 111, 119]⟩ : ByteArray), .slice none 0 0, .int .i64 1, .string (⟨#[114, 97, 110, 100, 111, 109]⟩ : ByteArray), .slice Ao39 y165.length co39, .int .i64 1, .string (⟨#[115, 99, 111, 114, 101]⟩ : ByteArray), .slice Ao42 y168.length co42, .int .i64 0]) (ok := (fun k_ => (w.heap.size ≤ k_))) (okp := (fun k_ => (w.heap.size ≤ k_))) ?hr ?hp (fun _ hk => hk) ((show ∀ k_, w40.heap.size ≤ k_ → (fun k_ => (w.heap.size ≤ k_)) k_ from fun k_ hk => (Nat.le_trans (below_size (by repeat (first | (with_reducible first | exact HB.out | apply below_alloc | apply pw_below_drewN | apply below_drew1) | exact HB.out))) hk)) _ (Nat.le_refl _)) (Below.refl _ _) (Nat.le_refl _) (by simp) ?_; (case hd => rfl); (case hg => rfl); (case hr => first | (go_simp; done) | (go_simp; rfl)); (case hp => exact (Reps.c3 (show Kd.FK kSys _ _ (⟨(⟨#[115, 112, 97, 119, 110]⟩ : ByteArray), y129, 4⟩ : SSys) [.string (⟨#[115, 112, 97, 119, 110]⟩ : ByteArray), .slice Ao3 y129.length co3, .int .i64 4] from (kSys_mkF _ _ (⟨(⟨#[115, 112, 97, 119, 110]⟩ : ByteArray), y129, 4⟩ : SSys) (Kd.R_reads' (Kd.R_mono (ok' := (fun k_ => (w.heap.size ≤ k_))) (HO131.out) (fun k_ hk => hk.1.1.1.1.1.1.1.1.1.1.1.1.1.1))).2.1 (Kd.R_F (Kd.R_mono (ok' := (fun k_ => (w.heap.size ≤ k_))) (HO131.out) (fun k_ hk => hk.1.1.1.1.1.1.1.1.1.1.1.1.1.1))))) (Reps.c3 (show Kd.FK kSys _ _ (⟨(⟨#[107, 105, 108, 108]⟩ : ByteArray), y132, 0⟩ : SSys) [.string (⟨#[107, 105, 108, 108]⟩ : ByteArray), .slice Ao6 y132.length co6, .int .i64 0] from (kSys_mkF _ _ (⟨(⟨#[107, 105, 108, 108]⟩ : ByteArray), y132, 0⟩ : SSys) (Kd.R_reads' (Kd.R_mono (ok' := (fun k_ => (w.heap.size ≤ k_))) (HO134.out) (fun k_ hk => hk.1.1.1.1.1.1.1.1.1.1.1.1.1.1))).2.1 (Kd.R_F (Kd.R_mono (ok' := (fun k_ => (w.heap.size ≤ k_))) (HO134.out) (fun k_ hk => hk.1.1.1.1.1.1.1.1.1.1.1.1.1.1))))) (Reps.c3 (show Kd.FK kSys _ _ (⟨(⟨#[97, 108, 105, 118, 101]⟩ : ByteArray), y135, 3⟩ : SSys) [.string (⟨#[97, 108, 105, 118, 101]⟩ : ByteArray), .slice Ao9 y135.length co9, .int .i64 3] from (kSys_mkF _ _ (⟨(⟨#[97, 108, 105, 118, 101]⟩ : ByteArray), y135, 3⟩ : SSys) (Kd.R_reads' (Kd.R_mono (ok' := (fun k_ => (w.heap.size ≤ k_))) (HO137.out) (fun k_ hk => hk.1.1.1.1.1.1.1.1.1.1.1.1.1.1))).2.1 (Kd.R_F (Kd.R_mono (ok' := (fun k_ => (w.heap.size ≤ k_))) (HO137.out) (fun k_ hk => hk.1.1.1.1.1.1.1.1.1.1.1.1.1.1))))) (Reps.c3 (show Kd.FK kSys _ _ (⟨(⟨#[103, 101, 116, 120]⟩ : ByteArray), y138, 2⟩ : SSys) [.string (⟨#[103, 101, 116, 120]⟩ : ByteArray), .slice Ao12 y138.length co12, .int .i64 2] from (kSys_mkF _ _ (⟨(⟨#[103, 101, 116, 120]⟩ : ByteArray), y138, 2⟩ : SSys) (Kd.R_reads' (Kd.R_mono (ok' := (fun k_ => (w.heap.size ≤ k_))) (HO140.out) (fun k_ hk => hk.1.1.1.1.1.1.1.1.1.1.1.1.1.1))).2.1 (Kd.R_F (Kd.R_mono (ok' := (fun k_ => (w.heap.size ≤ k_))) (HO140.out) (fun k_ hk => hk.1.1.1.1.1.1.1.1.1.1.1.1.1.1))))) (Reps.c3 (show Kd.FK kSys _ _ (⟨(⟨#[103, 101, 116, 121]⟩ : ByteArray), y141, 2⟩ : SSys) [.string (⟨#[103, 101, 116, 121]⟩ : ByteArray), .slice Ao15 y141.length co15, .int .i64 2] from (kSys_mkF _ _ (⟨(⟨#[103, 101, 116, 121]⟩ : ByteArray), y141, 2⟩ : SSys) (Kd.R_reads' (Kd.R_mono (ok' := (fun k_ => (w.heap.size ≤ k_))) (HO143.out) (fun k_ hk => hk.1.1.1.1.1.1.1.1.1.1.1.1.1.1))).2.1 (Kd.R_F (Kd.R_mono (ok' := (fun k_ => (w.heap.size ≤ k_))) (HO143.out) (fun k_ hk => hk.1.1.1.1.1.1.1.1.1.1.1.1.1.1))))) (Reps.c3 (show Kd.FK kSys _ _ (⟨(⟨#[112, 108, 97, 99, 101]⟩ : ByteArray), y144, 3⟩ : SSys) [.string (⟨#[112, 108, 97, 99, 101]⟩ : ByteArray), .slice Ao18 y144.length co18, .int .i64 3] from (kSys_mkF _ _ (⟨(⟨#[112, 108, 97, 99, 101]⟩ : ByteArray), y144, 3⟩ : SSys) (Kd.R_reads' (Kd.R_mono (ok' := (fun k_ => (w.heap.size ≤ k_))) (HO146.out) (fun k_ hk => hk.1.1.1.1.1.1.1.1.1.1.1.1.1.1))).2.1 (Kd.R_F (Kd.R_mono (ok' := (fun k_ => (w.heap.size ≤ k_))) (HO146.out) (fun k_ hk => hk.1.1.1.1.1.1.1.1.1.1.1.1.1.1))))) (Reps.c3 (show Kd.FK kSys _ _ (⟨(⟨#[112, 117, 115, 104]⟩ : ByteArray), y147, 0⟩ : SSys) [.string (⟨#[112, 117, 115, 104]⟩ : ByteArray), .slice Ao21 y147.length co21, .int .i64 0] from (kSys_mkF _ _ (⟨(⟨#[112, 117, 115, 104]⟩ : ByteArray), y147, 0⟩ : SSys) (Kd.R_reads' (Kd.R_mono (ok' := (fun k_ => (w.heap.size ≤ k_))) (HO149.out) (fun k_ hk => hk.1.1.1.1.1.1.1.1.1.1.1.1.1.1))).2.1 (Kd.R_F (Kd.R_mono (ok' := (fun k_ => (w.heap.size ≤ k_))) (HO149.out) (fun k_ hk => hk.1.1.1.1.1.1.1.1.1.1.1.1.1.1))))) (Reps.c3 (show Kd.FK kSys _ _ (⟨(⟨#[115, 105, 122, 101]⟩ : ByteArray), y150, 0⟩ : SSys) [.string (⟨#[115, 105, 122, 101]⟩ : ByteArray), .slice Ao24 y150.length co24, .int .i64 0] from (kSys_mkF _ _ (⟨(⟨#[115, 105, 122, 101]⟩ : ByteArray), y150, 0⟩ : SSys) (Kd.R_reads' (Kd.R_mono (ok' := (fun k_ => (w.heap.size ≤ k_))) (HO152.out) (fun k_ hk => hk.1.1.1.1.1.1.1.1.1.1.1.1.1.1))).2.1 (Kd.R_F (Kd.R_mono (ok' := (fun k_ => (w.heap.size ≤ k_))) (HO152.out) (fun k_ hk => hk.1.1.1.1.1.1.1.1.1.1.1.1.1.1))))) (Reps.c3 (show Kd.FK kSys _ _ (⟨(⟨#[116, 97, 103]⟩ : ByteArray), y153, 1⟩ : SSys) [.string (⟨#[116, 97, 103]⟩ : ByteArray), .slice Ao27 y153.length co27, .int .i64 1] from (kSys_mkF _ _ (⟨(⟨#[116, 97, 103]⟩ : ByteArray), y153, 1⟩ : SSys) (Kd.R_reads' (Kd.R_mono (ok' := (fun k_ => (w.heap.size ≤ k_))) (HO155.out) (fun k_ hk => hk.1.1.1.1.1.1.1.1.1.1.1.1.1.1))).2.1 (Kd.R_F (Kd.R_mono (ok' := (fun k_ => (w.heap.size ≤ k_))) (HO155.out) (fun k_ hk => hk.1.1.1.1.1.1.1.1.1.1.1.1.1.1))))) (Reps.c3 (show Kd.FK kSys _ _ (⟨(⟨#[109, 97, 114, 107]⟩ : ByteArray), y156, 0⟩ : SSys) [.string (⟨#[109, 97, 114, 107]⟩ : ByteArray), .slice Ao30 y156.length co30, .int .i64 0] from (kSys_mkF _ _ (⟨(⟨#[109, 97, 114, 107]⟩ : ByteArray), y156, 0⟩ : SSys) (Kd.R_reads' (Kd.R_mono (ok' := (fun k_ => (w.heap.size ≤ k_))) (HO158.out) (fun k_ hk => hk.1.1.1.1.1.1.1.1.1.1.1.1.1.1))).2.1 (Kd.R_F (Kd.R_mono (ok' := (fun k_ => (w.heap.size ≤ k_))) (HO158.out) (fun k_ hk => hk.1.1.1.1.1.1.1.1.1.1.1.1.1.1))))) (Reps.c3 (show Kd.FK kSys _ _ (⟨(⟨#[111, 119, 110, 101, 114]⟩ : ByteArray), y159, 1⟩ : SSys) [.string (⟨#[111, 119, 110, 101, 114]⟩ : ByteArray), .slice Ao33 y159.length co33, .int .i64 1] from (kSys_mkF _ _ (⟨(⟨#[111, 119, 110, 101, 114]⟩ : ByteArray), y159, 1⟩ : SSys) (Kd.R_reads' (Kd.R_mono (ok' := (fun k_ => (w.heap.size ≤ k_))) (HO161.out) (fun k_ hk => hk.1.1.1.1.1.1.1.1.1.1.1.1.1.1))).2.1 (Kd.R_F (Kd.R_mono (ok' := (fun k_ => (w.heap.size ≤ k_))) (HO161.out) (fun k_ hk => hk.1.1.1.1.1.1.1.1.1.1.1.1.1.1))))) (Reps.c3 (show Kd.FK kSys _ _ (⟨(⟨#[99, 111, 117, 110, 116]⟩ : ByteArray), ([] : List Int), 1⟩ : SSys) [.string (⟨#[99, 111, 117, 110, 116]⟩ : ByteArray), .slice none 0 0, .int .i64 1] from (kSys_mkF _ _ (⟨(⟨#[99, 111, 117, 110, 116]⟩ : ByteArray), ([] : List Int), 1⟩ : SSys) (Nat.le_refl _) (Kd.F_nil _ _ _))) (Reps.c3 (show Kd.FK kSys _ _ (⟨(⟨#[110, 116, 104]⟩ : ByteArray), y162, 4⟩ : SSys) [.string (⟨#[110, 116, 104]⟩ : ByteArray), .slice Ao36 y162.length co36, .int .i64 4] from (kSys_mkF _ _ (⟨(⟨#[110, 116, 104]⟩ : ByteArray), y162, 4⟩ : SSys) (Kd.R_reads' (Kd.R_mono (ok' := (fun k_ => (w.heap.size ≤ k_))) (HO164.out) (fun k_ hk => hk.1.1.1.1.1.1.1.1.1.1.1.1.1.1))).2.1 (Kd.R_F (Kd.R_mono (ok' := (fun k_ => (w.heap.size ≤ k_))) (HO164.out) (fun k_ hk => hk.1.1.1.1.1.1.1.1.1.1.1.1.1.1))))) (Reps.c3 (show Kd.FK kSys _ _ (⟨(⟨#[110, 111, 119]⟩ : ByteArray), ([] : List Int), 1⟩ : SSys) [.string (⟨#[110, 111, 119]⟩ : ByteArray), .slice none 0 0, .int .i64 1] from (kSys_mkF _ _ (⟨(⟨#[110, 111, 119]⟩ : ByteArray), ([] : List Int), 1⟩ : SSys) (Nat.le_refl _) (Kd.F_nil _ _ _))) (Reps.c3 (show Kd.FK kSys _ _ (⟨(⟨#[114, 97, 110, 100, 111, 109]⟩ : ByteArray), y165, 1⟩ : SSys) [.string (⟨#[114, 97, 110, 100, 111, 109]⟩ : ByteArray), .slice Ao39 y165.length co39, .int .i64 1] from (kSys_mkF _ _ (⟨(⟨#[114, 97, 110, 100, 111, 109]⟩ : ByteArray), y165, 1⟩ : SSys) (Kd.R_reads' (Kd.R_mono (ok' := (fun k_ => (w.heap.size ≤ k_))) (HO167.out) (fun k_ hk => hk.1.1.1.1.1.1.1.1.1.1.1.1.1.1))).2.1 (Kd.R_F (Kd.R_mono (ok' := (fun k_ => (w.heap.size ≤ k_))) (HO167.out) (fun k_ hk => hk.1.1.1.1.1.1.1.1.1.1.1.1.1.1))))) (Reps.c3 (show Kd.FK kSys _ _ (⟨(⟨#[115, 99, 111, 114, 101]⟩ : ByteArray), y168, 0⟩ : SSys) [.string (⟨#[115, 99, 111, 114, 101]⟩ : ByteArray), .slice Ao42 y168.length co42, .int .i64 0] from (kSys_mkF _ _ (⟨(⟨#[115, 99, 111, 114, 101]⟩ : ByteArray), y168, 0⟩ : SSys) (Kd.R_reads' (Kd.R_mono (ok' := (fun k_ => (w.heap.size ≤ k_))) (HO170.out) (fun k_ hk => hk.1.1.1.1.1.1.1.1.1.1.1.1.1.1))).2.1 (Kd.R_F (Kd.R_mono (ok' := (fun k_ => (w.heap.size ≤ k_))) (HO170.out) (fun k_ hk => hk.1.1.1.1.1.1.1.1.1.1.1.1.1.1))))) (Reps.none _ _)))))))))))))))))); intro v172 w43 ho44 hb hg_ hnew_; clear hg_ hnew_; (first | rw [← Ny171.out] at ho44 | (simp only [Int.reduceToNat] at ho44; rw [← Ny171.out] at ho44)); have n0_ := Aside0.mk (Kd.N_lower ho44 (below_size (by repeat (first | (with_reducible first | exact HB.out | apply below_alloc | apply pw_below_drewN | apply below_drew1) | exact HB.out)))); have n1_ := Aside0.mk (below_step (by repeat (first | (with_reducible first | exact HB.out | apply below_alloc | apply pw_below_drewN | apply below_drew1) | exact HB.out)) hb); clear HB; clear HO131; clear HO134; clear HO137; clear HO140; clear HO143; clear HO146; clear HO149; clear HO152; clear HO155; clear HO158; clear HO161; clear HO164; clear HO167; clear HO170; have HO173 := n0_; have HB := n1_; clear n0_ n1_; clear hb ho44))
 go_ret
 exact ⟨_, by first | rfl | (simp [errW_none, errW_some] <;> rfl) | (simp [*, errW_none, errW_some] <;> rfl), by (with_reducible repeat (first | apply Kd.N_alloc | apply Kd.N_drewN | apply Kd.N_drew)); exact HO173.out, by repeat (first | (with_reducible first | exact HB.out | apply below_alloc | apply pw_below_drewN | apply below_drew1) | exact HB.out)⟩
end Go.Proofs.YtedmncldelcbfaaGreatDoor.E
