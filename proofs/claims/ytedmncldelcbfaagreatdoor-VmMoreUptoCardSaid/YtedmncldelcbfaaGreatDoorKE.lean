import Derived.Test.YtedmncldelcbfaaGreatDoorKD
import Derived.OrdersHeld
/- The ways of the machine loop: no statement of its own. -/
namespace Go.Proofs.YtedmncldelcbfaaGreatDoor.E
open Go Go.RowKit Go.Proofs.YtedmncldelcbfaaGreatDoorW.PrintWords Go.Proofs.YtedmncldelcbfaaGreatDoorW.PrintLast Go.Proofs.YtedmncldelcbfaaGreatDoorW.PrintMore
set_option linter.unusedVariables false
set_option linter.unusedSimpArgs false
set_option linter.unusedSectionVars false
set_option maxRecDepth 1000000
set_option maxHeartbeats 8000000
def firstBlock : Code → Option Code
 | .block l c => some (.block l c)
 | .seq a b => match firstBlock a with
  | some c => some c
  | none => firstBlock b
 | .scope c => firstBlock c
 | _ => none
noncomputable def swC : Code := ((Tryz.f54.body.bind firstBlock).getD .skip)
/-- the loop's frames: what slots hold -/
def FR2 (g : Nat) (t : Int) (us : Nat → Value) : Act := ⟨#[.pointer (some ⟨g, 0, none⟩), us 1, .int .i64 t, us 3, us 4, us 5, us 6, us 7, us 8, us 9, us 10, us 11, us 12, us 13, us 14, us 15, us 16, us 17, us 18, us 19, us 20, us 21, us 22, us 23, us 24, us 25, us 26, us 27, us 28, us 29, us 30, us 31, us 32, us 33, us 34, us 35, us 36, us 37, us 38, us 39, us 40, us 41, us 42, us 43, us 44, us 45, us 46, us 47, us 48, us 49, us 50, us 51, us 52, us 53, us 54, us 55, us 56, us 57, us 58, us 59, us 60, us 61, us 62, us 63, us 64, us 65, us 66, us 67, us 68, us 69, us 70, us 71, us 72, us 73, us 74, us 75, us 76, us 77, us 78, us 79, us 80, us 81, us 82, us 83, us 84, us 85, us 86, us 87, us 88, us 89, us 90, us 91, us 92, us 93, us 94, us 95, us 96, us 97, us 98, us 99, us 100, us 101, us 102, us 103, us 104, us 105, us 106, us 107, us 108, us 109, us 110, us 111, us 112, us 113, us 114, us 115, us 116, us 117, us 118, us 119, us 120, us 121, us 122, us 123, us 124, us 125, us 126, us 127, us 128, us 129, us 130, us 131, us 132, us 133, us 134, us 135, us 136, us 137, us 138, us 139, us 140, us 141, us 142, us 143, us 144, us 145, us 146, us 147, us 148, us 149, us 150, us 151, us 152, us 153, us 154, us 155, us 156, us 157, us 158, us 159, us 160, us 161, us 162, us 163, us 164, us 165, us 166, us 167, us 168, us 169, us 170, us 171, us 172, us 173, us 174, us 175, us 176, us 177, us 178, us 179, us 180, us 181, us 182, us 183, us 184, us 185, us 186, us 187, us 188, us 189], []⟩
def FR3 (g FB n : Nat) (us : Nat → Value) : Act := ⟨#[.pointer (some ⟨g, 0, none⟩), us 1, .int .i64 0, .pointer (some ⟨FB, n * 4, none⟩), us 4, us 5, us 6, us 7, us 8, us 9, us 10, us 11, us 12, us 13, us 14, us 15, us 16, us 17, us 18, us 19, us 20, us 21, us 22, us 23, us 24, us 25, us 26, us 27, us 28, us 29, us 30, us 31, us 32, us 33, us 34, us 35, us 36, us 37, us 38, us 39, us 40, us 41, us 42, us 43, us 44, us 45, us 46, us 47, us 48, us 49, us 50, us 51, us 52, us 53, us 54, us 55, us 56, us 57, us 58, us 59, us 60, us 61, us 62, us 63, us 64, us 65, us 66, us 67, us 68, us 69, us 70, us 71, us 72, us 73, us 74, us 75, us 76, us 77, us 78, us 79, us 80, us 81, us 82, us 83, us 84, us 85, us 86, us 87, us 88, us 89, us 90, us 91, us 92, us 93, us 94, us 95, us 96, us 97, us 98, us 99, us 100, us 101, us 102, us 103, us 104, us 105, us 106, us 107, us 108, us 109, us 110, us 111, us 112, us 113, us 114, us 115, us 116, us 117, us 118, us 119, us 120, us 121, us 122, us 123, us 124, us 125, us 126, us 127, us 128, us 129, us 130, us 131, us 132, us 133, us 134, us 135, us 136, us 137, us 138, us 139, us 140, us 141, us 142, us 143, us 144, us 145, us 146, us 147, us 148, us 149, us 150, us 151, us 152, us 153, us 154, us 155, us 156, us 157, us 158, us 159, us 160, us 161, us 162, us 163, us 164, us 165, us 166, us 167, us 168, us 169, us 170, us 171, us 172, us 173, us 174, us 175, us 176, us 177, us 178, us 179, us 180, us 181, us 182, us 183, us 184, us 185, us 186, us 187, us 188, us 189], []⟩
def FR4 (g FB n ib : Nat) (us : Nat → Value) : Act := ⟨#[.pointer (some ⟨g, 0, none⟩), us 1, .int .i64 0, .pointer (some ⟨FB, n * 4, none⟩), .pointer (some ⟨ib, 0, none⟩), us 5, us 6, us 7, us 8, us 9, us 10, us 11, us 12, us 13, us 14, us 15, us 16, us 17, us 18, us 19, us 20, us 21, us 22, us 23, us 24, us 25, us 26, us 27, us 28, us 29, us 30, us 31, us 32, us 33, us 34, us 35, us 36, us 37, us 38, us 39, us 40, us 41, us 42, us 43, us 44, us 45, us 46, us 47, us 48, us 49, us 50, us 51, us 52, us 53, us 54, us 55, us 56, us 57, us 58, us 59, us 60, us 61, us 62, us 63, us 64, us 65, us 66, us 67, us 68, us 69, us 70, us 71, us 72, us 73, us 74, us 75, us 76, us 77, us 78, us 79, us 80, us 81, us 82, us 83, us 84, us 85, us 86, us 87, us 88, us 89, us 90, us 91, us 92, us 93, us 94, us 95, us 96, us 97, us 98, us 99, us 100, us 101, us 102, us 103, us 104, us 105, us 106, us 107, us 108, us 109, us 110, us 111, us 112, us 113, us 114, us 115, us 116, us 117, us 118, us 119, us 120, us 121, us 122, us 123, us 124, us 125, us 126, us 127, us 128, us 129, us 130, us 131, us 132, us 133, us 134, us 135, us 136, us 137, us 138, us 139, us 140, us 141, us 142, us 143, us 144, us 145, us 146, us 147, us 148, us 149, us 150, us 151, us 152, us 153, us 154, us 155, us 156, us 157, us 158, us 159, us 160, us 161, us 162, us 163, us 164, us 165, us 166, us 167, us 168, us 169, us 170, us 171, us 172, us 173, us 174, us 175, us 176, us 177, us 178, us 179, us 180, us 181, us 182, us 183, us 184, us 185, us 186, us 187, us 188, us 189], []⟩
def FR5 (g FB n ib : Nat) (op : Int) (us : Nat → Value) : Act := ⟨#[.pointer (some ⟨g, 0, none⟩), us 1, .int .i64 0, .pointer (some ⟨FB, n * 4, none⟩), .pointer (some ⟨ib, 0, none⟩), us 5, us 6, us 7, us 8, us 9, us 10, us 11, us 12, us 13, us 14, us 15, us 16, us 17, us 18, us 19, us 20, us 21, us 22, us 23, us 24, us 25, us 26, us 27, us 28, us 29, us 30, us 31, us 32, us 33, us 34, us 35, us 36, us 37, us 38, us 39, us 40, us 41, us 42, us 43, us 44, us 45, us 46, us 47, us 48, us 49, us 50, us 51, us 52, .int .i64 op, us 54, us 55, us 56, us 57, us 58, us 59, us 60, us 61, us 62, us 63, us 64, us 65, us 66, us 67, us 68, us 69, us 70, us 71, us 72, us 73, us 74, us 75, us 76, us 77, us 78, us 79, us 80, us 81, us 82, us 83, us 84, us 85, us 86, us 87, us 88, us 89, us 90, us 91, us 92, us 93, us 94, us 95, us 96, us 97, us 98, us 99, us 100, us 101, us 102, us 103, us 104, us 105, us 106, us 107, us 108, us 109, us 110, us 111, us 112, us 113, us 114, us 115, us 116, us 117, us 118, us 119, us 120, us 121, us 122, us 123, us 124, us 125, us 126, us 127, us 128, us 129, us 130, us 131, us 132, us 133, us 134, us 135, us 136, us 137, us 138, us 139, us 140, us 141, us 142, us 143, us 144, us 145, us 146, us 147, us 148, us 149, us 150, us 151, us 152, us 153, us 154, us 155, us 156, us 157, us 158, us 159, us 160, us 161, us 162, us 163, us 164, us 165, us 166, us 167, us 168, us 169, us 170, us 171, us 172, us 173, us 174, us 175, us 176, us 177, us 178, us 179, us 180, us 181, us 182, us 183, us 184, us 185, us 186, us 187, us 188, us 189], []⟩
/-- the loop's frame, its trap's number in slot 2 -/
def LF (g : Nat) (t : Int) (R : World → Prop) (a : Act) (w : World) : Prop := ∃ us : Nat → Value, a = FR2 g t us ∧ R w
theorem LF_of (g : Nat) (t : Int) (R : World → Prop) (tm : Array Value) (w : World) (h : tm = (FR2 g t (fun i => tm.getD i undef)).tmps) (hr : R w) : LF g t R ⟨tm, []⟩ w := ⟨fun i => tm.getD i undef, congrArg (fun t => (⟨t, []⟩ : Act)) h, hr⟩
/-- an instruction's block -/
theorem box3 {W : World} {ib : Nat} {a c d : Value} {t : TypeId} (h : W.heap[ib]? = some (.cells #[a, c, d] t (0, 0))) : W.cell? ⟨ib, 0, none⟩ = some a ∧ W.cell? ⟨ib, 1, none⟩ = some c ∧ W.cell? ⟨ib, 2, none⟩ = some d ∧ ib < W.heap.size :=
 have k (i : Nat) : W.cell? ⟨ib, i, none⟩ = #[a, c, d][i]? := blk_cell h i
 ⟨k 0, k 1, k 2, blk_lt h⟩
theorem RUN.apart {B mb fb : Nat} {W : World} {g : Nat} {f : Nat → Nat} {vS vF vK vA : Value} {s : SRun} (h : RUN B mb fb W g f vS vF vK vA s) {ib : Nat} {a c d : Value} {t : TypeId} {z : Nat × Nat} (hb : W.heap[ib]? = some (.cells #[a, c, d] t z)) : ¬ ib = g := fun e => by
 have h1 := h.blk
 rw [← e, hb] at h1
 injection h1 with h1
 injection h1 with h1 _ _
 exact absurd (congrArg Array.size h1) (by show ¬ 3 = 10; decide)
theorem cut_lens {s : SRun} (hs : 1 < s.stack.length) (hl : s.stack.length ≤ 1073741824) : 0 < (s.cut 1).stack.length ∧ (s.cut 1).stack.length ≤ 1073741824 ∧ ((s.cut 1).cut 1).stack.length ≤ 1073741824 := by
 simp only [SRun.cut, List.length_take]
 omega
theorem rpop_y {B mb fb g : Nat} {W : World} {f : Nat → Nat} {vS vF vK vA : Value} {s : SRun} (h : RUN B mb fb W g f vS vF vK vA s) (hn : 0 < s.stack.length) (hl : s.stack.length ≤ 1073741824) {ib : Nat} {v : Value} (hib : ¬ ib = g) (hx : W.cell? ⟨ib, 0, none⟩ = some v) :
  Calls Tryz.prog 82 #[.pointer (some ⟨g, 0, none⟩)] W fun e w' => ∃ vK', e = .returned (.int .i64 s.last) ∧ RUN B mb fb w' g f vS vF vK' vA (s.cut 1) ∧ Stp g W f w' f ∧ w'.cell? ⟨ib, 0, none⟩ = some v :=
 (rpop_x h hn hl).mono fun e w' ⟨h1, vK', h2, h3, h4⟩ => by
  subst h2
  exact ⟨vK', h1, h3, h4, (cell_eq (Below.heap_setCell _ _ _ _ hib) 0).trans hx⟩
section
variable (B mb fb g : Nat) (W : World) (f : Nat → Nat) (vS vF vK vA : Value) (s : SRun) (h : RUN B mb fb W g f vS vF vK vA s) (hB : B ≤ W.heap.size) (bd : Bd s) (ib : Nat) (b : Int) (FB cap n : Nat) (hn : s.frames.length = n + 1) (hF : vF = .slice (some ⟨FB, 0, none⟩) (n + 1) cap)
  (Q0 : Exit → Act → World → Prop) (us : Nat → Value)
include h hB bd hn hF
theorem sw_1 (A : Int)
  (hbox : W.heap[ib]? = some (.cells #[.int .i64 1, .int .i64 A, .int .i64 b] 56 (0, 0))) (hq : ∀ a' w', LF g 0 (RP B mb fb g W f (s.put A)) a' w' → Q0 .normal a' w') :
  Code.wp Tryz.prog swC Q0 (FR5 g FB n ib 1 us) W := by
 unfold FR5
 have hlen : s.stack.length ≤ 1073741824 := by have := bd.sk; omega
 obtain ⟨x0, x1, x2, nX⟩ := box3 hbox
 have HQ := Lib.hid hq
 have HC := Lib.hid (plain_1 B mb fb g W f vS vF vK vA s h hB hlen b A (.pointer (some ⟨FB, n * 4, none⟩)))
 clear hq hbox bd h hn hF
 conv => arg 2; whnf
 go_wp2_with fail
 refine HC.out.mono ?_
 rintro e w1 ⟨rfl, hr⟩
 have HR := Lib.hid hr
 clear hr
 go_wp2_with fail
 refine HQ.out _ _ ?_
 exact LF_of _ _ _ _ _ rfl (HR.out)
theorem sw_2 (j : Nat) (hj : j < (s.frames.getD n zFrm).loc.length)
  (hbox : W.heap[ib]? = some (.cells #[.int .i64 2, .int .i64 j, .int .i64 b] 56 (0, 0))) (hq : ∀ a' w', LF g 0 (RP B mb fb g W f (s.put ((s.frames.getD n zFrm).loc.getD j 0))) a' w' → Q0 .normal a' w') :
  Code.wp Tryz.prog swC Q0 (FR5 g FB n ib 2 us) W := by
 unfold FR5
 have hlen : s.stack.length ≤ 1073741824 := by have := bd.sk; omega
 obtain ⟨x0, x1, x2, nX⟩ := box3 hbox
 have HQ := Lib.hid hq
 have HC := Lib.hid (plain_2 B mb fb g W f vS vF vK vA s h hB hlen FB cap b n hn hF j hj)
 clear hq hbox bd h hn hF
 conv => arg 2; whnf
 go_wp2_with fail
 refine HC.out.mono ?_
 rintro e w1 ⟨rfl, hr⟩
 have HR := Lib.hid hr
 clear hr
 go_wp2_with fail
 refine HQ.out _ _ ?_
 exact LF_of _ _ _ _ _ rfl (HR.out)
theorem sw_3 (j : Nat) (hj : j < (s.frames.getD n zFrm).loc.length) (hs : 0 < s.stack.length)
  (hbox : W.heap[ib]? = some (.cells #[.int .i64 3, .int .i64 j, .int .i64 b] 56 (0, 0))) (hq : ∀ a' w', LF g 0 (RP B mb fb g W f ((s.cut 1).setTop { s.top with loc := s.top.loc.set j s.last })) a' w' → Q0 .normal a' w') :
  Code.wp Tryz.prog swC Q0 (FR5 g FB n ib 3 us) W := by
 unfold FR5
 have hlen : s.stack.length ≤ 1073741824 := by have := bd.sk; omega
 obtain ⟨x0, x1, x2, nX⟩ := box3 hbox
 have HQ := Lib.hid hq
 have HC := Lib.hid (plain_3 B mb fb g W f vS vF vK vA s h hB hlen FB cap b n hn hF j hj hs)
 clear hq hbox bd h hn hF
 conv => arg 2; whnf
 go_wp2_with fail
 refine HC.out.mono ?_
 rintro e w1 ⟨rfl, hr⟩
 have HR := Lib.hid hr
 clear hr
 go_wp2_with fail
 refine HQ.out _ _ ?_
 exact LF_of _ _ _ _ _ rfl (HR.out)
theorem sw_4 (i : Nat) (hi : i < s.state.length) (h0 : 0 < (s.state.getD i []).length)
  (hbox : W.heap[ib]? = some (.cells #[.int .i64 4, .int .i64 i, .int .i64 b] 56 (0, 0))) (hq : ∀ a' w', LF g 0 (RP B mb fb g W f (s.put ((s.state.getD i []).getD 0 0))) a' w' → Q0 .normal a' w') :
  Code.wp Tryz.prog swC Q0 (FR5 g FB n ib 4 us) W := by
 unfold FR5
 have hlen : s.stack.length ≤ 1073741824 := by have := bd.sk; omega
 obtain ⟨x0, x1, x2, nX⟩ := box3 hbox
 have HQ := Lib.hid hq
 have HC := Lib.hid (plain_4 B mb fb g W f vS vF vK vA s h hB hlen b (.pointer (some ⟨FB, n * 4, none⟩)) i hi h0 bd.st)
 clear hq hbox bd h hn hF
 conv => arg 2; whnf
 go_wp2_with fail
 refine HC.out.mono ?_
 rintro e w1 ⟨rfl, hr⟩
 have HR := Lib.hid hr
 clear hr
 go_wp2_with fail
 refine HQ.out _ _ ?_
 exact LF_of _ _ _ _ _ rfl (HR.out)
theorem sw_5 (i : Nat) (hi : i < s.state.length) (h0 : 0 < (s.state.getD i []).length) (hs : 0 < s.stack.length)
  (hbox : W.heap[ib]? = some (.cells #[.int .i64 5, .int .i64 i, .int .i64 b] 56 (0, 0))) (hq : ∀ a' w', LF g 0 (RP B mb fb g W f ({ s.cut 1 with state := s.state.set i ((s.state.getD i []).set 0 s.last) })) a' w' → Q0 .normal a' w') :
  Code.wp Tryz.prog swC Q0 (FR5 g FB n ib 5 us) W := by
 unfold FR5
 have hlen : s.stack.length ≤ 1073741824 := by have := bd.sk; omega
 obtain ⟨x0, x1, x2, nX⟩ := box3 hbox
 have HQ := Lib.hid hq
 have HC := Lib.hid (plain_5 B mb fb g W f vS vF vK vA s h hB hlen b (.pointer (some ⟨FB, n * 4, none⟩)) i hi h0 bd.st hs)
 clear hq hbox bd h hn hF
 conv => arg 2; whnf
 go_wp2_with fail
 refine HC.out.mono ?_
 rintro e w1 ⟨rfl, hr⟩
 have HR := Lib.hid hr
 clear hr
 go_wp2_with fail
 refine HQ.out _ _ ?_
 exact LF_of _ _ _ _ _ rfl (HR.out)
theorem sw_28 (j : Nat)
  (hbox : W.heap[ib]? = some (.cells #[.int .i64 28, .int .i64 j, .int .i64 b] 56 (0, 0))) (hq : ∀ a' w', LF g 0 (RP B mb fb g W f (s.setTop { s.top with at_ := j })) a' w' → Q0 .normal a' w') :
  Code.wp Tryz.prog swC Q0 (FR5 g FB n ib 28 us) W := by
 unfold FR5
 have hlen : s.stack.length ≤ 1073741824 := by have := bd.sk; omega
 obtain ⟨x0, x1, x2, nX⟩ := box3 hbox
 have HQ := Lib.hid hq
 have HC := Lib.hid (plain_28 B mb fb g W f vS vF vK vA s h hB hlen FB cap b n hn hF j)
 clear hq hbox bd h hn hF
 conv => arg 2; whnf
 go_wp2_with fail
 refine HC.out.mono ?_
 rintro e w1 ⟨rfl, hr⟩
 have HR := Lib.hid hr
 clear hr
 go_wp2_with fail
 refine HQ.out _ _ ?_
 exact LF_of _ _ _ _ _ rfl (HR.out)
theorem sw_29 (j : Nat) (hs : 0 < s.stack.length)
  (hbox : W.heap[ib]? = some (.cells #[.int .i64 29, .int .i64 j, .int .i64 b] 56 (0, 0))) (hq : ∀ a' w', LF g 0 (RP B mb fb g W f (if s.last = 0 then (s.cut 1).setTop { s.top with at_ := j } else s.cut 1)) a' w' → Q0 .normal a' w') :
  Code.wp Tryz.prog swC Q0 (FR5 g FB n ib 29 us) W := by
 unfold FR5
 have hlen : s.stack.length ≤ 1073741824 := by have := bd.sk; omega
 obtain ⟨x0, x1, x2, nX⟩ := box3 hbox
 have HQ := Lib.hid hq
 have HC := Lib.hid (plain_29 B mb fb g W f vS vF vK vA s h hB hlen FB cap b n hn hF j hs)
 clear hq hbox bd h hn hF
 conv => arg 2; whnf
 go_wp2_with fail
 refine HC.out.mono ?_
 rintro e w1 ⟨rfl, hr⟩
 have HR := Lib.hid hr
 clear hr
 go_wp2_with fail
 refine HQ.out _ _ ?_
 exact LF_of _ _ _ _ _ rfl (HR.out)
theorem sw_33 (A : Int) (hs : 0 < s.stack.length)
  (hbox : W.heap[ib]? = some (.cells #[.int .i64 33, .int .i64 A, .int .i64 b] 56 (0, 0))) (hq : ∀ a' w', LF g 0 (RP B mb fb g W f (s.cut 1)) a' w' → Q0 .normal a' w') :
  Code.wp Tryz.prog swC Q0 (FR5 g FB n ib 33 us) W := by
 unfold FR5
 have hlen : s.stack.length ≤ 1073741824 := by have := bd.sk; omega
 obtain ⟨x0, x1, x2, nX⟩ := box3 hbox
 have HQ := Lib.hid hq
 have HC := Lib.hid (plain_33 B mb fb g W f vS vF vK vA s h hB hlen b (.pointer (some ⟨FB, n * 4, none⟩)) A hs)
 clear hq hbox bd h hn hF
 conv => arg 2; whnf
 go_wp2_with fail
 refine HC.out.mono ?_
 rintro e w1 ⟨rfl, hr⟩
 have HR := Lib.hid hr
 clear hr
 go_wp2_with fail
 refine HQ.out _ _ ?_
 exact LF_of _ _ _ _ _ rfl (HR.out)
theorem sw_13 (A : Int) (hs : 0 < s.stack.length)
  (hbox : W.heap[ib]? = some (.cells #[.int .i64 13, .int .i64 A, .int .i64 b] 56 (0, 0))) (hq : ∀ a' w', LF g 0 (RP B mb fb g W f ((s.cut 1).put (oneV 13 s.last))) a' w' → Q0 .normal a' w') :
  Code.wp Tryz.prog swC Q0 (FR5 g FB n ib 13 us) W := by
 unfold FR5
 have hlen : s.stack.length ≤ 1073741824 := by have := bd.sk; omega
 obtain ⟨x0, x1, x2, nX⟩ := box3 hbox
 have HQ := Lib.hid hq
 have HC := Lib.hid (one_any B mb fb g W f vS vF vK vA s h hB hlen hs 13 (by decide))
 clear hq hbox bd h hn hF
 conv => arg 2; whnf
 go_wp2_with fail
 refine HC.out.mono ?_
 rintro e w1 ⟨rfl, hr⟩
 have HR := Lib.hid hr
 clear hr
 go_wp2_with fail
 refine HQ.out _ _ ?_
 exact LF_of _ _ _ _ _ rfl (HR.out)
theorem sw_18 (A : Int) (hs : 0 < s.stack.length)
  (hbox : W.heap[ib]? = some (.cells #[.int .i64 18, .int .i64 A, .int .i64 b] 56 (0, 0))) (hq : ∀ a' w', LF g 0 (RP B mb fb g W f ((s.cut 1).put (oneV 18 s.last))) a' w' → Q0 .normal a' w') :
  Code.wp Tryz.prog swC Q0 (FR5 g FB n ib 18 us) W := by
 unfold FR5
 have hlen : s.stack.length ≤ 1073741824 := by have := bd.sk; omega
 obtain ⟨x0, x1, x2, nX⟩ := box3 hbox
 have HQ := Lib.hid hq
 have HC := Lib.hid (one_any B mb fb g W f vS vF vK vA s h hB hlen hs 18 (by decide))
 clear hq hbox bd h hn hF
 conv => arg 2; whnf
 go_wp2_with fail
 refine HC.out.mono ?_
 rintro e w1 ⟨rfl, hr⟩
 have HR := Lib.hid hr
 clear hr
 go_wp2_with fail
 refine HQ.out _ _ ?_
 exact LF_of _ _ _ _ _ rfl (HR.out)
theorem sw_25 (A : Int) (hs : 0 < s.stack.length)
  (hbox : W.heap[ib]? = some (.cells #[.int .i64 25, .int .i64 A, .int .i64 b] 56 (0, 0))) (hq : ∀ a' w', LF g 0 (RP B mb fb g W f ((s.cut 1).put (oneV 25 s.last))) a' w' → Q0 .normal a' w') :
  Code.wp Tryz.prog swC Q0 (FR5 g FB n ib 25 us) W := by
 unfold FR5
 have hlen : s.stack.length ≤ 1073741824 := by have := bd.sk; omega
 obtain ⟨x0, x1, x2, nX⟩ := box3 hbox
 have HQ := Lib.hid hq
 have HC := Lib.hid (one_any B mb fb g W f vS vF vK vA s h hB hlen hs 25 (by decide))
 clear hq hbox bd h hn hF
 conv => arg 2; whnf
 go_wp2_with fail
 refine HC.out.mono ?_
 rintro e w1 ⟨rfl, hr⟩
 have HR := Lib.hid hr
 clear hr
 go_wp2_with fail
 refine HQ.out _ _ ?_
 exact LF_of _ _ _ _ _ rfl (HR.out)
theorem sw_26 (A : Int) (hs : 0 < s.stack.length)
  (hbox : W.heap[ib]? = some (.cells #[.int .i64 26, .int .i64 A, .int .i64 b] 56 (0, 0))) (hq : ∀ a' w', LF g 0 (RP B mb fb g W f ((s.cut 1).put (oneV 26 s.last))) a' w' → Q0 .normal a' w') :
  Code.wp Tryz.prog swC Q0 (FR5 g FB n ib 26 us) W := by
 unfold FR5
 have hlen : s.stack.length ≤ 1073741824 := by have := bd.sk; omega
 obtain ⟨x0, x1, x2, nX⟩ := box3 hbox
 have HQ := Lib.hid hq
 have HC := Lib.hid (one_any B mb fb g W f vS vF vK vA s h hB hlen hs 26 (by decide))
 clear hq hbox bd h hn hF
 conv => arg 2; whnf
 go_wp2_with fail
 refine HC.out.mono ?_
 rintro e w1 ⟨rfl, hr⟩
 have HR := Lib.hid hr
 clear hr
 go_wp2_with fail
 refine HQ.out _ _ ?_
 exact LF_of _ _ _ _ _ rfl (HR.out)
theorem sw_27 (A : Int) (hs : 0 < s.stack.length)
  (hbox : W.heap[ib]? = some (.cells #[.int .i64 27, .int .i64 A, .int .i64 b] 56 (0, 0))) (hq : ∀ a' w', LF g 0 (RP B mb fb g W f ((s.cut 1).put (oneV 27 s.last))) a' w' → Q0 .normal a' w') :
  Code.wp Tryz.prog swC Q0 (FR5 g FB n ib 27 us) W := by
 unfold FR5
 have hlen : s.stack.length ≤ 1073741824 := by have := bd.sk; omega
 obtain ⟨x0, x1, x2, nX⟩ := box3 hbox
 have HQ := Lib.hid hq
 have HC := Lib.hid (one_any B mb fb g W f vS vF vK vA s h hB hlen hs 27 (by decide))
 clear hq hbox bd h hn hF
 conv => arg 2; whnf
 go_wp2_with fail
 refine HC.out.mono ?_
 rintro e w1 ⟨rfl, hr⟩
 have HR := Lib.hid hr
 clear hr
 go_wp2_with fail
 refine HQ.out _ _ ?_
 exact LF_of _ _ _ _ _ rfl (HR.out)
theorem sw_6 (i : Nat) (hi : i < s.state.length) (h0 : 0 < (s.state.getD i []).length) (hrl : (s.state.getD i []).length ≤ 1000) (hs : 0 < s.stack.length)
  (hbox : W.heap[ib]? = some (.cells #[.int .i64 6, .int .i64 i, .int .i64 b] 56 (0, 0))) (hq1 : (atR i s).1 = true → ∀ a' w', LF g 0 (RP B mb fb g W f (atR i s).2) a' w' → Q0 .normal a' w') (hq2 : (atR i s).1 = false → ∀ a' w', LF g 3 (RP B mb fb g W f (atR i s).2) a' w' → Q0 (.goto 0) a' w') :
  Code.wp Tryz.prog swC Q0 (FR5 g FB n ib 6 us) W := by
 unfold FR5
 have hlen : s.stack.length ≤ 1073741824 := by have := bd.sk; omega
 obtain ⟨x0, x1, x2, nX⟩ := box3 hbox
 have HQ1 := Lib.hid hq1
 have HQ2 := Lib.hid hq2
 have HC := Lib.hid (element_6 B mb fb g W f vS vF vK vA s h hB hlen b i hi bd.st hrl h0 hs)
 obtain ⟨r, hr0⟩ : ∃ r, r = (atR i s).1 := ⟨_, rfl⟩
 rw [← hr0] at HC HQ1 HQ2
 clear hq1 hq2 hbox bd h hn hF hr0
 cases r
 all_goals
  conv => arg 2; whnf
  go_wp2_with fail
  refine HC.out.mono ?_
  rintro e w1 ⟨rfl, hr⟩
  have HR := Lib.hid hr
  clear hr
  go_wp2_with fail
 ·refine wp_goto ?_
  refine HQ2.out (by first | rfl | trivial) _ _ ?_
  exact LF_of _ _ _ _ _ rfl (HR.out)
 ·refine HQ1.out (by first | rfl | trivial) _ _ ?_
  exact LF_of _ _ _ _ _ rfl (HR.out)
theorem sw_7 (i : Nat) (hi : i < s.state.length) (h0 : 0 < (s.state.getD i []).length) (hrl : (s.state.getD i []).length ≤ 1000) (hs : 1 < s.stack.length)
  (hbox : W.heap[ib]? = some (.cells #[.int .i64 7, .int .i64 i, .int .i64 b] 56 (0, 0))) (hq1 : (putR i s).1 = true → ∀ a' w', LF g 0 (RP B mb fb g W f (putR i s).2) a' w' → Q0 .normal a' w') (hq2 : (putR i s).1 = false → ∀ a' w', LF g 3 (RP B mb fb g W f (putR i s).2) a' w' → Q0 (.goto 0) a' w') :
  Code.wp Tryz.prog swC Q0 (FR5 g FB n ib 7 us) W := by
 unfold FR5
 have hlen : s.stack.length ≤ 1073741824 := by have := bd.sk; omega
 obtain ⟨x0, x1, x2, nX⟩ := box3 hbox
 have HQ1 := Lib.hid hq1
 have HQ2 := Lib.hid hq2
 have HC := Lib.hid (element_7 B mb fb g W f vS vF vK vA s h hB hlen b i hi bd.st hrl h0 hs)
 obtain ⟨r, hr0⟩ : ∃ r, r = (putR i s).1 := ⟨_, rfl⟩
 rw [← hr0] at HC HQ1 HQ2
 clear hq1 hq2 hbox bd h hn hF hr0
 cases r
 all_goals
  conv => arg 2; whnf
  go_wp2_with fail
  refine HC.out.mono ?_
  rintro e w1 ⟨rfl, hr⟩
  have HR := Lib.hid hr
  clear hr
  go_wp2_with fail
 ·refine wp_goto ?_
  refine HQ2.out (by first | rfl | trivial) _ _ ?_
  exact LF_of _ _ _ _ _ rfl (HR.out)
 ·refine HQ1.out (by first | rfl | trivial) _ _ ?_
  exact LF_of _ _ _ _ _ rfl (HR.out)
end
section
variable (B mb fb g : Nat) (W : World) (f : Nat → Nat) (vS vF vK vA : Value) (s : SRun) (h : RUN B mb fb W g f vS vF vK vA s) (hB : B ≤ W.heap.size) (bd : Bd s) (ib : Nat) (b : Int) (FB cap n : Nat) (hn : s.frames.length = n + 1) (hF : vF = .slice (some ⟨FB, 0, none⟩) (n + 1) cap)
  (Q0 : Exit → Act → World → Prop) (us : Nat → Value)
include h hB bd hn hF
theorem sw_8 (A : Int) (hs : 1 < s.stack.length)
  (hbox : W.heap[ib]? = some (.cells #[.int .i64 8, .int .i64 A, .int .i64 b] 56 (0, 0))) (hq1 : ∀ a' w', LF g 0 (RP B mb fb g W f (((s.cut 1).cut 1).put (twoV 8 (s.cut 1).last s.last))) a' w' → Q0 .normal a' w') :
  Code.wp Tryz.prog swC Q0 (FR5 g FB n ib 8 us) W := by
 unfold FR5
 have hlen : s.stack.length ≤ 1073741824 := by have := bd.sk; omega
 obtain ⟨x0, x1, x2, nX⟩ := box3 hbox
 have hib := h.apart hbox
 have hT : twoV 8 (s.cut 1).last s.last = wrap64 ((s.cut 1).last + s.last) := by simp [twoV]
 rw [hT] at hq1
 have HQ1 := Lib.hid hq1
 obtain ⟨hl1, hl2, hl3⟩ := cut_lens hs hlen
 have HC := Lib.hid (rpop_y h (by omega) hlen hib x0)
 have HBb := Lib.hid hB
 cases hz' : (s.last == 0)
 all_goals
  clear hq1  hbox bd h hn hF hT x0
  conv => arg 2; whnf
  go_wp2_with fail
  refine HC.out.mono ?_
  rintro e w1 ⟨vK1, rfl, hr1, hs1, x0⟩
  have HR1 := Lib.hid hr1
  have HS1 := Lib.hid hs1
  have HX1 := Lib.hid x0
  clear hr1 hs1 x0
  go_wp2_with fail
  refine (rpop_y HR1.out hl1 hl2 hib HX1.out).mono ?_
  rintro e w2 ⟨vK2, rfl, hr2, hs2, x0⟩
  have HR2 := Lib.hid hr2
  have HS2 := Lib.hid (HS1.out.trans hs2)
  have HB2 := Lib.hid (Nat.le_trans HBb.out HS2.out.size)
  clear hr2 hs2
  go_wp2_with (first
   | (go_at_call 83; refine (two_8 _).mono ?_; rintro e w3 ⟨rfl, rfl⟩)
   | (go_at_call 110; refine (two1_any _ _ _).mono ?_; rintro e w3 ⟨rfl, rfl⟩)
   | (go_at_call 55; refine (rpush_rp HR2.out HB2.out hl3 _).mono ?_; rintro e w4 ⟨rfl, hr⟩; have HR := Lib.hid hr; clear hr))
  obtain ⟨a1, a2, a3, a4, f', r1, r2⟩ := HR.out
  refine HQ1.out _ _ ?_
  exact LF_of _ _ _ _ _ rfl (⟨a1, a2, a3, a4, f', r1, HS2.out.trans r2⟩)
theorem sw_9 (A : Int) (hs : 1 < s.stack.length)
  (hbox : W.heap[ib]? = some (.cells #[.int .i64 9, .int .i64 A, .int .i64 b] 56 (0, 0))) (hq1 : ∀ a' w', LF g 0 (RP B mb fb g W f (((s.cut 1).cut 1).put (twoV 9 (s.cut 1).last s.last))) a' w' → Q0 .normal a' w') :
  Code.wp Tryz.prog swC Q0 (FR5 g FB n ib 9 us) W := by
 unfold FR5
 have hlen : s.stack.length ≤ 1073741824 := by have := bd.sk; omega
 obtain ⟨x0, x1, x2, nX⟩ := box3 hbox
 have hib := h.apart hbox
 have hT : twoV 9 (s.cut 1).last s.last = wrap64 ((s.cut 1).last - s.last) := by simp [twoV]
 rw [hT] at hq1
 have HQ1 := Lib.hid hq1
 obtain ⟨hl1, hl2, hl3⟩ := cut_lens hs hlen
 have HC := Lib.hid (rpop_y h (by omega) hlen hib x0)
 have HBb := Lib.hid hB
 cases hz' : (s.last == 0)
 all_goals
  clear hq1  hbox bd h hn hF hT x0
  conv => arg 2; whnf
  go_wp2_with fail
  refine HC.out.mono ?_
  rintro e w1 ⟨vK1, rfl, hr1, hs1, x0⟩
  have HR1 := Lib.hid hr1
  have HS1 := Lib.hid hs1
  have HX1 := Lib.hid x0
  clear hr1 hs1 x0
  go_wp2_with fail
  refine (rpop_y HR1.out hl1 hl2 hib HX1.out).mono ?_
  rintro e w2 ⟨vK2, rfl, hr2, hs2, x0⟩
  have HR2 := Lib.hid hr2
  have HS2 := Lib.hid (HS1.out.trans hs2)
  have HB2 := Lib.hid (Nat.le_trans HBb.out HS2.out.size)
  clear hr2 hs2
  go_wp2_with (first
   | (go_at_call 83; refine (two_9 _).mono ?_; rintro e w3 ⟨rfl, rfl⟩)
   | (go_at_call 111; refine (two2_any _ _ _).mono ?_; rintro e w3 ⟨rfl, rfl⟩)
   | (go_at_call 55; refine (rpush_rp HR2.out HB2.out hl3 _).mono ?_; rintro e w4 ⟨rfl, hr⟩; have HR := Lib.hid hr; clear hr))
  obtain ⟨a1, a2, a3, a4, f', r1, r2⟩ := HR.out
  refine HQ1.out _ _ ?_
  exact LF_of _ _ _ _ _ rfl (⟨a1, a2, a3, a4, f', r1, HS2.out.trans r2⟩)
theorem sw_10 (A : Int) (hs : 1 < s.stack.length)
  (hbox : W.heap[ib]? = some (.cells #[.int .i64 10, .int .i64 A, .int .i64 b] 56 (0, 0))) (hq1 : ∀ a' w', LF g 0 (RP B mb fb g W f (((s.cut 1).cut 1).put (twoV 10 (s.cut 1).last s.last))) a' w' → Q0 .normal a' w') :
  Code.wp Tryz.prog swC Q0 (FR5 g FB n ib 10 us) W := by
 unfold FR5
 have hlen : s.stack.length ≤ 1073741824 := by have := bd.sk; omega
 obtain ⟨x0, x1, x2, nX⟩ := box3 hbox
 have hib := h.apart hbox
 have hT : twoV 10 (s.cut 1).last s.last = wrap64 ((s.cut 1).last * s.last) := by simp [twoV]
 rw [hT] at hq1
 have HQ1 := Lib.hid hq1
 obtain ⟨hl1, hl2, hl3⟩ := cut_lens hs hlen
 have HC := Lib.hid (rpop_y h (by omega) hlen hib x0)
 have HBb := Lib.hid hB
 cases hz' : (s.last == 0)
 all_goals
  clear hq1  hbox bd h hn hF hT x0
  conv => arg 2; whnf
  go_wp2_with fail
  refine HC.out.mono ?_
  rintro e w1 ⟨vK1, rfl, hr1, hs1, x0⟩
  have HR1 := Lib.hid hr1
  have HS1 := Lib.hid hs1
  have HX1 := Lib.hid x0
  clear hr1 hs1 x0
  go_wp2_with fail
  refine (rpop_y HR1.out hl1 hl2 hib HX1.out).mono ?_
  rintro e w2 ⟨vK2, rfl, hr2, hs2, x0⟩
  have HR2 := Lib.hid hr2
  have HS2 := Lib.hid (HS1.out.trans hs2)
  have HB2 := Lib.hid (Nat.le_trans HBb.out HS2.out.size)
  clear hr2 hs2
  go_wp2_with (first
   | (go_at_call 83; refine (two_10 _).mono ?_; rintro e w3 ⟨rfl, rfl⟩)
   | (go_at_call 112; refine (two3_any _ _ _).mono ?_; rintro e w3 ⟨rfl, rfl⟩)
   | (go_at_call 55; refine (rpush_rp HR2.out HB2.out hl3 _).mono ?_; rintro e w4 ⟨rfl, hr⟩; have HR := Lib.hid hr; clear hr))
  obtain ⟨a1, a2, a3, a4, f', r1, r2⟩ := HR.out
  refine HQ1.out _ _ ?_
  exact LF_of _ _ _ _ _ rfl (⟨a1, a2, a3, a4, f', r1, HS2.out.trans r2⟩)
theorem sw_11 (A : Int) (hs : 1 < s.stack.length)
  (hbox : W.heap[ib]? = some (.cells #[.int .i64 11, .int .i64 A, .int .i64 b] 56 (0, 0))) (hq1 : ¬ s.last = 0 → ∀ a' w', LF g 0 (RP B mb fb g W f (((s.cut 1).cut 1).put (twoV 11 (s.cut 1).last s.last))) a' w' → Q0 .normal a' w') (hq2 : s.last = 0 → ∀ a' w', LF g 2 (RP B mb fb g W f ((s.cut 1).cut 1)) a' w' → Q0 (.goto 0) a' w') :
  Code.wp Tryz.prog swC Q0 (FR5 g FB n ib 11 us) W := by
 unfold FR5
 have hlen : s.stack.length ≤ 1073741824 := by have := bd.sk; omega
 obtain ⟨x0, x1, x2, nX⟩ := box3 hbox
 have hib := h.apart hbox
 have hT : twoV 11 (s.cut 1).last s.last = wrap64 ((s.cut 1).last.tdiv s.last) := by simp [twoV]
 rw [hT] at hq1
 have HQ1 := Lib.hid hq1
 have HQ2 := Lib.hid hq2
 obtain ⟨hl1, hl2, hl3⟩ := cut_lens hs hlen
 have HC := Lib.hid (rpop_y h (by omega) hlen hib x0)
 have HBb := Lib.hid hB
 cases hz' : (s.last == 0)
 all_goals
  have HZ := Lib.hid hz'
  clear hq1 hq2 hbox bd h hn hF hT x0
  conv => arg 2; whnf
  go_wp2_with fail
  refine HC.out.mono ?_
  rintro e w1 ⟨vK1, rfl, hr1, hs1, x0⟩
  have HR1 := Lib.hid hr1
  have HS1 := Lib.hid hs1
  have HX1 := Lib.hid x0
  clear hr1 hs1 x0
  go_wp2_with fail
  refine (rpop_y HR1.out hl1 hl2 hib HX1.out).mono ?_
  rintro e w2 ⟨vK2, rfl, hr2, hs2, x0⟩
  have HR2 := Lib.hid hr2
  have HS2 := Lib.hid (HS1.out.trans hs2)
  have HB2 := Lib.hid (Nat.le_trans HBb.out HS2.out.size)
  clear hr2 hs2
 ·have HZ := Lib.hid (show ¬ s.last = 0 by simpa using HZ.out)
  go_wp2_with (first
   | (go_at_call 83; refine (two_11 _).mono ?_; rintro e w3 ⟨rfl, rfl⟩)
   | (go_at_call 113; refine (two4_any _ _ _ hz').mono ?_; rintro e w3 ⟨rfl, rfl⟩)
   | (go_at_call 55; refine (rpush_rp HR2.out HB2.out hl3 _).mono ?_; rintro e w4 ⟨rfl, hr⟩; have HR := Lib.hid hr; clear hr))
  obtain ⟨a1, a2, a3, a4, f', r1, r2⟩ := HR.out
  refine HQ1.out HZ.out _ _ ?_
  exact LF_of _ _ _ _ _ rfl (⟨a1, a2, a3, a4, f', r1, HS2.out.trans r2⟩)
 ·have HZ := Lib.hid (show s.last = 0 by simpa using HZ.out)
  go_wp2_with fail
  refine wp_goto ?_
  refine HQ2.out HZ.out _ _ ?_
  exact LF_of _ _ _ _ _ rfl (⟨_, _, vK2, _, f, HR2.out, HS2.out⟩)
theorem sw_12 (A : Int) (hs : 1 < s.stack.length)
  (hbox : W.heap[ib]? = some (.cells #[.int .i64 12, .int .i64 A, .int .i64 b] 56 (0, 0))) (hq1 : ¬ s.last = 0 → ∀ a' w', LF g 0 (RP B mb fb g W f (((s.cut 1).cut 1).put (twoV 12 (s.cut 1).last s.last))) a' w' → Q0 .normal a' w') (hq2 : s.last = 0 → ∀ a' w', LF g 2 (RP B mb fb g W f ((s.cut 1).cut 1)) a' w' → Q0 (.goto 0) a' w') :
  Code.wp Tryz.prog swC Q0 (FR5 g FB n ib 12 us) W := by
 unfold FR5
 have hlen : s.stack.length ≤ 1073741824 := by have := bd.sk; omega
 obtain ⟨x0, x1, x2, nX⟩ := box3 hbox
 have hib := h.apart hbox
 have hT : twoV 12 (s.cut 1).last s.last = (s.cut 1).last.tmod s.last := by simp [twoV]
 rw [hT] at hq1
 have HQ1 := Lib.hid hq1
 have HQ2 := Lib.hid hq2
 obtain ⟨hl1, hl2, hl3⟩ := cut_lens hs hlen
 have HC := Lib.hid (rpop_y h (by omega) hlen hib x0)
 have HBb := Lib.hid hB
 cases hz' : (s.last == 0)
 all_goals
  have HZ := Lib.hid hz'
  clear hq1 hq2 hbox bd h hn hF hT x0
  conv => arg 2; whnf
  go_wp2_with fail
  refine HC.out.mono ?_
  rintro e w1 ⟨vK1, rfl, hr1, hs1, x0⟩
  have HR1 := Lib.hid hr1
  have HS1 := Lib.hid hs1
  have HX1 := Lib.hid x0
  clear hr1 hs1 x0
  go_wp2_with fail
  refine (rpop_y HR1.out hl1 hl2 hib HX1.out).mono ?_
  rintro e w2 ⟨vK2, rfl, hr2, hs2, x0⟩
  have HR2 := Lib.hid hr2
  have HS2 := Lib.hid (HS1.out.trans hs2)
  have HB2 := Lib.hid (Nat.le_trans HBb.out HS2.out.size)
  clear hr2 hs2
 ·have HZ := Lib.hid (show ¬ s.last = 0 by simpa using HZ.out)
  go_wp2_with (first
   | (go_at_call 83; refine (two_12 _).mono ?_; rintro e w3 ⟨rfl, rfl⟩)
   | (go_at_call 114; refine (two5_any _ _ _ hz').mono ?_; rintro e w3 ⟨rfl, rfl⟩)
   | (go_at_call 55; refine (rpush_rp HR2.out HB2.out hl3 _).mono ?_; rintro e w4 ⟨rfl, hr⟩; have HR := Lib.hid hr; clear hr))
  obtain ⟨a1, a2, a3, a4, f', r1, r2⟩ := HR.out
  refine HQ1.out HZ.out _ _ ?_
  exact LF_of _ _ _ _ _ rfl (⟨a1, a2, a3, a4, f', r1, HS2.out.trans r2⟩)
 ·have HZ := Lib.hid (show s.last = 0 by simpa using HZ.out)
  go_wp2_with fail
  refine wp_goto ?_
  refine HQ2.out HZ.out _ _ ?_
  exact LF_of _ _ _ _ _ rfl (⟨_, _, vK2, _, f, HR2.out, HS2.out⟩)
theorem sw_14 (A : Int) (hs : 1 < s.stack.length)
  (hbox : W.heap[ib]? = some (.cells #[.int .i64 14, .int .i64 A, .int .i64 b] 56 (0, 0))) (hq1 : ∀ a' w', LF g 0 (RP B mb fb g W f (((s.cut 1).cut 1).put (twoV 14 (s.cut 1).last s.last))) a' w' → Q0 .normal a' w') :
  Code.wp Tryz.prog swC Q0 (FR5 g FB n ib 14 us) W := by
 unfold FR5
 have hlen : s.stack.length ≤ 1073741824 := by have := bd.sk; omega
 obtain ⟨x0, x1, x2, nX⟩ := box3 hbox
 have hib := h.apart hbox
 have hT : twoV 14 (s.cut 1).last s.last = addF (s.cut 1).last s.last := by simp [twoV]
 rw [hT] at hq1
 have HQ1 := Lib.hid hq1
 obtain ⟨hl1, hl2, hl3⟩ := cut_lens hs hlen
 have HC := Lib.hid (rpop_y h (by omega) hlen hib x0)
 have HBb := Lib.hid hB
 cases hz' : (s.last == 0)
 all_goals
  clear hq1  hbox bd h hn hF hT x0
  conv => arg 2; whnf
  go_wp2_with fail
  refine HC.out.mono ?_
  rintro e w1 ⟨vK1, rfl, hr1, hs1, x0⟩
  have HR1 := Lib.hid hr1
  have HS1 := Lib.hid hs1
  have HX1 := Lib.hid x0
  clear hr1 hs1 x0
  go_wp2_with fail
  refine (rpop_y HR1.out hl1 hl2 hib HX1.out).mono ?_
  rintro e w2 ⟨vK2, rfl, hr2, hs2, x0⟩
  have HR2 := Lib.hid hr2
  have HS2 := Lib.hid (HS1.out.trans hs2)
  have HB2 := Lib.hid (Nat.le_trans HBb.out HS2.out.size)
  clear hr2 hs2
  go_wp2_with (first
   | (go_at_call 83; refine (two_14 _).mono ?_; rintro e w3 ⟨rfl, rfl⟩)
   | (go_at_call 115; refine (fixAdd_any _ _ _).mono ?_; rintro e w3 ⟨rfl, nd, rfl⟩)
   | (go_at_call 55; refine (rpush_rp (HR2.out.below (pw_below_drewN (Below.refl _ _) nd)) HB2.out hl3 _).mono ?_; rintro e w4 ⟨rfl, hr⟩; have HR := Lib.hid (RP.of_below (pw_below_drewN (Below.refl _ _) nd) hr); clear hr))
  obtain ⟨a1, a2, a3, a4, f', r1, r2⟩ := HR.out
  refine HQ1.out _ _ ?_
  exact LF_of _ _ _ _ _ rfl (⟨a1, a2, a3, a4, f', r1, HS2.out.trans r2⟩)
theorem sw_15 (A : Int) (hs : 1 < s.stack.length)
  (hbox : W.heap[ib]? = some (.cells #[.int .i64 15, .int .i64 A, .int .i64 b] 56 (0, 0))) (hq1 : ∀ a' w', LF g 0 (RP B mb fb g W f (((s.cut 1).cut 1).put (twoV 15 (s.cut 1).last s.last))) a' w' → Q0 .normal a' w') :
  Code.wp Tryz.prog swC Q0 (FR5 g FB n ib 15 us) W := by
 unfold FR5
 have hlen : s.stack.length ≤ 1073741824 := by have := bd.sk; omega
 obtain ⟨x0, x1, x2, nX⟩ := box3 hbox
 have hib := h.apart hbox
 have hT : twoV 15 (s.cut 1).last s.last = subF (s.cut 1).last s.last := by simp [twoV]
 rw [hT] at hq1
 have HQ1 := Lib.hid hq1
 obtain ⟨hl1, hl2, hl3⟩ := cut_lens hs hlen
 have HC := Lib.hid (rpop_y h (by omega) hlen hib x0)
 have HBb := Lib.hid hB
 cases hz' : (s.last == 0)
 all_goals
  clear hq1  hbox bd h hn hF hT x0
  conv => arg 2; whnf
  go_wp2_with fail
  refine HC.out.mono ?_
  rintro e w1 ⟨vK1, rfl, hr1, hs1, x0⟩
  have HR1 := Lib.hid hr1
  have HS1 := Lib.hid hs1
  have HX1 := Lib.hid x0
  clear hr1 hs1 x0
  go_wp2_with fail
  refine (rpop_y HR1.out hl1 hl2 hib HX1.out).mono ?_
  rintro e w2 ⟨vK2, rfl, hr2, hs2, x0⟩
  have HR2 := Lib.hid hr2
  have HS2 := Lib.hid (HS1.out.trans hs2)
  have HB2 := Lib.hid (Nat.le_trans HBb.out HS2.out.size)
  clear hr2 hs2
  go_wp2_with (first
   | (go_at_call 83; refine (two_15 _).mono ?_; rintro e w3 ⟨rfl, rfl⟩)
   | (go_at_call 107; refine (fixSub_any _ _ _).mono ?_; rintro e w3 ⟨rfl, nd, rfl⟩)
   | (go_at_call 55; refine (rpush_rp (HR2.out.below (pw_below_drewN (Below.refl _ _) nd)) HB2.out hl3 _).mono ?_; rintro e w4 ⟨rfl, hr⟩; have HR := Lib.hid (RP.of_below (pw_below_drewN (Below.refl _ _) nd) hr); clear hr))
  obtain ⟨a1, a2, a3, a4, f', r1, r2⟩ := HR.out
  refine HQ1.out _ _ ?_
  exact LF_of _ _ _ _ _ rfl (⟨a1, a2, a3, a4, f', r1, HS2.out.trans r2⟩)
theorem sw_16 (A : Int) (hs : 1 < s.stack.length)
  (hbox : W.heap[ib]? = some (.cells #[.int .i64 16, .int .i64 A, .int .i64 b] 56 (0, 0))) (hq1 : ∀ a' w', LF g 0 (RP B mb fb g W f (((s.cut 1).cut 1).put (twoV 16 (s.cut 1).last s.last))) a' w' → Q0 .normal a' w') :
  Code.wp Tryz.prog swC Q0 (FR5 g FB n ib 16 us) W := by
 unfold FR5
 have hlen : s.stack.length ≤ 1073741824 := by have := bd.sk; omega
 obtain ⟨x0, x1, x2, nX⟩ := box3 hbox
 have hib := h.apart hbox
 have hT : twoV 16 (s.cut 1).last s.last = mulF (s.cut 1).last s.last := by simp [twoV]
 rw [hT] at hq1
 have HQ1 := Lib.hid hq1
 obtain ⟨hl1, hl2, hl3⟩ := cut_lens hs hlen
 have HC := Lib.hid (rpop_y h (by omega) hlen hib x0)
 have HBb := Lib.hid hB
 cases hz' : (s.last == 0)
 all_goals
  clear hq1  hbox bd h hn hF hT x0
  conv => arg 2; whnf
  go_wp2_with fail
  refine HC.out.mono ?_
  rintro e w1 ⟨vK1, rfl, hr1, hs1, x0⟩
  have HR1 := Lib.hid hr1
  have HS1 := Lib.hid hs1
  have HX1 := Lib.hid x0
  clear hr1 hs1 x0
  go_wp2_with fail
  refine (rpop_y HR1.out hl1 hl2 hib HX1.out).mono ?_
  rintro e w2 ⟨vK2, rfl, hr2, hs2, x0⟩
  have HR2 := Lib.hid hr2
  have HS2 := Lib.hid (HS1.out.trans hs2)
  have HB2 := Lib.hid (Nat.le_trans HBb.out HS2.out.size)
  clear hr2 hs2
  go_wp2_with (first
   | (go_at_call 83; refine (two_16 _).mono ?_; rintro e w3 ⟨rfl, rfl⟩)
   | (go_at_call 116; refine (fixMul_any _ _ _).mono ?_; rintro e w3 ⟨rfl, nd, rfl⟩)
   | (go_at_call 55; refine (rpush_rp (HR2.out.below (pw_below_drewN (Below.refl _ _) nd)) HB2.out hl3 _).mono ?_; rintro e w4 ⟨rfl, hr⟩; have HR := Lib.hid (RP.of_below (pw_below_drewN (Below.refl _ _) nd) hr); clear hr))
  obtain ⟨a1, a2, a3, a4, f', r1, r2⟩ := HR.out
  refine HQ1.out _ _ ?_
  exact LF_of _ _ _ _ _ rfl (⟨a1, a2, a3, a4, f', r1, HS2.out.trans r2⟩)
end
section
variable (B mb fb g : Nat) (W : World) (f : Nat → Nat) (vS vF vK vA : Value) (s : SRun) (h : RUN B mb fb W g f vS vF vK vA s) (hB : B ≤ W.heap.size) (bd : Bd s) (ib : Nat) (b : Int) (FB cap n : Nat) (hn : s.frames.length = n + 1) (hF : vF = .slice (some ⟨FB, 0, none⟩) (n + 1) cap)
  (Q0 : Exit → Act → World → Prop) (us : Nat → Value)
include h hB bd hn hF
theorem sw_17 (A : Int) (hs : 1 < s.stack.length) (hr : ¬ s.last = 0 → szF s.last ≠ 0)
  (hbox : W.heap[ib]? = some (.cells #[.int .i64 17, .int .i64 A, .int .i64 b] 56 (0, 0))) (hq1 : ¬ s.last = 0 → ∀ a' w', LF g 0 (RP B mb fb g W f (((s.cut 1).cut 1).put (twoV 17 (s.cut 1).last s.last))) a' w' → Q0 .normal a' w') (hq2 : s.last = 0 → ∀ a' w', LF g 2 (RP B mb fb g W f ((s.cut 1).cut 1)) a' w' → Q0 (.goto 0) a' w') :
  Code.wp Tryz.prog swC Q0 (FR5 g FB n ib 17 us) W := by
 unfold FR5
 have hlen : s.stack.length ≤ 1073741824 := by have := bd.sk; omega
 obtain ⟨x0, x1, x2, nX⟩ := box3 hbox
 have HRD := Lib.hid hr
 clear hr
 have hib := h.apart hbox
 have hT : twoV 17 (s.cut 1).last s.last = divF (s.cut 1).last s.last := by simp [twoV]
 rw [hT] at hq1
 have HQ1 := Lib.hid hq1
 have HQ2 := Lib.hid hq2
 obtain ⟨hl1, hl2, hl3⟩ := cut_lens hs hlen
 have HC := Lib.hid (rpop_y h (by omega) hlen hib x0)
 have HBb := Lib.hid hB
 cases hz' : (s.last == 0)
 all_goals
  have HZ := Lib.hid hz'
  clear hq1 hq2 hbox bd h hn hF hT x0
  conv => arg 2; whnf
  go_wp2_with fail
  refine HC.out.mono ?_
  rintro e w1 ⟨vK1, rfl, hr1, hs1, x0⟩
  have HR1 := Lib.hid hr1
  have HS1 := Lib.hid hs1
  have HX1 := Lib.hid x0
  clear hr1 hs1 x0
  go_wp2_with fail
  refine (rpop_y HR1.out hl1 hl2 hib HX1.out).mono ?_
  rintro e w2 ⟨vK2, rfl, hr2, hs2, x0⟩
  have HR2 := Lib.hid hr2
  have HS2 := Lib.hid (HS1.out.trans hs2)
  have HB2 := Lib.hid (Nat.le_trans HBb.out HS2.out.size)
  clear hr2 hs2
 ·have HZ := Lib.hid (show ¬ s.last = 0 by simpa using HZ.out)
  go_wp2_with (first
   | (go_at_call 83; refine (two_17 _).mono ?_; rintro e w3 ⟨rfl, rfl⟩)
   | (go_at_call 117; refine (two6_any _ _ _ hz' (HRD.out HZ.out)).mono ?_; rintro e w3 ⟨rfl, nd, rfl⟩)
   | (go_at_call 55; refine (rpush_rp (HR2.out.below (pw_below_drewN (Below.refl _ _) nd)) HB2.out hl3 _).mono ?_; rintro e w4 ⟨rfl, hr⟩; have HR := Lib.hid (RP.of_below (pw_below_drewN (Below.refl _ _) nd) hr); clear hr))
  obtain ⟨a1, a2, a3, a4, f', r1, r2⟩ := HR.out
  refine HQ1.out HZ.out _ _ ?_
  exact LF_of _ _ _ _ _ rfl (⟨a1, a2, a3, a4, f', r1, HS2.out.trans r2⟩)
 ·have HZ := Lib.hid (show s.last = 0 by simpa using HZ.out)
  go_wp2_with fail
  refine wp_goto ?_
  refine HQ2.out HZ.out _ _ ?_
  exact LF_of _ _ _ _ _ rfl (⟨_, _, vK2, _, f, HR2.out, HS2.out⟩)
theorem sw_19 (A : Int) (hs : 1 < s.stack.length)
  (hbox : W.heap[ib]? = some (.cells #[.int .i64 19, .int .i64 A, .int .i64 b] 56 (0, 0))) (hq1 : ∀ a' w', LF g 0 (RP B mb fb g W f (((s.cut 1).cut 1).put (twoV 19 (s.cut 1).last s.last))) a' w' → Q0 .normal a' w') :
  Code.wp Tryz.prog swC Q0 (FR5 g FB n ib 19 us) W := by
 unfold FR5
 have hlen : s.stack.length ≤ 1073741824 := by have := bd.sk; omega
 obtain ⟨x0, x1, x2, nX⟩ := box3 hbox
 have hib := h.apart hbox
 have hT : twoV 19 (s.cut 1).last s.last = bitV ((s.cut 1).last == s.last) := by simp [twoV]
 rw [hT] at hq1
 have HQ1 := Lib.hid hq1
 obtain ⟨hl1, hl2, hl3⟩ := cut_lens hs hlen
 have HC := Lib.hid (rpop_y h (by omega) hlen hib x0)
 have HBb := Lib.hid hB
 cases hz' : (s.last == 0)
 all_goals
  clear hq1  hbox bd h hn hF hT x0
  conv => arg 2; whnf
  go_wp2_with fail
  refine HC.out.mono ?_
  rintro e w1 ⟨vK1, rfl, hr1, hs1, x0⟩
  have HR1 := Lib.hid hr1
  have HS1 := Lib.hid hs1
  have HX1 := Lib.hid x0
  clear hr1 hs1 x0
  go_wp2_with fail
  refine (rpop_y HR1.out hl1 hl2 hib HX1.out).mono ?_
  rintro e w2 ⟨vK2, rfl, hr2, hs2, x0⟩
  have HR2 := Lib.hid hr2
  have HS2 := Lib.hid (HS1.out.trans hs2)
  have HB2 := Lib.hid (Nat.le_trans HBb.out HS2.out.size)
  clear hr2 hs2
  go_wp2_with (first
   | (go_at_call 83; refine (two_19 _).mono ?_; rintro e w3 ⟨rfl, rfl⟩)
   | (go_at_call 119; refine (two7_any _ _ _).mono ?_; rintro e w3 ⟨rfl, nd, rfl⟩)
   | (go_at_call 55; refine (rpush_rp (HR2.out.below (pw_below_drewN (Below.refl _ _) nd)) HB2.out hl3 _).mono ?_; rintro e w4 ⟨rfl, hr⟩; have HR := Lib.hid (RP.of_below (pw_below_drewN (Below.refl _ _) nd) hr); clear hr))
  obtain ⟨a1, a2, a3, a4, f', r1, r2⟩ := HR.out
  refine HQ1.out _ _ ?_
  exact LF_of _ _ _ _ _ rfl (⟨a1, a2, a3, a4, f', r1, HS2.out.trans r2⟩)
theorem sw_20 (A : Int) (hs : 1 < s.stack.length)
  (hbox : W.heap[ib]? = some (.cells #[.int .i64 20, .int .i64 A, .int .i64 b] 56 (0, 0))) (hq1 : ∀ a' w', LF g 0 (RP B mb fb g W f (((s.cut 1).cut 1).put (twoV 20 (s.cut 1).last s.last))) a' w' → Q0 .normal a' w') :
  Code.wp Tryz.prog swC Q0 (FR5 g FB n ib 20 us) W := by
 unfold FR5
 have hlen : s.stack.length ≤ 1073741824 := by have := bd.sk; omega
 obtain ⟨x0, x1, x2, nX⟩ := box3 hbox
 have hib := h.apart hbox
 have hT : twoV 20 (s.cut 1).last s.last = bitV ((s.cut 1).last != s.last) := by simp [twoV]
 rw [hT] at hq1
 have HQ1 := Lib.hid hq1
 obtain ⟨hl1, hl2, hl3⟩ := cut_lens hs hlen
 have HC := Lib.hid (rpop_y h (by omega) hlen hib x0)
 have HBb := Lib.hid hB
 cases hz' : (s.last == 0)
 all_goals
  clear hq1  hbox bd h hn hF hT x0
  conv => arg 2; whnf
  go_wp2_with fail
  refine HC.out.mono ?_
  rintro e w1 ⟨vK1, rfl, hr1, hs1, x0⟩
  have HR1 := Lib.hid hr1
  have HS1 := Lib.hid hs1
  have HX1 := Lib.hid x0
  clear hr1 hs1 x0
  go_wp2_with fail
  refine (rpop_y HR1.out hl1 hl2 hib HX1.out).mono ?_
  rintro e w2 ⟨vK2, rfl, hr2, hs2, x0⟩
  have HR2 := Lib.hid hr2
  have HS2 := Lib.hid (HS1.out.trans hs2)
  have HB2 := Lib.hid (Nat.le_trans HBb.out HS2.out.size)
  clear hr2 hs2
  go_wp2_with (first
   | (go_at_call 83; refine (two_20 _).mono ?_; rintro e w3 ⟨rfl, rfl⟩)
   | (go_at_call 120; refine (two8_any _ _ _).mono ?_; rintro e w3 ⟨rfl, nd, rfl⟩)
   | (go_at_call 55; refine (rpush_rp (HR2.out.below (pw_below_drewN (Below.refl _ _) nd)) HB2.out hl3 _).mono ?_; rintro e w4 ⟨rfl, hr⟩; have HR := Lib.hid (RP.of_below (pw_below_drewN (Below.refl _ _) nd) hr); clear hr))
  obtain ⟨a1, a2, a3, a4, f', r1, r2⟩ := HR.out
  refine HQ1.out _ _ ?_
  exact LF_of _ _ _ _ _ rfl (⟨a1, a2, a3, a4, f', r1, HS2.out.trans r2⟩)
theorem sw_21 (A : Int) (hs : 1 < s.stack.length)
  (hbox : W.heap[ib]? = some (.cells #[.int .i64 21, .int .i64 A, .int .i64 b] 56 (0, 0))) (hq1 : ∀ a' w', LF g 0 (RP B mb fb g W f (((s.cut 1).cut 1).put (twoV 21 (s.cut 1).last s.last))) a' w' → Q0 .normal a' w') :
  Code.wp Tryz.prog swC Q0 (FR5 g FB n ib 21 us) W := by
 unfold FR5
 have hlen : s.stack.length ≤ 1073741824 := by have := bd.sk; omega
 obtain ⟨x0, x1, x2, nX⟩ := box3 hbox
 have hib := h.apart hbox
 have hT : twoV 21 (s.cut 1).last s.last = bitV (decide ((s.cut 1).last < s.last)) := by simp [twoV]
 rw [hT] at hq1
 have HQ1 := Lib.hid hq1
 obtain ⟨hl1, hl2, hl3⟩ := cut_lens hs hlen
 have HC := Lib.hid (rpop_y h (by omega) hlen hib x0)
 have HBb := Lib.hid hB
 cases hz' : (s.last == 0)
 all_goals
  clear hq1  hbox bd h hn hF hT x0
  conv => arg 2; whnf
  go_wp2_with fail
  refine HC.out.mono ?_
  rintro e w1 ⟨vK1, rfl, hr1, hs1, x0⟩
  have HR1 := Lib.hid hr1
  have HS1 := Lib.hid hs1
  have HX1 := Lib.hid x0
  clear hr1 hs1 x0
  go_wp2_with fail
  refine (rpop_y HR1.out hl1 hl2 hib HX1.out).mono ?_
  rintro e w2 ⟨vK2, rfl, hr2, hs2, x0⟩
  have HR2 := Lib.hid hr2
  have HS2 := Lib.hid (HS1.out.trans hs2)
  have HB2 := Lib.hid (Nat.le_trans HBb.out HS2.out.size)
  clear hr2 hs2
  go_wp2_with (first
   | (go_at_call 83; refine (two_21 _).mono ?_; rintro e w3 ⟨rfl, rfl⟩)
   | (go_at_call 121; refine (two9_any _ _ _).mono ?_; rintro e w3 ⟨rfl, nd, rfl⟩)
   | (go_at_call 55; refine (rpush_rp (HR2.out.below (pw_below_drewN (Below.refl _ _) nd)) HB2.out hl3 _).mono ?_; rintro e w4 ⟨rfl, hr⟩; have HR := Lib.hid (RP.of_below (pw_below_drewN (Below.refl _ _) nd) hr); clear hr))
  obtain ⟨a1, a2, a3, a4, f', r1, r2⟩ := HR.out
  refine HQ1.out _ _ ?_
  exact LF_of _ _ _ _ _ rfl (⟨a1, a2, a3, a4, f', r1, HS2.out.trans r2⟩)
theorem sw_22 (A : Int) (hs : 1 < s.stack.length)
  (hbox : W.heap[ib]? = some (.cells #[.int .i64 22, .int .i64 A, .int .i64 b] 56 (0, 0))) (hq1 : ∀ a' w', LF g 0 (RP B mb fb g W f (((s.cut 1).cut 1).put (twoV 22 (s.cut 1).last s.last))) a' w' → Q0 .normal a' w') :
  Code.wp Tryz.prog swC Q0 (FR5 g FB n ib 22 us) W := by
 unfold FR5
 have hlen : s.stack.length ≤ 1073741824 := by have := bd.sk; omega
 obtain ⟨x0, x1, x2, nX⟩ := box3 hbox
 have hib := h.apart hbox
 have hT : twoV 22 (s.cut 1).last s.last = bitV (decide ((s.cut 1).last ≤ s.last)) := by simp [twoV]
 rw [hT] at hq1
 have HQ1 := Lib.hid hq1
 obtain ⟨hl1, hl2, hl3⟩ := cut_lens hs hlen
 have HC := Lib.hid (rpop_y h (by omega) hlen hib x0)
 have HBb := Lib.hid hB
 cases hz' : (s.last == 0)
 all_goals
  clear hq1  hbox bd h hn hF hT x0
  conv => arg 2; whnf
  go_wp2_with fail
  refine HC.out.mono ?_
  rintro e w1 ⟨vK1, rfl, hr1, hs1, x0⟩
  have HR1 := Lib.hid hr1
  have HS1 := Lib.hid hs1
  have HX1 := Lib.hid x0
  clear hr1 hs1 x0
  go_wp2_with fail
  refine (rpop_y HR1.out hl1 hl2 hib HX1.out).mono ?_
  rintro e w2 ⟨vK2, rfl, hr2, hs2, x0⟩
  have HR2 := Lib.hid hr2
  have HS2 := Lib.hid (HS1.out.trans hs2)
  have HB2 := Lib.hid (Nat.le_trans HBb.out HS2.out.size)
  clear hr2 hs2
  go_wp2_with (first
   | (go_at_call 83; refine (two_22 _).mono ?_; rintro e w3 ⟨rfl, rfl⟩)
   | (go_at_call 122; refine (two10_any _ _ _).mono ?_; rintro e w3 ⟨rfl, nd, rfl⟩)
   | (go_at_call 55; refine (rpush_rp (HR2.out.below (pw_below_drewN (Below.refl _ _) nd)) HB2.out hl3 _).mono ?_; rintro e w4 ⟨rfl, hr⟩; have HR := Lib.hid (RP.of_below (pw_below_drewN (Below.refl _ _) nd) hr); clear hr))
  obtain ⟨a1, a2, a3, a4, f', r1, r2⟩ := HR.out
  refine HQ1.out _ _ ?_
  exact LF_of _ _ _ _ _ rfl (⟨a1, a2, a3, a4, f', r1, HS2.out.trans r2⟩)
theorem sw_23 (A : Int) (hs : 1 < s.stack.length)
  (hbox : W.heap[ib]? = some (.cells #[.int .i64 23, .int .i64 A, .int .i64 b] 56 (0, 0))) (hq1 : ∀ a' w', LF g 0 (RP B mb fb g W f (((s.cut 1).cut 1).put (twoV 23 (s.cut 1).last s.last))) a' w' → Q0 .normal a' w') :
  Code.wp Tryz.prog swC Q0 (FR5 g FB n ib 23 us) W := by
 unfold FR5
 have hlen : s.stack.length ≤ 1073741824 := by have := bd.sk; omega
 obtain ⟨x0, x1, x2, nX⟩ := box3 hbox
 have hib := h.apart hbox
 have hT : twoV 23 (s.cut 1).last s.last = bitV (decide ((s.cut 1).last > s.last)) := by simp [twoV]
 rw [hT] at hq1
 have HQ1 := Lib.hid hq1
 obtain ⟨hl1, hl2, hl3⟩ := cut_lens hs hlen
 have HC := Lib.hid (rpop_y h (by omega) hlen hib x0)
 have HBb := Lib.hid hB
 cases hz' : (s.last == 0)
 all_goals
  clear hq1  hbox bd h hn hF hT x0
  conv => arg 2; whnf
  go_wp2_with fail
  refine HC.out.mono ?_
  rintro e w1 ⟨vK1, rfl, hr1, hs1, x0⟩
  have HR1 := Lib.hid hr1
  have HS1 := Lib.hid hs1
  have HX1 := Lib.hid x0
  clear hr1 hs1 x0
  go_wp2_with fail
  refine (rpop_y HR1.out hl1 hl2 hib HX1.out).mono ?_
  rintro e w2 ⟨vK2, rfl, hr2, hs2, x0⟩
  have HR2 := Lib.hid hr2
  have HS2 := Lib.hid (HS1.out.trans hs2)
  have HB2 := Lib.hid (Nat.le_trans HBb.out HS2.out.size)
  clear hr2 hs2
  go_wp2_with (first
   | (go_at_call 83; refine (two_23 _).mono ?_; rintro e w3 ⟨rfl, rfl⟩)
   | (go_at_call 123; refine (two11_any _ _ _).mono ?_; rintro e w3 ⟨rfl, nd, rfl⟩)
   | (go_at_call 55; refine (rpush_rp (HR2.out.below (pw_below_drewN (Below.refl _ _) nd)) HB2.out hl3 _).mono ?_; rintro e w4 ⟨rfl, hr⟩; have HR := Lib.hid (RP.of_below (pw_below_drewN (Below.refl _ _) nd) hr); clear hr))
  obtain ⟨a1, a2, a3, a4, f', r1, r2⟩ := HR.out
  refine HQ1.out _ _ ?_
  exact LF_of _ _ _ _ _ rfl (⟨a1, a2, a3, a4, f', r1, HS2.out.trans r2⟩)
theorem sw_24 (A : Int) (hs : 1 < s.stack.length)
  (hbox : W.heap[ib]? = some (.cells #[.int .i64 24, .int .i64 A, .int .i64 b] 56 (0, 0))) (hq1 : ∀ a' w', LF g 0 (RP B mb fb g W f (((s.cut 1).cut 1).put (twoV 24 (s.cut 1).last s.last))) a' w' → Q0 .normal a' w') :
  Code.wp Tryz.prog swC Q0 (FR5 g FB n ib 24 us) W := by
 unfold FR5
 have hlen : s.stack.length ≤ 1073741824 := by have := bd.sk; omega
 obtain ⟨x0, x1, x2, nX⟩ := box3 hbox
 have hib := h.apart hbox
 have hT : twoV 24 (s.cut 1).last s.last = bitV (decide ((s.cut 1).last ≥ s.last)) := by simp [twoV]
 rw [hT] at hq1
 have HQ1 := Lib.hid hq1
 obtain ⟨hl1, hl2, hl3⟩ := cut_lens hs hlen
 have HC := Lib.hid (rpop_y h (by omega) hlen hib x0)
 have HBb := Lib.hid hB
 cases hz' : (s.last == 0)
 all_goals
  clear hq1  hbox bd h hn hF hT x0
  conv => arg 2; whnf
  go_wp2_with fail
  refine HC.out.mono ?_
  rintro e w1 ⟨vK1, rfl, hr1, hs1, x0⟩
  have HR1 := Lib.hid hr1
  have HS1 := Lib.hid hs1
  have HX1 := Lib.hid x0
  clear hr1 hs1 x0
  go_wp2_with fail
  refine (rpop_y HR1.out hl1 hl2 hib HX1.out).mono ?_
  rintro e w2 ⟨vK2, rfl, hr2, hs2, x0⟩
  have HR2 := Lib.hid hr2
  have HS2 := Lib.hid (HS1.out.trans hs2)
  have HB2 := Lib.hid (Nat.le_trans HBb.out HS2.out.size)
  clear hr2 hs2
  go_wp2_with (first
   | (go_at_call 83; refine (two_24 _).mono ?_; rintro e w3 ⟨rfl, rfl⟩)
   | (go_at_call 124; refine (two12_any _ _ _).mono ?_; rintro e w3 ⟨rfl, nd, rfl⟩)
   | (go_at_call 55; refine (rpush_rp (HR2.out.below (pw_below_drewN (Below.refl _ _) nd)) HB2.out hl3 _).mono ?_; rintro e w4 ⟨rfl, hr⟩; have HR := Lib.hid (RP.of_below (pw_below_drewN (Below.refl _ _) nd) hr); clear hr))
  obtain ⟨a1, a2, a3, a4, f', r1, r2⟩ := HR.out
  refine HQ1.out _ _ ?_
  exact LF_of _ _ _ _ _ rfl (⟨a1, a2, a3, a4, f', r1, HS2.out.trans r2⟩)
end
theorem MACH.below {W W' : World} {mb fb : Nat} {x : SImage} {AG : Option Addr} {cG cF : Nat} {AS : Option Addr} {cS : Nat} (h : MACH W mb fb x AG cG cF AS cS) (hb : Below W.heap.size W W') : MACH W' mb fb x AG cG cF AS cS :=
 ⟨(hb.block _ (blk_lt h.blk)).trans h.blk, Kd.C_below h.globs hb, Kd.C_below h.fns hb, Kd.C_below h.calls hb, h.lG, h.lF, h.lS⟩
theorem MACH.mb_lt {W : World} {mb fb : Nat} {x : SImage} {AG : Option Addr} {cG cF : Nat} {AS : Option Addr} {cS : Nat} (h : MACH W mb fb x AG cG cF AS cS) : mb < W.heap.size := blk_lt h.blk
theorem MACH.fb_lt {W : World} {mb fb : Nat} {x : SImage} {AG : Option Addr} {cG cF : Nat} {AS : Option Addr} {cS : Nat} (h : MACH W mb fb x AG cG cF AS cS) (h0 : 0 < x.fns.length) : fb < W.heap.size := by
 obtain ⟨ad, _, _, _, _, _, _, hA, h0, _⟩ := at_TFn h.fns 0 (by omega) (by omega)
 injection hA with hA
 subst hA
 have := cell_lt (b := fb) (o := 0) h0
 exact this
section
variable (B mb fb g : Nat) (W : World) (f : Nat → Nat) (vS vF vK vA : Value) (s : SRun) (h : RUN B mb fb W g f vS vF vK vA s) (hB : B ≤ W.heap.size) (bd : Bd s) (ib : Nat) (b : Int) (FB cap n : Nat) (hn : s.frames.length = n + 1) (hF : vF = .slice (some ⟨FB, 0, none⟩) (n + 1) cap)
  (Q0 : Exit → Act → World → Prop) (us : Nat → Value)
include h hB bd hn hF
theorem sw_32  (x : SImage) (AG : Option Addr) (cG cF : Nat) (AS : Option Addr) (cS : Nat) (W0 : World) (hM : MACH W0 mb fb x AG cG cF AS cS) (hB0 : B = W0.heap.size) (hBe : Below W0.heap.size W0 W) (hfl : x.fns.length ≤ 1000) (A : Int) (hfi : s.top.fi < x.fns.length) (hbs : s.top.base ≤ s.stack.length) (hres : (x.fns.getD s.top.fi zFn).f2 ≠ 0 → s.top.base < s.stack.length)
  (hbox : W.heap[ib]? = some (.cells #[.int .i64 32, .int .i64 A, .int .i64 b] 56 (0, 0))) (hq1 : (backR (decide ((x.fns.getD s.top.fi zFn).f2 ≠ 0)) s).1 = false → ∀ a' w', LF g 0 (RP B mb fb g W f (backR (decide ((x.fns.getD s.top.fi zFn).f2 ≠ 0)) s).2) a' w' → Q0 .normal a' w') (hq2 : (backR (decide ((x.fns.getD s.top.fi zFn).f2 ≠ 0)) s).1 = true → ∀ a' w', a'.defers = [] → RP B mb fb g W f { (backR (decide ((x.fns.getD s.top.fi zFn).f2 ≠ 0)) s).2 with ended := true } w' → Q0 .ret a' w') :
  Code.wp Tryz.prog swC Q0 (FR5 g FB n ib 32 us) W := by
 unfold FR5
 have hlen : s.stack.length ≤ 1073741824 := by have := bd.sk; omega
 obtain ⟨x0, x1, x2, nX⟩ := box3 hbox
 have HQ1 := Lib.hid hq1
 have HQ2 := Lib.hid hq2
 have hfr64 := bd.fr
 have HC := Lib.hid (back_any B mb fb g W f vS vF vK vA s x AG cG cF AS cS h (hM.below hBe) hB FB cap n hn hF hlen hfi hfl (by omega) (by rw [hB0]; exact hM.mb_lt) (by rw [hB0]; exact hM.fb_lt (by omega)) hbs hres)
 obtain ⟨R, hR0⟩ : ∃ R, R = backR (decide ((x.fns.getD s.top.fi zFn).f2 ≠ 0)) s := ⟨_, rfl⟩
 rw [← hR0] at HC HQ1 HQ2
 obtain ⟨r, hr0⟩ : ∃ r, r = R.1 := ⟨_, rfl⟩
 rw [← hr0] at HC HQ1 HQ2
 clear hq1 hq2 hbox bd h hn hF hr0 hR0 hM hB0 hBe hres
 cases r
 all_goals
  conv => arg 2; whnf
  go_wp2_with fail
  refine HC.out.mono ?_
  rintro e w1 ⟨rfl, hr⟩
 ·have HR := Lib.hid hr
  clear hr
  go_wp2_with fail
  refine HQ1.out (by first | rfl | trivial) _ _ ?_
  exact LF_of _ _ _ _ _ rfl (HR.out)
 ·obtain ⟨a1, a2, a3, a4, f', r1, r2⟩ := hr
  have c7 : w1.cell? ⟨g, 7, none⟩ = some (.bool R.2.ended) := r1.at_.2.2.2.2.2.2.2.1
  have hf7 : w1.frozen? ⟨g, 7, none⟩ = false := blk_frozen r1.blk 7
  have HP := Lib.hid (r1.fld 7 (.bool true) { R.2 with ended := true } rfl rfl rfl rfl rfl)
  have HS := Lib.hid r2
  clear r1 r2
  go_wp2_with fail
  exact HQ2.out (by first | rfl | trivial) _ _ rfl ⟨a1, a2, a3, a4, f', HP.out.1, HS.out.trans HP.out.2⟩
theorem sw_30  (x : SImage) (AG : Option Addr) (cG cF : Nat) (AS : Option Addr) (cS : Nat) (W0 : World) (hM : MACH W0 mb fb x AG cG cF AS cS) (hB0 : B = W0.heap.size) (hBe : Below W0.heap.size W0 W) (hfl : x.fns.length ≤ 1000) (i : Nat) (hi : i < x.fns.length) (hm : (x.fns.getD i zFn).f1.length ≤ s.stack.length) (hml : (x.fns.getD i zFn).f1.length ≤ (x.fns.getD i zFn).f3.length) (hl3 : (x.fns.getD i zFn).f3.length ≤ 1000) (hfib : f ib = 0) (hibg : ¬ ib = g)
    (hbox : W.heap[ib]? = some (.cells #[.int .i64 30, .int .i64 i, .int .i64 b] 56 (0, 0))) (hq1 : s.frames.length ≠ 64 → ∀ a' w', LF g 0 (RP B mb fb g W f (enterR x i (s.args (x.fns.getD i zFn).f1.length) (s.cut (x.fns.getD i zFn).f1.length))) a' w' → Q0 .normal a' w') (hq2 : s.frames.length = 64 → ∀ a' w', LF g 4 (RP B mb fb g W f (s.cut (x.fns.getD i zFn).f1.length)) a' w' → Q0 (.goto 0) a' w') :
    Code.wp Tryz.prog swC Q0 (FR5 g FB n ib 30 us) W := by
  unfold FR5
  have hlen : s.stack.length ≤ 1073741824 := by have := bd.sk; omega
  obtain ⟨x0, x1, x2, nX⟩ := box3 hbox
  have HQ1 := Lib.hid hq1
  have HQ2 := Lib.hid hq2
  have HBX := Lib.hid hbox
  have HF := Lib.hid hF
  have hfr64 := bd.fr
  have HN := Lib.hid hn
  have HM := Lib.hid hM
  have HBE := Lib.hid hBe
  have HB0 := Lib.hid hB0
  have HRU := Lib.hid h
  have c0 := h.at_.1
  have d1 : W.cell? ⟨mb, 1, none⟩ = some (.slice (some ⟨fb, 0, none⟩) x.fns.length cF) := (blk_cell (hM.below hBe).blk 1).trans rfl
  obtain ⟨ad, B1, d1', B3, d3, B4, d4, hAd, h0, h1, h2, h3, h4, m1, g1, m3, g3, m4, g4⟩ := at_TFn (hM.below hBe).fns (i : Int) (by omega) (by omega)
  injection hAd with hAd
  subst hAd
  have hrd : rd_TFn x.fns (i : Int) = x.fns.getD i zFn := rfl
  rw [hrd] at h1
  simp only [Int.toNat_natCast, add0] at h1
  obtain ⟨m, hm0⟩ : ∃ m, m = (x.fns.getD i zFn).f1.length := ⟨_, rfl⟩
  rw [← hm0] at h1 hm hml HQ1 HQ2
  have HC0 := Lib.hid c0
  have HD1 := Lib.hid d1
  have HH1 := Lib.hid h1
  have HX1 := Lib.hid x1
  have hk : s.stack.length = (s.stack.length - m) + m := by omega
  have HPS := Lib.hid (fun W' (hb : Below W.heap.size W W') => rpops_any B mb fb g W' f vS vF vK vA s (h.below hb) (Nat.le_trans hB hb.size) (s.stack.length - m) m hk hlen)
  have HBb := Lib.hid hB
  clear hq1 hq2 hbox bd h hn hF hM hB0 hBe h0 h1 h2 h3 h4 m1 g1 m3 g3 m4 g4 hrd c0 d1 hm0 hk x0 x1 x2
  conv => arg 2; whnf
  have x0 : W.cell? ⟨ib, 0, none⟩ = some (.int .i64 30) := (blk_cell HBX.out 0).trans rfl
  go_wp2_with fail
  refine still_tail_g 15 (by kernel_rfl) (by kernel_rfl) ?_
  intro V HVE
  have hbV : Below W.heap.size W V := by rw [HVE.out]; exact below_drew (Below.refl _ _)
  have c0 := cell_up hbV HC0.out
  have d1 := cell_up hbV HD1.out
  have h1 := cell_up hbV HH1.out
  have x1 := cell_up hbV HX1.out
  have HBV := Lib.hid hbV
  clear hbV x0
  simp only [List.take_succ_cons, List.take_zero, List.drop_succ_cons, List.drop_zero]
  repeat still_step
  refine wpStill_nil ?_
  go_wp2_with fail
  refine (HPS.out _ HBV.out).mono ?_
  rintro e w1 ⟨v, rfl, hv, vK', hr1, hs1⟩
  have hsz1 := hs1.size
  obtain ⟨Aa, ca, hve, hvl, hvC⟩ := Kd.R_reads hv
  subst hve
  obtain ⟨args, hargs⟩ : ∃ args, args = s.stack.drop (s.stack.length - m) := ⟨_, rfl⟩
  rw [← hargs] at hvl hvC ⊢
  have hal : args.length = m := by rw [hargs, List.length_drop]; omega
  have hS : Stp g W f w1 f := (Stp.below HBV.out).trans hs1
  have hBe1 : Below W0.heap.size W0 w1 := hS.low HBE.out (by rw [← HB0.out]; exact HRU.out.gB) (by rw [← HB0.out]; exact HRU.out.fB) (Nat.le_refl _)
  have hbx1 : w1.heap[ib]? = some (.cells #[.int .i64 30, .int .i64 i, .int .i64 b] 56 (0, 0)) := (hS.block ib (blk_lt HBX.out) hibg hfib).trans HBX.out
  have x1 : w1.cell? ⟨ib, 1, none⟩ = some (.int .i64 i) := (blk_cell hbx1 1).trans rfl
  have c3 := hr1.at_.2.2.2.1
  rw [HF.out] at c3
  have HR1 := Lib.hid hr1
  have HS := Lib.hid hS
  have HVC := Lib.hid hvC
  have HARGS := Lib.hid hargs
  have HAL := Lib.hid hal
  have HM1 := Lib.hid (HM.out.below hBe1)
  have HB1 := Lib.hid (Nat.le_trans HBb.out hS.size)
  clear hr1 hs1 hS hBe1 hbx1 hvC hargs hal hv c0 d1 h1
  by_cases h64 : n = 63
  · have h64' : ((n : Int) + 1 == 64) = true := by simp; omega
    clear h64
    go_wp2_with fail
    refine wp_goto ?_
    refine HQ2.out (by have := HN.out; have h65 : (n : Int) + 1 = 64 := by simpa using h64'
                       omega) _ _ ?_
    exact LF_of _ _ _ _ _ rfl (⟨_, _, vK', _, f, HR1.out, HS.out⟩)
  · have h64' : ((n : Int) + 1 == 64) = false := by simp; omega
    clear h64
    have hfin := renter_any B mb fb g w1 f vS vF vK' vA { s with stack := s.stack.take (s.stack.length - m) } x AG cG cF AS cS HR1.out HM1.out HB1.out i hi hfl Aa ca args HVC.out (by rw [HAL.out]; exact hml) hl3 (by show s.frames.length ≤ 1000; have := HN.out; omega) (by show (s.stack.take _).length ≤ _; rw [List.length_take]; omega)
    have HFIN := Lib.hid hfin
    clear hfin
    go_wp2_with fail
    refine HFIN.out.mono ?_
    rintro e w2 ⟨rfl, vF', f', r1, r2⟩
    have HR2 := Lib.hid r1
    have HS2 := Lib.hid (HS.out.trans r2)
    clear r1 r2
    go_wp2_with fail
    refine HQ1.out (by have := HN.out; have h65 : ¬ (n : Int) + 1 = 64 := by simpa using h64'
                       omega) _ _ ?_
    have hEQ : enterR x i (s.args m) (s.cut m) = { ({ s with stack := s.stack.take (s.stack.length - m) } : SRun) with frames := s.frames ++ [⟨i, 0, args ++ (List.replicate (x.fns.getD i zFn).f3.length 0).drop args.length, (s.stack.take (s.stack.length - m)).length⟩] } := by
      unfold enterR SRun.args SRun.cut
      rw [← HARGS.out]
    rw [hEQ]
    exact LF_of _ _ _ _ _ rfl (⟨_, vF', vK', _, f', HR2.out, HS2.out⟩)
end
/-! ### A region that draws its order, what its loads read being held until its last operation (d), which waits for all others -/
section
variable {P : Program} {ops : Array Oper} {Q : Exit → Act → World → Prop} {md : Region.Mode} {S : World → Prop} {d : Nat}
def wpAnyD (P : Program) (md : Region.Mode) (ops : Array Oper) (Q : Exit → Act → World → Prop) (S : World → Prop) (d : Nat) : Nat → Array Bool → Act → World → Prop
 | 0, listed, a, w => Region.ready md ops listed = [] ∧ Q .normal a w
 | fuel + 1, listed, a, w =>
  (Region.ready md ops listed = [] → Q .normal a w) ∧
  ∀ i ∈ Region.ready md ops listed, wpOp P ops Q i (fun a' w' => (i = d ∨ S w') ∧ wpAnyD P md ops Q S d fuel (listed.setIfInBounds i true) a' w') a w
theorem wpAny_of_D : ∀ (fuel : Nat) (listed : Array Bool) (a : Act) (w : World), wpAnyD P md ops Q S d fuel listed a w → wpAny P md ops Q fuel listed a w
 | 0, _, _, _, h => h
 | fuel + 1, _, _, _, h => ⟨h.1, fun i hi => wpOp_mono (fun a' w' h' => wpAny_of_D fuel _ a' w' h'.2) (h.2 i hi)⟩
theorem wpAnyD_first {i : Nat} {oi od : Oper} {v : Value} (hi : ops[i]? = some oi) (hd : ops[d]? = some od) (hdi : ∃ e ∈ od.after, Region.binds md e = true ∧ e.on = i) (hne : d ≠ i) (hsel : ∀ (j : Nat) (o : Oper) cs b, ops[j]? = some o → o.op ≠ .select cs b)
  (hQ : ∀ c a w, Q (.panic c) (a.put oi.dst v) w → Q (.panic c) a w) :
  ∀ (fuel : Nat) (listed : Array Bool) (a : Act) (w : World),
   (∀ j oj, ops[j]? = some oj → j ≠ i → listed.getD j true = false → (∀ e ∈ oj.after, Region.binds md e = true → e.on ≠ i) → oi.apart ops oj = true) →
   i ∈ Region.ready md ops listed → YieldsIf P ops S oi v a → S w →
   wpAnyD P md ops Q S d fuel (listed.setIfInBounds i true) (a.put oi.dst v) w → wpAnyD P md ops Q S d (fuel + 1) listed a w := by
 intro fuel
 induction fuel with
 | zero =>
  intro listed a w _ hr hy hS H
  refine ⟨fun h => (by rw [h] at hr; cases hr), fun j hj => ?_⟩
  by_cases hji : j = i
  ·subst hji; exact hy.wpOp hi hS ⟨.inr hS, H⟩
  ·have := ready_mono hj hji
   rw [H.1] at this
   cases this
 | succ fuel ih =>
  intro listed a w hfree hr hy hS H
  refine ⟨fun h => (by rw [h] at hr; cases hr), fun j hj => ?_⟩
  by_cases hji : j = i
  ·subst hji; exact hy.wpOp hi hS ⟨.inr hS, H⟩
  ·have h1 := H.2 j (ready_mono hj hji)
   obtain ⟨hjun, oj, hoj, hall⟩ := mem_ready.1 hj
   have hnot : ∀ e ∈ oj.after, Region.binds md e = true → e.on ≠ i := fun e he hb heq => by
    have h1 := hall e he hb
    have h0 := (mem_ready.1 hr).1
    rw [heq] at h1
    rcases Nat.lt_or_ge i listed.size with h' | h'
    ·simp [h'] at h0 h1; rw [h0] at h1; cases h1
    ·simp [Array.getElem?_eq_none h'] at h1
   have hjd : j ≠ d := by
    rintro rfl
    obtain ⟨e, he, hb, hon⟩ := hdi
    rw [hoj] at hd
    injection hd with hd
    subst hd
    exact hnot e he hb hon
   have h2 := wpOp_putIf hoj (hfree j oj hoj hji hjun hnot) (fun cs b => hsel i oi cs b hi) (fun cs b => hsel j oj cs b hoj) hQ hy h1
   have hfree' : ∀ k ok, ops[k]? = some ok → k ≠ i → (listed.setIfInBounds j true).getD k true = false →
     (∀ e ∈ ok.after, Region.binds md e = true → e.on ≠ i) → oi.apart ops ok = true := fun k ok hk hki hun hno => by
    refine hfree k ok hk hki ?_ hno
    by_cases hjk : j = k
    ·subst hjk; exact hjun
    ·rw [getD_set_ne true hjk] at hun; exact hun
   refine wpOp_mono (fun a' w' h3 => ?_) h2
   have hS' : S w' := h3.2.1.resolve_left hjd
   refine ⟨.inr hS', ih (listed.setIfInBounds j true) a' w' hfree' (ready_mono hr (Ne.symm hji)) h3.1 hS' ?_⟩
   rw [Array.setIfInBounds_comm _ _ hji]
   exact h3.2.2
/-- does operation d wait for i? -/
def waitsB (md : Region.Mode) (ops : Array Oper) (d i : Nat) : Bool := match ops[d]? with
 | some od => od.after.any (fun e => Region.binds md e && e.on == i) && !(d == i)
 | none => false
theorem wpAnyD_take {i : Nat} {oi : Oper} {v : Value} {fuel : Nat} {listed : Array Bool} {a : Act} {w : World} (hi : ops[i]? = some oi)
  (hs : Region.noSelect ops = true) (hf : Region.free md ops listed i = true) (hr : (Region.ready md ops listed).contains i = true) (hw : waitsB md ops d i = true)
  (hQ : ∀ c a w, Q (.panic c) (a.put oi.dst v) w → Q (.panic c) a w) (hS : S w) (hy : YieldsIf P ops S oi v a)
  (h : wpAnyD P md ops Q S d fuel (listed.setIfInBounds i true) (a.put oi.dst v) w) : wpAnyD P md ops Q S d (fuel + 1) listed a w := by
 unfold waitsB at hw
 cases hd : ops[d]? with
 | none => rw [hd] at hw; cases hw
 | some od =>
  rw [hd] at hw
  simp only [Bool.and_eq_true, Bool.not_eq_true', beq_eq_false_iff_ne] at hw
  obtain ⟨e, he, hb⟩ := Array.any_eq_true'.1 hw.1
  simp only [Bool.and_eq_true, beq_iff_eq] at hb
  exact wpAnyD_first hi hd ⟨e, he, hb.1, hb.2⟩ hw.2 (Region.noSelect_spec hs) hQ fuel listed a w (Region.free_spec hi hf) (by simpa using hr) hy hS h
/-- the same, in short -/
theorem wpAnyD_tk (i : Nat) {oi : Oper} (v : Value) {fuel : Nat} {listed : Array Bool} {a : Act} {w : World} (hi : ops[i]? = some oi)
  (hb : (Region.noSelect ops && (Region.free md ops listed i && ((Region.ready md ops listed).contains i && waitsB md ops d i))) = true)
  (hQ : ∀ c a w, Q (.panic c) (a.put oi.dst v) w → Q (.panic c) a w) (hS : S w) (hw : Region.wanted oi (yielded ops a.tmps) = true) (hy : ∀ w, S w → (execOp a.eval oi).run P w = .ok (.value v) w)
  (h : wpAnyD P md ops Q S d fuel (listed.setIfInBounds i true) (a.put oi.dst v) w) : wpAnyD P md ops Q S d (fuel + 1) listed a w := by
 rw [Bool.and_eq_true, Bool.and_eq_true, Bool.and_eq_true] at hb
 exact wpAnyD_take hi hb.1 hb.2.1 hb.2.2.1 hb.2.2.2 hQ hS (.inl ⟨hw, hy⟩) h
/-- the one that may come up -/
theorem wpAnyD_one {i : Nat} {oi : Oper} {fuel : Nat} {listed : Array Bool} {a : Act} {w : World} (hr : Region.ready md ops listed = [i]) (hi : ops[i]? = some oi)
  (h : ∀ K : Act → World → Prop, (∀ a' w', (i = d ∨ S w') → wpAnyD P md ops Q S d fuel (listed.setIfInBounds i true) a' w' → K a' w') → if Region.wanted oi (yielded ops a.tmps) = true then Oper.wp P oi a w K Q else K (a.put oi.dst undef) w) :
  wpAnyD P md ops Q S d (fuel + 1) listed a w := by
 refine ⟨fun h0 => (by rw [hr] at h0; cases h0), fun j hj => ?_⟩
 rw [hr] at hj
 obtain rfl : j = i := by simpa using hj
 have h1 := h (fun a' w' => (j = d ∨ S w') ∧ wpAnyD P md ops Q S d fuel (listed.setIfInBounds j true) a' w') (fun a' w' h2 h3 => ⟨h2, h3⟩)
 unfold wpOp
 simp only [hi]
 split
 ·rename_i hw; rw [if_pos hw] at h1; exact .inl h1
 ·rename_i hw; rw [if_neg hw] at h1; exact h1
theorem wpAnyD_done {listed : Array Bool} {a : Act} {w : World} (hr : Region.ready md ops listed = []) (h : Q .normal a w) : ∀ fuel, wpAnyD P md ops Q S d fuel listed a w
 | 0 => ⟨hr, h⟩
 | _ + 1 => ⟨fun _ => h, by rw [hr]; simp⟩
theorem wp_region_D {id : Nat} {a : Act} {w : World} (S : World → Prop) (d : Nat) (hm : P.follows .mixedOrders = true)
  (h : ∀ W, Hid (W = w.drew) → wpAnyD P .any ops Q S d ops.size (Array.replicate ops.size false) a W) : (Code.region id ops true).wp P Q a w :=
 wp_region_any hm (wpAny_of_D _ _ _ _ (h w.drew rfl))
end
/-- tags of blocks that are there -/
def cleanT (n : Nat) (f : Nat → Nat) (k : Nat) : Nat := if k < n then f k else 0
theorem RUN.clean {B mb fb g : Nat} {w : World} {f : Nat → Nat} {vS vF vK vA : Value} {st : SRun} (h : RUN B mb fb w g f vS vF vK vA st) : RUN B mb fb w g (cleanT w.heap.size f) vS vF vK vA st := by
 have hk : ∀ j k, f k = j → k < w.heap.size → cleanT w.heap.size f k = j := fun j k h1 h2 => by unfold cleanT; rw [if_pos h2]; exact h1
 refine ⟨h.blk, h.gB, hk 0 g h.fg (blk_lt h.blk), fun k hk0 => ?_, Kd.S_mono (Kd.S_bound h.state) (fun k h1 => hk 1 k h1.1 h1.2.2.1), Kd.S_mono (Kd.S_bound h.frames) (fun k h1 => hk 2 k h1.1 h1.2.2.1), Kd.R_mono (Kd.R_bound h.stack) (fun k h1 => hk 3 k h1.1 h1.2.2.1), Kd.S_mono (Kd.S_bound h.asks) (fun k h1 => hk 4 k h1.1 h1.2.2.1)⟩
 unfold cleanT at hk0
 split at hk0
 ·exact h.fB k hk0
 ·exact absurd rfl hk0
theorem cleanT_lt {n : Nat} {f : Nat → Nat} : ∀ k, cleanT n f k ≠ 0 → k < n := by
 intro k hk
 unfold cleanT at hk
 split at hk
 ·assumption
 ·exact absurd rfl hk
theorem RP.clean {B mb fb g : Nat} {w w' : World} {f : Nat → Nat} {st' : SRun} (h : RP B mb fb g w (cleanT w.heap.size f) st' w') : RP B mb fb g w f st' w' := by
 obtain ⟨a1, a2, a3, a4, f', r1, r2⟩ := h
 exact ⟨a1, a2, a3, a4, f', r1, r2.os, r2.tape, r2.output, r2.size, fun k h1 h2 h3 => r2.block k h1 h2 (by unfold cleanT; rw [if_pos h1]; exact h3), fun k h1 => (r2.tag k h1).trans (by unfold cleanT; rw [if_pos h1])⟩
/-- no panic -/
def NP (Q : Exit → Act → World → Prop) : Exit → Act → World → Prop
 | .panic _, _, _ => False
 | e, a, w => Q e a w
/-- the asks have turned -/
theorem RUN.turnA {B mb fb g : Nat} {W w w' : World} {f : Nat → Nat} {vS vF vK vA : Value} {st : SRun} (h : RUN B mb fb w g f vS vF vK vA st) (hS : Stp g W f w f) (hB : B ≤ W.heap.size) (hfc : ∀ k, f k ≠ 0 → k < W.heap.size) (hgW : g < W.heap.size) {vA' : Value} {ys : List SAsk}
  (hos : w'.os = w.os) (hta : w'.tape = w.tape) (hou : w'.output = w.output) (hsz : w.heap.size ≤ w'.heap.size)
  (hk : ∀ k, k < w.heap.size → k ≠ g → f k ≠ 4 → w'.heap[k]? = w.heap[k]?) (hb : w'.heap[g]? = some (.cells ((st.cells mb vS vF vK vA).setIfInBounds 5 vA') 110 (0, 0)))
  (hA : Kd.S kAsk 81 w' B (fun k => retag W.heap.size 4 f k = 4) vA' ys) :
  RUN B mb fb w' g (retag W.heap.size 4 f) vS vF vK vA' { st with asks := ys } ∧ Stp g W f w' (retag W.heap.size 4 f) := by
 have hne : ∀ j k, j ≠ 0 → f k = j → k ≠ g := fun j k hj h1 e => by rw [e, h.fg] at h1; omega
 have hr : ∀ j k, j ≠ 0 → f k = j → retag W.heap.size 4 f k = j := fun j k hj h1 => by rw [retag_lt (hfc k (by omega))]; exact h1
 refine ⟨⟨hb, h.gB, (retag_lt hgW).trans h.fg, retag_B h.fB hB, ?_, ?_, ?_, hA⟩, ⟨hos.trans hS.os, hta.trans hS.tape, hou.trans hS.output, Nat.le_trans hS.size hsz, fun k h1 h2 h3 => (hk k (Nat.lt_of_lt_of_le h1 hS.size) h2 (by omega)).trans (hS.block k h1 h2 h3), fun k hk => retag_lt hk⟩⟩
 ·exact Kd.S_mono (Kd.S_step h.state (fun k ho hlt => hk k hlt (hne 1 k (by decide) ho) (by omega))) (fun k ho => hr 1 k (by decide) ho)
 ·exact Kd.S_mono (Kd.S_step h.frames (fun k ho hlt => hk k hlt (hne 2 k (by decide) ho) (by omega))) (fun k ho => hr 2 k (by decide) ho)
 ·exact Kd.R_mono (Kd.R_step h.stack (fun k ho hlt => hk k hlt (hne 3 k (by decide) ho) (by omega))) (fun k ho => hr 3 k (by decide) ho)
theorem infoAsk : (Tryz.prog.info? 81).map (fun i => (i.zero, i.size, i.bytes)) = some (some (.agg #[.int .i64 0, .slice none 0 0]), 2, 32) := by kernel_rfl
section
variable (B mb fb g : Nat) (W : World) (f : Nat → Nat) (vS vF vK vA : Value) (s : SRun) (h : RUN B mb fb W g f vS vF vK vA s) (hB : B ≤ W.heap.size) (bd : Bd s) (ib : Nat) (b : Int) (FB cap n : Nat) (hn : s.frames.length = n + 1) (hF : vF = .slice (some ⟨FB, 0, none⟩) (n + 1) cap)
  (Q0 : Exit → Act → World → Prop) (us : Nat → Value)
include h hB bd hn hF
theorem sw_31c  (x : SImage) (AG : Option Addr) (cG cF : Nat) (AS : Option Addr) (cS : Nat) (W0 : World) (hM : MACH W0 mb fb x AG cG cF AS cS) (hB0 : B = W0.heap.size) (hBe : Below W0.heap.size W0 W) (hfl : x.fns.length ≤ 1000) (hfc : ∀ k, f k ≠ 0 → k < W.heap.size) (i : Nat) (hi : i < callsL.length) (hm : (callsL.getD i zSys).f1.length ≤ s.stack.length) (hfib : f ib = 0) (hibg : ¬ ib = g)
  (hbox : W.heap[ib]? = some (.cells #[.int .i64 31, .int .i64 i, .int .i64 b] 56 (0, 0))) (hq : ∀ a' w', a'.defers = [] → RP B mb fb g W f { s.cut (callsL.getD i zSys).f1.length with asks := s.asks ++ [⟨(i : Int), s.args (callsL.getD i zSys).f1.length⟩], waits := true } w' → Q0 .ret a' w') :
  Code.wp Tryz.prog swC Q0 (FR5 g FB n ib 31 us) W := by
 unfold FR5
 have hlen : s.stack.length ≤ 1073741824 := by have := bd.sk; omega
 obtain ⟨x0, x1, x2, nX⟩ := box3 hbox
 have HQ := Lib.hid hq
 have HFC := Lib.hid hfc
 have HBX := Lib.hid hbox
 have hfr64 := bd.ak
 have HBE := Lib.hid hBe
 have HB0 := Lib.hid hB0
 have HRU := Lib.hid h
 have c0 := h.at_.1
 have c5 := h.at_.2.2.2.2.2.1
 have d2 : W0.cell? ⟨mb, 2, none⟩ = some (.slice AS callsL.length cS) := (blk_cell hM.blk 2).trans rfl
 obtain ⟨ad, A1, cc1, hAS, q0, q1, q2, hq1l, hq1C⟩ := at_TSys hM.calls (i : Int) (by omega) (by omega)
 subst hAS
 have hrd : rd_TSys callsL (i : Int) = callsL.getD i zSys := rfl
 rw [hrd] at q1
 simp only [Int.toNat_natCast] at q1
 obtain ⟨cl, hcl⟩ : ∃ cl, cl = callsL.length := ⟨_, rfl⟩
 have hcl16 : cl ≤ 1000 := by rw [hcl]; decide
 rw [← hcl] at d2 hi
 obtain ⟨m, hm0⟩ : ∃ m, m = (callsL.getD i zSys).f1.length := ⟨_, rfl⟩
 rw [← hm0] at q1 hm HQ
 have hk : s.stack.length = (s.stack.length - m) + m := by omega
 have HPS := Lib.hid (fun W' (hb : Below W.heap.size W W') => rpops_any B mb fb g W' f vS vF vK vA s (h.below hb) (Nat.le_trans hB hb.size) (s.stack.length - m) m hk hlen)
 have HBb := Lib.hid hB
 have hgl := blk_lt h.blk
 have HD2 := Lib.hid d2
 have HQ1 := Lib.hid q1
 have HLO := Lib.hid (fun (w1 : World) (hs : Stp g W f w1 f) => (hs.low hBe (by rw [← hB0]; exact h.gB) (by rw [← hB0]; exact h.fB) (Nat.le_refl _) : Below W0.heap.size W0 w1))
 replace d2 := cell_up hBe d2
 replace q1 := cell_up hBe q1
 have nMg : ¬ mb = g := fun e => by have h1 := cell_lt HD2.out; have h2 := h.gB; omega
 have nQg : ¬ (ad.add (i * 3)).block = g := fun e => by have h1 := cell_lt HQ1.out; have h2 := h.gB; omega
 have nM := cell_lt d2
 have nQ := cell_lt q1
 clear hq hfc hbox bd h hn hF hM hB0 hBe q0 q2 hq1l hq1C hrd hm0 hk hcl
 refine Code.wp_mono (Q := NP Q0) (fun e a w hh => by cases e <;> first | exact hh | exact hh.elim) ?_
 have HV0 := Lib.hid (fun (w1 : World) (hs : Stp g W f w1 f) => (show w1.heap[ib]? = some (.cells #[.int .i64 31, .int .i64 i, .int .i64 b] 56 (0, 0)) from (hs.block ib (blk_lt HBX.out) hibg hfib).trans HBX.out))
 conv => arg 2; whnf
 go_wp2_with fail
 refine wp_region_D (fun w' => w'.cell? ⟨g, 0, none⟩ = some (.pointer (some ⟨mb, 0, none⟩)) ∧ w'.cell? ⟨g, 5, none⟩ = some vA ∧ w'.cell? ⟨ib, 1, none⟩ = some (.int .i64 i) ∧ w'.cell? ⟨mb, 2, none⟩ = some (.slice (some ad) cl cS) ∧ w'.cell? ⟨(ad.add (i * 3)).block, (ad.add (i * 3)).off + 1, none⟩ = some (.slice A1 m cc1)) 27 (by kernel_rfl) ?_
 intro X HX
 have hbX : Below W.heap.size W X := by rw [HX.out]; exact below_drew (Below.refl _ _)
 have HLX := Lib.hid (show X.cell? ⟨g, 0, none⟩ = some (.pointer (some ⟨mb, 0, none⟩)) ∧ X.cell? ⟨g, 5, none⟩ = some vA ∧ X.cell? ⟨ib, 1, none⟩ = some (.int .i64 i) ∧ X.cell? ⟨mb, 2, none⟩ = some (.slice (some ad) cl cS) ∧ X.cell? ⟨(ad.add (i * 3)).block, (ad.add (i * 3)).off + 1, none⟩ = some (.slice A1 m cc1) from ⟨cell_up hbX c0, cell_up hbX c5, cell_up hbX x1, cell_up hbX d2, cell_up hbX q1⟩)
 have HBX2 := Lib.hid hbX
 clear hbX c0 c5 x1 d2 q1 x0 x2
 refine wpAnyD_tk 0 ?v_0 rfl (by kernel_rfl) (fun _ _ _ h => h) HLX.out (by rfl) ?h_0 ?r_0
 case h_0 => intro w' hS'; clear hS'; go_simp; try with_reducible rfl
 refine wpAnyD_tk 1 ?v_1 rfl (by kernel_rfl) (fun _ _ _ h => h) HLX.out (by rfl) ?h_1 ?r_1
 case h_1 => intro w' hS'; clear hS'; go_simp; try with_reducible rfl
 refine wpAnyD_tk 2 ?v_2 rfl (by kernel_rfl) (fun _ _ _ h => h) HLX.out (by rfl) ?h_2 ?r_2
 case h_2 => intro w' hS'; clear hS'; go_simp; try with_reducible rfl
 refine wpAnyD_tk 3 ?v_3 rfl (by kernel_rfl) (fun _ _ _ h => h) HLX.out (by rfl) ?h_3 ?r_3
 case h_3 => intro w' hS'; clear hS'; go_simp; try with_reducible rfl
 refine wpAnyD_tk 4 ?v_4 rfl (by kernel_rfl) (fun _ _ _ h => h) HLX.out (by rfl) ?h_4 ?r_4
 case h_4 => intro w' hS'; obtain ⟨s0, s5, s1, s2, s3⟩ := hS'; go_simp; try with_reducible rfl
 refine wpAnyD_tk 5 ?v_5 rfl (by kernel_rfl) (fun _ _ _ h => h) HLX.out (by rfl) ?h_5 ?r_5
 case h_5 => intro w' hS'; clear hS'; go_simp; try with_reducible rfl
 refine wpAnyD_tk 6 ?v_6 rfl (by kernel_rfl) (fun _ _ _ h => h) HLX.out (by rfl) ?h_6 ?r_6
 case h_6 => intro w' hS'; obtain ⟨s0, s5, s1, s2, s3⟩ := hS'; go_simp; try with_reducible rfl
 refine wpAnyD_tk 7 ?v_7 rfl (by kernel_rfl) (fun _ _ _ h => h) HLX.out (by rfl) ?h_7 ?r_7
 case h_7 => intro w' hS'; clear hS'; go_simp; try with_reducible rfl
 refine wpAnyD_tk 8 ?v_8 rfl (by kernel_rfl) (fun _ _ _ h => h) HLX.out (by rfl) ?h_8 ?r_8
 case h_8 => intro w' hS'; clear hS'; go_simp; try with_reducible rfl
 refine wpAnyD_tk 9 ?v_9 rfl (by kernel_rfl) (fun _ _ _ h => h) HLX.out (by rfl) ?h_9 ?r_9
 case h_9 => intro w' hS'; clear hS'; go_simp; try with_reducible rfl
 refine wpAnyD_tk 10 ?v_10 rfl (by kernel_rfl) (fun _ _ _ h => h) HLX.out (by rfl) ?h_10 ?r_10
 case h_10 => intro w' hS'; clear hS'; go_simp; try with_reducible rfl
 refine wpAnyD_tk 11 ?v_11 rfl (by kernel_rfl) (fun _ _ _ h => h) HLX.out (by rfl) ?h_11 ?r_11
 case h_11 => intro w' hS'; obtain ⟨s0, s5, s1, s2, s3⟩ := hS'; go_simp; try with_reducible rfl
 refine wpAnyD_tk 12 ?v_12 rfl (by kernel_rfl) (fun _ _ _ h => h) HLX.out (by rfl) ?h_12 ?r_12
 case h_12 => intro w' hS'; clear hS'; go_simp; try with_reducible rfl
 refine wpAnyD_tk 13 ?v_13 rfl (by kernel_rfl) (fun _ _ _ h => h) HLX.out (by rfl) ?h_13 ?r_13
 case h_13 => intro w' hS'; clear hS'; go_simp; try with_reducible rfl
 refine wpAnyD_tk 14 ?v_14 rfl (by kernel_rfl) (fun _ _ _ h => h) HLX.out (by rfl) ?h_14 ?r_14
 case h_14 => intro w' hS'; obtain ⟨s0, s5, s1, s2, s3⟩ := hS'; go_simp; try with_reducible rfl
 refine wpAnyD_tk 15 ?v_15 rfl (by kernel_rfl) (fun _ _ _ h => h) HLX.out (by rfl) ?h_15 ?r_15
 case h_15 => intro w' hS'; clear hS'; go_simp; try with_reducible rfl
 refine wpAnyD_tk 16 ?v_16 rfl (by kernel_rfl) (fun _ _ _ h => h) HLX.out (by rfl) ?h_16 ?r_16
 case h_16 => intro w' hS'; obtain ⟨s0, s5, s1, s2, s3⟩ := hS'; go_simp; try with_reducible rfl
 refine wpAnyD_tk 17 ?v_17 rfl (by kernel_rfl) (fun _ _ _ h => h) HLX.out (by rfl) ?h_17 ?r_17
 case h_17 => intro w' hS'; clear hS'; go_simp; try with_reducible rfl
 refine wpAnyD_tk 18 ?v_18 rfl (by kernel_rfl) (fun _ _ _ h => h) HLX.out (by rfl) ?h_18 ?r_18
 case h_18 => intro w' hS'; clear hS'; go_simp; try with_reducible rfl
 refine wpAnyD_tk 19 ?v_19 rfl (by kernel_rfl) (fun _ _ _ h => h) HLX.out (by rfl) ?h_19 ?r_19
 case h_19 => intro w' hS'; obtain ⟨s0, s5, s1, s2, s3⟩ := hS'; go_simp; try with_reducible rfl
 refine wpAnyD_tk 20 ?v_20 rfl (by kernel_rfl) (fun _ _ _ h => h) HLX.out (by rfl) ?h_20 ?r_20
 case h_20 => intro w' hS'; clear hS'; go_simp; try with_reducible rfl
 refine wpAnyD_one (i := 21) (by kernel_rfl) rfl (fun K hK => ?_)
 go_simp
 refine (HPS.out _ HBX2.out).mono ?_
 rintro e w1 ⟨v, rfl, hv, vK', hr1, hs1⟩; obtain ⟨Aa, ca, hve, hvl, hvC⟩ := Kd.R_reads hv; subst hve; obtain ⟨args, hargs⟩ : ∃ args, args = s.stack.drop (s.stack.length - m) := ⟨_, rfl⟩; rw [← hargs] at hv ⊢; have HARGS := Lib.hid hargs; have HV := Lib.hid (Kd.R_lower hv HBX2.out.size); have HR1 := Lib.hid hr1; have HS := Lib.hid ((Stp.below HBX2.out).trans hs1); have y1 : w1.cell? ⟨ib, 1, none⟩ = some (.int .i64 i) := (blk_cell (HV0.out w1 HS.out) 1).trans rfl; have y5 := hr1.at_.2.2.2.2.2.1; have y0 := hr1.at_.1; have y2 := cell_up (HLO.out w1 HS.out) HD2.out; have y3 := cell_up (HLO.out w1 HS.out) HQ1.out; have HM1 := Lib.hid (kAsk_mkM w1 B _ ⟨(i : Int), args⟩ (v := .slice Aa args.length ca) (Kd.R_tight rfl (Kd.R_lower HV.out HBb.out))); have HM2 := Lib.hid (fun k (hk : some k = (Value.slice Aa args.length ca).ownBlock) => (⟨retag_ge (Kd.R_base HV.out k hk.symm), fun e => by have h1 : W.heap.size ≤ k := Kd.R_base HV.out k hk.symm; have h2 := Kd.S_lt HRU.out.asks k e.symm; omega⟩ : retag W.heap.size 4 f k = 4 ∧ some k ≠ vA.ownBlock)); have HM3 := Lib.hid (Kd.S_mono HR1.out.asks (fun k hk => (⟨by rw [retag_lt (HFC.out k (by omega))]; exact hk, fun e => by have h1 : W.heap.size ≤ k := Kd.R_base HV.out k e.symm; have h2 := HFC.out k (by omega); omega⟩ : retag W.heap.size 4 f k = 4 ∧ ¬ some k = (Value.slice Aa args.length ca).ownBlock))); clear hargs hv hvl hvC hr1 hs1
 have HL1 := Lib.hid (show w1.cell? ⟨g, 0, none⟩ = some (.pointer (some ⟨mb, 0, none⟩)) ∧ w1.cell? ⟨g, 5, none⟩ = some vA ∧ w1.cell? ⟨ib, 1, none⟩ = some (.int .i64 i) ∧ w1.cell? ⟨mb, 2, none⟩ = some (.slice (some ad) cl cS) ∧ w1.cell? ⟨(ad.add (i * 3)).block, (ad.add (i * 3)).off + 1, none⟩ = some (.slice A1 m cc1) from ⟨y0, y5, y1, y2, y3⟩)
 refine hK _ _ (.inr HL1.out) ?_
 clear hK K
 refine wpAnyD_tk 22 ?v_22 rfl (by kernel_rfl) (fun _ _ _ h => h) HL1.out (by rfl) ?h_22 ?r_22
 case h_22 => intro w' hS'; clear hS'; go_simp; try with_reducible rfl
 refine wpAnyD_one (i := 23) (by kernel_rfl) rfl (fun K hK => ?_)
 go_simp
 have hba := below_alloc (Below.refl w1.heap.size w1) (.cells #[.int .i64 i, .slice Aa args.length ca] 81)
 refine hK _ _ (.inr ⟨cell_up hba y0, cell_up hba y5, cell_up hba y1, cell_up hba y2, cell_up hba y3⟩) ?_
 clear hK K hba
 refine wpAnyD_one (i := 24) (by kernel_rfl) rfl (fun K hK => ?_)
 refine Kd.S_append_step kAsk (w0 := w1) (W := w1) B (by rfl) _ _ 34 81 (.agg #[.int .i64 0, .slice none 0 0]) 32 rfl Tryz.underlying34 infoAsk rfl (show 0 < 2 by decide) (by decide) vA s.asks ⟨(i : Int), args⟩ [.int .i64 i, .slice Aa args.length ca] (fun k => retag W.heap.size 4 f k = 4) (fun k => some k = (Value.slice Aa args.length ca).ownBlock) rfl rfl HM1.out HM2.out (fun k hk => retag_ge (Nat.le_trans HS.out.size hk)) HM3.out (Below.refl _ _) (Nat.le_trans HBb.out HS.out.size) (by omega) ?_; intro v1 w2 hv1 hb1 hg1 hat1; obtain ⟨A', c', rfl⟩ := Kd.S_slice hv1; have hbk := (hg1.block g (Nat.lt_of_lt_of_le hgl HS.out.size) (S_notg HR1.out.asks (by decide) HRU.out.fg)).trans HR1.out.blk; have z5 : w2.cell? ⟨g, 5, none⟩ = some vA := (blk_cell hbk 5).trans rfl; have z6 : w2.frozen? ⟨g, 5, none⟩ = false := blk_frozen hbk 5; have HBK := Lib.hid hbk; have HV1 := Lib.hid hv1; have HG1 := Lib.hid hg1; have hBe2 : Below W0.heap.size W0 w2 := (HLO.out w1 HS.out).grown hg1 (Nat.le_trans (by rw [← HB0.out]; exact HBb.out) HS.out.size) (fun k hk => by rw [← HB0.out]; exact Kd.S_base HRU.out.asks k hk); have z1 : w2.cell? ⟨ib, 1, none⟩ = some (.int .i64 i) := (cell_eq (hg1.block ib (Nat.lt_of_lt_of_le (blk_lt HBX.out) HS.out.size) (fun e => by have h4 : f ib = 4 := (Kd.S_R HRU.out.asks).1 ib e.symm; rw [hfib] at h4; cases h4)) 1).trans y1; have z0 : w2.cell? ⟨g, 0, none⟩ = some (.pointer (some ⟨mb, 0, none⟩)) := (blk_cell hbk 0).trans rfl; have z2 := cell_up hBe2 HD2.out; have z3 := cell_up hBe2 HQ1.out; clear y0 y1 y2 y3 y5 hbk hv1 hb1 hg1 hat1 hBe2
 have HL2 := Lib.hid (show w2.cell? ⟨g, 0, none⟩ = some (.pointer (some ⟨mb, 0, none⟩)) ∧ w2.cell? ⟨g, 5, none⟩ = some vA ∧ w2.cell? ⟨ib, 1, none⟩ = some (.int .i64 i) ∧ w2.cell? ⟨mb, 2, none⟩ = some (.slice (some ad) cl cS) ∧ w2.cell? ⟨(ad.add (i * 3)).block, (ad.add (i * 3)).off + 1, none⟩ = some (.slice A1 m cc1) from ⟨z0, z5, z1, z2, z3⟩)
 refine hK _ _ (.inr HL2.out) ?_
 clear hK K
 refine wpAnyD_one (i := 25) (by kernel_rfl) rfl (fun K hK => ?_)
 go_simp
 refine hK _ _ (.inr HL2.out) ?_
 clear hK K
 refine wpAnyD_one (i := 26) (by kernel_rfl) rfl (fun K hK => ?_)
 go_simp
 refine hK _ _ (.inr HL2.out) ?_
 clear hK K
 refine wpAnyD_one (i := 27) (by kernel_rfl) rfl (fun K hK => ?_)
 go_simp
 refine hK _ _ (.inl rfl) ?_
 clear hK K
 refine wpAnyD_done (by kernel_rfl) ?_ _
 have hg1 := HG1.out
 obtain ⟨v1, hv1⟩ : ∃ v1, v1 = Value.slice A' (s.asks.length + 1) c' := ⟨_, rfl⟩
 have hR : Kd.S kAsk 81 w2 B (fun k => retag W.heap.size 4 f k = 4) v1 (s.asks ++ [⟨(i : Int), args⟩]) := by
  have h := HV1.out
  rw [show (s.asks ++ [(⟨(i : Int), args⟩ : SAsk)]).length = s.asks.length + 1 by simp] at h
  rw [hv1]; exact h
 obtain ⟨r1, r2⟩ := HR1.out.turnA (w' := w2.setCell ⟨g, 5, none⟩ v1) (vA' := v1) (ys := s.asks ++ [⟨(i : Int), args⟩]) HS.out HBb.out HFC.out hgl hg1.os hg1.tape hg1.output (by have := hg1.size; simpa using this)
  (fun k h1 h2 h3 => by
   rw [Below.heap_setCell _ _ _ k h2]
   exact hg1.block k h1 (fun e => h3 ((Kd.S_R HRU.out.asks).1 k e.symm)))
  (blk_set HBK.out 5 _) (Kd.S_step hR (fun k ho hlt => Below.heap_setCell _ _ _ k (fun e => by rw [e, retag_lt hgl, HRU.out.fg] at ho; omega)))
 have c6 : (w2.setCell ⟨g, 5, none⟩ v1).cell? ⟨g, 6, none⟩ = some (.bool s.waits) := r1.at_.2.2.2.2.2.2.1
 have hf6 : (w2.setCell ⟨g, 5, none⟩ v1).frozen? ⟨g, 6, none⟩ = false := blk_frozen r1.blk 6
 have HP := Lib.hid (r1.fld 6 (.bool true) { s.cut m with asks := s.asks ++ [⟨(i : Int), s.args m⟩], waits := true } (by rw [show s.args m = args from HARGS.out.symm]; rfl) rfl rfl rfl (by rw [show s.args m = args from HARGS.out.symm]))
 have HS2 := Lib.hid r2
 rw [← hv1]
 obtain ⟨X, hX⟩ : ∃ X, X = w2.setCell ⟨g, 5, none⟩ v1 := ⟨_, rfl⟩
 rw [← hX] at c6 hf6 HP HS2 ⊢
 clear r1 r2 hR hv1 hg1 hX
 go_wp2_with fail
 exact HQ.out _ _ rfl ⟨_, _, vK', v1, _, HP.out.1, HS2.out.trans HP.out.2⟩
end
set_option maxRecDepth 100000
theorem stepI_1 (x : SImage) (s : SRun) (A b : Int) : stepI x ⟨1, A, b⟩ s = s.put A := by
 simp [stepI, plainB, oneB, plainR, fnA, sysA]
theorem stepI_2 (x : SImage) (s : SRun) (A b : Int) : stepI x ⟨2, A, b⟩ s = s.put (s.top.loc.getD A.toNat 0) := by
 simp [stepI, plainB, oneB, plainR, fnA, sysA]
theorem stepI_3 (x : SImage) (s : SRun) (A b : Int) : stepI x ⟨3, A, b⟩ s = (s.cut 1).setTop { s.top with loc := s.top.loc.set A.toNat s.last } := by
 simp [stepI, plainB, oneB, plainR, fnA, sysA]
theorem stepI_4 (x : SImage) (s : SRun) (A b : Int) : stepI x ⟨4, A, b⟩ s = s.put ((s.state.getD A.toNat []).getD 0 0) := by
 simp [stepI, plainB, oneB, plainR, fnA, sysA]
theorem stepI_5 (x : SImage) (s : SRun) (A b : Int) : stepI x ⟨5, A, b⟩ s = { s.cut 1 with state := s.state.set A.toNat ((s.state.getD A.toNat []).set 0 s.last) } := by
 simp [stepI, plainB, oneB, plainR, fnA, sysA]
theorem stepI_28 (x : SImage) (s : SRun) (A b : Int) : stepI x ⟨28, A, b⟩ s = s.setTop { s.top with at_ := A.toNat } := by
 simp [stepI, plainB, oneB, plainR, fnA, sysA]
theorem stepI_29 (x : SImage) (s : SRun) (A b : Int) : stepI x ⟨29, A, b⟩ s = if s.last = 0 then (s.cut 1).setTop { s.top with at_ := A.toNat } else s.cut 1 := by
 simp [stepI, plainB, oneB, plainR, fnA, sysA]
theorem stepI_33 (x : SImage) (s : SRun) (A b : Int) : stepI x ⟨33, A, b⟩ s = s.cut 1 := by
 simp [stepI, plainB, oneB, plainR, fnA, sysA]
theorem stepI_13 (x : SImage) (s : SRun) (A b : Int) : stepI x ⟨13, A, b⟩ s = (s.cut 1).put (oneV 13 s.last) := by
 simp [stepI, plainB, oneB, plainR, fnA, sysA]
theorem stepI_18 (x : SImage) (s : SRun) (A b : Int) : stepI x ⟨18, A, b⟩ s = (s.cut 1).put (oneV 18 s.last) := by
 simp [stepI, plainB, oneB, plainR, fnA, sysA]
theorem stepI_25 (x : SImage) (s : SRun) (A b : Int) : stepI x ⟨25, A, b⟩ s = (s.cut 1).put (oneV 25 s.last) := by
 simp [stepI, plainB, oneB, plainR, fnA, sysA]
theorem stepI_26 (x : SImage) (s : SRun) (A b : Int) : stepI x ⟨26, A, b⟩ s = (s.cut 1).put (oneV 26 s.last) := by
 simp [stepI, plainB, oneB, plainR, fnA, sysA]
theorem stepI_27 (x : SImage) (s : SRun) (A b : Int) : stepI x ⟨27, A, b⟩ s = (s.cut 1).put (oneV 27 s.last) := by
 simp [stepI, plainB, oneB, plainR, fnA, sysA]
theorem stepI_6 (x : SImage) (s : SRun) (A b : Int) : stepI x ⟨6, A, b⟩ s = if (atR A.toNat s).1 then (atR A.toNat s).2 else trapR 3 (atR A.toNat s).2 := by
 simp [stepI, plainB, oneB, plainR, fnA, sysA]
theorem stepI_7 (x : SImage) (s : SRun) (A b : Int) : stepI x ⟨7, A, b⟩ s = if (putR A.toNat s).1 then (putR A.toNat s).2 else trapR 3 (putR A.toNat s).2 := by
 simp [stepI, plainB, oneB, plainR, fnA, sysA]
theorem stepI_30 (x : SImage) (s : SRun) (A b : Int) : stepI x ⟨30, A, b⟩ s = if s.frames.length = 64 then trapR 4 (s.cut (fnA x A).f1.length) else enterR x A.toNat (s.args (fnA x A).f1.length) (s.cut (fnA x A).f1.length) := by
 simp [stepI, plainB, oneB, plainR, fnA, sysA]
theorem stepI_31 (x : SImage) (s : SRun) (A b : Int) : stepI x ⟨31, A, b⟩ s = { s.cut (sysA A).f1.length with asks := s.asks ++ [⟨A, s.args (sysA A).f1.length⟩], waits := true } := by
 simp [stepI, plainB, oneB, plainR, fnA, sysA]
theorem stepI_32 (x : SImage) (s : SRun) (A b : Int) : stepI x ⟨32, A, b⟩ s = if (backR (decide ((x.fns.getD s.top.fi zFn).f2 ≠ 0)) s).1 then { (backR (decide ((x.fns.getD s.top.fi zFn).f2 ≠ 0)) s).2 with ended := true } else (backR (decide ((x.fns.getD s.top.fi zFn).f2 ≠ 0)) s).2 := by
 simp only [stepI, plainB, oneB]; rfl
theorem stepI_8 (x : SImage) (s : SRun) (A b : Int) : stepI x ⟨8, A, b⟩ s = ((s.cut 1).cut 1).put (twoV 8 (s.cut 1).last s.last) := by
 simp [stepI, plainB, oneB, plainR, fnA, sysA]
theorem stepI_9 (x : SImage) (s : SRun) (A b : Int) : stepI x ⟨9, A, b⟩ s = ((s.cut 1).cut 1).put (twoV 9 (s.cut 1).last s.last) := by
 simp [stepI, plainB, oneB, plainR, fnA, sysA]
theorem stepI_10 (x : SImage) (s : SRun) (A b : Int) : stepI x ⟨10, A, b⟩ s = ((s.cut 1).cut 1).put (twoV 10 (s.cut 1).last s.last) := by
 simp [stepI, plainB, oneB, plainR, fnA, sysA]
theorem stepI_11 (x : SImage) (s : SRun) (A b : Int) : stepI x ⟨11, A, b⟩ s = if s.last = 0 then trapR 2 ((s.cut 1).cut 1) else ((s.cut 1).cut 1).put (twoV 11 (s.cut 1).last s.last) := by
 simp [stepI, plainB, oneB, plainR, fnA, sysA]
theorem stepI_12 (x : SImage) (s : SRun) (A b : Int) : stepI x ⟨12, A, b⟩ s = if s.last = 0 then trapR 2 ((s.cut 1).cut 1) else ((s.cut 1).cut 1).put (twoV 12 (s.cut 1).last s.last) := by
 simp [stepI, plainB, oneB, plainR, fnA, sysA]
theorem stepI_14 (x : SImage) (s : SRun) (A b : Int) : stepI x ⟨14, A, b⟩ s = ((s.cut 1).cut 1).put (twoV 14 (s.cut 1).last s.last) := by
 simp [stepI, plainB, oneB, plainR, fnA, sysA]
theorem stepI_15 (x : SImage) (s : SRun) (A b : Int) : stepI x ⟨15, A, b⟩ s = ((s.cut 1).cut 1).put (twoV 15 (s.cut 1).last s.last) := by
 simp [stepI, plainB, oneB, plainR, fnA, sysA]
theorem stepI_16 (x : SImage) (s : SRun) (A b : Int) : stepI x ⟨16, A, b⟩ s = ((s.cut 1).cut 1).put (twoV 16 (s.cut 1).last s.last) := by
 simp [stepI, plainB, oneB, plainR, fnA, sysA]
theorem stepI_17 (x : SImage) (s : SRun) (A b : Int) : stepI x ⟨17, A, b⟩ s = if s.last = 0 then trapR 2 ((s.cut 1).cut 1) else ((s.cut 1).cut 1).put (twoV 17 (s.cut 1).last s.last) := by
 simp [stepI, plainB, oneB, plainR, fnA, sysA]
theorem stepI_19 (x : SImage) (s : SRun) (A b : Int) : stepI x ⟨19, A, b⟩ s = ((s.cut 1).cut 1).put (twoV 19 (s.cut 1).last s.last) := by
 simp [stepI, plainB, oneB, plainR, fnA, sysA]
theorem stepI_20 (x : SImage) (s : SRun) (A b : Int) : stepI x ⟨20, A, b⟩ s = ((s.cut 1).cut 1).put (twoV 20 (s.cut 1).last s.last) := by
 simp [stepI, plainB, oneB, plainR, fnA, sysA]
theorem stepI_21 (x : SImage) (s : SRun) (A b : Int) : stepI x ⟨21, A, b⟩ s = ((s.cut 1).cut 1).put (twoV 21 (s.cut 1).last s.last) := by
 simp [stepI, plainB, oneB, plainR, fnA, sysA]
theorem stepI_22 (x : SImage) (s : SRun) (A b : Int) : stepI x ⟨22, A, b⟩ s = ((s.cut 1).cut 1).put (twoV 22 (s.cut 1).last s.last) := by
 simp [stepI, plainB, oneB, plainR, fnA, sysA]
theorem stepI_23 (x : SImage) (s : SRun) (A b : Int) : stepI x ⟨23, A, b⟩ s = ((s.cut 1).cut 1).put (twoV 23 (s.cut 1).last s.last) := by
 simp [stepI, plainB, oneB, plainR, fnA, sysA]
theorem stepI_24 (x : SImage) (s : SRun) (A b : Int) : stepI x ⟨24, A, b⟩ s = ((s.cut 1).cut 1).put (twoV 24 (s.cut 1).last s.last) := by
 simp [stepI, plainB, oneB, plainR, fnA, sysA]
set_option maxRecDepth 1000000
theorem at_flags (i : Nat) (s : SRun) : (atR i s).2.ended = s.ended ∧ (atR i s).2.waits = s.waits := by unfold atR; split <;> exact ⟨rfl, rfl⟩
theorem put_flags (i : Nat) (s : SRun) : (putR i s).2.ended = s.ended ∧ (putR i s).2.waits = s.waits := by unfold putR; split <;> exact ⟨rfl, rfl⟩
theorem back_flags (r : Bool) (s : SRun) : (backR r s).2.ended = s.ended ∧ (backR r s).2.waits = s.waits := by
 unfold backR
 cases r
 all_goals
  simp only
  split <;> exact ⟨rfl, rfl⟩
theorem sw_31 (B mb fb g : Nat) (W : World) (f : Nat → Nat) (vS vF vK vA : Value) (s : SRun) (h : RUN B mb fb W g f vS vF vK vA s) (hB : B ≤ W.heap.size) (bd : Bd s) (ib : Nat) (b : Int) (FB cap n : Nat) (hn : s.frames.length = n + 1) (hF : vF = .slice (some ⟨FB, 0, none⟩) (n + 1) cap)
  (Q0 : Exit → Act → World → Prop) (us : Nat → Value) (x : SImage) (AG : Option Addr) (cG cF : Nat) (AS : Option Addr) (cS : Nat) (W0 : World) (hM : MACH W0 mb fb x AG cG cF AS cS) (hB0 : B = W0.heap.size) (hBe : Below W0.heap.size W0 W) (hfl : x.fns.length ≤ 1000) (i : Nat) (hi : i < callsL.length) (hm : (callsL.getD i zSys).f1.length ≤ s.stack.length) (hfib : f ib = 0) (hibg : ¬ ib = g)
  (hbox : W.heap[ib]? = some (.cells #[.int .i64 31, .int .i64 i, .int .i64 b] 56 (0, 0))) (hq : ∀ a' w', a'.defers = [] → RP B mb fb g W f { s.cut (callsL.getD i zSys).f1.length with asks := s.asks ++ [⟨(i : Int), s.args (callsL.getD i zSys).f1.length⟩], waits := true } w' → Q0 .ret a' w') :
  Code.wp Tryz.prog swC Q0 (FR5 g FB n ib 31 us) W :=
 sw_31c B mb fb g W (cleanT W.heap.size f) vS vF vK vA s h.clean hB bd ib b FB cap n hn hF Q0 us x AG cG cF AS cS W0 hM hB0 hBe hfl cleanT_lt i hi hm (by unfold cleanT; rw [if_pos (blk_lt hbox)]; exact hfib) hibg hbox (fun a' w' hd hr => hq a' w' hd hr.clean)
theorem sw_all (B mb fb g : Nat) (W : World) (f : Nat → Nat) (vS vF vK vA : Value) (s : SRun) (h : RUN B mb fb W g f vS vF vK vA s) (hB : B ≤ W.heap.size) (bd : Bd s) (ib : Nat) (b : Int) (FB cap n : Nat) (hn : s.frames.length = n + 1) (hF : vF = .slice (some ⟨FB, 0, none⟩) (n + 1) cap)
  (Q0 : Exit → Act → World → Prop) (us : Nat → Value) (x : SImage) (AG : Option Addr) (cG cF : Nat) (AS : Option Addr) (cS : Nat) (W0 : World) (hM : MACH W0 mb fb x AG cG cF AS cS) (hB0 : B = W0.heap.size) (hBe : Below W0.heap.size W0 W) (hfl : x.fns.length ≤ 1000) (op A : Int) (hbox : W.heap[ib]? = some (.cells #[.int .i64 op, .int .i64 A, .int .i64 b] 56 (0, 0))) (hfib : f ib = 0) (hibg : ¬ ib = g) (hp : PreI x ⟨op, A, b⟩ s) (hfi : s.top.fi < x.fns.length) (he : s.ended = false) (hw : s.waits = false)
  (hN : ∀ s' a' w', s' = stepI x ⟨op, A, b⟩ s → s'.ended = false → s'.waits = false → LF g 0 (RP B mb fb g W f s') a' w' → Q0 .normal a' w')
  (hT : ∀ t s' a' w', trapR t s' = stepI x ⟨op, A, b⟩ s → LF g t (RP B mb fb g W f s') a' w' → Q0 (.goto 0) a' w')
  (hR : ∀ a' w', a'.defers = [] → RP B mb fb g W f (stepI x ⟨op, A, b⟩ s) w' → ((stepI x ⟨op, A, b⟩ s).ended || (stepI x ⟨op, A, b⟩ s).waits) = true → Q0 .ret a' w') :
  Code.wp Tryz.prog swC Q0 (FR5 g FB n ib op us) W := by
 have htop : s.top = s.frames.getD n zFrm := by unfold SRun.top; rw [hn]; rfl
 obtain ⟨qop, qloc, qvar, qjmp, qone, qtwo, qcall, qsys, qdv, qret⟩ := hp
 simp only at qop qloc qvar qjmp qone qtwo qcall qsys qdv qret
 have hop : op = 1 ∨ op = 2 ∨ op = 3 ∨ op = 4 ∨ op = 5 ∨ op = 6 ∨ op = 7 ∨ op = 8 ∨ op = 9 ∨ op = 10 ∨ op = 11 ∨ op = 12 ∨ op = 13 ∨ op = 14 ∨ op = 15 ∨ op = 16 ∨ op = 17 ∨ op = 18 ∨ op = 19 ∨ op = 20 ∨ op = 21 ∨ op = 22 ∨ op = 23 ∨ op = 24 ∨ op = 25 ∨ op = 26 ∨ op = 27 ∨ op = 28 ∨ op = 29 ∨ op = 30 ∨ op = 31 ∨ op = 32 ∨ op = 33 := by omega
 rcases hop with rfl | rfl | rfl | rfl | rfl | rfl | rfl | rfl | rfl | rfl | rfl | rfl | rfl | rfl | rfl | rfl | rfl | rfl | rfl | rfl | rfl | rfl | rfl | rfl | rfl | rfl | rfl | rfl | rfl | rfl | rfl | rfl | rfl
 ·-- 1
  exact sw_1 B mb fb g W f vS vF vK vA s h hB bd ib b FB cap n hn hF Q0 us A hbox (fun a' w' hl => hN _ a' w' (stepI_1 x s A b).symm he hw hl)
 ·-- 2
  have hl := qloc (by decide)
  obtain ⟨j, rfl⟩ : ∃ j : Nat, A = j := ⟨A.toNat, by omega⟩
  rw [htop] at hl
  have e := stepI_2 x s (j : Int) b
  rw [Int.toNat_natCast, htop] at e
  exact sw_2 B mb fb g W f vS vF vK vA s h hB bd ib b FB cap n hn hF Q0 us j (by omega) hbox (fun a' w' hl => hN _ a' w' e.symm he hw hl)
 ·-- 3
  have hl := qloc (by decide)
  obtain ⟨j, rfl⟩ : ∃ j : Nat, A = j := ⟨A.toNat, by omega⟩
  rw [htop] at hl
  have e := stepI_3 x s (j : Int) b
  rw [Int.toNat_natCast] at e
  exact sw_3 B mb fb g W f vS vF vK vA s h hB bd ib b FB cap n hn hF Q0 us j (by omega) (qone (by decide)) hbox (fun a' w' hl => hN _ a' w' e.symm he hw hl)
 ·-- 4
  have hl := qvar (by decide)
  obtain ⟨j, rfl⟩ : ∃ j : Nat, A = j := ⟨A.toNat, by omega⟩
  simp only [Int.toNat_natCast] at hl
  have e := stepI_4 x s (j : Int) b
  rw [Int.toNat_natCast] at e
  exact sw_4 B mb fb g W f vS vF vK vA s h hB bd ib b FB cap n hn hF Q0 us j (by omega) hl.2.2.1 hbox (fun a' w' hl => hN _ a' w' e.symm he hw hl)
 ·-- 5
  have hl := qvar (by decide)
  obtain ⟨j, rfl⟩ : ∃ j : Nat, A = j := ⟨A.toNat, by omega⟩
  simp only [Int.toNat_natCast] at hl
  have e := stepI_5 x s (j : Int) b
  rw [Int.toNat_natCast] at e
  exact sw_5 B mb fb g W f vS vF vK vA s h hB bd ib b FB cap n hn hF Q0 us j (by omega) hl.2.2.1 (qone (by decide)) hbox (fun a' w' hl => hN _ a' w' e.symm he hw hl)
 ·-- 6
  have hl := qvar (by decide)
  obtain ⟨j, rfl⟩ : ∃ j : Nat, A = j := ⟨A.toNat, by omega⟩
  simp only [Int.toNat_natCast] at hl
  have e := stepI_6 x s (j : Int) b
  rw [Int.toNat_natCast] at e
  exact sw_6 B mb fb g W f vS vF vK vA s h hB bd ib b FB cap n hn hF Q0 us j (by omega) hl.2.2.1 hl.2.2.2 (qone (by decide)) hbox (fun h1 a' w' hl => hN _ a' w' (by rw [e, if_pos h1]) ((at_flags j s).1.trans he) ((at_flags j s).2.trans hw) hl) (fun h1 a' w' hl => hT 3 _ a' w' (by rw [e, if_neg (by rw [h1]; decide)]) hl)
 ·-- 7
  have hl := qvar (by decide)
  obtain ⟨j, rfl⟩ : ∃ j : Nat, A = j := ⟨A.toNat, by omega⟩
  simp only [Int.toNat_natCast] at hl
  have e := stepI_7 x s (j : Int) b
  rw [Int.toNat_natCast] at e
  exact sw_7 B mb fb g W f vS vF vK vA s h hB bd ib b FB cap n hn hF Q0 us j (by omega) hl.2.2.1 hl.2.2.2 (qtwo (by decide)) hbox (fun h1 a' w' hl => hN _ a' w' (by rw [e, if_pos h1]) ((put_flags j s).1.trans he) ((put_flags j s).2.trans hw) hl) (fun h1 a' w' hl => hT 3 _ a' w' (by rw [e, if_neg (by rw [h1]; decide)]) hl)
 ·-- 8
  exact sw_8 B mb fb g W f vS vF vK vA s h hB bd ib b FB cap n hn hF Q0 us A (qtwo (by decide)) hbox (fun a' w' hl => hN _ a' w' (stepI_8 x s A b).symm he hw hl)
 ·-- 9
  exact sw_9 B mb fb g W f vS vF vK vA s h hB bd ib b FB cap n hn hF Q0 us A (qtwo (by decide)) hbox (fun a' w' hl => hN _ a' w' (stepI_9 x s A b).symm he hw hl)
 ·-- 10
  exact sw_10 B mb fb g W f vS vF vK vA s h hB bd ib b FB cap n hn hF Q0 us A (qtwo (by decide)) hbox (fun a' w' hl => hN _ a' w' (stepI_10 x s A b).symm he hw hl)
 ·-- 11
  have e := stepI_11 x s A b
  exact sw_11 B mb fb g W f vS vF vK vA s h hB bd ib b FB cap n hn hF Q0 us A (qtwo (by decide)) hbox (fun h1 a' w' hl => hN (((s.cut 1).cut 1).put (twoV 11 (s.cut 1).last s.last)) a' w' (by rw [e, if_neg h1]) he hw hl) (fun h1 a' w' hl => hT 2 _ a' w' (by rw [e, if_pos h1]) hl)
 ·-- 12
  have e := stepI_12 x s A b
  exact sw_12 B mb fb g W f vS vF vK vA s h hB bd ib b FB cap n hn hF Q0 us A (qtwo (by decide)) hbox (fun h1 a' w' hl => hN (((s.cut 1).cut 1).put (twoV 12 (s.cut 1).last s.last)) a' w' (by rw [e, if_neg h1]) he hw hl) (fun h1 a' w' hl => hT 2 _ a' w' (by rw [e, if_pos h1]) hl)
 ·-- 13
  exact sw_13 B mb fb g W f vS vF vK vA s h hB bd ib b FB cap n hn hF Q0 us A (qone (by decide)) hbox (fun a' w' hl => hN _ a' w' (stepI_13 x s A b).symm he hw hl)
 ·-- 14
  exact sw_14 B mb fb g W f vS vF vK vA s h hB bd ib b FB cap n hn hF Q0 us A (qtwo (by decide)) hbox (fun a' w' hl => hN _ a' w' (stepI_14 x s A b).symm he hw hl)
 ·-- 15
  exact sw_15 B mb fb g W f vS vF vK vA s h hB bd ib b FB cap n hn hF Q0 us A (qtwo (by decide)) hbox (fun a' w' hl => hN _ a' w' (stepI_15 x s A b).symm he hw hl)
 ·-- 16
  exact sw_16 B mb fb g W f vS vF vK vA s h hB bd ib b FB cap n hn hF Q0 us A (qtwo (by decide)) hbox (fun a' w' hl => hN _ a' w' (stepI_16 x s A b).symm he hw hl)
 ·-- 17
  have e := stepI_17 x s A b
  exact sw_17 B mb fb g W f vS vF vK vA s h hB bd ib b FB cap n hn hF Q0 us A (qtwo (by decide)) (qdv rfl) hbox (fun h1 a' w' hl => hN (((s.cut 1).cut 1).put (twoV 17 (s.cut 1).last s.last)) a' w' (by rw [e, if_neg h1]) he hw hl) (fun h1 a' w' hl => hT 2 _ a' w' (by rw [e, if_pos h1]) hl)
 ·-- 18
  exact sw_18 B mb fb g W f vS vF vK vA s h hB bd ib b FB cap n hn hF Q0 us A (qone (by decide)) hbox (fun a' w' hl => hN _ a' w' (stepI_18 x s A b).symm he hw hl)
 ·-- 19
  exact sw_19 B mb fb g W f vS vF vK vA s h hB bd ib b FB cap n hn hF Q0 us A (qtwo (by decide)) hbox (fun a' w' hl => hN _ a' w' (stepI_19 x s A b).symm he hw hl)
 ·-- 20
  exact sw_20 B mb fb g W f vS vF vK vA s h hB bd ib b FB cap n hn hF Q0 us A (qtwo (by decide)) hbox (fun a' w' hl => hN _ a' w' (stepI_20 x s A b).symm he hw hl)
 ·-- 21
  exact sw_21 B mb fb g W f vS vF vK vA s h hB bd ib b FB cap n hn hF Q0 us A (qtwo (by decide)) hbox (fun a' w' hl => hN _ a' w' (stepI_21 x s A b).symm he hw hl)
 ·-- 22
  exact sw_22 B mb fb g W f vS vF vK vA s h hB bd ib b FB cap n hn hF Q0 us A (qtwo (by decide)) hbox (fun a' w' hl => hN _ a' w' (stepI_22 x s A b).symm he hw hl)
 ·-- 23
  exact sw_23 B mb fb g W f vS vF vK vA s h hB bd ib b FB cap n hn hF Q0 us A (qtwo (by decide)) hbox (fun a' w' hl => hN _ a' w' (stepI_23 x s A b).symm he hw hl)
 ·-- 24
  exact sw_24 B mb fb g W f vS vF vK vA s h hB bd ib b FB cap n hn hF Q0 us A (qtwo (by decide)) hbox (fun a' w' hl => hN _ a' w' (stepI_24 x s A b).symm he hw hl)
 ·-- 25
  exact sw_25 B mb fb g W f vS vF vK vA s h hB bd ib b FB cap n hn hF Q0 us A (qone (by decide)) hbox (fun a' w' hl => hN _ a' w' (stepI_25 x s A b).symm he hw hl)
 ·-- 26
  exact sw_26 B mb fb g W f vS vF vK vA s h hB bd ib b FB cap n hn hF Q0 us A (qone (by decide)) hbox (fun a' w' hl => hN _ a' w' (stepI_26 x s A b).symm he hw hl)
 ·-- 27
  exact sw_27 B mb fb g W f vS vF vK vA s h hB bd ib b FB cap n hn hF Q0 us A (qone (by decide)) hbox (fun a' w' hl => hN _ a' w' (stepI_27 x s A b).symm he hw hl)
 ·-- 28
  have hl := qjmp (by decide)
  obtain ⟨j, rfl⟩ : ∃ j : Nat, A = j := ⟨A.toNat, by omega⟩
  have e := stepI_28 x s (j : Int) b
  rw [Int.toNat_natCast] at e
  exact sw_28 B mb fb g W f vS vF vK vA s h hB bd ib b FB cap n hn hF Q0 us j hbox (fun a' w' hl => hN _ a' w' e.symm he hw hl)
 ·-- 29
  have hl := qjmp (by decide)
  obtain ⟨j, rfl⟩ : ∃ j : Nat, A = j := ⟨A.toNat, by omega⟩
  have e := stepI_29 x s (j : Int) b
  rw [Int.toNat_natCast] at e
  exact sw_29 B mb fb g W f vS vF vK vA s h hB bd ib b FB cap n hn hF Q0 us j (qone (by decide)) hbox (fun a' w' hl => hN _ a' w' e.symm (by split <;> exact he) (by split <;> exact hw) hl)
 ·-- 30
  have hl := qcall (by decide)
  obtain ⟨j, rfl⟩ : ∃ j : Nat, A = j := ⟨A.toNat, by omega⟩
  unfold fnA at hl
  simp only [Int.toNat_natCast] at hl
  have e := stepI_30 x s (j : Int) b
  unfold fnA at e
  rw [Int.toNat_natCast] at e
  exact sw_30 B mb fb g W f vS vF vK vA s h hB bd ib b FB cap n hn hF Q0 us x AG cG cF AS cS W0 hM hB0 hBe hfl j (by omega) hl.2.2.1 hl.2.2.2.1 hl.2.2.2.2 hfib hibg hbox (fun h1 a' w' hl => hN (enterR x j (s.args (x.fns.getD j zFn).f1.length) (s.cut (x.fns.getD j zFn).f1.length)) a' w' (by rw [e, if_neg h1]) he hw hl) (fun h1 a' w' hl => hT 4 _ a' w' (by rw [e, if_pos h1]) hl)
 ·-- 31
  have hl := qsys (by decide)
  obtain ⟨j, rfl⟩ : ∃ j : Nat, A = j := ⟨A.toNat, by omega⟩
  unfold sysA at hl
  simp only [Int.toNat_natCast] at hl
  have e := stepI_31 x s (j : Int) b
  unfold sysA at e
  rw [Int.toNat_natCast] at e
  exact sw_31 B mb fb g W f vS vF vK vA s h hB bd ib b FB cap n hn hF Q0 us x AG cG cF AS cS W0 hM hB0 hBe hfl j (by omega) hl.2.2 hfib hibg hbox (fun a' w' hd hl => hR a' w' hd (by rw [e]; exact hl) (by rw [e]; simp))
 ·-- 32
  have hl := qret (by decide)
  have e := stepI_32 x s A b
  exact sw_32 B mb fb g W f vS vF vK vA s h hB bd ib b FB cap n hn hF Q0 us x AG cG cF AS cS W0 hM hB0 hBe hfl A hfi hl.1 hl.2 hbox (fun h1 a' w' hl => hN _ a' w' (by rw [e, if_neg (by rw [h1]; decide)]) ((back_flags _ s).1.trans he) ((back_flags _ s).2.trans hw) hl) (fun h1 a' w' hd hl => hR a' w' hd (by rw [e, if_pos h1]; exact hl) (by rw [e, if_pos h1]; rfl))
 ·-- 33
  exact sw_33 B mb fb g W f vS vF vK vA s h hB bd ib b FB cap n hn hF Q0 us A (qone (by decide)) hbox (fun a' w' hl => hN _ a' w' (stepI_33 x s A b).symm he hw hl)
def inScope : Code → Option Code
 | .scope c => some c
 | _ => none
noncomputable def lpC : Code := ((Tryz.f54.body.bind inScope).getD .skip)
noncomputable def tlC : Code := (findLabel lpC 0).getD .skip
noncomputable def rdC : Code := (findLabel lpC 1).getD .skip
def sL : Code → Code
 | .seq a _ => a
 | c => c
def sR : Code → Code
 | .seq _ b => b
 | c => c
noncomputable def rdB : Code := sR rdC
theorem tail_any {B mb fb g : Nat} {W : World} {f : Nat → Nat} {vS vF vK vA : Value} {s : SRun} (h : RUN B mb fb W g f vS vF vK vA s) (t : Int) (Q0 : Exit → Act → World → Prop) (us : Nat → Value)
  (hq : ∀ a' w', a'.defers = [] → RP B mb fb g W f (trapR t s) w' → Q0 .normal a' w') : Code.wp Tryz.prog tlC Q0 (FR2 g t us) W := by
 unfold FR2
 have c7 : W.cell? ⟨g, 7, none⟩ = some (.bool s.ended) := (blk_cell h.blk 7).trans rfl
 have f7 : W.frozen? ⟨g, 7, none⟩ = false := blk_frozen h.blk 7
 obtain ⟨r1, p1⟩ := h.fld 7 (.bool true) { s with ended := true } rfl rfl rfl rfl rfl
 have c8 : (W.setCell ⟨g, 7, none⟩ (.bool true)).cell? ⟨g, 8, none⟩ = some (.int .i64 s.trap) := (blk_cell r1.blk 8).trans rfl
 have f8 : (W.setCell ⟨g, 7, none⟩ (.bool true)).frozen? ⟨g, 8, none⟩ = false := blk_frozen r1.blk 8
 obtain ⟨r2, p2⟩ := r1.fld 8 (.int .i64 t) (trapR t s) rfl rfl rfl rfl rfl
 have HR := Lib.hid r2
 have HP := Lib.hid (p1.trans p2)
 have HQ := Lib.hid hq
 clear r1 p1 r2 p2 h hq
 unfold tlC
 conv => arg 2; whnf
 go_wp2_with fail
 exact HQ.out _ _ rfl ⟨_, _, _, _, f, HR.out, HP.out⟩
theorem head_zero {B mb fb g : Nat} {W : World} {f : Nat → Nat} {vS vF vK vA : Value} {s : SRun} (h : RUN B mb fb W g f vS vF vK vA s) (hf : s.fuel = 0) (Q0 : Exit → Act → World → Prop) (us : Nat → Value)
  (hq : ∀ a' w', LF g 1 (RP B mb fb g W f s) a' w' → Q0 (.goto 0) a' w') : Code.wp Tryz.prog rdB Q0 (FR2 g 0 us) W := by
 unfold FR2
 have c2 : W.cell? ⟨g, 2, none⟩ = some (.int .i64 0) := (blk_cell h.blk 2).trans (by rw [show (0 : Int) = (s.fuel : Int) from by omega]; rfl)
 have HR := Lib.hid h
 have HQ := Lib.hid hq
 clear h hq hf
 unfold rdB
 conv => arg 2; whnf
 go_wp2_with fail
 refine wp_goto ?_
 refine HQ.out _ _ ?_
 exact LF_of _ _ _ _ _ rfl (⟨_, _, _, _, f, HR.out, Stp.refl _ _ _⟩)
noncomputable def r1C : Code := sL rdB
noncomputable def r3C : Code := sL (sR rdB)
noncomputable def bdC : Code := sL (sR (sR rdB))
noncomputable def enC : Code := sR (sR (sR rdB))
noncomputable def r4C : Code := sL bdC
noncomputable def r5C : Code := sL (sR bdC)
noncomputable def r6C : Code := sL (sR (sR bdC))
noncomputable def r7C : Code := sL (sR (sR (sR bdC)))
theorem lp_eq : lpC = (sL lpC).seq ((Code.label 1).seq rdB) := by kernel_rfl
theorem rd_eq0 : rdC = Code.skip.seq rdB := by kernel_rfl
theorem rd_eq : rdB = r1C.seq (r3C.seq (bdC.seq enC)) := by kernel_rfl
theorem bd_eq : bdC = r4C.seq (r5C.seq (r6C.seq (r7C.seq swC))) := by kernel_rfl
theorem en_eq : enC = (Code.goto 1).seq (sR enC) := by kernel_rfl
theorem loop_body : Tryz.f54.body = some (.scope lpC) := by kernel_rfl
def L2 (g : Nat) (a : Act) : Prop := ∃ us : Nat → Value, a = FR2 g 0 us
theorem L2_of (g : Nat) (t : Array Value) (h : t = (FR2 g 0 (fun i => t.getD i undef)).tmps) : L2 g ⟨t, []⟩ := ⟨fun i => t.getD i undef, congrArg (fun t => (⟨t, []⟩ : Act)) h⟩
def L3 (g FB n : Nat) (a : Act) : Prop := ∃ us : Nat → Value, a = FR3 g FB n us
theorem L3_of (g FB n : Nat) (t : Array Value) (h : t = (FR3 g FB n (fun i => t.getD i undef)).tmps) : L3 g FB n ⟨t, []⟩ := ⟨fun i => t.getD i undef, congrArg (fun t => (⟨t, []⟩ : Act)) h⟩
def L4 (g FB n ib : Nat) (a : Act) : Prop := ∃ us : Nat → Value, a = FR4 g FB n ib us
theorem L4_of (g FB n ib : Nat) (t : Array Value) (h : t = (FR4 g FB n ib (fun i => t.getD i undef)).tmps) : L4 g FB n ib ⟨t, []⟩ := ⟨fun i => t.getD i undef, congrArg (fun t => (⟨t, []⟩ : Act)) h⟩
def L5 (g FB n ib : Nat) (op : Int) (a : Act) : Prop := ∃ us : Nat → Value, a = FR5 g FB n ib op us
theorem L5_of (g FB n ib : Nat) (op : Int) (t : Array Value) (h : t = (FR5 g FB n ib op (fun i => t.getD i undef)).tmps) : L5 g FB n ib op ⟨t, []⟩ := ⟨fun i => t.getD i undef, congrArg (fun t => (⟨t, []⟩ : Act)) h⟩
theorem p1_any {B mb fb g : Nat} {W : World} {f : Nat → Nat} {vS vF vK vA : Value} {s : SRun} (h : RUN B mb fb W g f vS vF vK vA s) (k : Nat) (hf : s.fuel = k + 1) (Q0 : Exit → Act → World → Prop) (us : Nat → Value)
  (hq : ∀ a', L2 g a' → Q0 .normal a' W) : Code.wp Tryz.prog r1C Q0 (FR2 g 0 us) W := by
 unfold FR2
 have c2 : W.cell? ⟨g, 2, none⟩ = some (.int .i64 (k + 1)) := (blk_cell h.blk 2).trans (by rw [show ((k : Int) + 1) = (s.fuel : Int) from by omega]; rfl)
 have hz : (((k : Int) + 1) == 0) = false := by simp; omega
 have HQ := Lib.hid hq
 clear h hq hf
 unfold r1C
 conv => arg 2; whnf
 go_wp2_with fail
 exact HQ.out _ (L2_of _ _ rfl)
theorem p3_any {B mb fb g : Nat} {W : World} {f : Nat → Nat} {vS vF vK vA : Value} {s : SRun} (h : RUN B mb fb W g f vS vF vK vA s) (k : Nat) (hk : k ≤ 1048576) (hf : s.fuel = k + 1) (Q0 : Exit → Act → World → Prop) (us : Nat → Value)
  (hq : ∀ a', L2 g a' → Q0 .normal a' (W.setCell ⟨g, 2, none⟩ (.int .i64 k))) : Code.wp Tryz.prog r3C Q0 (FR2 g 0 us) W := by
 unfold FR2
 have c2 : W.cell? ⟨g, 2, none⟩ = some (.int .i64 (k + 1)) := (blk_cell h.blk 2).trans (by rw [show ((k : Int) + 1) = (s.fuel : Int) from by omega]; rfl)
 have f2 : W.frozen? ⟨g, 2, none⟩ = false := blk_frozen h.blk 2
 have HQ := Lib.hid hq
 clear h hq hf
 unfold r3C
 conv => arg 2; whnf
 go_wp2_with fail
 refine (show _ from by simpa using HQ.out _ (L2_of _ _ rfl))
theorem p4_any {B mb fb g : Nat} {W : World} {f : Nat → Nat} {vS vF vK vA : Value} {s : SRun} (h : RUN B mb fb W g f vS vF vK vA s) (n FB cap : Nat) (hn : s.frames.length = n + 1) (hF : vF = .slice (some ⟨FB, 0, none⟩) (n + 1) cap) (hl : n ≤ 64) (Q0 : Exit → Act → World → Prop) (us : Nat → Value)
  (hq : ∀ a' m, L3 g FB n a' → Q0 .normal a' (W.drewN m)) : Code.wp Tryz.prog r4C Q0 (FR2 g 0 us) W := by
 unfold FR2
 have c3 : W.cell? ⟨g, 3, none⟩ = some (.slice (some ⟨FB, 0, none⟩) (n + 1) cap) := (blk_cell h.blk 3).trans (by rw [hF]; rfl)
 have HQ := Lib.hid hq
 clear h hq hF hn
 have hw : IntKind.i64.wrap (n : Int) = n := by unfold IntKind.wrap; simp [IntKind.bits, IntKind.signed]; omega
 have h0 : (0 : Int) ≤ (n : Int) := by omega
 have h1 : (n : Int) < (n : Int) + 1 := by omega
 unfold r4C
 conv => arg 2; whnf
 go_quiet (fail)
 exact HQ.out _ _ (L3_of _ _ _ _ rfl)
theorem p6_any {W : World} (g FB n ib at_ : Nat) (ha : at_ ≤ 1000000) (c1 : W.cell? ⟨FB, n * 4 + 1, none⟩ = some (.int .i64 at_)) (f1 : W.frozen? ⟨FB, n * 4 + 1, none⟩ = false) (Q0 : Exit → Act → World → Prop) (us : Nat → Value)
  (hq : ∀ a', L4 g FB n ib a' → Q0 .normal a' (W.setCell ⟨FB, n * 4 + 1, none⟩ (.int .i64 (at_ + 1)))) : Code.wp Tryz.prog r6C Q0 (FR4 g FB n ib us) W := by
 unfold FR4
 have HQ := Lib.hid hq
 clear hq
 unfold r6C
 conv => arg 2; whnf
 go_wp2_with fail
 exact HQ.out _ (L4_of _ _ _ _ _ rfl)
theorem p7_any {W : World} (g FB n ib : Nat) (op : Int) (c0 : W.cell? ⟨ib, 0, none⟩ = some (.int .i64 op)) (Q0 : Exit → Act → World → Prop) (us : Nat → Value)
  (hq : ∀ a', L5 g FB n ib op a' → Q0 .normal a' W) : Code.wp Tryz.prog r7C Q0 (FR4 g FB n ib us) W := by
 unfold FR4
 have HQ := Lib.hid hq
 clear hq
 unfold r7C
 conv => arg 2; whnf
 go_wp2_with fail
 exact HQ.out _ (L5_of _ _ _ _ _ _ rfl)
theorem p5_any {W : World} (g FB n fb fi at_ len c4 : Nat) (ad : Addr) (i : SInstr) (hat : at_ < len) (hle : len ≤ 1000000) (k0 : W.cell? ⟨FB, n * 4, none⟩ = some (.pointer (some ⟨fb, fi * 5, none⟩))) (k1 : W.cell? ⟨FB, n * 4 + 1, none⟩ = some (.int .i64 at_))
  (k2 : W.cell? ⟨fb, fi * 5 + 4, none⟩ = some (.slice (some ad) len c4)) (q0 : W.cell? (ad.add (at_ * 3)) = some (.int .i64 i.f0)) (q1 : W.cell? ⟨(ad.add (at_ * 3)).block, (ad.add (at_ * 3)).off + 1, none⟩ = some (.int .i64 i.f1)) (q2 : W.cell? ⟨(ad.add (at_ * 3)).block, (ad.add (at_ * 3)).off + 2, none⟩ = some (.int .i64 i.f2))
  (Q0 : Exit → Act → World → Prop) (us : Nat → Value)
  (hq : ∀ a', L4 g FB n W.heap.size a' → Q0 .normal a' (W.alloc (.cells #[.int .i64 i.f0, .int .i64 i.f1, .int .i64 i.f2] 56 (0, 0))).drew) : Code.wp Tryz.prog r5C Q0 (FR3 g FB n us) W := by
 unfold FR3
 have HQ := Lib.hid hq
 clear hq
 unfold r5C
 conv => arg 2; whnf
 have l0 := World.block_lt_of_cell? W _ k0
 have l2 := World.block_lt_of_cell? W _ k2
 have l3 := World.block_lt_of_cell? W _ q1
 simp only at l0 l2 l3
 have h0 : (0 : Int) ≤ (at_ : Int) := by omega
 have h1 : (at_ : Int) < (len : Int) := by omega
 refine Code.wp_mono (Q := NP Q0) (fun e a w hh => by cases e <;> first | exact hh | exact hh.elim) ?_
 go_region_law (fail)
 all_goals exact HQ.out _ (L4_of _ _ _ _ _ rfl)
theorem Stp.clean (g : Nat) (w : World) (f : Nat → Nat) : Stp g w f w (cleanT w.heap.size f) := ⟨rfl, rfl, rfl, Nat.le_refl _, fun _ _ _ _ => rfl, fun k hk => by unfold cleanT; rw [if_pos hk]⟩
theorem RP.of_stp {B mb fb g : Nat} {w W w' : World} {f f2 : Nat → Nat} {st' : SRun} (hb : Stp g w f W f2) (h : RP B mb fb g W f2 st' w') : RP B mb fb g w f st' w' := by
 obtain ⟨vS, vF, vK, vA, f', h1, h2⟩ := h
 exact ⟨vS, vF, vK, vA, f', h1, hb.trans h2⟩
theorem LF.mono {g : Nat} {t : Int} {R R' : World → Prop} {a : Act} {w : World} (hr : ∀ w, R w → R' w) (h : LF g t R a w) : LF g t R' a w := by
 obtain ⟨us, e, r⟩ := h
 exact ⟨us, e, hr _ r⟩
theorem fetch_bd {s : SRun} (bd : Bd s) : Bd s.fetch := by
 refine ⟨bd.st, bd.sk, ?_, ?_, bd.ak, ?_⟩
 ·show (s.frames.set _ _).length ≤ 64
  rw [List.length_set]; exact bd.fr
 ·show 1 ≤ (s.frames.set _ _).length
  rw [List.length_set]; exact bd.f1
 ·show s.fuel - 1 ≤ 1048576
  have := bd.fu; omega
theorem fetch_fi {s : SRun} (bd : Bd s) : s.fetch.top.fi = s.top.fi := by
 show ((s.frames.set (s.frames.length - 1) _).getD ((s.frames.set (s.frames.length - 1) _).length - 1) zFrm).fi = _
 have := bd.f1
 rw [List.length_set, List.getD_eq_getElem?_getD, List.getElem?_set_self (by omega)]; rfl
theorem round_any (B mb fb g : Nat) (W : World) (f : Nat → Nat) (vS vF vK vA : Value) (s : SRun) (h : RUN B mb fb W g f vS vF vK vA s) (hB : B ≤ W.heap.size) (x : SImage) (AG : Option Addr) (cG cF : Nat) (AS : Option Addr) (cS : Nat) (W0 : World) (hM : MACH W0 mb fb x AG cG cF AS cS) (hB0 : B = W0.heap.size) (hBe : Below W0.heap.size W0 W) (hfl : x.fns.length ≤ 1000) (k : Nat) (hf : s.fuel = k + 1) (hp : Pre x s) (he : s.ended = false) (hw : s.waits = false) (Q0 : Exit → Act → World → Prop) (us : Nat → Value)
  (hN : ∀ s' a' w', s' = stepI x (s.instr x) s.fetch → s'.ended = false → s'.waits = false → LF g 0 (RP B mb fb g W f s') a' w' → Q0 (.goto 1) a' w')
  (hT : ∀ t s' a' w', trapR t s' = stepI x (s.instr x) s.fetch → LF g t (RP B mb fb g W f s') a' w' → Q0 (.goto 0) a' w')
  (hR : ∀ a' w', a'.defers = [] → RP B mb fb g W f (stepI x (s.instr x) s.fetch) w' → ((stepI x (s.instr x) s.fetch).ended || (stepI x (s.instr x) s.fetch).waits) = true → Q0 .ret a' w') :
  Code.wp Tryz.prog rdB Q0 (FR2 g 0 us) W := by
 obtain ⟨bd, pfi, pfl, pat, pcl, pre⟩ := hp
 obtain ⟨n, hn⟩ : ∃ n, s.frames.length = n + 1 := ⟨s.frames.length - 1, by have := bd.f1; omega⟩
 obtain ⟨FB, cap, hF, _⟩ := Kd.S_form h.frames (by omega)
 rw [hn] at hF
 have htop : s.top = s.frames.getD n zFrm := by unfold SRun.top; rw [hn]; rfl
 obtain ⟨h1, st1⟩ := h.fld 2 (.int .i64 k) { s with fuel := k } rfl rfl rfl rfl rfl
 rw [rd_eq, bd_eq, en_eq]
 refine wp_seq ?_
 refine p1_any h k hf _ us (fun a' ha => ?_)
 clear us
 obtain ⟨us, rfl⟩ := ha
 show Code.wp _ _ _ _ _
 refine wp_seq ?_
 refine p3_any h k (by have := bd.fu; omega) hf _ us (fun a' ha => ?_)
 clear us
 obtain ⟨us, rfl⟩ := ha
 show Code.wp _ _ _ _ _
 refine wp_seq ?_
 refine wp_seq ?_
 obtain ⟨W1, hW1⟩ : ∃ W1, W1 = W.setCell ⟨g, 2, none⟩ (.int .i64 k) := ⟨_, rfl⟩
 rw [← hW1] at h1 st1 ⊢
 have hBe1 : Below W0.heap.size W0 W1 := st1.low hBe (by rw [← hB0]; exact h.gB) (by rw [← hB0]; exact h.fB) (Nat.le_refl _)
 refine p4_any h1 n FB cap hn hF (by have := bd.fr; omega) _ us (fun a' m ha => ?_)
 clear us
 obtain ⟨us, rfl⟩ := ha
 show Code.wp _ _ _ _ _
 refine wp_seq ?_
 have hb2 : Below W1.heap.size W1 (W1.drewN m) := pw_below_drewN (Below.refl _ _) m
 obtain ⟨W2, hW2⟩ : ∃ W2, W2 = W1.drewN m := ⟨_, rfl⟩
 rw [← hW2] at hb2 ⊢
 have h2 := (h1.below hb2).clean
 have st2 := (st1.trans (Stp.below hb2)).trans (Stp.clean g W2 f)
 have hBe2 : Below W0.heap.size W0 W2 := below_next hBe1 hb2
 obtain ⟨fr, hfr⟩ : ∃ fr, fr = s.frames.getD n zFrm := ⟨_, rfl⟩
 obtain ⟨FB', cap', AL, cL, e1, hcap, k0, k1, _, _, kf, _, _⟩ := h2.frame n (by show n < s.frames.length; omega)
 rw [hF] at e1
 injection e1 with e1 _ _
 injection e1 with e1
 injection e1 with e1
 subst e1
 have hfr2 : (({ s with fuel := k } : SRun).frames.getD n zFrm) = fr := hfr.symm
 rw [hfr2] at k0 k1
 rw [htop, ← hfr] at pfi pat pcl
 have hM2 := hM.below hBe2
 obtain ⟨ad, B1, d1', B3, d3, B4, d4, hAd, g0, g1, g2, g3, g4, m1, i1, m3, i3, m4, i4⟩ := at_TFn hM2.fns (fr.fi : Int) (by omega) (by omega)
 injection hAd with hAd
 subst hAd
 have hrd : rd_TFn x.fns (fr.fi : Int) = x.fns.getD fr.fi zFn := rfl
 rw [hrd] at g4 i4
 simp only [Int.toNat_natCast, add0] at g4
 obtain ⟨ad4, hAd4, q0, q1, q2⟩ := at_TInstr i4 (fr.at_ : Int) (by omega) (by omega)
 subst hAd4
 have hri : rd_TInstr (x.fns.getD fr.fi zFn).f4 (fr.at_ : Int) = s.instr x := by
  show zi (x.fns.getD fr.fi zFn).f4 fr.at_ = _
  unfold SRun.instr
  rw [htop, ← hfr]
 rw [hri] at q0 q1 q2
 simp only [Int.toNat_natCast] at q0 q1 q2
 obtain ⟨i, hi⟩ : ∃ i, i = s.instr x := ⟨_, rfl⟩
 rw [← hi] at q0 q1 q2 pre hN hT hR
 refine p5_any g FB n fb fr.fi fr.at_ _ d4 ad4 i pat pcl k0 k1 g4 q0 q1 q2 _ us (fun a' ha => ?_)
 clear us
 obtain ⟨us, rfl⟩ := ha
 show Code.wp _ _ _ _ _
 refine wp_seq ?_
 have hb3 : Below W2.heap.size W2 (W2.alloc (.cells #[.int .i64 i.f0, .int .i64 i.f1, .int .i64 i.f2] 56 (0, 0))).drew := below_drew (below_alloc (Below.refl _ _) _)
 have hbox : (W2.alloc (.cells #[.int .i64 i.f0, .int .i64 i.f1, .int .i64 i.f2] 56 (0, 0))).drew.heap[W2.heap.size]? = some (.cells #[.int .i64 i.f0, .int .i64 i.f1, .int .i64 i.f2] 56 (0, 0)) := heap_alloc_new W2 _
 obtain ⟨W3, hW3⟩ : ∃ W3, W3 = (W2.alloc (.cells #[.int .i64 i.f0, .int .i64 i.f1, .int .i64 i.f2] 56 (0, 0))).drew := ⟨_, rfl⟩
 rw [← hW3] at hb3 hbox ⊢
 have hFBlt := cell_lt k0
 have k1' := cell_up hb3 k1
 have kf' := frozen_up hb3 k1 kf
 have h3 := h2.below hb3
 obtain ⟨FB', cap', AL, cL, e1, _, _, _, _, _, _, hset, _⟩ := h3.frame n (by show n < s.frames.length; omega)
 rw [hF] at e1
 injection e1 with e1 _ _
 injection e1 with e1
 injection e1 with e1
 subst e1
 obtain ⟨h4, st4⟩ := hset (fr.at_ + 1)
 have e2 : ((fr.at_ + 1 : Nat) : Int) = (fr.at_ : Int) + 1 := by omega
 rw [e2] at h4 st4
 refine p6_any g FB n W2.heap.size fr.at_ (by omega) k1' kf' _ us (fun a' ha => ?_)
 clear us
 obtain ⟨us, rfl⟩ := ha
 show Code.wp _ _ _ _ _
 refine wp_seq ?_
 have hbox4 : (W3.setCell ⟨FB, n * 4 + 1, none⟩ (.int .i64 ((fr.at_ : Int) + 1))).heap[W2.heap.size]? = some (.cells #[.int .i64 i.f0, .int .i64 i.f1, .int .i64 i.f2] 56 (0, 0)) := (Below.heap_setCell _ _ _ _ (fun e => by have e' : W2.heap.size = FB := e; omega)).trans hbox
 obtain ⟨W4, hW4⟩ : ∃ W4, W4 = W3.setCell ⟨FB, n * 4 + 1, none⟩ (.int .i64 ((fr.at_ : Int) + 1)) := ⟨_, rfl⟩
 rw [← hW4] at hbox4 h4 st4 ⊢
 have hst : ({ ({ s with fuel := k } : SRun) with frames := ({ s with fuel := k } : SRun).frames.set n { (({ s with fuel := k } : SRun).frames.getD n zFrm) with at_ := fr.at_ + 1 } } : SRun) = s.fetch := by
  have x1 : s.fuel - 1 = k := by omega
  have x2 : s.frames.length - 1 = n := by omega
  unfold SRun.fetch SRun.setTop
  simp only [x1, x2, htop, hfr]
 rw [hst] at h4
 have stA := (st2.trans (Stp.below hb3)).trans st4
 have hBe4 : Below W0.heap.size W0 W4 := stA.low hBe (by rw [← hB0]; exact h.gB) (by rw [← hB0]; exact h.fB) (Nat.le_refl _)
 refine p7_any g FB n W2.heap.size i.f0 ((blk_cell hbox4 0).trans rfl) _ us (fun a' ha => ?_)
 clear us
 obtain ⟨us, rfl⟩ := ha
 show Code.wp _ _ _ _ _
 have hn4 : s.fetch.frames.length = n + 1 := by
  show (s.frames.set _ _).length = _
  rw [List.length_set]; exact hn
 refine sw_all B mb fb g W4 _ vS vF vK vA s.fetch h4 (Nat.le_trans hB stA.size) (fetch_bd bd) W2.heap.size i.f2 FB cap n hn4 hF _ us x AG cG cF AS cS W0 hM hB0 hBe4 hfl i.f0 i.f1 hbox4 (by unfold cleanT; rw [if_neg (by omega)]) (fun e => by have h5 := blk_lt h2.blk; omega) pre (by rw [fetch_fi bd, htop, ← hfr]; exact pfi) he hw ?_ ?_ ?_
 ·intro s' a' w' e1 e2 e3 hl
  refine wp_seq (wp_goto ?_)
  exact hN s' a' w' e1 e2 e3 (hl.mono fun w hr => RP.of_stp stA hr)
 ·intro t s' a' w' e1 hl
  exact hT t s' a' w' e1 (hl.mono fun w hr => RP.of_stp stA hr)
 ·intro a' w' hd hr hew
  exact hR a' w' hd (RP.of_stp stA hr) hew
theorem plainR_fuel (i : SInstr) (s : SRun) : (plainR i s).fuel = s.fuel := by
 unfold plainR
 repeat' split
 all_goals rfl
theorem stepI_fuel (x : SImage) (i : SInstr) (s : SRun) : (stepI x i s).fuel = s.fuel := by
 unfold stepI
 split
 ·exact plainR_fuel i s
 ·split
  ·rfl
  ·split
   ·unfold atR; repeat' split
    all_goals rfl
   ·split
    ·unfold putR; repeat' split
     all_goals rfl
    ·split
     ·split <;> rfl
     ·split
      ·rfl
      ·split
       ·unfold backR
        generalize decide ((x.fns.getD s.top.fi zFn).f2 ≠ 0) = b
        cases b
        all_goals
         simp only
         repeat' split
         all_goals rfl
       ·split <;> rfl
theorem stepR_fuel (x : SImage) (s : SRun) (k : Nat) (h : s.fuel = k + 1) : (stepR x s).fuel = k := by
 unfold stepR
 rw [if_neg (by omega), stepI_fuel]
 show s.fuel - 1 = k
 omega
/-- what is left of the fuel, in a run's block -/
def fuelW (g : Nat) (w : World) : Nat := match w.cell? ⟨g, 2, none⟩ with
 | some (.int _ n) => n.toNat
 | _ => 0
theorem fuelW_eq {B mb fb g : Nat} {w : World} {f : Nat → Nat} {vS vF vK vA : Value} {st : SRun} (h : RUN B mb fb w g f vS vF vK vA st) : fuelW g w = st.fuel := by
 unfold fuelW
 rw [h.at_.2.2.1]
 simp
section
variable (B mb fb g : Nat) (W : World) (f : Nat → Nat) (vS vF vK vA : Value) (s : SRun) (h : RUN B mb fb W g f vS vF vK vA s) (hB : B ≤ W.heap.size) (x : SImage) (AG : Option Addr) (cG cF : Nat) (AS : Option Addr) (cS : Nat) (W0 : World) (hM : MACH W0 mb fb x AG cG cF AS cS) (hB0 : B = W0.heap.size) (hBe : Below W0.heap.size W0 W) (hfl : x.fns.length ≤ 1000)
 (Inv : SRun → Prop) (hI : Inv s) (hE : ∀ s, Inv s → s.ended = false ∧ s.waits = false ∧ (s.fuel ≠ 0 → Pre x s)) (hS : ∀ s, Inv s → s.fuel ≠ 0 → (stepR x s).ended = false → (stepR x s).waits = false → Inv (stepR x s))
include h hB hM hB0 hBe hfl hI hE hS
/-- one round, of any run that goes on; J1, J0: what is carried round, or to the trap -/
theorem pass_any (Q : Exit → Act → World → Prop) (us : Nat → Value)
  (h1 : ∀ a' w' s', LF g 0 (RP B mb fb g W f s') a' w' → Inv s' → s'.fuel + 1 = s.fuel → loopR x (s'.fuel + 1) s' = loopR x (s.fuel + 1) s → Q (.goto 1) a' w')
  (h0 : ∀ a' w' t s', LF g t (RP B mb fb g W f s') a' w' → trapR t s' = loopR x (s.fuel + 1) s → Q (.goto 0) a' w')
  (hr : ∀ a' w', a'.defers = [] → RP B mb fb g W f (loopR x (s.fuel + 1) s) w' → Q .ret a' w') : Code.wp Tryz.prog rdB Q (FR2 g 0 us) W := by
 obtain ⟨he, hw, hp⟩ := hE s hI
 by_cases hf : s.fuel = 0
 ·refine head_zero h hf Q us (fun a' w' hl => h0 a' w' 1 s hl ?_)
  rw [hf]
  show trapR 1 s = (let t := stepR x s; if t.ended || t.waits then t else loopR x 0 t)
  have e : stepR x s = trapR 1 s := by unfold stepR; rw [if_pos hf]
  rw [e]; rfl
 ·obtain ⟨k, hk⟩ : ∃ k, s.fuel = k + 1 := ⟨s.fuel - 1, by omega⟩
  have e : stepR x s = stepI x (s.instr x) s.fetch := by unfold stepR; rw [if_neg hf]
  have hfu := stepR_fuel x s k hk
  have hloop : loopR x (s.fuel + 1) s = (if (stepR x s).ended || (stepR x s).waits then stepR x s else loopR x s.fuel (stepR x s)) := rfl
  refine round_any B mb fb g W f vS vF vK vA s h hB x AG cG cF AS cS W0 hM hB0 hBe hfl k hk (hp hf) he hw Q us ?_ ?_ ?_
  ·intro s' a' w' e1 e2 e3 hl
   rw [← e] at e1
   rw [e1] at e2 e3 hl
   refine h1 a' w' _ hl (hS s hI hf e2 e3) (by omega) ?_
   rw [hloop, e2, e3, hfu, ← hk]; rfl
  ·intro t s' a' w' e1 hl
   rw [← e] at e1
   refine h0 a' w' t s' hl ?_
   rw [hloop, ← e1]; rfl
  ·intro a' w' hd hq hew
   rw [← e] at hq hew
   refine hr a' w' hd ?_
   rw [hloop, if_pos hew]; exact hq
end
theorem rloop_any (B mb fb g : Nat) (W : World) (f : Nat → Nat) (vS vF vK vA : Value) (s : SRun) (h : RUN B mb fb W g f vS vF vK vA s) (hB : B ≤ W.heap.size) (x : SImage) (AG : Option Addr) (cG cF : Nat) (AS : Option Addr) (cS : Nat) (W0 : World) (hM : MACH W0 mb fb x AG cG cF AS cS) (hB0 : B = W0.heap.size) (hBe : Below W0.heap.size W0 W) (hfl : x.fns.length ≤ 1000)
 (Inv : SRun → Prop) (hI : Inv s) (hE : ∀ s, Inv s → s.ended = false ∧ s.waits = false ∧ (s.fuel ≠ 0 → Pre x s)) (hS : ∀ s, Inv s → s.fuel ≠ 0 → (stepR x s).ended = false → (stepR x s).waits = false → Inv (stepR x s)) :
  Calls Tryz.prog 54 #[.pointer (some ⟨g, 0, none⟩)] W fun e w' => e = .returned (.tuple #[]) ∧ RP B mb fb g W f (loopR x (s.fuel + 1) s) w' := by
 refine calls_of_wp Tryz.func54 loop_body ?_
 simp only [Tryz.ntmps54, List.size_toArray, List.length_cons, List.length_nil, Nat.reduceAdd, Nat.reduceSub, Array.replicate_succ, Array.replicate_zero, List.push_toArray, List.append_toArray, List.nil_append, List.cons_append]
 obtain ⟨Q, hQe⟩ : ∃ Q, Q = bodyPost Tryz.prog Tryz.f54 (fun e w' => e = .returned (.tuple #[]) ∧ RP B mb fb g W f (loopR x (s.fuel + 1) s) w') := ⟨_, rfl⟩
 have hQ : ∀ e a w, (e = .normal ∨ e = .ret) → a.defers = [] → RP B mb fb g W f (loopR x (s.fuel + 1) s) w → Q e a w := by
  intro e a w he hd hr
  rw [hQe]
  rcases he with rfl | rfl
  ·exact bodyPost_end (results_none rfl _ _ _) hd ⟨rfl, hr⟩
  ·exact bodyPost_ret (results_none rfl _ _ _) hd ⟨rfl, hr⟩
 rw [← hQe]
 clear hQe
 refine wp_scope_two (r0 := tlC) (r1 := rdC) 0 1 (fun a w => ∃ t s', trapR t s' = loopR x (s.fuel + 1) s ∧ LF g t (RP B mb fb g W f s') a w)
  (fun a w => ∃ s', Inv s' ∧ loopR x (s'.fuel + 1) s' = loopR x (s.fuel + 1) s ∧ LF g 0 (RP B mb fb g W f s') a w) (fun _ w => fuelW g w) (by kernel_rfl) (by kernel_rfl) ?_ ?_ ?_
 ·rw [lp_eq]
  refine wp_seq ?_
  have HG := Lib.hid (show ∀ a, L2 g a → Code.wp Tryz.prog rdB (Exit.jump2 0 1 (fun a w => ∃ t s', trapR t s' = loopR x (s.fuel + 1) s ∧ LF g t (RP B mb fb g W f s') a w)
    (fun a w => ∃ s', Inv s' ∧ loopR x (s'.fuel + 1) s' = loopR x (s.fuel + 1) s ∧ LF g 0 (RP B mb fb g W f s') a w) Q) a W from fun a ha => by
   obtain ⟨us, rfl⟩ := ha
   refine pass_any B mb fb g W f vS vF vK vA s h hB x AG cG cF AS cS W0 hM hB0 hBe hfl Inv hI hE hS _ us ?_ ?_ ?_
   ·intro a' w' s2 hl2 hi2 hf2 hl3
    exact .inr ⟨rfl, s2, hi2, hl3, hl2⟩
   ·intro a' w' t s2 hl2 e2
    exact .inl ⟨rfl, t, s2, e2, hl2⟩
   ·intro a' w' hd hr
    exact hQ .ret a' w' (.inr rfl) hd hr)
  clear hQ hS hE hI hM h
  unfold sL lpC
  conv => arg 2; whnf
  go_wp2_with fail
  rename_i K hK
  refine wp_label ?_
  exact hK _ _ (HG.out _ (L2_of _ _ rfl))
 ·rintro a w ⟨t, s', he, hl⟩
  obtain ⟨us, rfl, vS', vF', vK', vA', f', h1, h2⟩ := hl
  refine tail_any h1 t _ us (fun a' w' hd hr => ?_)
  exact hQ .normal a' w' (.inl rfl) hd (by rw [← he]; exact RP.of_stp h2 hr)
 ·rintro a w ⟨s', hI', he, hl⟩
  obtain ⟨us, rfl, vS', vF', vK', vA', f', h1, h2⟩ := hl
  rw [rd_eq0]
  refine wp_seq (wp_skip ?_)
  show Code.wp _ _ _ _ _
  have hBe' : Below W0.heap.size W0 w := h2.low hBe (by rw [← hB0]; exact h.gB) (by rw [← hB0]; exact h.fB) (Nat.le_refl _)
  refine pass_any B mb fb g w f' vS' vF' vK' vA' s' h1 (Nat.le_trans hB h2.size) x AG cG cF AS cS W0 hM hB0 hBe' hfl Inv hI' hE hS _ us ?_ ?_ ?_
  ·intro a' w' s2 hl2 hi2 hf2 hl3
   refine .inr ⟨rfl, ⟨s2, hi2, hl3.trans he, hl2.mono fun w hr => RP.of_stp h2 hr⟩, ?_⟩
   obtain ⟨_, _, _, _, _, _, _, h5, _⟩ := hl2
   rw [fuelW_eq h5, fuelW_eq h1]; omega
  ·intro a' w' t s2 hl2 e2
   exact .inl ⟨rfl, t, s2, e2.trans he, hl2.mono fun w hr => RP.of_stp h2 hr⟩
  ·intro a' w' hd hr
   exact hQ .ret a' w' (.inr rfl) hd (by rw [← he]; exact RP.of_stp h2 hr)
end Go.Proofs.YtedmncldelcbfaaGreatDoor.E
