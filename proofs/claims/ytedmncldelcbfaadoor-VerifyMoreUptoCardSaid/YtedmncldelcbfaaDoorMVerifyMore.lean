/- The law VerifyMore returns true at every argument, and leaves what was there as it was; on the condition that the arguments are of bulk 1048576 at most, and that the two tables which the program lays at its start hold what it lays there. -/
import Derived.Test.YtedmncldelcbfaaDoorMC
import Derived.Test.YtedmncldelcbfaaDoorMA
import Derived.Test.YtedmncldelcbfaaDoorWEqStruct
import Derived.DataReads
import Derived.Test.YtedmncldelcbfaaDoorRows
import Derived.Deep.Slices
import Derived.ChangeArms
import Derived.ChangeSame
import Derived.Lib.LaidU8
import Derived.Test.YtedmncldelcbfaaDoorCards
import Derived.Test.YtedmncldelcbfaaDoorTie
import Derived.WalkKit
import Derived.ProofKit
import Derived.OpenShut
import Derived.Deep.DeepHandedRow
import Derived.Carry
namespace Go.Proofs.YtedmncldelcbfaaDoor.E
open Go Go.RowKit Go.Proofs.YtedmncldelcbfaaDoorW.PrintWords Go.Proofs.YtedmncldelcbfaaDoorW.PrintLast Go.Proofs.YtedmncldelcbfaaDoorW.PrintMore
set_option linter.unusedVariables false
set_option linter.unusedSimpArgs false
set_option maxRecDepth 100000
set_option maxHeartbeats 2000000

/-- the measure, read off the world -/
def muW (len g mb : Nat) (w : World) : Nat :=
  2 * (len - (match w.heap[mb]? with | some (.map es _) => es.size | _ => 0)) + (match w.cell? ⟨g, 9, none⟩ with | some (.slice _ n _) => n | _ => 0)
theorem PR_len {w : World} {base : Nat} {v : Value} {xs : List Int} (h : PR w base v xs) : ∃ A c, v = .slice A xs.length c := Kd.R_slice h
theorem muW_eq {w0 w : World} {x : SImage} {f : SFn} {nn : Int} {g : Nat} {l : Lk} {st : VSt} (h : LS w0 w x f nn g l st) : muW f.f4.length g l.m w = mu f.f4.length st := by
  obtain ⟨es, c, h1, h2⟩ := h.map
  obtain ⟨A, cc, h3⟩ := PR_len h.row
  have h4 := h.at_.L.at_.2.2.2.2.2.2.2.2.2.1
  have h5 : es.size = st.noted.length := by
    have := congrArg List.length h2
    simpa using this
  unfold muW mu
  rw [h1, h4, h3]
  simp only [h5]

theorem stackAt_size {len : Nat} {st : VSt} (h : INV len st) (k : Int) : (stackAt st k).size ≤ 400 := by
  unfold stackAt
  cases hl : st.noted.lookup k with
  | none => simp [ByteArray.size]
  | some s =>
    obtain ⟨j, hj⟩ := lookup_mem hl
    exact (h.rng _ (List.mem_of_getElem? hj)).2.2
theorem function_any (T : Nat → ByteArray × ByteArray) (x : SImage) (v : Value) (w : World) (hv : VImage w x v) (hX : ImgOK x) (hT : Pln T w) (hTK : TOK T) (n : Nat) (hn : n < x.fns.length) :
    Calls Tryd.prog 16 #[v, .int .i64 n] w fun e w' => e = .returned (.tuple #[.agg #[.int .i64 (fnS T x (x.fns.getD n zFn) n).2.fc, .int .i64 (fnS T x (x.fns.getD n zFn) n).2.fa], .int .i64 (fnS T x (x.fns.getD n zFn) n).2.most]) ∧ Below w.heap.size w w' := by
  obtain ⟨A0, c0, A1, c1, rfl, l0, hG, l1, hF⟩ := hv
  obtain ⟨ad, B1, d1, B3, d3, B4, d4, rfl, h0, h1, h2, h3, h4, m1, g1, m3, g3, m4, g4⟩ := at_TFn hF (n : Int) (by omega) (by omega)
  obtain ⟨f, hf⟩ : ∃ f, f = rd_TFn x.fns (n : Int) := ⟨_, rfl⟩
  rw [← hf] at h0 h1 h2 h3 h4 m1 g1 m3 g3 m4 g4
  simp only [Int.toNat_natCast] at h0 h1 h2 h3 h4
  have hfe : x.fns.getD n zFn = f := by rw [hf]; rfl
  rw [hfe]
  have HFO := Lib.hid (hX.fn f (by rw [← hfe]; exact getD_mem_fn _ n hn))
  have hlf := hX.lf
  have hmm := @run_makeMap Tryd.prog
  have HV := Lib.hid (show kGlob.C w A0 x.globs.length x.globs ∧ kFn.C w (some ad) x.fns.length x.fns ∧ x.globs.length ≤ c0 ∧ (Kd.int .i64).C w B3 f.f3.length f.f3 ∧ f.f3.length ≤ d3 ∧ kInstr.C w B4 f.f4.length f.f4 ∧ f.f4.length ≤ d4 from ⟨hG, hF, l0, g3, m3, g4, m4⟩)
  have HT := Lib.hid hT
  obtain ⟨r, hr⟩ : ∃ r, r = fnS T x f n := ⟨_, rfl⟩
  rw [← hr]
  have HR := Lib.hid hr
  clear hG hF g1 g3 g4 hr hT hf hfe
  go_enter Tryd.func16, Tryd.ntmps16
  go_wp2_with fail
  obtain ⟨W0, hW⟩ : ∃ W0, W0 = (w.alloc (Obj.cells #[Value.slice A0 x.globs.length c0, Value.slice (some ad) x.fns.length c1] 25)).alloc (Obj.cells #[Value.int IntKind.i64 0, Value.int IntKind.i64 0] 30) := ⟨_, rfl⟩
  rw [← hW]
  have hb0 : Below w.heap.size w W0 := by rw [hW]; exact below_alloc (below_alloc (Below.refl _ _) _) _
  have hsz : W0.heap.size = w.heap.size + 2 := by rw [hW]; simp
  have HI0 := Lib.hid (show W0.heap[w.heap.size]? = some (.cells #[Value.slice A0 x.globs.length c0, Value.slice (some ad) x.fns.length c1] 25 (0, 0)) from by rw [hW]; exact blk_alloc (heap_alloc_new w _) _)
  have HF0 := Lib.hid (show W0.heap[w.heap.size + 1]? = some (.cells #[Value.int IntKind.i64 0, Value.int IntKind.i64 0] 30 (0, 0)) from by
    rw [hW]; have h := heap_alloc_new (w.alloc (Obj.cells #[Value.slice A0 x.globs.length c0, Value.slice (some ad) x.fns.length c1] 25)) (Obj.cells #[Value.int IntKind.i64 0, Value.int IntKind.i64 0] 30)
    simpa using h)
  have i0 : W0.cell? ⟨w.heap.size, 0, none⟩ = some (.slice A0 x.globs.length c0) := (blk_cell HI0.out 0).trans rfl
  have i1 : W0.cell? ⟨w.heap.size, 1, none⟩ = some (.slice (some ad) x.fns.length c1) := (blk_cell HI0.out 1).trans rfl
  have HB0 := Lib.hid hb0
  have y0 := fun o => pw_cell_below (below_alloc hb0 o) h0
  have y1 := fun o => pw_cell_below (below_alloc hb0 o) h1
  have y2 := fun o => pw_cell_below (below_alloc hb0 o) h2
  have y3 := fun o => pw_cell_below (below_alloc hb0 o) h3
  have y4 := fun o => pw_cell_below (below_alloc hb0 o) h4
  have z0 := fun o => pw_cell_below (below_alloc (below_drew hb0) o) h0
  have z1 := fun o => pw_cell_below (below_alloc (below_drew hb0) o) h1
  have z2 := fun o => pw_cell_below (below_alloc (below_drew hb0) o) h2
  have z3 := fun o => pw_cell_below (below_alloc (below_drew hb0) o) h3
  have z4 := fun o => pw_cell_below (below_alloc (below_drew hb0) o) h4
  replace h0 := pw_cell_below hb0 h0
  replace h1 := pw_cell_below hb0 h1
  replace h2 := pw_cell_below hb0 h2
  replace h3 := pw_cell_below hb0 h3
  replace h4 := pw_cell_below hb0 h4
  have HW := Lib.hid hW
  clear hb0 hW
  go_region
  obtain ⟨g, hg⟩ : ∃ g, g = w.heap.size + 2 + 1 := ⟨_, rfl⟩
  obtain ⟨mb, hmb⟩ : ∃ mb, mb = w.heap.size + 2 := ⟨_, rfl⟩
  obtain ⟨W1, hW1⟩ : ∃ W1, W1 = ((W0.alloc (Obj.map #[] 0)).alloc (Obj.cells #[.slice A0 x.globs.length c0, .slice (some ad) x.fns.length c1, .string f.f0, .slice B1 f.f1.length d1, .int .i64 f.f2, .slice B3 f.f3.length d3, .slice B4 f.f4.length d4, .int .i64 n, .map (some mb), .slice none 0 0, .int .i64 0, .int .i64 0, .int .i64 0] 65)).drew := ⟨_, rfl⟩
  rw [← hg, ← hmb, ← hW1]
  have HLS : Hid (LS W0 W1 x f n g ⟨.slice A0 x.globs.length c0, .slice (some ad) x.fns.length c1, .string f.f0, .slice B1 f.f1.length d1, .int .i64 f.f2, .slice B3 f.f3.length d3, .slice B4 f.f4.length d4, n, mb, .slice none 0 0, 0, 0, 0⟩ st0) := by
    have hL : W1.heap[g]? = some (.cells #[.slice A0 x.globs.length c0, .slice (some ad) x.fns.length c1, .string f.f0, .slice B1 f.f1.length d1, .int .i64 f.f2, .slice B3 f.f3.length d3, .slice B4 f.f4.length d4, .int .i64 n, .map (some mb), .slice none 0 0, .int .i64 0, .int .i64 0, .int .i64 0] 65 (0, 0)) := by
      rw [hW1]
      have h := heap_alloc_new (W0.alloc (Obj.map #[] 0)) (Obj.cells #[.slice A0 x.globs.length c0, .slice (some ad) x.fns.length c1, .string f.f0, .slice B1 f.f1.length d1, .int .i64 f.f2, .slice B3 f.f3.length d3, .slice B4 f.f4.length d4, .int .i64 n, .map (some mb), .slice none 0 0, .int .i64 0, .int .i64 0, .int .i64 0] 65)
      have e : (W0.alloc (Obj.map #[] 0)).heap.size = g := by rw [hg]; simp [hsz]
      rw [e] at h
      exact h
    have hM : W1.heap[mb]? = some (.map #[] 0) := by
      rw [hW1]
      have h := heap_alloc_new W0 (Obj.map #[] 0)
      have e : W0.heap.size = mb := by rw [hmb]; exact hsz
      rw [e] at h
      exact blk_alloc h _
    exact ⟨⟨⟨⟨A0, c0, rfl, HV.out.2.2.1, Kd.C_below HV.out.1 HB0.out⟩, ⟨some ad, c1, rfl, l1, Kd.C_below HV.out.2.1 HB0.out⟩, rfl, ⟨B3, d3, rfl, HV.out.2.2.2.2.1, Kd.C_below HV.out.2.2.2.1 HB0.out⟩, ⟨B4, d4, rfl, HV.out.2.2.2.2.2.2, Kd.C_below HV.out.2.2.2.2.2.1 HB0.out⟩⟩, by rw [hW1]; exact below_drew (below_alloc (below_alloc (Below.refl _ _) _) _), hL, hX, HFO.out⟩, rfl, by omega, rfl, rfl, rfl, ⟨#[], 0, hM, rfl⟩, Kd.R_nil _ _ _ _ _, by omega, by show W0.heap.size ≤ mb; omega, by show mb ≠ g; omega, by simp [Value.ownBlock], by simp [Value.ownBlock]⟩
  have hlg : W0.heap.size ≤ g := by omega
  clear y0 y1 y2 y3 y4 z0 z1 z2 z3 z4 h0 h1 h2 h3 h4 i0 i1 hW1 hg hmb hmm
  go_wp2_with fail
  refine (goes_any W0 W1 x f n g _ st0 HLS.out 0 0 ⟨#[]⟩ (by omega) (by omega) (by simp [st0])).mono ?_
  rintro e w2 ⟨rfl, l2, hl2, hf2⟩
  obtain ⟨⟨b0, s0⟩, hq0⟩ : ∃ q, q = beginS f n := ⟨_, rfl⟩
  have hq0' : goesS f n st0 0 0 ⟨#[]⟩ = (b0, s0) := hq0.symm
  rw [hq0'] at hl2 ⊢
  have HQ0 := Lib.hid hq0
  have HL2 := Lib.hid hl2
  have hm2 : l2.m = mb := hf2.m
  have HINV := Lib.hid (show INV f.f4.length s0 ∧ 0 + mu f.f4.length s0 ≤ 2 * f.f4.length from by
    have h := goesS_inv f n st0 (st0_inv _) 0 0 ⟨#[]⟩ (by omega) (by simp [ByteArray.size]) (by simp [ByteArray.size])
    rw [hq0'] at h
    refine ⟨h.1, ?_⟩
    have h2 := h.2.1
    have h3 : mu f.f4.length st0 = 2 * f.f4.length := by simp [mu, st0]
    simp only at h2
    omega)
  clear hl2 hf2 hq0 hq0'
  simp only
  go_wp2_with fail
  go_loopw [7] (fun a wr => ∃ (j : Nat) (b : Bool) (st : VSt) (l : Lk), a = .bool b ∧ l.m = mb ∧ Hid ((b, st) = runS T x f n j (beginS f n)) ∧ Hid (INV f.f4.length st ∧ j + mu f.f4.length st ≤ 2 * f.f4.length) ∧ Hid (LS W0 wr x f n g l st)) (fun _ wr => muW f.f4.length g mb wr)
  case atStart => exact ⟨0, b0, s0, l2, rfl, hm2, HQ0.out, HINV.out, HL2.out⟩
  case round =>
    obtain ⟨j, b, st, l, rfl, hlm, HQ, HI, HS⟩ := hrel
    have c9 := HS.out.at_.L.at_.2.2.2.2.2.2.2.2.2.1
    obtain ⟨Aw, cw, hsl⟩ := PR_len HS.out.row
    rw [hsl] at c9
    have hgl : g < wr.heap.size := blk_lt HS.out.at_.L
    have HSL := Lib.hid hsl
    have HLM := Lib.hid hlm
    have hwl : st.waits.length ≤ 65536 := by have := HI.out.1.wl; have := HI.out.1.len_le; have := HFO.out.lc; omega
    clear hsl hlm
    cases b
    · have HR2 := Lib.hid (show r = (false, st) from by
        rw [HR.out, HQ.out]; unfold fnS
        exact runS_more T x f n j _ (by rw [← HQ.out]; rfl) _ (by have := HI.out.2; omega))
      have c11 := HS.out.at_.L.at_.2.2.2.2.2.2.2.2.2.2.2.1
      have c12 := HS.out.at_.L.at_.2.2.2.2.2.2.2.2.2.2.2.2
      have c10 := HS.out.at_.L.at_.2.2.2.2.2.2.2.2.2.2.1
      rw [HS.out.fc] at c11
      rw [HS.out.fa] at c12
      rw [HS.out.most] at c10
      have HF1 := Lib.hid ((HS.out.at_.B.block (w.heap.size + 1) (by omega)).trans HF0.out)
      have f0 : wr.cell? ⟨w.heap.size + 1, 0, none⟩ = some (.int .i64 0) := (blk_cell HF1.out 0).trans rfl
      have f1 : wr.cell? ⟨w.heap.size + 1, 1, none⟩ = some (.int .i64 0) := (blk_cell HF1.out 1).trans rfl
      have ff0 : wr.frozen? ⟨w.heap.size + 1, 0, none⟩ = false := blk_frozen HF1.out 0
      have ff1 : wr.frozen? ⟨w.heap.size + 1, 1, none⟩ = false := blk_frozen HF1.out 1
      go_wp2_with fail
      go_region
      all_goals go_wp2_with fail
      all_goals
        (try simp only [Exit.inBlock, Exit.then])
        refine bodyPost_ret (results_ct rfl _ _ (w.heap.size + 1) 30 #[.int .i64 st.fc, .int .i64 st.fa] (0, 0) _ rfl (blk_drew (blk_put (blk_put HF1.out 0 (.int .i64 st.fc) rfl) 1 (.int .i64 st.fa) rfl)) Tryd.underlying30 rfl (by kernel_rfl)) rfl ?_
        exact ⟨by rw [HR2.out]; rfl, below_drew (below_set (below_set (below_next HB0.out HS.out.at_.B) (by omega)) (by omega))⟩
    · by_cases h0 : st.waits.length = 0
      · have HR2 := Lib.hid (show r = (true, st) from by
          rw [HR.out, HQ.out]; unfold fnS
          exact runS_more T x f n j _ (by rw [← HQ.out]; simp [goOn, h0]) _ (by have := HI.out.2; omega))
        rw [h0] at c9
        clear h0
        go_wp2_with fail
        refine (sLen_any _ _ _ _).mono ?_
        rintro e w3 ⟨rfl, rfl⟩
        have c11 := HS.out.at_.L.at_.2.2.2.2.2.2.2.2.2.2.2.1
        have c12 := HS.out.at_.L.at_.2.2.2.2.2.2.2.2.2.2.2.2
        have c10 := HS.out.at_.L.at_.2.2.2.2.2.2.2.2.2.2.1
        rw [HS.out.fc] at c11
        rw [HS.out.fa] at c12
        rw [HS.out.most] at c10
        have HF1 := Lib.hid ((HS.out.at_.B.block (w.heap.size + 1) (by omega)).trans HF0.out)
        have f0 : wr.cell? ⟨w.heap.size + 1, 0, none⟩ = some (.int .i64 0) := (blk_cell HF1.out 0).trans rfl
        have f1 : wr.cell? ⟨w.heap.size + 1, 1, none⟩ = some (.int .i64 0) := (blk_cell HF1.out 1).trans rfl
        have ff0 : wr.frozen? ⟨w.heap.size + 1, 0, none⟩ = false := blk_frozen HF1.out 0
        have ff1 : wr.frozen? ⟨w.heap.size + 1, 1, none⟩ = false := blk_frozen HF1.out 1
        go_wp2_with fail
        go_region
        all_goals go_wp2_with fail
        all_goals
          (try simp only [Exit.inBlock, Exit.then])
          refine bodyPost_ret (results_ct rfl _ _ (w.heap.size + 1) 30 #[.int .i64 st.fc, .int .i64 st.fa] (0, 0) _ rfl (blk_drew (blk_put (blk_put HF1.out 0 (.int .i64 st.fc) rfl) 1 (.int .i64 st.fa) rfl)) Tryd.underlying30 rfl (by kernel_rfl)) rfl ?_
          exact ⟨by rw [HR2.out]; rfl, below_drew (below_set (below_set (below_next HB0.out HS.out.at_.B) (by omega)) (by omega))⟩
      · obtain ⟨m, hm⟩ : ∃ m, st.waits.length = m + 1 := ⟨st.waits.length - 1, by omega⟩
        rw [hm] at c9
        have HM := Lib.hid hm
        have h3 := stepS_inv T x f n st HI.out.1 hX HFO.out hTK (by omega)
        obtain ⟨kk, hkk⟩ : ∃ kk : Nat, topS st = kk := ⟨(topS st).toNat, by omega⟩
        have hpv : (popL st.waits).getD m 0 = (kk : Int) := by rw [← hkk]; unfold topS; rw [hm]; rfl
        have HK := Lib.hid (show kk < f.f4.length from by omega)
        have HPI := Lib.hid (popS_inv HI.out.1 (by omega))
        have HPop := Lib.hid (hPop_any wr g 9 l.cells 65 W0.heap.size l.s st.waits HS.out.ps m hm (by omega))
        rw [hpv] at HPop
        have hpe : popS st = { st with waits := (popL st.waits).take m } := by unfold popS; rw [hm]; rfl
        have HPE := Lib.hid hpe
        obtain ⟨⟨b2, st2⟩, hq2⟩ : ∃ q, q = stepS T x f n st := ⟨_, rfl⟩
        have hlk : lookS T x f n (popS st) kk = (b2, st2) := by rw [hq2]; unfold stepS; rw [hkk]; rfl
        have HLK := Lib.hid hlk
        have HQ2 := Lib.hid (show (b2, st2) = runS T x f n (j + 1) (beginS f n) from by
          rw [runS_succ T x f n j _ (by rw [← HQ.out]; simp [goOn, hm]), ← HQ.out]; exact hq2)
        rw [← hq2] at h3
        have H3 := Lib.hid h3
        have hta : ∀ (W : World) (z : Int), (Instr.typeAssert (.iface 3 (.int .i64 z)) 20 3 false).run Tryd.prog W = .ok (.int .i64 z) W := fun W z => by kernel_rfl
        have hws2 : st.waits.length ≤ 32769 := by have := HI.out.1.wl; have := HI.out.1.len_le; have := HFO.out.lc; omega
        clear hm h0 hpv hpe hq2 hlk h3 hkk hwl
        go_wp2_with fail
        refine (sLen_any _ _ _ _).mono ?_
        rintro e w3 ⟨rfl, rfl⟩
        go_wp2_with fail
        refine HPop.out.mono ?_
        rintro e w3 ⟨rfl, v3, hp, hf⟩
        have HS3 := Lib.hid (HS.out.turned hp hf)
        clear hp hf
        go_wp2_with fail
        refine (look_any T W0 w3 x f n g _ (popS st) (by rw [HPE.out]; exact HS3.out.1) (HT.out.below (below_next HB0.out HS3.out.1.at_.B)) kk HK.out (by rw [HPE.out]; show ((popL st.waits).take m).length ≤ 65530; rw [List.length_take, popL_length]; omega) hTK (stackAt_size HPI.out.1 _)).mono ?_
        rw [HLK.out]
        rintro e w4 ⟨rfl, l4, hl4, hf4⟩
        have HL4 := Lib.hid hl4
        have hm4 : l4.m = mb := (hf4.m.trans HS3.out.2.m).trans HLM.out
        clear hl4 hf4
        simp only
        go_wp2_with fail
        go_roundw
        case rel => exact ⟨j + 1, b2, st2, l4, rfl, hm4, HQ2.out, ⟨H3.out.1, by have h1 : mu f.f4.length st2 + 1 ≤ mu f.f4.length st := H3.out.2.1; have h2 := HI.out.2; omega⟩, HL4.out⟩
        case measure =>
          have e1 := muW_eq HS.out
          have e2 := muW_eq HL4.out
          rw [HLM.out] at e1
          rw [hm4] at e2
          show muW f.f4.length g mb w4 < muW f.f4.length g mb wr
          rw [e1, e2]
          clear e1 e2
          have : mu f.f4.length st2 + 1 ≤ mu f.f4.length st := H3.out.2.1
          exact Nat.lt_of_succ_le this
end Go.Proofs.YtedmncldelcbfaaDoor.E

namespace Go.Proofs.YtedmncldelcbfaaDoor.E
open Go Go.RowKit Go.Proofs.YtedmncldelcbfaaDoorW.PrintWords Go.Proofs.YtedmncldelcbfaaDoorW.PrintLast Go.Proofs.YtedmncldelcbfaaDoorW.PrintMore
set_option linter.unusedVariables false
set_option linter.unusedSimpArgs false
set_option maxRecDepth 100000
set_option maxHeartbeats 2000000

/-- a call back's name with another head -/
def backB (f : SFn) (b : SSys) : Bool := (b.f0.toList == f.f0.toList) && ((f.f2 != 0) || !(b.f1 == f.f1))
theorem en_Verify1 : Enters 14 := fun args w => enters_ Tryd.func14 (by kernel_rfl) rfl args w
theorem Verify1_any (b : SSys) (v : Value) (w : World) (g : Nat) (f : SFn) (B1 : Option Addr) (d1 : Nat) (u3 u4 : Value) (hv : VSys w b v)
    (hf : w.heap[g]? = some (.cells #[.string f.f0, .slice B1 f.f1.length d1, .int .i64 f.f2, u3, u4] 35 (0, 0))) (hC : (Kd.int .i64).C w B1 f.f1.length f.f1) (hl : b.f1.length ≤ 1000) (hl2 : f.f1.length ≤ 1000) :
    Calls Tryd.prog 14 #[v, .pointer (some ⟨g, 0, none⟩)] w fun e w' => e = .returned (.bool (backB f b)) ∧ Below w.heap.size w w' := by
  obtain ⟨A1, c1, rfl, l1, g1⟩ := hv
  obtain ⟨x0, x1, x2, x3, x4⟩ := cells5 hf
  have hg := blk_lt hf
  have hb := below_alloc (Below.refl w.heap.size w) (.cells #[.string b.f0, .slice A1 b.f1.length c1, .int .i64 b.f2] 48)
  have HC := Lib.hid (Kd.C_below hC hb)
  have HG := Lib.hid (Kd.C_below g1 hb)
  obtain ⟨p, hp⟩ : ∃ p, (b.f0.toList == f.f0.toList) = p := ⟨_, rfl⟩
  obtain ⟨q, hq⟩ : ∃ q, (f.f2 != 0) = q := ⟨_, rfl⟩
  have HR := Lib.hid (show backB f b = (p && (q || !(b.f1 == f.f1))) from by unfold backB; rw [hp, hq])
  clear hC g1 hf hb
  cases p <;> cases q
  all_goals
    go_enter Tryd.func14, Tryd.ntmps14
    go_wp2_with fail
    first
      | (go_ret
         exact ⟨ret_bool (by rw [HR.out]; rfl), below_alloc (Below.refl _ _) _⟩)
      | (refine (asB (eqInt_any A1 B1 c1 d1 b.f1 f.f1 _ HG.out HC.out (by omega))).mono ?_
         rintro e w1 ⟨bb, rfl, HE, HW⟩
         go_wp2_with fail
         go_ret
         exact ⟨ret_bool (by rw [HR.out, ← HE.out]; rfl), below_next (below_alloc (Below.refl _ _) _) (drawn_below HW.out)⟩)

def firstFrom (p : Nat → Bool) (i n : Nat) : Option Nat := if h : i < n then if p i then some i else firstFrom p (i + 1) n else none
termination_by n - i
theorem firstFrom_stop {p : Nat → Bool} {i n : Nat} (h : ¬ i < n) : firstFrom p i n = none := by rw [firstFrom, dif_neg h]
theorem firstFrom_hit {p : Nat → Bool} {i n : Nat} (h : i < n) (hp : p i = true) : firstFrom p i n = some i := by rw [firstFrom, dif_pos h, if_pos hp]
theorem firstFrom_miss {p : Nat → Bool} {i n : Nat} (h : i < n) (hp : p i = false) : firstFrom p i n = firstFrom p (i + 1) n := by rw [firstFrom, dif_pos h, if_neg (by rw [hp]; simp)]
theorem firstFrom_none {p : Nat → Bool} {i n : Nat} : firstFrom p i n = none ↔ ∀ j, i ≤ j → j < n → p j = false := by
  fun_induction firstFrom p i n with
  | case1 i h hp => simp; exact ⟨i, Nat.le_refl _, h, hp⟩
  | case2 i h hp ih =>
    rw [ih]
    constructor
    · intro hh j h1 h2
      rcases Nat.lt_or_ge i j with h3 | h3
      · exact hh j h3 h2
      · obtain rfl : j = i := by omega
        exact Bool.eq_false_iff.2 hp
    · intro hh j h1 h2
      exact hh j (by omega) h2
  | case3 i h => simp; intro j h1 h2; omega

def seenS (fns : List SFn) (k : Nat) : List (ByteArray × Bool) := (fns.take k).map fun f => (f.f0, true)
def headBad (fns : List SFn) (k : Nat) : Bool := ((seenS fns k).lookup (fns.getD k zFn).f0).getD false || backsL.any (backB (fns.getD k zFn))
def fnAt (T : Nat → ByteArray × ByteArray) (x : SImage) (k : Nat) : VSt := (fnS T x (x.fns.getD k zFn) k).2
/-- what verify.Verify answers -/
def verifyS (T : Nat → ByteArray × ByteArray) (x : SImage) : Int × Int :=
  if rightE x = 0 then
    match firstFrom (headBad x.fns) 0 x.fns.length with
    | some k => (163, k * 65536)
    | none => match firstFrom (fun k => (fnAt T x k).fc != 0) 0 x.fns.length with
      | some k => ((fnAt T x k).fc, (fnAt T x k).fa)
      | none => (0, 0)
  else (rightE x, -1)
theorem lookup_true (l : List SFn) (s : ByteArray) : (l.map fun f => (f.f0, true)).lookup s = none ∨ (l.map fun f => (f.f0, true)).lookup s = some true := by
  induction l with
  | nil => exact .inl rfl
  | cons f l ih =>
    by_cases he : (s == f.f0) = true
    · right; simp [List.lookup, he]
    · have he' := Bool.eq_false_iff.2 he
      rw [show ((f :: l).map fun f => (f.f0, true)).lookup s = (l.map fun f => (f.f0, true)).lookup s from by simp [List.lookup, he']]
      exact ih
theorem seenS_true (fns : List SFn) (k : Nat) (s : ByteArray) : (seenS fns k).lookup s = none ∨ (seenS fns k).lookup s = some true := lookup_true _ s
theorem seenS_succ (fns : List SFn) (k : Nat) (hk : k < fns.length) : seenS fns (k + 1) = seenS fns k ++ [((fns.getD k zFn).f0, true)] := by
  unfold seenS
  rw [List.take_add_one, List.getElem?_eq_getElem hk, List.getD_eq_getElem?_getD, List.getElem?_eq_getElem hk, List.map_append]; rfl
end Go.Proofs.YtedmncldelcbfaaDoor.E

namespace Go.Proofs.YtedmncldelcbfaaDoor.E
open Go Go.RowKit Go.Proofs.YtedmncldelcbfaaDoorW.PrintWords Go.Proofs.YtedmncldelcbfaaDoorW.PrintLast Go.Proofs.YtedmncldelcbfaaDoorW.PrintMore
set_option linter.unusedVariables false
set_option linter.unusedSimpArgs false
set_option maxRecDepth 100000
set_option maxHeartbeats 2000000

theorem results_c1 {P : Program} {fn : Func} {p : Tmp} {ty : TypeId} (h : fn.results = #[.cell p ty]) (tmps : Array Value) (w : World) (g : Nat) (t : TypeId) (cs : Array Value) (fr : Nat × Nat) (d : TypeDesc)
    (hp : tmps.getD p undef = .pointer (some ⟨g, 0, none⟩)) (hg : w.heap[g]? = some (.cells cs t fr))
    (hu : P.underlying ty = some d) (hd : (match d with | .struct _ | .array _ _ => true | _ => false) = true) (hi : (P.info? ty).map (·.size) = some cs.size) :
    (results fn tmps).run P w = .ok (.agg cs) w := by
  have hp' : tmps[p]?.getD undef = .pointer (some ⟨g, 0, none⟩) := by simpa using hp
  simp [results, h, hp', asAddr, run_loadVar_row w g t ty cs fr d hg hu hd hi]
theorem VImage.below {w w' : World} {x : SImage} {v : Value} (h : VImage w x v) (hb : Below w.heap.size w w') : VImage w' x v := by
  obtain ⟨A0, c0, A1, c1, rfl, l0, hG, l1, hF⟩ := h
  exact ⟨A0, c0, A1, c1, rfl, l0, Kd.C_below hG hb, l1, Kd.C_below hF hb⟩
theorem typedB_le {t : Int} (h : typedB t = true) : 0 ≤ t ∧ t ≤ 4 := by unfold typedB at h; have := of_decide_eq_true h; omega
theorem typesB_le {l : List Int} (h : typesB l = true) : ∀ t ∈ l, 0 ≤ t ∧ t ≤ 4 := by
  intro t ht
  unfold typesB at h
  rw [Bool.not_eq_true', List.any_eq_false] at h
  have := h t ht
  exact typedB_le (by simpa using this)
theorem imgOK_of {x : SImage} (h : okB x = true) : ImgOK x := by
  obtain ⟨h1, h2, h3, h4⟩ := okB_bounds x h
  refine ⟨h1, h2, fun y hy => ?_, fun f hf => ?_⟩
  · have := h3 y hy
    unfold globB at this
    rw [Bool.and_eq_true, Bool.and_eq_true] at this
    exact typedB_le this.1.1
  · have hf4 := h4 f hf
    unfold fnB fnHeadB at hf4
    simp only [Bool.and_eq_true, decide_eq_true_eq, Bool.or_eq_true, beq_iff_eq, Bool.not_eq_true', List.any_eq_false] at hf4
    obtain ⟨⟨⟨⟨⟨⟨a1, a2⟩, a3⟩, a4⟩, a5⟩, a6⟩, b1, b2, b3⟩ := hf4
    refine ⟨?_, ?_, typesB_le a5, a2, a3, a4, fun i hi => ?_⟩
    · rcases a6 with h0 | h0
      · omega
      · exact typedB_le h0
    · intro t ht
      rw [b2] at ht
      exact typesB_le a5 t (List.mem_of_mem_take ht)
    · have h9 : instrB i = true := by simpa using b3 i hi
      unfold instrB at h9
      have := of_decide_eq_true h9
      omega
theorem right_ok {x : SImage} (h : rightE x = 0) : okB x = true := by
  unfold rightE at h
  by_cases ho : okB x = true
  · exact ho
  · rw [if_neg ho] at h; omega

theorem below_low {B : Nat} {w w' : World} (h : Below w.heap.size w w') (hB : B ≤ w.heap.size) : Below B w w' := ⟨h.os, h.tape, h.output, h.size, fun i hi => h.block i (Nat.lt_of_lt_of_le hi hB)⟩
theorem below_low2 {w w' : World} (h : Below w.heap.size w w') : Below w.heap.size w w' := h
theorem backsL_ok : ∀ y ∈ backsL, y.f1.length ≤ 8 := by simp [backsL]
theorem Verify_any (T : Nat → ByteArray × ByteArray) (x : SImage) (v : Value) (w : World) (hv : VImage w x v) (hs : imgSmall 1099511620000 x) (hG : Nib w) (hT : Pln T w) (hTK : TOK T) :
    Calls Tryd.prog 7 #[v] w fun e w' => e = .returned (.agg #[.int .i64 (verifyS T x).1, .int .i64 (verifyS T x).2]) ∧ Below w.heap.size w w' := by
  obtain ⟨A0, c0, A1, c1, hve, l0, hG0, l1, hF0⟩ := hv
  have HGF := Lib.hid (show kGlob.C w A0 x.globs.length x.globs ∧ kFn.C w A1 x.fns.length x.fns from ⟨hG0, hF0⟩)
  subst hve
  obtain ⟨r, hr⟩ : ∃ r, r = verifyS T x := ⟨_, rfl⟩
  rw [← hr]
  have HR := Lib.hid hr
  have HT := Lib.hid hT
  have HN := Lib.hid hG
  have HSM := Lib.hid hs
  have hlf := hs.2.1
  clear hr hT hG hG0 hF0 hs
  go_enter Tryd.func7, Tryd.ntmps7
  go_wp2_with fail
  obtain ⟨W0, hW⟩ : ∃ W0, W0 = (w.alloc (Obj.cells #[Value.slice A0 x.globs.length c0, Value.slice A1 x.fns.length c1] 25)).alloc (Obj.cells #[Value.int IntKind.i64 0, Value.int IntKind.i64 0] 30) := ⟨_, rfl⟩
  rw [← hW]
  have HB0 := Lib.hid (show Below w.heap.size w W0 from by rw [hW]; exact below_alloc (below_alloc (Below.refl _ _) _) _)
  have hsz : W0.heap.size = w.heap.size + 2 := by rw [hW]; simp
  have HI0 := Lib.hid (show W0.heap[w.heap.size]? = some (.cells #[Value.slice A0 x.globs.length c0, Value.slice A1 x.fns.length c1] 25 (0, 0)) from by rw [hW]; exact blk_alloc (heap_alloc_new w _) _)
  have HF0 := Lib.hid (show W0.heap[w.heap.size + 1]? = some (.cells #[Value.int IntKind.i64 0, Value.int IntKind.i64 0] 30 (0, 0)) from by
    rw [hW]; have h := heap_alloc_new (w.alloc (Obj.cells #[Value.slice A0 x.globs.length c0, Value.slice A1 x.fns.length c1] 25)) (Obj.cells #[Value.int IntKind.i64 0, Value.int IntKind.i64 0] 30)
    simpa using h)
  clear hW
  refine (asI (Right_any x _ W0 (VImage.below ⟨A0, c0, A1, c1, rfl, l0, HGF.out.1, l1, HGF.out.2⟩ HB0.out) HSM.out (HN.out.below HB0.out))).mono ?_
  rintro e w1 ⟨er, rfl, HE, HB1⟩
  have HBw1 := Lib.hid (below_next HB0.out HB1.out)
  have HI1 := Lib.hid ((HB1.out.block w.heap.size (by omega)).trans HI0.out)
  have HF1 := Lib.hid ((HB1.out.block (w.heap.size + 1) (by omega)).trans HF0.out)
  have hs1 := HB1.out.size
  by_cases he0 : er = 0
  · subst he0
    have HX := Lib.hid (imgOK_of (right_ok HE.out.symm))
    have hmm := @run_makeMap Tryd.prog
    have i1 : w1.cell? ⟨w.heap.size, 1, none⟩ = some (.slice A1 x.fns.length c1) := (blk_cell HI1.out 1).trans rfl
    have hsI : w.heap.size < w1.heap.size := by omega
    go_wp2_with fail
    go_loopw [21] (fun a wr => ∃ k : Nat, k ≤ x.fns.length ∧ a = .int .i64 k ∧ Hid (firstFrom (headBad x.fns) k x.fns.length = firstFrom (headBad x.fns) 0 x.fns.length) ∧ Hid (MM ekS evB wr w1.heap.size (seenS x.fns k)) ∧ Hid (Below w1.heap.size w1 wr)) (fun a _ => x.fns.length - (intOf a).toNat)
    case atStart => exact ⟨0, by omega, rfl, rfl, ⟨#[], 0, heap_alloc_new w1 _, rfl⟩, below_alloc (Below.refl _ _) _⟩
    case round =>
      obtain ⟨k, hk, rfl, HFF, HM, HB⟩ := hrel
      have HFr := Lib.hid ((HB.out.block (w.heap.size + 1) (by omega)).trans HF1.out)
      have HIr := Lib.hid ((HB.out.block w.heap.size (by omega)).trans HI1.out)
      clear i1 hmm
      by_cases hlt : k < x.fns.length
      · obtain ⟨ad, B1, d1, B3, d3, B4, d4, rfl, h0, h1, h2, h3, h4, m1, g1, m3, g3, m4, g4⟩ := at_TFn (Kd.C_below (Kd.C_below HGF.out.2 HBw1.out) HB.out) (k : Int) (by omega) (by omega)
        obtain ⟨f, hf⟩ : ∃ f, f = rd_TFn x.fns (k : Int) := ⟨_, rfl⟩
        rw [← hf] at h0 h1 h2 h3 h4 m1 g1 m3 m4
        simp only [Int.toNat_natCast] at h0 h1 h2 h3 h4
        have hfe : x.fns.getD k zFn = f := by rw [hf]; rfl
        have HFE := Lib.hid hfe
        have HFO := Lib.hid (HX.out.fn f (by rw [← hfe]; exact getD_mem_fn _ k hlt))
        have G1 := Lib.hid g1
        obtain ⟨b, hb⟩ : ∃ b, ((seenS x.fns k).lookup f.f0).getD false = b := ⟨_, rfl⟩
        have hget : ∀ o, (Instr.lookup 44 (.map (some w1.heap.size)) (.string f.f0) false).run Tryd.prog (wr.alloc o) = .ok (.bool b) (wr.alloc o) := fun o => by
          rw [← hb]; exact seen_get (HM.out.move ((below_alloc (Below.refl _ _) o).block _ HM.out.lt)) f.f0
        have HBB := Lib.hid hb
        have hfr : w.heap.size + 1 < wr.heap.size := by have := HB.out.size; omega
        clear hf hfe g1 g3 g4 hb
        cases b
        · go_wp2_with fail
          refine (Backs_any _).mono ?_
          rintro e w5 ⟨A, c, rfl, hC, hb5⟩
          have HX5 := Lib.hid ((hb5.block wr.heap.size (by simp)).trans (heap_alloc_new wr (Obj.cells #[.string f.f0, .slice B1 f.f1.length d1, .int .i64 f.f2, .slice B3 f.f3.length d3, .slice B4 f.f4.length d4] 35)))
          have HB5 := Lib.hid (below_next (below_alloc (Below.refl wr.heap.size wr) _) hb5)
          have HC := Lib.hid hC
          clear hC hb5
          simp only [show backsL.length = 6 from rfl]
          go_wp2_with fail
          refine (asB (conSys_any 14 #[.pointer (some ⟨wr.heap.size, 0, none⟩)] (backB f) A c backsL w5 en_Verify1 (fun y v w' hy hbw hv => Verify1_any y v w' wr.heap.size f B1 d1 _ _ hv ((hbw.block _ (blk_lt HX5.out)).trans HX5.out) (Kd.C_below (Kd.C_below G1.out HB5.out) hbw) (by have := backsL_ok y hy; omega) (by have := HFO.out.lp; omega)) HC.out (by simp [backsL]))).mono ?_
          rintro e w6 ⟨bb, rfl, HV, HW6⟩
          have HB6 := Lib.hid (below_next HB5.out HW6.out)
          have HF6 := Lib.hid ((HB6.out.block (w.heap.size + 1) hfr).trans HFr.out)
          have HX6 := Lib.hid ((HW6.out.block _ (blk_lt HX5.out)).trans HX5.out)
          obtain ⟨x0, x1, x2, x3, x4⟩ := cells5 HX6.out
          cases bb
          · have HHB := Lib.hid (show headBad x.fns k = false from by unfold headBad; rw [HFE.out, HBB.out, ← HV.out]; rfl)
            have hnone : (seenS x.fns k).lookup f.f0 = none := by
              rcases seenS_true x.fns k f.f0 with h | h
              · exact h
              · have := HBB.out; rw [h] at this; simp at this
            obtain ⟨w7, hput, hM7, hO7⟩ := seen_put (HM.out.move (HB6.out.block _ HM.out.lt)) f.f0 hnone true
            have HM7 := Lib.hid (show MM ekS evB w7 w1.heap.size (seenS x.fns (k + 1)) from by rw [seenS_succ x.fns k hlt, HFE.out]; exact hM7)
            have HB7 := Lib.hid (show Below w1.heap.size w1 w7 from by
              have hb6 := HB.out.trans (below_low HB6.out HB.out.size)
              obtain ⟨o1, o2, o3, o4, o5⟩ := hO7
              exact ⟨o1.trans hb6.os, o2.trans hb6.tape, o3.trans hb6.output, by rw [o4]; exact hb6.size, fun i hi => (o5 i (by omega)).trans (hb6.block i hi)⟩)
            clear hM7 hO7 hnone
            go_wp2_with fail
            go_roundw
            case rel => exact ⟨k + 1, by omega, by go_num, by rw [← firstFrom_miss hlt HHB.out]; exact HFF.out, HM7.out, HB7.out⟩
            case measure => simp [intOf]; omega
          · have HR2 := Lib.hid (show r = (163, (k : Int) * 65536) from by
              rw [HR.out]; unfold verifyS
              rw [if_pos HE.out.symm, ← HFF.out, firstFrom_hit hlt (by unfold headBad; rw [HFE.out, HBB.out, ← HV.out]; rfl)])
            have f0 : w6.cell? ⟨w.heap.size + 1, 0, none⟩ = some (.int .i64 0) := (blk_cell HF6.out 0).trans rfl
            have f1 : w6.cell? ⟨w.heap.size + 1, 1, none⟩ = some (.int .i64 0) := (blk_cell HF6.out 1).trans rfl
            have ff0 : w6.frozen? ⟨w.heap.size + 1, 0, none⟩ = false := blk_frozen HF6.out 0
            have ff1 : w6.frozen? ⟨w.heap.size + 1, 1, none⟩ = false := blk_frozen HF6.out 1
            have hfr6 : w.heap.size + 1 < w6.heap.size := blk_lt HF6.out
            go_wp2_with fail
            (try simp only [Exit.inBlock, Exit.then])
            refine bodyPost_ret (results_c1 rfl _ _ (w.heap.size + 1) 30 #[.int .i64 (163), .int .i64 ((k : Int) * 65536)] (0, 0) _ rfl (blk_put (blk_put HF6.out 0 (.int .i64 (163)) rfl) 1 (.int .i64 ((k : Int) * 65536)) rfl) Tryd.underlying30 rfl (by kernel_rfl)) rfl ?_
            exact ⟨by rw [HR2.out], below_set (below_set (below_next (below_next HBw1.out (below_low2 HB.out)) HB6.out) (by omega)) (by omega)⟩
        · have HR2 := Lib.hid (show r = (163, (k : Int) * 65536) from by
            rw [HR.out]; unfold verifyS
            rw [if_pos HE.out.symm, ← HFF.out, firstFrom_hit hlt (by unfold headBad; rw [HFE.out, HBB.out]; rfl)])
          have f0 : wr.cell? ⟨w.heap.size + 1, 0, none⟩ = some (.int .i64 0) := (blk_cell HFr.out 0).trans rfl
          have f1 : wr.cell? ⟨w.heap.size + 1, 1, none⟩ = some (.int .i64 0) := (blk_cell HFr.out 1).trans rfl
          have ff0 : wr.frozen? ⟨w.heap.size + 1, 0, none⟩ = false := blk_frozen HFr.out 0
          have ff1 : wr.frozen? ⟨w.heap.size + 1, 1, none⟩ = false := blk_frozen HFr.out 1
          go_wp2_with fail
          (try simp only [Exit.inBlock, Exit.then])
          refine bodyPost_ret (results_c1 rfl _ _ (w.heap.size + 1) 30 #[.int .i64 (163), .int .i64 ((k : Int) * 65536)] (0, 0) _ rfl (blk_alloc (blk_put (blk_put HFr.out 0 (.int .i64 (163)) rfl) 1 (.int .i64 ((k : Int) * 65536)) rfl) _) Tryd.underlying30 rfl (by kernel_rfl)) rfl ?_
          exact ⟨by rw [HR2.out], below_alloc (below_set (below_set (below_next HBw1.out HB.out) (by omega)) (by omega)) _⟩
      · obtain rfl : k = x.fns.length := by omega
        have HH := Lib.hid (show firstFrom (headBad x.fns) 0 x.fns.length = none from by rw [← HFF.out]; exact firstFrom_stop (by omega))
        obtain ⟨wq, rfl⟩ : ∃ z : World, z = wr := ⟨wr, rfl⟩
        have hsr := HB.out.size
        have i1 : wq.cell? ⟨w.heap.size, 1, none⟩ = some (.slice A1 x.fns.length c1) := (blk_cell HIr.out 1).trans rfl
        have HBwq := Lib.hid (show Below w.heap.size w wq from below_next HBw1.out HB.out)
        go_wp2_with fail
        go_loopw [46] (fun a w2 => ∃ q : Nat, q ≤ x.fns.length ∧ a = .int .i64 q ∧ Hid (firstFrom (fun k => (fnAt T x k).fc != 0) q x.fns.length = firstFrom (fun k => (fnAt T x k).fc != 0) 0 x.fns.length) ∧ Hid (Below wq.heap.size wq w2)) (fun a _ => x.fns.length - (intOf a).toNat)
        case atStart => exact ⟨0, by omega, rfl, rfl, Below.refl _ _⟩
        case round =>
          obtain ⟨q, hq, rfl, HFQ, HB2⟩ := hrel
          have HF2 := Lib.hid ((HB2.out.block (w.heap.size + 1) (by omega)).trans HFr.out)
          have HI2 := Lib.hid ((HB2.out.block w.heap.size (by omega)).trans HIr.out)
          have HBw2 := Lib.hid (show Below w.heap.size w wr from below_next HBwq.out HB2.out)
          clear i1
          by_cases hlq : q < x.fns.length
          · have j0 : wr.cell? ⟨w.heap.size, 0, none⟩ = some (.slice A0 x.globs.length c0) := (blk_cell HI2.out 0).trans rfl
            have j1 : wr.cell? ⟨w.heap.size, 1, none⟩ = some (.slice A1 x.fns.length c1) := (blk_cell HI2.out 1).trans rfl
            obtain ⟨fc, hfc⟩ : ∃ z, z = (fnAt T x q).fc := ⟨_, rfl⟩
            obtain ⟨fa, hfa⟩ : ∃ z, z = (fnAt T x q).fa := ⟨_, rfl⟩
            obtain ⟨mo, hmo⟩ : ∃ z, z = (fnAt T x q).most := ⟨_, rfl⟩
            have HFn := Lib.hid (show Calls Tryd.prog 16 #[.agg #[.slice A0 x.globs.length c0, .slice A1 x.fns.length c1], .int .i64 q] wr fun e w' => e = .returned (.tuple #[.agg #[.int .i64 fc, .int .i64 fa], .int .i64 mo]) ∧ Below wr.heap.size wr w' from by
              rw [hfc, hfa, hmo]; exact function_any T x _ wr (VImage.below ⟨A0, c0, A1, c1, rfl, l0, HGF.out.1, l1, HGF.out.2⟩ HBw2.out) HX.out (HT.out.below HBw2.out) hTK q hlq)
            have HFC := Lib.hid hfc
            have HFA := Lib.hid hfa
            have hfr : w.heap.size + 1 < wr.heap.size := blk_lt HF2.out
            clear hfc hfa hmo
            go_wp2_with fail
            refine HFn.out.mono ?_
            rintro e w3 ⟨rfl, hb3⟩
            have HB3 := Lib.hid hb3
            have HF3 := Lib.hid ((hb3.block _ hfr).trans HF2.out)
            have hfr3 : w.heap.size + 1 < w3.heap.size := blk_lt HF3.out
            clear hb3 j0 j1
            by_cases hc : fc = 0
            · subst hc
              have HM := Lib.hid (show ((fnAt T x q).fc != 0) = false from by rw [← HFC.out]; rfl)
              go_wp2_with fail
              go_roundw
              case rel => exact ⟨q + 1, by omega, by go_num, by rw [← firstFrom_miss (p := fun k => (fnAt T x k).fc != 0) hlq HM.out]; exact HFQ.out, below_alloc (below_next HB2.out HB3.out) _⟩
              case measure => simp [intOf]; omega
            · have hc' : (fc != 0) = true := by simpa using hc
              have HR2 := Lib.hid (show r = (fc, fa) from by
                rw [HR.out]; unfold verifyS
                rw [if_pos HE.out.symm, HH.out]
                simp only
                rw [← HFQ.out, firstFrom_hit (p := fun k => (fnAt T x k).fc != 0) hlq (by show ((fnAt T x q).fc != 0) = true; rw [← HFC.out]; exact hc')]
                simp only
                rw [HFC.out, HFA.out])
              clear hc
              have f0 : w3.cell? ⟨w.heap.size + 1, 0, none⟩ = some (.int .i64 0) := (blk_cell HF3.out 0).trans rfl
              have f1 : w3.cell? ⟨w.heap.size + 1, 1, none⟩ = some (.int .i64 0) := (blk_cell HF3.out 1).trans rfl
              have ff0 : w3.frozen? ⟨w.heap.size + 1, 0, none⟩ = false := blk_frozen HF3.out 0
              have ff1 : w3.frozen? ⟨w.heap.size + 1, 1, none⟩ = false := blk_frozen HF3.out 1
              go_wp2_with fail
              (try simp only [Exit.inBlock, Exit.then])
              refine bodyPost_ret (results_c1 rfl _ _ (w.heap.size + 1) 30 #[.int .i64 (fc), .int .i64 (fa)] (0, 0) _ rfl (blk_alloc (blk_put (blk_put HF3.out 0 (.int .i64 (fc)) rfl) 1 (.int .i64 (fa)) rfl) _) Tryd.underlying30 rfl (by kernel_rfl)) rfl ?_
              exact ⟨by rw [HR2.out], below_alloc (below_set (below_set (below_next HBw2.out HB3.out) (by omega)) (by omega)) _⟩
          · obtain rfl : q = x.fns.length := by omega
            have HR2 := Lib.hid (show r = (0, 0) from by
              rw [HR.out]; unfold verifyS
              rw [if_pos HE.out.symm, HH.out]
              simp only
              rw [← HFQ.out, firstFrom_stop (by omega)])
            have f0 : wr.cell? ⟨w.heap.size + 1, 0, none⟩ = some (.int .i64 0) := (blk_cell HF2.out 0).trans rfl
            have f1 : wr.cell? ⟨w.heap.size + 1, 1, none⟩ = some (.int .i64 0) := (blk_cell HF2.out 1).trans rfl
            have ff0 : wr.frozen? ⟨w.heap.size + 1, 0, none⟩ = false := blk_frozen HF2.out 0
            have ff1 : wr.frozen? ⟨w.heap.size + 1, 1, none⟩ = false := blk_frozen HF2.out 1
            go_wp2_with fail
            (try simp only [Exit.inBlock, Exit.then])
            refine bodyPost_ret (results_c1 rfl _ _ (w.heap.size + 1) 30 #[.int .i64 (0), .int .i64 (0)] (0, 0) _ rfl (blk_put (blk_put HF2.out 0 (.int .i64 (0)) rfl) 1 (.int .i64 (0)) rfl) Tryd.underlying30 rfl (by kernel_rfl)) rfl ?_
            exact ⟨by rw [HR2.out], below_set (below_set HBw2.out (by omega)) (by omega)⟩
  · have he0' : (er != 0) = true := by simpa using he0
    have HR2 := Lib.hid (show r = (er, -1) from by rw [HR.out]; unfold verifyS; rw [if_neg (by rw [← HE.out]; exact he0), HE.out])
    have f0 : w1.cell? ⟨w.heap.size + 1, 0, none⟩ = some (.int .i64 0) := (blk_cell HF1.out 0).trans rfl
    have f1 : w1.cell? ⟨w.heap.size + 1, 1, none⟩ = some (.int .i64 0) := (blk_cell HF1.out 1).trans rfl
    have ff0 : w1.frozen? ⟨w.heap.size + 1, 0, none⟩ = false := blk_frozen HF1.out 0
    have ff1 : w1.frozen? ⟨w.heap.size + 1, 1, none⟩ = false := blk_frozen HF1.out 1
    clear he0
    go_wp2_with fail
    (try simp only [Exit.inBlock, Exit.then])
    refine bodyPost_ret (results_c1 rfl _ _ (w.heap.size + 1) 30 #[.int .i64 er, .int .i64 (-1)] (0, 0) _ rfl (blk_put (blk_put HF1.out 0 (.int .i64 er) rfl) 1 (.int .i64 (-1)) rfl) Tryd.underlying30 rfl (by kernel_rfl)) rfl ?_
    exact ⟨by rw [HR2.out], below_set (below_set HBw1.out (by omega)) (by omega)⟩
end Go.Proofs.YtedmncldelcbfaaDoor.E

namespace Go.Proofs.YtedmncldelcbfaaDoor.E
open Go Go.RowKit Go.Proofs.YtedmncldelcbfaaDoorW.PrintWords Go.Proofs.YtedmncldelcbfaaDoorW.PrintLast Go.Proofs.YtedmncldelcbfaaDoorW.PrintMore
set_option linter.unusedVariables false
set_option linter.unusedSimpArgs false
set_option maxRecDepth 100000
set_option maxHeartbeats 2000000

theorem verify_right {T : Nat → ByteArray × ByteArray} {x : SImage} (h : (verifyS T x).1 = 0) : rightE x = 0 := by
  unfold verifyS at h
  by_cases hr : rightE x = 0
  · exact hr
  · rw [if_neg hr] at h; exact absurd h hr

theorem runS_inv (T : Nat → ByteArray × ByteArray) (x : SImage) (f : SFn) (nn : Int) (hX : ImgOK x) (hF : FnOK f) (hT : TOK T) : ∀ (n : Nat) (r : Bool × VSt), INV f.f4.length r.2 → INV f.f4.length (runS T x f nn n r).2
  | 0, r, h => h
  | n + 1, r, h => by
    show INV _ (if goOn r then runS T x f nn n (stepS T x f nn r.2) else r).2
    split
    · rename_i hg
      have h0 : 0 < r.2.waits.length := by
        unfold goOn at hg
        rw [Bool.and_eq_true] at hg
        exact of_decide_eq_true hg.2
      exact runS_inv T x f nn hX hF hT n _ (stepS_inv T x f nn r.2 h hX hF hT h0).1
    · exact h
theorem fnS_inv (T : Nat → ByteArray × ByteArray) (x : SImage) (f : SFn) (nn : Int) (hX : ImgOK x) (hF : FnOK f) (hT : TOK T) : INV f.f4.length (fnS T x f nn).2 :=
  runS_inv T x f nn hX hF hT _ _ (goesS_inv f nn st0 (st0_inv _) 0 0 ⟨#[]⟩ (by omega) (by simp [ByteArray.size]) (by simp [ByteArray.size])).1
end Go.Proofs.YtedmncldelcbfaaDoor.E

namespace Go.Proofs.YtedmncldelcbfaaDoor.E
open Go Go.RowKit Go.Proofs.YtedmncldelcbfaaDoorW.PrintWords Go.Proofs.YtedmncldelcbfaaDoorW.PrintLast Go.Proofs.YtedmncldelcbfaaDoorW.PrintMore
set_option linter.unusedVariables false
set_option linter.unusedSimpArgs false
set_option maxRecDepth 100000
set_option maxHeartbeats 2000000

def depthS (T : Nat → ByteArray × ByteArray) (x : SImage) (n : Int) : Int × Int :=
  if (verifyS T x).1 = 0 ∧ 0 ≤ n ∧ n < x.fns.length then ((fnAt T x n.toNat).most, 0) else (0, 1)
theorem Depth_any (T : Nat → ByteArray × ByteArray) (x : SImage) (v : Value) (w : World) (hv : VImage w x v) (hs : imgSmall 1099511620000 x) (hG : Nib w) (hT : Pln T w) (hTK : TOK T) (n : Int) :
    Calls Tryd.prog 10 #[v, .int .i64 n] w fun e w' => e = .returned (.tuple #[.int .i64 (depthS T x n).1, .int .i64 (depthS T x n).2]) ∧ Below w.heap.size w w' := by
  obtain ⟨A0, c0, A1, c1, hve, l0, hG0, l1, hF0⟩ := hv
  subst hve
  have HGF := Lib.hid (show VImage w x (.agg #[.slice A0 x.globs.length c0, .slice A1 x.fns.length c1]) from ⟨A0, c0, A1, c1, rfl, l0, hG0, l1, hF0⟩)
  obtain ⟨r, hr⟩ : ∃ r, r = depthS T x n := ⟨_, rfl⟩
  rw [← hr]
  have HR := Lib.hid hr
  have HT := Lib.hid hT
  have hlf := hs.2.1
  obtain ⟨O, hO⟩ : ∃ O, O = Obj.cells #[Value.slice A0 x.globs.length c0, Value.slice A1 x.fns.length c1] 25 := ⟨_, rfl⟩
  have HB0 := Lib.hid (below_alloc (Below.refl w.heap.size w) O)
  obtain ⟨ec, hec⟩ : ∃ z, z = (verifyS T x).1 := ⟨_, rfl⟩
  obtain ⟨ea, hea⟩ : ∃ z, z = (verifyS T x).2 := ⟨_, rfl⟩
  have HV := Lib.hid (show Calls Tryd.prog 7 #[.agg #[.slice A0 x.globs.length c0, .slice A1 x.fns.length c1]] (w.alloc O) fun e w' => e = .returned (.agg #[.int .i64 ec, .int .i64 ea]) ∧ Below (w.alloc O).heap.size (w.alloc O) w' from by
    rw [hec, hea]; exact Verify_any T x _ _ (HGF.out.below HB0.out) hs (hG.below HB0.out) (hT.below HB0.out) hTK)
  rw [hO] at HV HB0
  have HEC := Lib.hid hec
  clear hr hT hG hG0 hF0 hs hec hea hO
  have hfield : ∀ (W : World) (a b : Int), (Instr.field 30 (.agg #[.int .i64 a, .int .i64 b]) 0).run Tryd.prog W = .ok (.int .i64 a) W := fun W a b => by kernel_rfl
  have hcase : (ec = 0 ∧ 0 ≤ n ∧ n < x.fns.length) ∨ ec ≠ 0 ∨ (ec = 0 ∧ n < 0) ∨ (ec = 0 ∧ 0 ≤ n ∧ x.fns.length ≤ n) := by omega
  rcases hcase with ⟨rfl, h0, h1⟩ | hne | ⟨rfl, h0⟩ | ⟨rfl, h0, h1⟩
  · obtain ⟨k, rfl⟩ : ∃ k : Nat, n = k := ⟨n.toNat, by omega⟩
    have hk : k < x.fns.length := by omega
    have HR2 := Lib.hid (show r = ((fnAt T x k).most, 0) from by rw [HR.out]; unfold depthS; rw [if_pos ⟨HEC.out.symm, h0, h1⟩, Int.toNat_natCast])
    have HX := Lib.hid (imgOK_of (right_ok (verify_right HEC.out.symm)))
    have hd0 : decide ((k : Int) < 0) = false := decide_eq_false (by omega)
    go_enter Tryd.func10, Tryd.ntmps10
    go_wp2_with fail
    refine HV.out.mono ?_
    rintro e w1 ⟨rfl, hb1⟩
    have HI1 := Lib.hid ((hb1.block w.heap.size (by simp)).trans (heap_alloc_new w _))
    have HBw := Lib.hid (below_next HB0.out hb1)
    have i0 : w1.cell? ⟨w.heap.size, 0, none⟩ = some (.slice A0 x.globs.length c0) := (blk_cell HI1.out 0).trans rfl
    have i1 : w1.cell? ⟨w.heap.size, 1, none⟩ = some (.slice A1 x.fns.length c1) := (blk_cell HI1.out 1).trans rfl
    clear hb1
    go_wp2_with fail
    refine (function_any T x _ w1 (HGF.out.below HBw.out) HX.out (HT.out.below HBw.out) hTK k hk).mono ?_
    rintro e w2 ⟨rfl, hb2⟩
    have HB2 := Lib.hid hb2
    obtain ⟨mo, hmo⟩ : ∃ z, z = (fnS T x (x.fns.getD k zFn) k).2.most := ⟨_, rfl⟩
    rw [← hmo]
    have HMO := Lib.hid (show r = (mo, 0) from by rw [hmo]; exact HR2.out)
    clear hb2 hmo
    go_wp2_with fail
    go_ret2
    exact ⟨by rw [HMO.out]; rfl, below_alloc (below_next HBw.out HB2.out) _⟩
  all_goals
    have HR2 := Lib.hid (show r = (0, 1) from by rw [HR.out]; unfold depthS; rw [if_neg]; rw [← HEC.out]; omega)
    go_enter Tryd.func10, Tryd.ntmps10
    go_wp2_with fail
    refine HV.out.mono ?_
    rintro e w1 ⟨rfl, hb1⟩
    have HI1 := Lib.hid ((hb1.block w.heap.size (by simp)).trans (heap_alloc_new w _))
    have HBw := Lib.hid (below_next HB0.out hb1)
    have i0 : w1.cell? ⟨w.heap.size, 0, none⟩ = some (.slice A0 x.globs.length c0) := (blk_cell HI1.out 0).trans rfl
    have i1 : w1.cell? ⟨w.heap.size, 1, none⟩ = some (.slice A1 x.fns.length c1) := (blk_cell HI1.out 1).trans rfl
    try have hne' : (ec != 0) = true := by simpa using hne
    clear hb1
    go_wp2_with fail
    go_ret2
    exact ⟨by rw [HR2.out]; rfl, HBw.out⟩
end Go.Proofs.YtedmncldelcbfaaDoor.E

namespace Go.Proofs.YtedmncldelcbfaaDoor.E
open Go Go.RowKit Go.Proofs.YtedmncldelcbfaaDoorW.PrintWords Go.Proofs.YtedmncldelcbfaaDoorW.PrintLast Go.Proofs.YtedmncldelcbfaaDoorW.PrintMore
set_option linter.unusedVariables false
set_option linter.unusedSimpArgs false
set_option maxRecDepth 100000
set_option maxHeartbeats 2000000

/-- (P16.3) a stack has no more values than instructions put there -/
theorem deep_law (T : Nat → ByteArray × ByteArray) (x : SImage) (hT : TOK T) (hv : (verifyS T x).1 = 0) (k : Nat) (hk : k < x.fns.length) :
    0 ≤ (fnAt T x k).most ∧ (fnAt T x k).most ≤ 400 ∧ (fnAt T x k).most ≤ (x.fns.getD k zFn).f4.length := by
  have hX := imgOK_of (right_ok (verify_right hv))
  have hF := hX.fn _ (getD_mem_fn _ k hk)
  have h := fnS_inv T x (x.fns.getD k zFn) k hX hF hT
  have h1 := h.mst
  have h2 := h.len_le
  unfold fnAt
  omega

end Go.Proofs.YtedmncldelcbfaaDoor.E

namespace Go.Proofs.YtedmncldelcbfaaDoor.E
open Go Go.RowKit Go.Proofs.YtedmncldelcbfaaDoorW.PrintWords Go.Proofs.YtedmncldelcbfaaDoorW.PrintLast Go.Proofs.YtedmncldelcbfaaDoorW.PrintMore
set_option linter.unusedVariables false
set_option linter.unusedSimpArgs false
set_option maxRecDepth 100000
set_option maxHeartbeats 2000000

def toldX (l : List SInstr) : SImage := ⟨[], [⟨⟨#[102]⟩, [], 0, [], l⟩]⟩
theorem told1 (T : Nat → ByteArray × ByteArray) : verifyS T (toldX [⟨32, 0, 0⟩]) = (0, 0) := by kernel_rfl
theorem told2 (T : Nat → ByteArray × ByteArray) : verifyS T (toldX []) = (161, 0) := by kernel_rfl
theorem told3 (T : Nat → ByteArray × ByteArray) : verifyS T (toldX [⟨1, 1, 1⟩, ⟨32, 0, 0⟩]) = (162, 1) := by kernel_rfl
theorem told4 (T : Nat → ByteArray × ByteArray) : verifyS T (toldX [⟨1, 1, 3⟩, ⟨29, 3, 0⟩, ⟨1, 1, 1⟩, ⟨32, 0, 0⟩]) = (162, 3) := by kernel_rfl
theorem told5 (T : Nat → ByteArray × ByteArray) : verifyS T (toldX [⟨31, 16, 0⟩]) = (163, 0) := by kernel_rfl
theorem told6 (T : Nat → ByteArray × ByteArray) : verifyS T (toldX [⟨28, 1, 0⟩]) = (161, 0) := by kernel_rfl

theorem C_fn1 {W : World} {g : Nat} {f : SFn} {A : Option Addr} {c : Nat} (hblk : W.heap[g]? = some (.cells #[.string f.f0, .slice none 0 0, .int .i64 f.f2, .slice none 0 0, .slice A f.f4.length c] 35 (0, 0))) (h1 : f.f1 = []) (h3 : f.f3 = []) (hc : f.f4.length ≤ c) (hC : kInstr.C W A f.f4.length f.f4) :
    kFn.C W (some ⟨g, 0, none⟩) ([f] : List SFn).length [f] := by
  refine ⟨rfl, by simp, fun _ => ⟨_, rfl, fun j p hj => ?_⟩⟩
  have hcell : ∀ i, W.cell? ⟨g, i, none⟩ = (#[Value.string f.f0, .slice none 0 0, .int .i64 f.f2, .slice none 0 0, .slice A f.f4.length c])[i]? := fun i => cell_of_row W g i _ _ (0, 0) hblk
  rcases j with _ | j
  · obtain rfl : f = p := by simpa using hj
    obtain ⟨f0, f1, f2, f3, f4⟩ := f
    simp only at h1 h3
    subst h1 h3
    refine ⟨[.string f0, .slice none 0 0, .int .i64 f2, .slice none 0 0, .slice A f4.length c], rfl, kFn_mk W ⟨f0, [], f2, [], f4⟩ (A1 := none) (c1 := 0) (A3 := none) (c3 := 0) (by simp) (Kd.C_nil _ _) (by simp) (Kd.C_nil _ _) hc hC, fun i u hu => ?_⟩
    rw [add_plain]
    simp only [Nat.zero_mul, Nat.zero_add]
    rw [hcell]
    simpa using hu
  · simp at hj

theorem told_any (T : Nat → ByteArray × ByteArray) (l : List SInstr) (A : Option Addr) (c : Nat) (w : World) (hC : kInstr.C w A l.length l) (hc : l.length ≤ c) (hl : l.length ≤ 100) (hG : Nib w) (hT : Pln T w) (hTK : TOK T) (r : Int × Int) (hr : verifyS T (toldX l) = r) :
    Calls Tryd.prog 11 #[.slice A l.length c] w fun e w' => e = .returned (.agg #[.int .i64 r.1, .int .i64 r.2]) ∧ Below w.heap.size w w' := by
  have HC := Lib.hid hC
  have HG := Lib.hid hG
  have HT := Lib.hid hT
  have HR := Lib.hid hr
  obtain ⟨r1, r2⟩ := r
  clear hC hG hT hr
  go_enter Tryd.func11, Tryd.ntmps11
  go_wp2_with fail
  obtain ⟨W1, hW1⟩ : ∃ W1, W1 = (w.alloc (Obj.cells #[.int .i64 0, .int .i64 0] 30)).alloc (Obj.cells #[.string ⟨#[102]⟩, .slice none 0 0, .int .i64 0, .slice none 0 0, .slice A l.length c] 35) := ⟨_, rfl⟩
  rw [← hW1]
  have hB : Below w.heap.size w W1 := by rw [hW1]; exact below_alloc (below_alloc (Below.refl _ _) _) _
  have hF : W1.heap[w.heap.size + 1]? = some (.cells #[.string ⟨#[102]⟩, .slice none 0 0, .int .i64 0, .slice none 0 0, .slice A l.length c] 35 (0, 0)) := by
    rw [hW1]
    have h := heap_alloc_new (w.alloc (Obj.cells #[.int .i64 0, .int .i64 0] 30)) (Obj.cells #[.string ⟨#[102]⟩, .slice none 0 0, .int .i64 0, .slice none 0 0, .slice A l.length c] 35)
    simpa using h
  have h0 : W1.heap[w.heap.size]? = some (.cells #[.int .i64 0, .int .i64 0] 30 (0, 0)) := by rw [hW1]; exact blk_alloc (heap_alloc_new w _) _
  have hV : VImage W1 (toldX l) (.agg #[.slice none 0 0, .slice (some ⟨w.heap.size + 1, 0, none⟩) 1 1]) :=
    ⟨none, 0, some ⟨w.heap.size + 1, 0, none⟩, 1, rfl, by simp [toldX], Kd.C_nil _ _, by simp [toldX], C_fn1 (f := ⟨⟨#[102]⟩, [], 0, [], l⟩) hF rfl rfl hc (Kd.C_below HC.out hB)⟩
  have hsm : imgSmall 1099511620000 (toldX l) := ⟨by simp [toldX], by simp [toldX], fun f hf => by
    have : f = ⟨⟨#[102]⟩, [], 0, [], l⟩ := by simpa [toldX] using hf
    subst this
    exact ⟨by simp [ByteArray.size], by simp, by simp, by show l.length ≤ _; omega⟩⟩
  have HV := Lib.hid (Verify_any T (toldX l) _ W1 hV hsm (HG.out.below hB) (HT.out.below hB) hTK)
  rw [HR.out] at HV
  have HB := Lib.hid hB
  have H0 := Lib.hid h0
  have hsz : w.heap.size < W1.heap.size := blk_lt h0
  clear hB hF h0 hV hsm hW1
  refine HV.out.mono ?_
  rintro e w2 ⟨rfl, hb2⟩
  have HF2 := Lib.hid ((hb2.block w.heap.size hsz).trans H0.out)
  have HB2 := Lib.hid (below_next HB.out hb2)
  have f0 : w2.cell? ⟨w.heap.size, 0, none⟩ = some (.int .i64 0) := (blk_cell HF2.out 0).trans rfl
  have f1 : w2.cell? ⟨w.heap.size, 1, none⟩ = some (.int .i64 0) := (blk_cell HF2.out 1).trans rfl
  have ff0 : w2.frozen? ⟨w.heap.size, 0, none⟩ = false := blk_frozen HF2.out 0
  have ff1 : w2.frozen? ⟨w.heap.size, 1, none⟩ = false := blk_frozen HF2.out 1
  clear hb2
  go_wp2_with fail
  (try simp only [Exit.inBlock, Exit.then])
  refine bodyPost_ret (results_c1 rfl _ _ w.heap.size 30 #[.int .i64 r1, .int .i64 r2] (0, 0) _ rfl (blk_put (blk_put HF2.out 0 (.int .i64 r1) rfl) 1 (.int .i64 r2) rfl) Tryd.underlying30 rfl (by kernel_rfl)) rfl ?_
  exact ⟨rfl, below_set (below_set HB2.out (by omega)) (by omega)⟩
end Go.Proofs.YtedmncldelcbfaaDoor.E

namespace Go.Proofs.YtedmncldelcbfaaDoor.E
open Go Go.RowKit Go.Proofs.YtedmncldelcbfaaDoorW.PrintWords Go.Proofs.YtedmncldelcbfaaDoorW.PrintLast Go.Proofs.YtedmncldelcbfaaDoorW.PrintMore
set_option linter.unusedVariables false
set_option linter.unusedSimpArgs false
set_option maxRecDepth 100000
set_option maxHeartbeats 2000000

def inst3 (i : SInstr) : List Value := [.int .i64 i.f0, .int .i64 i.f1, .int .i64 i.f2]
theorem flat3 : ∀ (l : List SInstr) (j i : Nat) (x : SInstr), l[j]? = some x → i < 3 → (l.flatMap inst3)[j * 3 + i]? = (inst3 x)[i]?
  | [], j, i, x, h, _ => by simp at h
  | y :: l, 0, i, x, h, hi => by
    obtain rfl : y = x := by simpa using h
    rw [List.flatMap_cons, Nat.zero_mul, Nat.zero_add, List.getElem?_append_left (by simpa [inst3] using hi)]
  | y :: l, j + 1, i, x, h, hi => by
    rw [List.flatMap_cons, List.getElem?_append_right (by simp [inst3]; omega)]
    have e : (j + 1) * 3 + i - (inst3 y).length = j * 3 + i := by simp [inst3]; omega
    rw [e]
    exact flat3 l j i x (by simpa using h) hi
theorem C_instrs {W : World} {g : Nat} (l : List SInstr) (hblk : W.heap[g]? = some (.cells (l.flatMap inst3).toArray 38 (0, 0))) (hl : l.length ≤ 1000000) :
    kInstr.C W (some ⟨g, 0, none⟩) l.length l := by
  refine ⟨rfl, by omega, fun _ => ⟨_, rfl, fun j p hj => ⟨inst3 p, rfl, kInstr_mk W p, fun i u hu => ?_⟩⟩⟩
  have hi : i < 3 := by
    have := (List.getElem?_eq_some_iff.1 hu).1
    simpa [inst3] using this
  have hcell : ∀ i, W.cell? ⟨g, i, none⟩ = ((l.flatMap inst3).toArray)[i]? := fun i => cell_of_row W g i _ _ (0, 0) hblk
  rw [add_plain, hcell]
  have e : (l.flatMap inst3).toArray[0 + (j * kInstr.sz + i)]? = (l.flatMap inst3)[j * 3 + i]? := by
    have hs : kInstr.sz = 3 := rfl
    rw [hs, Nat.zero_add]; simp
  first | (rw [e, flat3 l j i p hj hi]; exact hu) | (simp only [show kInstr.sz = 3 from rfl]; rw [show (l.flatMap inst3).toArray[j * 3 + i]? = (l.flatMap inst3)[j * 3 + i]? from by simp, flat3 l j i p hj hi]; exact hu)

theorem awake_any (T : Nat → ByteArray × ByteArray) (w : World) (hG : Nib w) (hT : Pln T w) (hTK : TOK T) :
    Calls Tryd.prog 6 #[] w fun e w' => e = .returned (.bool true) ∧ Below w.heap.size w w' := by
  have HG := Lib.hid hG
  have HT := Lib.hid hT
  have heq : ∀ (W : World), True := fun _ => trivial
  clear hG hT heq
  have q1 : ∀ W : World, (binOp .eql 30 (.agg #[.int .i64 0, .int .i64 0]) (.agg #[.int .i64 0, .int .i64 0])).run Tryd.prog W = .ok (.bool true) W := fun W => by kernel_rfl
  have q2 : ∀ W : World, (binOp .eql 30 (.agg #[.int .i64 161, .int .i64 0]) (.agg #[.int .i64 161, .int .i64 0])).run Tryd.prog W = .ok (.bool true) W := fun W => by kernel_rfl
  have q3 : ∀ W : World, (binOp .eql 30 (.agg #[.int .i64 162, .int .i64 1]) (.agg #[.int .i64 162, .int .i64 1])).run Tryd.prog W = .ok (.bool true) W := fun W => by kernel_rfl
  have q4 : ∀ W : World, (binOp .eql 30 (.agg #[.int .i64 162, .int .i64 3]) (.agg #[.int .i64 162, .int .i64 3])).run Tryd.prog W = .ok (.bool true) W := fun W => by kernel_rfl
  have q5 : ∀ W : World, (binOp .eql 30 (.agg #[.int .i64 163, .int .i64 0]) (.agg #[.int .i64 163, .int .i64 0])).run Tryd.prog W = .ok (.bool true) W := fun W => by kernel_rfl
  go_enter Tryd.func6, Tryd.ntmps6
  go_wp2_with fail
  obtain ⟨W1, hW1⟩ : ∃ W, W = (((w.alloc (Obj.cells #[.int .i64 1, .int .i64 1, .int .i64 1] 38)).alloc (Obj.cells #[.int .i64 32, .int .i64 0, .int .i64 0] 38)).alloc (Obj.cells #[.int .i64 32, .int .i64 0, .int .i64 0] 38)) := ⟨_, rfl⟩
  rw [← hW1]
  have HBW1 := Lib.hid (show Below w.heap.size w W1 from by rw [hW1]; exact below_alloc (below_alloc (below_alloc (Below.refl _ _) _) _) _)
  have J1_0 := Lib.hid (show W1.heap[w.heap.size]? = some (.cells #[.int .i64 1, .int .i64 1, .int .i64 1] 38 (0, 0)) from by rw [hW1]; exact blk_alloc (blk_alloc (heap_alloc_new w _) _) _)
  have J1_1 := Lib.hid (show W1.heap[(w.heap.size + 1)]? = some (.cells #[.int .i64 32, .int .i64 0, .int .i64 0] 38 (0, 0)) from by rw [hW1]; have h := heap_alloc_new (w.alloc (Obj.cells #[.int .i64 1, .int .i64 1, .int .i64 1] 38)) (Obj.cells #[.int .i64 32, .int .i64 0, .int .i64 0] 38); exact blk_alloc (by simpa using h) _)
  have S1 := Lib.hid (show W1.heap[(w.heap.size + 2)]? = some (.cells (([⟨32, 0, 0⟩] : List SInstr).flatMap inst3).toArray 38 (0, 0)) from by
    rw [hW1]; have h := heap_alloc_new ((w.alloc (Obj.cells #[.int .i64 1, .int .i64 1, .int .i64 1] 38)).alloc (Obj.cells #[.int .i64 32, .int .i64 0, .int .i64 0] 38)) (Obj.cells #[.int .i64 32, .int .i64 0, .int .i64 0] 38); simpa [inst3] using h)
  clear hW1
  refine (told_any T [⟨32, 0, 0⟩] (some ⟨(w.heap.size + 2), 0, none⟩) 1 W1 (C_instrs [⟨32, 0, 0⟩] S1.out (by simp)) (by simp) (by simp) (HG.out.below HBW1.out) (HT.out.below HBW1.out) hTK (0, 0) (told1 T)).mono ?_
  rintro e w1 ⟨rfl, hb1⟩
  have HB1 := Lib.hid (below_next HBW1.out hb1)
  have K1_0 := Lib.hid (show w1.heap[w.heap.size]? = some (.cells #[.int .i64 1, .int .i64 1, .int .i64 1] 38 (0, 0)) from (hb1.block _ (blk_lt J1_0.out)).trans J1_0.out)
  have lt1_0 := blk_lt K1_0.out
  have c1_0_0 : w1.cell? ⟨w.heap.size, 0, none⟩ = some (.int .i64 1) := (blk_cell K1_0.out 0).trans rfl
  have c1_0_1 : w1.cell? ⟨w.heap.size, 1, none⟩ = some (.int .i64 1) := (blk_cell K1_0.out 1).trans rfl
  have c1_0_2 : w1.cell? ⟨w.heap.size, 2, none⟩ = some (.int .i64 1) := (blk_cell K1_0.out 2).trans rfl
  have K1_1 := Lib.hid (show w1.heap[(w.heap.size + 1)]? = some (.cells #[.int .i64 32, .int .i64 0, .int .i64 0] 38 (0, 0)) from (hb1.block _ (blk_lt J1_1.out)).trans J1_1.out)
  have lt1_1 := blk_lt K1_1.out
  have c1_1_0 : w1.cell? ⟨w.heap.size + 1, 0, none⟩ = some (.int .i64 32) := (blk_cell K1_1.out 0).trans rfl
  have c1_1_1 : w1.cell? ⟨w.heap.size + 1, 1, none⟩ = some (.int .i64 0) := (blk_cell K1_1.out 1).trans rfl
  have c1_1_2 : w1.cell? ⟨w.heap.size + 1, 2, none⟩ = some (.int .i64 0) := (blk_cell K1_1.out 2).trans rfl
  clear hb1 
  (try simp only)
  go_wp2_with fail
  obtain ⟨W2, hW2⟩ : ∃ W, W = (w1.alloc (Obj.cells #[.int .i64 0, .int .i64 0] 30)) := ⟨_, rfl⟩
  rw [← hW2]
  have HBW2 := Lib.hid (show Below w.heap.size w W2 from by rw [hW2]; exact below_alloc (HB1.out) _)
  have J2_0 := Lib.hid (show W2.heap[w.heap.size]? = some (.cells #[.int .i64 1, .int .i64 1, .int .i64 1] 38 (0, 0)) from by rw [hW2]; exact blk_alloc (K1_0.out) _)
  have J2_1 := Lib.hid (show W2.heap[(w.heap.size + 1)]? = some (.cells #[.int .i64 32, .int .i64 0, .int .i64 0] 38 (0, 0)) from by rw [hW2]; exact blk_alloc (K1_1.out) _)
  have J2_2 := Lib.hid (show W2.heap[w1.heap.size]? = some (.cells #[.int .i64 0, .int .i64 0] 30 (0, 0)) from by rw [hW2]; exact heap_alloc_new w1 _)
  clear hW2
  refine (told_any T [] none 0 W2 (Kd.C_nil _ _) (by simp) (by simp) (HG.out.below HBW2.out) (HT.out.below HBW2.out) hTK (161, 0) (told2 T)).mono ?_
  rintro e w2 ⟨rfl, hb2⟩
  have HB2 := Lib.hid (below_next HBW2.out hb2)
  have K2_0 := Lib.hid (show w2.heap[w.heap.size]? = some (.cells #[.int .i64 1, .int .i64 1, .int .i64 1] 38 (0, 0)) from (hb2.block _ (blk_lt J2_0.out)).trans J2_0.out)
  have lt2_0 := blk_lt K2_0.out
  have c2_0_0 : w2.cell? ⟨w.heap.size, 0, none⟩ = some (.int .i64 1) := (blk_cell K2_0.out 0).trans rfl
  have c2_0_1 : w2.cell? ⟨w.heap.size, 1, none⟩ = some (.int .i64 1) := (blk_cell K2_0.out 1).trans rfl
  have c2_0_2 : w2.cell? ⟨w.heap.size, 2, none⟩ = some (.int .i64 1) := (blk_cell K2_0.out 2).trans rfl
  have K2_1 := Lib.hid (show w2.heap[(w.heap.size + 1)]? = some (.cells #[.int .i64 32, .int .i64 0, .int .i64 0] 38 (0, 0)) from (hb2.block _ (blk_lt J2_1.out)).trans J2_1.out)
  have lt2_1 := blk_lt K2_1.out
  have c2_1_0 : w2.cell? ⟨w.heap.size + 1, 0, none⟩ = some (.int .i64 32) := (blk_cell K2_1.out 0).trans rfl
  have c2_1_1 : w2.cell? ⟨w.heap.size + 1, 1, none⟩ = some (.int .i64 0) := (blk_cell K2_1.out 1).trans rfl
  have c2_1_2 : w2.cell? ⟨w.heap.size + 1, 2, none⟩ = some (.int .i64 0) := (blk_cell K2_1.out 2).trans rfl
  have K2_2 := Lib.hid (show w2.heap[w1.heap.size]? = some (.cells #[.int .i64 0, .int .i64 0] 30 (0, 0)) from (hb2.block _ (blk_lt J2_2.out)).trans J2_2.out)
  have lt2_2 := blk_lt K2_2.out
  clear hb2 lt1_0 c1_0_0 c1_0_1 c1_0_2 lt1_1 c1_1_0 c1_1_1 c1_1_2
  (try simp only)
  go_wp2_with fail
  obtain ⟨W3, hW3⟩ : ∃ W, W = ((w2.alloc (Obj.cells #[.int .i64 161, .int .i64 0] 30)).alloc (Obj.cells #[.int .i64 1, .int .i64 1, .int .i64 1, .int .i64 32, .int .i64 0, .int .i64 0] 38)) := ⟨_, rfl⟩
  rw [← hW3]
  have HBW3 := Lib.hid (show Below w.heap.size w W3 from by rw [hW3]; exact below_alloc (below_alloc (HB2.out) _) _)
  have J3_0 := Lib.hid (show W3.heap[w.heap.size]? = some (.cells #[.int .i64 1, .int .i64 1, .int .i64 1] 38 (0, 0)) from by rw [hW3]; exact blk_alloc (blk_alloc (K2_0.out) _) _)
  have J3_1 := Lib.hid (show W3.heap[(w.heap.size + 1)]? = some (.cells #[.int .i64 32, .int .i64 0, .int .i64 0] 38 (0, 0)) from by rw [hW3]; exact blk_alloc (blk_alloc (K2_1.out) _) _)
  have J3_2 := Lib.hid (show W3.heap[w1.heap.size]? = some (.cells #[.int .i64 0, .int .i64 0] 30 (0, 0)) from by rw [hW3]; exact blk_alloc (blk_alloc (K2_2.out) _) _)
  have J3_3 := Lib.hid (show W3.heap[w2.heap.size]? = some (.cells #[.int .i64 161, .int .i64 0] 30 (0, 0)) from by rw [hW3]; exact blk_alloc (heap_alloc_new w2 _) _)
  have S3 := Lib.hid (show W3.heap[(w2.heap.size + 1)]? = some (.cells (([⟨1, 1, 1⟩, ⟨32, 0, 0⟩] : List SInstr).flatMap inst3).toArray 38 (0, 0)) from by
    rw [hW3]; have h := heap_alloc_new (w2.alloc (Obj.cells #[.int .i64 161, .int .i64 0] 30)) (Obj.cells #[.int .i64 1, .int .i64 1, .int .i64 1, .int .i64 32, .int .i64 0, .int .i64 0] 38); simpa [inst3] using h)
  clear hW3
  refine (told_any T [⟨1, 1, 1⟩, ⟨32, 0, 0⟩] (some ⟨(w2.heap.size + 1), 0, none⟩) 2 W3 (C_instrs [⟨1, 1, 1⟩, ⟨32, 0, 0⟩] S3.out (by simp)) (by simp) (by simp) (HG.out.below HBW3.out) (HT.out.below HBW3.out) hTK (162, 1) (told3 T)).mono ?_
  rintro e w3 ⟨rfl, hb3⟩
  have HB3 := Lib.hid (below_next HBW3.out hb3)
  have K3_0 := Lib.hid (show w3.heap[w.heap.size]? = some (.cells #[.int .i64 1, .int .i64 1, .int .i64 1] 38 (0, 0)) from (hb3.block _ (blk_lt J3_0.out)).trans J3_0.out)
  have lt3_0 := blk_lt K3_0.out
  have c3_0_0 : w3.cell? ⟨w.heap.size, 0, none⟩ = some (.int .i64 1) := (blk_cell K3_0.out 0).trans rfl
  have c3_0_1 : w3.cell? ⟨w.heap.size, 1, none⟩ = some (.int .i64 1) := (blk_cell K3_0.out 1).trans rfl
  have c3_0_2 : w3.cell? ⟨w.heap.size, 2, none⟩ = some (.int .i64 1) := (blk_cell K3_0.out 2).trans rfl
  have K3_1 := Lib.hid (show w3.heap[(w.heap.size + 1)]? = some (.cells #[.int .i64 32, .int .i64 0, .int .i64 0] 38 (0, 0)) from (hb3.block _ (blk_lt J3_1.out)).trans J3_1.out)
  have lt3_1 := blk_lt K3_1.out
  have c3_1_0 : w3.cell? ⟨w.heap.size + 1, 0, none⟩ = some (.int .i64 32) := (blk_cell K3_1.out 0).trans rfl
  have c3_1_1 : w3.cell? ⟨w.heap.size + 1, 1, none⟩ = some (.int .i64 0) := (blk_cell K3_1.out 1).trans rfl
  have c3_1_2 : w3.cell? ⟨w.heap.size + 1, 2, none⟩ = some (.int .i64 0) := (blk_cell K3_1.out 2).trans rfl
  have K3_2 := Lib.hid (show w3.heap[w1.heap.size]? = some (.cells #[.int .i64 0, .int .i64 0] 30 (0, 0)) from (hb3.block _ (blk_lt J3_2.out)).trans J3_2.out)
  have lt3_2 := blk_lt K3_2.out
  have K3_3 := Lib.hid (show w3.heap[w2.heap.size]? = some (.cells #[.int .i64 161, .int .i64 0] 30 (0, 0)) from (hb3.block _ (blk_lt J3_3.out)).trans J3_3.out)
  have lt3_3 := blk_lt K3_3.out
  clear hb3 lt2_0 c2_0_0 c2_0_1 c2_0_2 lt2_1 c2_1_0 c2_1_1 c2_1_2 lt2_2
  (try simp only)
  go_wp2_with fail
  obtain ⟨W4, hW4⟩ : ∃ W, W = ((w3.alloc (Obj.cells #[.int .i64 162, .int .i64 1] 30)).alloc (Obj.cells #[.int .i64 1, .int .i64 1, .int .i64 3, .int .i64 29, .int .i64 3, .int .i64 0, .int .i64 1, .int .i64 1, .int .i64 1, .int .i64 32, .int .i64 0, .int .i64 0] 38)) := ⟨_, rfl⟩
  rw [← hW4]
  have HBW4 := Lib.hid (show Below w.heap.size w W4 from by rw [hW4]; exact below_alloc (below_alloc (HB3.out) _) _)
  have J4_0 := Lib.hid (show W4.heap[w.heap.size]? = some (.cells #[.int .i64 1, .int .i64 1, .int .i64 1] 38 (0, 0)) from by rw [hW4]; exact blk_alloc (blk_alloc (K3_0.out) _) _)
  have J4_1 := Lib.hid (show W4.heap[(w.heap.size + 1)]? = some (.cells #[.int .i64 32, .int .i64 0, .int .i64 0] 38 (0, 0)) from by rw [hW4]; exact blk_alloc (blk_alloc (K3_1.out) _) _)
  have J4_2 := Lib.hid (show W4.heap[w1.heap.size]? = some (.cells #[.int .i64 0, .int .i64 0] 30 (0, 0)) from by rw [hW4]; exact blk_alloc (blk_alloc (K3_2.out) _) _)
  have J4_3 := Lib.hid (show W4.heap[w2.heap.size]? = some (.cells #[.int .i64 161, .int .i64 0] 30 (0, 0)) from by rw [hW4]; exact blk_alloc (blk_alloc (K3_3.out) _) _)
  have J4_4 := Lib.hid (show W4.heap[w3.heap.size]? = some (.cells #[.int .i64 162, .int .i64 1] 30 (0, 0)) from by rw [hW4]; exact blk_alloc (heap_alloc_new w3 _) _)
  have S4 := Lib.hid (show W4.heap[(w3.heap.size + 1)]? = some (.cells (([⟨1, 1, 3⟩, ⟨29, 3, 0⟩, ⟨1, 1, 1⟩, ⟨32, 0, 0⟩] : List SInstr).flatMap inst3).toArray 38 (0, 0)) from by
    rw [hW4]; have h := heap_alloc_new (w3.alloc (Obj.cells #[.int .i64 162, .int .i64 1] 30)) (Obj.cells #[.int .i64 1, .int .i64 1, .int .i64 3, .int .i64 29, .int .i64 3, .int .i64 0, .int .i64 1, .int .i64 1, .int .i64 1, .int .i64 32, .int .i64 0, .int .i64 0] 38); simpa [inst3] using h)
  clear hW4
  refine (told_any T [⟨1, 1, 3⟩, ⟨29, 3, 0⟩, ⟨1, 1, 1⟩, ⟨32, 0, 0⟩] (some ⟨(w3.heap.size + 1), 0, none⟩) 4 W4 (C_instrs [⟨1, 1, 3⟩, ⟨29, 3, 0⟩, ⟨1, 1, 1⟩, ⟨32, 0, 0⟩] S4.out (by simp)) (by simp) (by simp) (HG.out.below HBW4.out) (HT.out.below HBW4.out) hTK (162, 3) (told4 T)).mono ?_
  rintro e w4 ⟨rfl, hb4⟩
  have HB4 := Lib.hid (below_next HBW4.out hb4)
  have K4_0 := Lib.hid (show w4.heap[w.heap.size]? = some (.cells #[.int .i64 1, .int .i64 1, .int .i64 1] 38 (0, 0)) from (hb4.block _ (blk_lt J4_0.out)).trans J4_0.out)
  have lt4_0 := blk_lt K4_0.out
  have K4_1 := Lib.hid (show w4.heap[(w.heap.size + 1)]? = some (.cells #[.int .i64 32, .int .i64 0, .int .i64 0] 38 (0, 0)) from (hb4.block _ (blk_lt J4_1.out)).trans J4_1.out)
  have lt4_1 := blk_lt K4_1.out
  have K4_2 := Lib.hid (show w4.heap[w1.heap.size]? = some (.cells #[.int .i64 0, .int .i64 0] 30 (0, 0)) from (hb4.block _ (blk_lt J4_2.out)).trans J4_2.out)
  have lt4_2 := blk_lt K4_2.out
  have K4_3 := Lib.hid (show w4.heap[w2.heap.size]? = some (.cells #[.int .i64 161, .int .i64 0] 30 (0, 0)) from (hb4.block _ (blk_lt J4_3.out)).trans J4_3.out)
  have lt4_3 := blk_lt K4_3.out
  have K4_4 := Lib.hid (show w4.heap[w3.heap.size]? = some (.cells #[.int .i64 162, .int .i64 1] 30 (0, 0)) from (hb4.block _ (blk_lt J4_4.out)).trans J4_4.out)
  have lt4_4 := blk_lt K4_4.out
  clear hb4 lt3_0 c3_0_0 c3_0_1 c3_0_2 lt3_1 c3_1_0 c3_1_1 c3_1_2 lt3_2 lt3_3
  (try simp only)
  go_wp2_with fail
  obtain ⟨W5, hW5⟩ : ∃ W, W = ((w4.alloc (Obj.cells #[.int .i64 162, .int .i64 3] 30)).alloc (Obj.cells #[.int .i64 31, .int .i64 16, .int .i64 0] 38)) := ⟨_, rfl⟩
  rw [← hW5]
  have HBW5 := Lib.hid (show Below w.heap.size w W5 from by rw [hW5]; exact below_alloc (below_alloc (HB4.out) _) _)
  have J5_0 := Lib.hid (show W5.heap[w.heap.size]? = some (.cells #[.int .i64 1, .int .i64 1, .int .i64 1] 38 (0, 0)) from by rw [hW5]; exact blk_alloc (blk_alloc (K4_0.out) _) _)
  have J5_1 := Lib.hid (show W5.heap[(w.heap.size + 1)]? = some (.cells #[.int .i64 32, .int .i64 0, .int .i64 0] 38 (0, 0)) from by rw [hW5]; exact blk_alloc (blk_alloc (K4_1.out) _) _)
  have J5_2 := Lib.hid (show W5.heap[w1.heap.size]? = some (.cells #[.int .i64 0, .int .i64 0] 30 (0, 0)) from by rw [hW5]; exact blk_alloc (blk_alloc (K4_2.out) _) _)
  have J5_3 := Lib.hid (show W5.heap[w2.heap.size]? = some (.cells #[.int .i64 161, .int .i64 0] 30 (0, 0)) from by rw [hW5]; exact blk_alloc (blk_alloc (K4_3.out) _) _)
  have J5_4 := Lib.hid (show W5.heap[w3.heap.size]? = some (.cells #[.int .i64 162, .int .i64 1] 30 (0, 0)) from by rw [hW5]; exact blk_alloc (blk_alloc (K4_4.out) _) _)
  have J5_5 := Lib.hid (show W5.heap[w4.heap.size]? = some (.cells #[.int .i64 162, .int .i64 3] 30 (0, 0)) from by rw [hW5]; exact blk_alloc (heap_alloc_new w4 _) _)
  have S5 := Lib.hid (show W5.heap[(w4.heap.size + 1)]? = some (.cells (([⟨31, 16, 0⟩] : List SInstr).flatMap inst3).toArray 38 (0, 0)) from by
    rw [hW5]; have h := heap_alloc_new (w4.alloc (Obj.cells #[.int .i64 162, .int .i64 3] 30)) (Obj.cells #[.int .i64 31, .int .i64 16, .int .i64 0] 38); simpa [inst3] using h)
  clear hW5
  refine (told_any T [⟨31, 16, 0⟩] (some ⟨(w4.heap.size + 1), 0, none⟩) 1 W5 (C_instrs [⟨31, 16, 0⟩] S5.out (by simp)) (by simp) (by simp) (HG.out.below HBW5.out) (HT.out.below HBW5.out) hTK (163, 0) (told5 T)).mono ?_
  rintro e w5 ⟨rfl, hb5⟩
  have HB5 := Lib.hid (below_next HBW5.out hb5)
  have K5_0 := Lib.hid (show w5.heap[w.heap.size]? = some (.cells #[.int .i64 1, .int .i64 1, .int .i64 1] 38 (0, 0)) from (hb5.block _ (blk_lt J5_0.out)).trans J5_0.out)
  have lt5_0 := blk_lt K5_0.out
  have K5_1 := Lib.hid (show w5.heap[(w.heap.size + 1)]? = some (.cells #[.int .i64 32, .int .i64 0, .int .i64 0] 38 (0, 0)) from (hb5.block _ (blk_lt J5_1.out)).trans J5_1.out)
  have lt5_1 := blk_lt K5_1.out
  have K5_2 := Lib.hid (show w5.heap[w1.heap.size]? = some (.cells #[.int .i64 0, .int .i64 0] 30 (0, 0)) from (hb5.block _ (blk_lt J5_2.out)).trans J5_2.out)
  have lt5_2 := blk_lt K5_2.out
  have K5_3 := Lib.hid (show w5.heap[w2.heap.size]? = some (.cells #[.int .i64 161, .int .i64 0] 30 (0, 0)) from (hb5.block _ (blk_lt J5_3.out)).trans J5_3.out)
  have lt5_3 := blk_lt K5_3.out
  have K5_4 := Lib.hid (show w5.heap[w3.heap.size]? = some (.cells #[.int .i64 162, .int .i64 1] 30 (0, 0)) from (hb5.block _ (blk_lt J5_4.out)).trans J5_4.out)
  have lt5_4 := blk_lt K5_4.out
  have K5_5 := Lib.hid (show w5.heap[w4.heap.size]? = some (.cells #[.int .i64 162, .int .i64 3] 30 (0, 0)) from (hb5.block _ (blk_lt J5_5.out)).trans J5_5.out)
  have lt5_5 := blk_lt K5_5.out
  clear hb5 lt4_0 lt4_1 lt4_2 lt4_3 lt4_4
  (try simp only)
  go_wp2_with fail
  obtain ⟨W6, hW6⟩ : ∃ W, W = ((w5.alloc (Obj.cells #[.int .i64 163, .int .i64 0] 30)).alloc (Obj.cells #[.int .i64 28, .int .i64 1, .int .i64 0] 38)) := ⟨_, rfl⟩
  rw [← hW6]
  have HBW6 := Lib.hid (show Below w.heap.size w W6 from by rw [hW6]; exact below_alloc (below_alloc (HB5.out) _) _)
  have J6_0 := Lib.hid (show W6.heap[w.heap.size]? = some (.cells #[.int .i64 1, .int .i64 1, .int .i64 1] 38 (0, 0)) from by rw [hW6]; exact blk_alloc (blk_alloc (K5_0.out) _) _)
  have J6_1 := Lib.hid (show W6.heap[(w.heap.size + 1)]? = some (.cells #[.int .i64 32, .int .i64 0, .int .i64 0] 38 (0, 0)) from by rw [hW6]; exact blk_alloc (blk_alloc (K5_1.out) _) _)
  have J6_2 := Lib.hid (show W6.heap[w1.heap.size]? = some (.cells #[.int .i64 0, .int .i64 0] 30 (0, 0)) from by rw [hW6]; exact blk_alloc (blk_alloc (K5_2.out) _) _)
  have J6_3 := Lib.hid (show W6.heap[w2.heap.size]? = some (.cells #[.int .i64 161, .int .i64 0] 30 (0, 0)) from by rw [hW6]; exact blk_alloc (blk_alloc (K5_3.out) _) _)
  have J6_4 := Lib.hid (show W6.heap[w3.heap.size]? = some (.cells #[.int .i64 162, .int .i64 1] 30 (0, 0)) from by rw [hW6]; exact blk_alloc (blk_alloc (K5_4.out) _) _)
  have J6_5 := Lib.hid (show W6.heap[w4.heap.size]? = some (.cells #[.int .i64 162, .int .i64 3] 30 (0, 0)) from by rw [hW6]; exact blk_alloc (blk_alloc (K5_5.out) _) _)
  have J6_6 := Lib.hid (show W6.heap[w5.heap.size]? = some (.cells #[.int .i64 163, .int .i64 0] 30 (0, 0)) from by rw [hW6]; exact blk_alloc (heap_alloc_new w5 _) _)
  have S6 := Lib.hid (show W6.heap[(w5.heap.size + 1)]? = some (.cells (([⟨28, 1, 0⟩] : List SInstr).flatMap inst3).toArray 38 (0, 0)) from by
    rw [hW6]; have h := heap_alloc_new (w5.alloc (Obj.cells #[.int .i64 163, .int .i64 0] 30)) (Obj.cells #[.int .i64 28, .int .i64 1, .int .i64 0] 38); simpa [inst3] using h)
  clear hW6
  refine (told_any T [⟨28, 1, 0⟩] (some ⟨(w5.heap.size + 1), 0, none⟩) 1 W6 (C_instrs [⟨28, 1, 0⟩] S6.out (by simp)) (by simp) (by simp) (HG.out.below HBW6.out) (HT.out.below HBW6.out) hTK (161, 0) (told6 T)).mono ?_
  rintro e w6 ⟨rfl, hb6⟩
  have HB6 := Lib.hid (below_next HBW6.out hb6)
  have K6_0 := Lib.hid (show w6.heap[w.heap.size]? = some (.cells #[.int .i64 1, .int .i64 1, .int .i64 1] 38 (0, 0)) from (hb6.block _ (blk_lt J6_0.out)).trans J6_0.out)
  have lt6_0 := blk_lt K6_0.out
  have c6_0_0 : w6.cell? ⟨w.heap.size, 0, none⟩ = some (.int .i64 1) := (blk_cell K6_0.out 0).trans rfl
  have c6_0_1 : w6.cell? ⟨w.heap.size, 1, none⟩ = some (.int .i64 1) := (blk_cell K6_0.out 1).trans rfl
  have c6_0_2 : w6.cell? ⟨w.heap.size, 2, none⟩ = some (.int .i64 1) := (blk_cell K6_0.out 2).trans rfl
  have K6_1 := Lib.hid (show w6.heap[(w.heap.size + 1)]? = some (.cells #[.int .i64 32, .int .i64 0, .int .i64 0] 38 (0, 0)) from (hb6.block _ (blk_lt J6_1.out)).trans J6_1.out)
  have lt6_1 := blk_lt K6_1.out
  have c6_1_0 : w6.cell? ⟨w.heap.size + 1, 0, none⟩ = some (.int .i64 32) := (blk_cell K6_1.out 0).trans rfl
  have c6_1_1 : w6.cell? ⟨w.heap.size + 1, 1, none⟩ = some (.int .i64 0) := (blk_cell K6_1.out 1).trans rfl
  have c6_1_2 : w6.cell? ⟨w.heap.size + 1, 2, none⟩ = some (.int .i64 0) := (blk_cell K6_1.out 2).trans rfl
  have K6_2 := Lib.hid (show w6.heap[w1.heap.size]? = some (.cells #[.int .i64 0, .int .i64 0] 30 (0, 0)) from (hb6.block _ (blk_lt J6_2.out)).trans J6_2.out)
  have lt6_2 := blk_lt K6_2.out
  have c6_2_0 : w6.cell? ⟨w1.heap.size, 0, none⟩ = some (.int .i64 0) := (blk_cell K6_2.out 0).trans rfl
  have c6_2_1 : w6.cell? ⟨w1.heap.size, 1, none⟩ = some (.int .i64 0) := (blk_cell K6_2.out 1).trans rfl
  have K6_3 := Lib.hid (show w6.heap[w2.heap.size]? = some (.cells #[.int .i64 161, .int .i64 0] 30 (0, 0)) from (hb6.block _ (blk_lt J6_3.out)).trans J6_3.out)
  have lt6_3 := blk_lt K6_3.out
  have c6_3_0 : w6.cell? ⟨w2.heap.size, 0, none⟩ = some (.int .i64 161) := (blk_cell K6_3.out 0).trans rfl
  have c6_3_1 : w6.cell? ⟨w2.heap.size, 1, none⟩ = some (.int .i64 0) := (blk_cell K6_3.out 1).trans rfl
  have K6_4 := Lib.hid (show w6.heap[w3.heap.size]? = some (.cells #[.int .i64 162, .int .i64 1] 30 (0, 0)) from (hb6.block _ (blk_lt J6_4.out)).trans J6_4.out)
  have lt6_4 := blk_lt K6_4.out
  have c6_4_0 : w6.cell? ⟨w3.heap.size, 0, none⟩ = some (.int .i64 162) := (blk_cell K6_4.out 0).trans rfl
  have c6_4_1 : w6.cell? ⟨w3.heap.size, 1, none⟩ = some (.int .i64 1) := (blk_cell K6_4.out 1).trans rfl
  have K6_5 := Lib.hid (show w6.heap[w4.heap.size]? = some (.cells #[.int .i64 162, .int .i64 3] 30 (0, 0)) from (hb6.block _ (blk_lt J6_5.out)).trans J6_5.out)
  have lt6_5 := blk_lt K6_5.out
  have c6_5_0 : w6.cell? ⟨w4.heap.size, 0, none⟩ = some (.int .i64 162) := (blk_cell K6_5.out 0).trans rfl
  have c6_5_1 : w6.cell? ⟨w4.heap.size, 1, none⟩ = some (.int .i64 3) := (blk_cell K6_5.out 1).trans rfl
  have K6_6 := Lib.hid (show w6.heap[w5.heap.size]? = some (.cells #[.int .i64 163, .int .i64 0] 30 (0, 0)) from (hb6.block _ (blk_lt J6_6.out)).trans J6_6.out)
  have lt6_6 := blk_lt K6_6.out
  have c6_6_0 : w6.cell? ⟨w5.heap.size, 0, none⟩ = some (.int .i64 163) := (blk_cell K6_6.out 0).trans rfl
  have c6_6_1 : w6.cell? ⟨w5.heap.size, 1, none⟩ = some (.int .i64 0) := (blk_cell K6_6.out 1).trans rfl
  clear hb6 lt5_0 lt5_1 lt5_2 lt5_3 lt5_4 lt5_5
  (try simp only)
  go_wp2_with fail
  go_ret
  exact ⟨rfl, below_alloc HB6.out _⟩
end Go.Proofs.YtedmncldelcbfaaDoor.E

namespace Go.Proofs.YtedmncldelcbfaaDoor.E
open Go Go.RowKit
set_option linter.unusedVariables false
set_option linter.unusedSimpArgs false
set_option maxRecDepth 100000
set_option maxHeartbeats 2000000

/-! One function's run is another's, as long as nothing is wrong. -/
theorem goesS_sim (f f' : SFn) (nn : Int) (st : VSt) (fr dst : Int) (s : ByteArray) (hl : f.f4.length ≤ f'.f4.length) (hd : dst ≤ f.f4.length) (h : (goesS f nn st fr dst s).1 = true) :
    goesS f' nn st fr dst s = goesS f nn st fr dst s := by
  by_cases e : dst = f.f4.length
  · unfold goesS at h; rw [if_pos e] at h; cases h
  · unfold goesS; rw [if_neg e, if_neg (by omega)]
theorem onS_sim (f f' : SFn) (nn : Int) (st : VSt) (k : Nat) (i : SInstr) (s : ByteArray) (hl : f.f4.length ≤ f'.f4.length) (hk : k < f.f4.length) (hj : i.f0 = 28 ∨ i.f0 = 29 → i.f1 ≤ f.f4.length) (h : (onS f nn st k i s).1 = true) :
    onS f' nn st k i s = onS f nn st k i s := by
  by_cases h28 : i.f0 = 28
  · rw [onS_28 _ _ _ _ _ _ h28] at h
    rw [onS_28 _ _ _ _ _ _ h28, onS_28 _ _ _ _ _ _ h28]
    exact goesS_sim f f' nn st k i.f1 s hl (hj (.inl h28)) h
  · by_cases h29 : i.f0 = 29
    · rw [onS_29 _ _ _ _ _ _ h29] at h
      rw [onS_29 _ _ _ _ _ _ h29, onS_29 _ _ _ _ _ _ h29]
      by_cases hg : (goesS f nn st k i.f1 s).1 = true
      · rw [if_pos hg] at h
        rw [goesS_sim f f' nn st k i.f1 s hl (hj (.inr h29)) hg, if_pos hg, if_pos hg]
        exact goesS_sim f f' nn _ k _ s hl (by omega) h
      · rw [if_neg hg] at h; cases h
    · by_cases h32 : i.f0 = 32
      · rw [onS_32 _ _ _ _ _ _ h32, onS_32 _ _ _ _ _ _ h32]
      · rw [onS_00 _ _ _ _ _ _ ⟨h28, h29, h32⟩] at h
        rw [onS_00 _ _ _ _ _ _ ⟨h28, h29, h32⟩, onS_00 _ _ _ _ _ _ ⟨h28, h29, h32⟩]
        exact goesS_sim f f' nn st k _ s hl (by omega) h
theorem zi_more (l m : List SInstr) (k : Nat) (hk : k < l.length) : zi (l ++ m) k = zi l k := by
  unfold zi; rw [List.getD_eq_getElem?_getD, List.getD_eq_getElem?_getD, List.getElem?_append_left hk]
/-- what is asked of the two texts: the same instructions mean the same -/
def Alike (T : Nat → ByteArray × ByteArray) (x y : SImage) (f f' : SFn) : Prop :=
  f.f4.length ≤ f'.f4.length ∧ ∀ k, k < f.f4.length → zi f'.f4 k = zi f.f4 k ∧ ((meansS T x f (zi f.f4 k)).2.2 = true → meansS T y f' (zi f.f4 k) = meansS T x f (zi f.f4 k))
theorem lookS_ok {T : Nat → ByteArray × ByteArray} {x : SImage} {f : SFn} {nn : Int} {st : VSt} {k : Nat} (h : (lookS T x f nn st k).1 = true) : (meansS T x f (zi f.f4 k)).2.2 = true := by
  cases hc : (meansS T x f (zi f.f4 k)).2.2
  · unfold lookS at h; simp [hc] at h
  · rfl
theorem lookS_sim (T : Nat → ByteArray × ByteArray) (x y : SImage) (f f' : SFn) (nn : Int) (st : VSt) (k : Nat) (hA : Alike T x y f f') (hk : k < f.f4.length) (h : (lookS T x f nn st k).1 = true) :
    lookS T y f' nn st k = lookS T x f nn st k := by
  obtain ⟨hl, hA⟩ := hA
  obtain ⟨hz, hm⟩ := hA k hk
  have hok := lookS_ok h
  have hm := hm hok
  have hj := meansS_jump T x f (zi f.f4 k)
  unfold lookS at h ⊢
  simp only at h ⊢
  rw [hz, hm]
  generalize meansS T x f (zi f.f4 k) = m at h hok hm hj
  generalize zi f.f4 k = i at h hj
  rw [if_pos hok] at h
  rw [if_pos hok, if_pos hok]
  cases he : endsB (stackAt st k) m.1
  · rw [he] at h; simp at h
  · rw [he] at h
    rw [if_pos rfl] at h
    rw [if_pos rfl, if_pos rfl]
    by_cases hc : 400 < (cutS (stackAt st k) m.1 m.2.1).size ∨ (i.f0 = 32 ∧ ((cutS (stackAt st k) m.1 m.2.1).toList == []) = false)
    · rw [if_pos hc] at h; cases h
    · rw [if_neg hc] at h
      rw [if_neg hc, if_neg hc]
      exact onS_sim f f' nn _ k i _ hl hk (fun c => by have := hj c hok; omega) h
theorem goesS_fc {f : SFn} {nn : Int} {st : VSt} {fr dst : Int} {s : ByteArray} : ((goesS f nn st fr dst s).1 = true → (goesS f nn st fr dst s).2.fc = st.fc) ∧ ((goesS f nn st fr dst s).1 = false → (goesS f nn st fr dst s).2.fc ≠ 0) := by
  unfold goesS
  split
  · simp
  · split
    · split <;> simp
    · simp
theorem onS_fc {f : SFn} {nn : Int} {st : VSt} {k : Nat} {i : SInstr} {s : ByteArray} : ((onS f nn st k i s).1 = true → (onS f nn st k i s).2.fc = st.fc) ∧ ((onS f nn st k i s).1 = false → (onS f nn st k i s).2.fc ≠ 0) := by
  by_cases h28 : i.f0 = 28
  · rw [onS_28 _ _ _ _ _ _ h28]; exact goesS_fc
  · by_cases h29 : i.f0 = 29
    · rw [onS_29 _ _ _ _ _ _ h29]
      have h1 := @goesS_fc f nn st k i.f1 s
      have h2 := @goesS_fc f nn (goesS f nn st k i.f1 s).2 k (k + 1) s
      split
      · rename_i hg
        exact ⟨fun h => (h2.1 h).trans (h1.1 hg), h2.2⟩
      · rename_i hg
        exact ⟨fun h => (by cases h), fun _ => h1.2 (Bool.eq_false_iff.2 hg)⟩
    · by_cases h32 : i.f0 = 32
      · rw [onS_32 _ _ _ _ _ _ h32]; simp
      · rw [onS_00 _ _ _ _ _ _ ⟨h28, h29, h32⟩]; exact goesS_fc
theorem lookS_fc {T : Nat → ByteArray × ByteArray} {x : SImage} {f : SFn} {nn : Int} {st : VSt} {k : Nat} : ((lookS T x f nn st k).1 = true → (lookS T x f nn st k).2.fc = st.fc) ∧ ((lookS T x f nn st k).1 = false → (lookS T x f nn st k).2.fc ≠ 0) := by
  unfold lookS
  simp only
  split
  · split
    · split
      · simp
      · exact onS_fc
    · simp
  · refine ⟨fun h => (by cases h), fun _ => ?_⟩
    simp only
    split <;> omega
theorem runS_false (T : Nat → ByteArray × ByteArray) (x : SImage) (f : SFn) (nn : Int) (n : Nat) (st : VSt) : runS T x f nn n (false, st) = (false, st) := runS_stop T x f nn _ rfl n
theorem runS_fc (T : Nat → ByteArray × ByteArray) (x : SImage) (f : SFn) (nn : Int) : ∀ (n : Nat) (r : Bool × VSt), (r.1 = false → r.2.fc ≠ 0) → (runS T x f nn n r).1 = false → (runS T x f nn n r).2.fc ≠ 0
  | 0, r, h => h
  | n + 1, r, h => by
    intro h1
    unfold runS at h1 ⊢
    by_cases hg : goOn r = true
    · rw [if_pos hg] at h1 ⊢
      exact runS_fc T x f nn n _ (lookS_fc).2 h1
    · rw [if_neg hg] at h1 ⊢
      exact h h1
theorem runS_sim (T : Nat → ByteArray × ByteArray) (x y : SImage) (f f' : SFn) (nn : Int) (hA : Alike T x y f f') (hX : ImgOK x) (hF : FnOK f) (hT : TOK T) : ∀ (n : Nat) (r : Bool × VSt), INV f.f4.length r.2 → (runS T x f nn n r).1 = true → runS T y f' nn n r = runS T x f nn n r
  | 0, r, hi, h => rfl
  | n + 1, r, hi, h => by
    unfold runS at h ⊢
    by_cases hg : goOn r = true
    · rw [if_pos hg] at h
      rw [if_pos hg, if_pos hg]
      have h0 : 0 < r.2.waits.length := by unfold goOn at hg; rw [Bool.and_eq_true] at hg; exact of_decide_eq_true hg.2
      obtain ⟨i1, i2, i3, i4⟩ := stepS_inv T x f nn r.2 hi hX hF hT h0
      have hs : (stepS T x f nn r.2).1 = true := by
        cases hc : (stepS T x f nn r.2).1
        · rw [show stepS T x f nn r.2 = (false, (stepS T x f nn r.2).2) from by rw [← hc], runS_false] at h; cases h
        · rfl
      have e : stepS T y f' nn r.2 = stepS T x f nn r.2 := lookS_sim T x y f f' nn (popS r.2) (topS r.2).toNat hA (by omega) hs
      rw [e]
      exact runS_sim T x y f f' nn hA hX hF hT n _ i1 h
    · rw [if_neg hg, if_neg hg]
theorem runS_ends (T : Nat → ByteArray × ByteArray) (x : SImage) (f : SFn) (nn : Int) (hX : ImgOK x) (hF : FnOK f) (hT : TOK T) : ∀ (n : Nat) (r : Bool × VSt), INV f.f4.length r.2 → mu f.f4.length r.2 ≤ n → goOn (runS T x f nn n r) = false
  | 0, r, hi, h => by
    have : r.2.waits.length = 0 := by unfold mu at h; omega
    show goOn r = false
    unfold goOn; rw [this]; simp
  | n + 1, r, hi, h => by
    unfold runS
    by_cases hg : goOn r = true
    · rw [if_pos hg]
      have h0 : 0 < r.2.waits.length := by unfold goOn at hg; rw [Bool.and_eq_true] at hg; exact of_decide_eq_true hg.2
      obtain ⟨i1, i2, i3, i4⟩ := stepS_inv T x f nn r.2 hi hX hF hT h0
      exact runS_ends T x f nn hX hF hT n _ i1 (by omega)
    · rw [if_neg hg]; exact Bool.eq_false_iff.2 hg
theorem beginS_inv (f : SFn) (nn : Int) : INV f.f4.length (beginS f nn).2 ∧ mu f.f4.length (beginS f nn).2 ≤ 2 * f.f4.length := by
  have h := goesS_inv f nn st0 (st0_inv _) 0 0 ⟨#[]⟩ (by omega) (by simp [ByteArray.size]) (by simp [ByteArray.size])
  refine ⟨h.1, Nat.le_trans h.2.1 ?_⟩
  simp [mu, st0]
theorem fnS_ok {T : Nat → ByteArray × ByteArray} {x : SImage} {f : SFn} {nn : Int} (h : (fnS T x f nn).2.fc = 0) : (fnS T x f nn).1 = true := by
  cases hc : (fnS T x f nn).1
  · exact absurd h (runS_fc T x f nn _ _ (goesS_fc).2 hc)
  · rfl
theorem fnS_sim (T : Nat → ByteArray × ByteArray) (x y : SImage) (f f' : SFn) (nn : Int) (hA : Alike T x y f f') (hX : ImgOK x) (hF : FnOK f) (hT : TOK T) (h : (fnS T x f nn).2.fc = 0) : fnS T y f' nn = fnS T x f nn := by
  have hok := fnS_ok h
  obtain ⟨hi, hmu⟩ := beginS_inv f nn
  have hb : (beginS f nn).1 = true := by
    cases hc : (beginS f nn).1
    · unfold fnS at hok
      rw [show beginS f nn = (false, (beginS f nn).2) from by rw [← hc], runS_false] at hok; cases hok
    · rfl
  have e : beginS f' nn = beginS f nn := goesS_sim f f' nn st0 0 0 ⟨#[]⟩ hA.1 (by omega) hb
  unfold fnS
  rw [e]
  have h1 := runS_sim T x y f f' nn hA hX hF hT (2 * f.f4.length + 1) (beginS f nn) hi hok
  have h2 := runS_ends T x f nn hX hF hT (2 * f.f4.length + 1) (beginS f nn) hi (by omega)
  rw [runS_more T y f' nn (2 * f.f4.length + 1) (beginS f nn) (by rw [h1]; exact h2) _ (by have := hA.1; omega), h1]
/-- verify says nothing -/
theorem verifyS_zero {T : Nat → ByteArray × ByteArray} {x : SImage} : (verifyS T x).1 = 0 ↔ rightE x = 0 ∧ (∀ k, k < x.fns.length → headBad x.fns k = false) ∧ ∀ k, k < x.fns.length → (fnAt T x k).fc = 0 := by
  unfold verifyS
  by_cases hr : rightE x = 0
  · rw [if_pos hr]
    cases h1 : firstFrom (headBad x.fns) 0 x.fns.length with
    | some k =>
      simp only
      constructor
      · intro h; omega
      · rintro ⟨_, h, _⟩
        have := (firstFrom_none (i := 0) (p := headBad x.fns)).2 (fun j _ hj => h j hj)
        rw [h1] at this; cases this
    | none =>
      have hh := firstFrom_none.1 h1
      simp only
      cases h2 : firstFrom (fun k => (fnAt T x k).fc != 0) 0 x.fns.length with
      | some k =>
        simp only
        constructor
        · intro h
          exfalso
          have : ∀ (i n k : Nat), firstFrom (fun k => (fnAt T x k).fc != 0) i n = some k → ((fnAt T x k).fc != 0) = true := by
            intro i n
            fun_induction firstFrom (fun k => (fnAt T x k).fc != 0) i n with
            | case1 i hlt hp => intro k hk; injection hk with hk; rw [← hk]; exact hp
            | case2 i hlt hp ih => exact ih
            | case3 i hlt => intro k hk; cases hk
          have := this _ _ _ h2
          rw [h] at this; simp at this
        · rintro ⟨_, _, h⟩
          have := (firstFrom_none (i := 0) (n := x.fns.length) (p := fun k => (fnAt T x k).fc != 0)).2 (fun j _ hj => by rw [h j hj]; rfl)
          rw [h2] at this; cases this
      | none =>
        have h3 := firstFrom_none.1 h2
        simp only
        refine ⟨fun _ => ⟨hr, fun k hk => hh k (by omega) hk, fun k hk => by simpa using h3 k (by omega) hk⟩, fun _ => trivial⟩
  · rw [if_neg hr]
    simp only
    exact ⟨fun h => absurd h hr, fun h => absurd h.1 hr⟩
theorem verifyS_at {T : Nat → ByteArray × ByteArray} {x : SImage} (h : (verifyS T x).1 = 0) : verifyS T x = (0, 0) := by
  have hz := verifyS_zero.1 h
  unfold verifyS
  rw [if_pos hz.1, (firstFrom_none (i := 0) (n := x.fns.length) (p := headBad x.fns)).2 (fun j _ hj => hz.2.1 j hj)]
  simp only
  rw [(firstFrom_none (i := 0) (n := x.fns.length) (p := fun k => (fnAt T x k).fc != 0)).2 (fun j _ hj => by rw [hz.2.2 j hj]; rfl)]
end Go.Proofs.YtedmncldelcbfaaDoor.E

namespace Go.Proofs.YtedmncldelcbfaaDoor.E
open Go Go.RowKit
set_option linter.unusedVariables false
set_option linter.unusedSimpArgs false
set_option maxRecDepth 100000
set_option maxHeartbeats 2000000

theorem globS_eq {x y : SImage} (h : y.globs = x.globs) (n : Int) (b : Bool) : globS y n b = globS x n b := by unfold globS; rw [h]
theorem meansS_sim (T : Nat → ByteArray × ByteArray) (x y : SImage) (f f' : SFn) (i : SInstr) (hg : y.globs = x.globs) (h2 : f'.f2 = f.f2) (h3 : f'.f3 = f.f3) (h4 : f.f4.length ≤ f'.f4.length)
    (hc : i.f0 = 30 → 0 ≤ i.f1 ∧ i.f1 < x.fns.length → i.f1 < y.fns.length ∧ (zf y.fns i.f1).f1 = (zf x.fns i.f1).f1 ∧ (zf y.fns i.f1).f2 = (zf x.fns i.f1).f2) (h : (meansS T x f i).2.2 = true) : meansS T y f' i = meansS T x f i := by
  unfold meansS at h ⊢
  rw [globS_eq hg, globS_eq hg, h2, h3]
  by_cases c1 : i.f0 = 1
  · rw [if_pos c1, if_pos c1]
  rw [if_neg c1] at h; rw [if_neg c1, if_neg c1]
  by_cases c2 : i.f0 = 2
  · rw [if_pos c2, if_pos c2]
  rw [if_neg c2] at h; rw [if_neg c2, if_neg c2]
  by_cases c3 : i.f0 = 3
  · rw [if_pos c3, if_pos c3]
  rw [if_neg c3] at h; rw [if_neg c3, if_neg c3]
  by_cases c4 : i.f0 = 4
  · rw [if_pos c4, if_pos c4]
  rw [if_neg c4] at h; rw [if_neg c4, if_neg c4]
  by_cases c5 : i.f0 = 5
  · rw [if_pos c5, if_pos c5]
  rw [if_neg c5] at h; rw [if_neg c5, if_neg c5]
  by_cases c6 : i.f0 = 6
  · rw [if_pos c6, if_pos c6]
  rw [if_neg c6] at h; rw [if_neg c6, if_neg c6]
  by_cases c7 : i.f0 = 7
  · rw [if_pos c7, if_pos c7]
  rw [if_neg c7] at h; rw [if_neg c7, if_neg c7]
  by_cases c28 : i.f0 = 28
  · rw [if_pos c28] at h; rw [if_pos c28, if_pos c28]
    simp only [Bool.and_eq_true, decide_eq_true_eq] at h
    rw [decide_eq_true (show 0 ≤ i.f1 ∧ i.f1 < f'.f4.length by omega), decide_eq_true (show 0 ≤ i.f1 ∧ i.f1 < f.f4.length by omega)]
  rw [if_neg c28] at h; rw [if_neg c28, if_neg c28]
  by_cases c29 : i.f0 = 29
  · rw [if_pos c29] at h; rw [if_pos c29, if_pos c29]
    simp only [Bool.and_eq_true, decide_eq_true_eq] at h
    rw [decide_eq_true (show 0 ≤ i.f1 ∧ i.f1 < f'.f4.length by omega), decide_eq_true (show 0 ≤ i.f1 ∧ i.f1 < f.f4.length by omega)]
  rw [if_neg c29] at h; rw [if_neg c29, if_neg c29]
  by_cases c30 : i.f0 = 30
  · rw [if_pos c30] at h; rw [if_pos c30, if_pos c30]
    by_cases hr : 0 ≤ i.f1 ∧ i.f1 < x.fns.length
    · obtain ⟨k1, k2, k3⟩ := hc c30 hr
      rw [if_pos hr, if_pos (show 0 ≤ i.f1 ∧ i.f1 < y.fns.length by omega), k2, k3]
    · rw [if_neg hr] at h; cases h
  rw [if_neg c30] at h; rw [if_neg c30, if_neg c30]
theorem zf_eq (l : List SFn) (k : Nat) : zf l (k : Int) = l.getD k zFn := by unfold zf; rw [Int.toNat_natCast]

/-! the last function left out -/
def dropF (x : SImage) (n : Nat) : SImage := ⟨x.globs, x.fns.take n⟩
theorem take_getD (l : List SFn) (n k : Nat) (hk : k < n) : (l.take n).getD k zFn = l.getD k zFn := by
  rw [List.getD_eq_getElem?_getD, List.getD_eq_getElem?_getD, List.getElem?_take, if_pos hk]
theorem drop_right {x : SImage} (n : Nat) (h : rightE x = 0) : rightE (dropF x n) = 0 := by
  have hok := right_ok h
  obtain ⟨a1, a2, a3, a4⟩ := okB_bounds x hok
  have hl : (x.fns.take n).length ≤ x.fns.length := List.length_take_le' _ _
  have hok2 : okB (dropF x n) = true := by
    unfold okB dropF
    simp only [Bool.and_eq_true, decide_eq_true_eq, Bool.not_eq_true', List.any_eq_false]
    exact ⟨⟨⟨a1, by omega⟩, fun g hg => by simpa using a3 g hg⟩, fun f hf => by simpa using a4 f (List.mem_of_mem_take hf)⟩
  have hi : imgLen (dropF x n) ≤ imgLen x := by
    unfold imgLen dropF
    simp only
    have := sum_take_le fnLen x.fns n
    rw [List.map_take] at *
    have v1 : varLen x.fns.length = 1 := by rw [varLen, if_pos (by omega)]
    have v2 : varLen (x.fns.take n).length = 1 := by rw [varLen, if_pos (by omega)]
    rw [v1, v2]
    omega
  unfold rightE at h ⊢
  rw [if_pos hok] at h
  rw [if_pos hok2]
  have : ¬ 1048576 < imgLen x := by
    intro hc; rw [if_pos hc] at h; cases h
  rw [if_neg (by omega)]
theorem alone_law (T : Nat → ByteArray × ByteArray) (hT : TOK T) (x : SImage) (n : Nat) (hn : x.fns.length = n + 1) (hv : (verifyS T x).1 = 0)
    (hc : ∀ i, i < n → ∀ j ∈ (x.fns.getD i zFn).f4, ¬ (j.f0 = 30 ∧ j.f1 = n)) : verifyS T (dropF x n) = (0, 0) := by
  obtain ⟨h1, h2, h3⟩ := verifyS_zero.1 hv
  have hX := imgOK_of (right_ok h1)
  have hl : (dropF x n).fns.length = n := by show (x.fns.take n).length = n; rw [List.length_take]; omega
  refine verifyS_at (verifyS_zero.2 ⟨drop_right n h1, fun k hk => ?_, fun k hk => ?_⟩)
  · rw [hl] at hk
    rw [← h2 k (by omega)]
    unfold headBad seenS dropF
    simp only
    rw [take_getD _ _ _ hk, List.take_take, Nat.min_eq_left (by omega)]
  · rw [hl] at hk
    rw [← h3 k (by omega)]
    unfold fnAt
    have hg : (dropF x n).fns.getD k zFn = x.fns.getD k zFn := take_getD _ _ _ hk
    rw [hg, fnS_sim T x (dropF x n) _ _ k ⟨Nat.le_refl _, fun j hj => ⟨rfl, fun hok => ?_⟩⟩ hX (hX.fn _ (getD_mem_fn _ k (by omega))) hT (h3 k (by omega))]
    refine meansS_sim T x (dropF x n) _ _ _ rfl rfl rfl (Nat.le_refl _) (fun h30 hr => ?_) hok
    have hne := hc k hk _ (getD_mem_instr _ j hj)
    have hlt : (zi (x.fns.getD k zFn).f4 j).f1 < n := by
      rcases Int.lt_or_gt_of_ne (fun e => hne ⟨h30, e⟩) with h | h
      · exact h
      · omega
    obtain ⟨q, hq⟩ : ∃ q : Nat, (zi (x.fns.getD k zFn).f4 j).f1 = q := ⟨_, (Int.toNat_of_nonneg hr.1).symm⟩
    rw [hl, hq, zf_eq, zf_eq]
    rw [hq] at hlt
    rw [show (dropF x n).fns.getD q zFn = x.fns.getD q zFn from take_getD _ _ _ (by omega)]
    exact ⟨hlt, rfl, rfl⟩

/-! code behind each function -/
def addC (m : List SInstr) (f : SFn) : SFn := { f with f4 := f.f4 ++ m }
def moreF (x : SImage) (m : List SInstr) : SImage := ⟨x.globs, x.fns.map (addC m)⟩
theorem map_getD (l : List SFn) (m : List SInstr) (k : Nat) (hk : k < l.length) : (l.map (addC m)).getD k zFn = addC m (l.getD k zFn) := by
  rw [List.getD_eq_getElem?_getD, List.getD_eq_getElem?_getD, List.getElem?_map, List.getElem?_eq_getElem hk]; rfl
theorem more_law (T : Nat → ByteArray × ByteArray) (hT : TOK T) (x : SImage) (m : List SInstr) (hv : (verifyS T x).1 = 0) (hr : rightE (moreF x m) = 0) : verifyS T (moreF x m) = (0, 0) := by
  obtain ⟨h1, h2, h3⟩ := verifyS_zero.1 hv
  have hX := imgOK_of (right_ok h1)
  have hl : (moreF x m).fns.length = x.fns.length := List.length_map ..
  refine verifyS_at (verifyS_zero.2 ⟨hr, fun k hk => ?_, fun k hk => ?_⟩)
  · rw [hl] at hk
    rw [← h2 k hk]
    unfold headBad seenS moreF
    simp only
    rw [map_getD _ _ _ hk, ← List.map_take, List.map_map]
    rfl
  · rw [hl] at hk
    rw [← h3 k hk]
    unfold fnAt
    have hg : (moreF x m).fns.getD k zFn = addC m (x.fns.getD k zFn) := map_getD _ _ _ hk
    have hle : (x.fns.getD k zFn).f4.length ≤ (addC m (x.fns.getD k zFn)).f4.length := by show _ ≤ ((x.fns.getD k zFn).f4 ++ m).length; simp
    rw [hg, fnS_sim T x (moreF x m) _ _ k ⟨hle, fun j hj => ⟨zi_more _ _ _ hj, fun hok => ?_⟩⟩ hX (hX.fn _ (getD_mem_fn _ k (by omega))) hT (h3 k (by omega))]
    refine meansS_sim T x (moreF x m) _ _ _ rfl rfl rfl hle (fun h30 hr => ?_) hok
    obtain ⟨q, hq⟩ : ∃ q : Nat, (zi (x.fns.getD k zFn).f4 j).f1 = q := ⟨_, (Int.toNat_of_nonneg hr.1).symm⟩
    rw [hl, hq, zf_eq, zf_eq]
    rw [hq] at hr
    rw [show (moreF x m).fns.getD q zFn = addC m (x.fns.getD q zFn) from map_getD _ _ _ (by omega)]
    exact ⟨hr.2, rfl, rfl⟩

/-! one function more -/
def vmName : ByteArray := ⟨#[118, 101, 114, 105, 102, 121, 109, 111, 114, 101]⟩
def vmFn : SFn := ⟨vmName, [], 0, [], [⟨32, 0, 0⟩]⟩
def lastF (x : SImage) : SImage := ⟨x.globs, x.fns ++ [vmFn]⟩
theorem fnS_ret (T : Nat → ByteArray × ByteArray) (x : SImage) (nn : Int) : (fnS T x vmFn nn).2.fc = 0 := by kernel_rfl
theorem backs_vm : backsL.any (backB vmFn) = false := by kernel_rfl
theorem app_getD (l : List SFn) (f : SFn) (k : Nat) (hk : k < l.length) : (l ++ [f]).getD k zFn = l.getD k zFn := by
  rw [List.getD_eq_getElem?_getD, List.getD_eq_getElem?_getD, List.getElem?_append_left hk]
theorem app_getD_last (l : List SFn) (f : SFn) : (l ++ [f]).getD l.length zFn = f := by
  rw [List.getD_eq_getElem?_getD, List.getElem?_append_right (Nat.le_refl _), Nat.sub_self]; rfl
theorem lookup_no (l : List SFn) (s : ByteArray) (h : ∀ f ∈ l, f.f0 ≠ s) : (l.map fun f => (f.f0, true)).lookup s = none := by
  induction l with
  | nil => rfl
  | cons f l ih =>
    have h0 : (s == f.f0) = false := by
      cases h1 : (s == f.f0)
      · rfl
      · have h2 : (s.data == f.f0.data) = true := h1
        exact absurd (ByteArray.ext (by simpa using h2) : s = f.f0) (fun e => h f (by simp) e.symm)
    simp only [List.map_cons, List.lookup, h0]
    exact ih (fun g hg => h g (by simp [hg]))
theorem last_law (T : Nat → ByteArray × ByteArray) (hT : TOK T) (x : SImage) (hv : (verifyS T x).1 = 0) (hr : rightE (lastF x) = 0) (hn : ∀ f ∈ x.fns, f.f0 ≠ vmName) : verifyS T (lastF x) = (0, 0) := by
  obtain ⟨h1, h2, h3⟩ := verifyS_zero.1 hv
  have hX := imgOK_of (right_ok h1)
  have hl : (lastF x).fns.length = x.fns.length + 1 := by show (x.fns ++ [vmFn]).length = _; simp
  refine verifyS_at (verifyS_zero.2 ⟨hr, fun k hk => ?_, fun k hk => ?_⟩)
  · rw [hl] at hk
    by_cases hk2 : k < x.fns.length
    · rw [← h2 k hk2]
      unfold headBad seenS lastF
      simp only
      rw [app_getD _ _ _ hk2, List.take_append_of_le_length (by omega)]
    · obtain rfl : k = x.fns.length := by omega
      unfold headBad seenS lastF
      simp only
      rw [app_getD_last, List.take_append_of_le_length (Nat.le_refl _), List.take_length, show vmFn.f0 = vmName from rfl, lookup_no _ _ hn, backs_vm]
      rfl
  · rw [hl] at hk
    by_cases hk2 : k < x.fns.length
    · rw [← h3 k hk2]
      unfold fnAt
      have hg : (lastF x).fns.getD k zFn = x.fns.getD k zFn := app_getD _ _ _ hk2
      rw [hg, fnS_sim T x (lastF x) _ _ k ⟨Nat.le_refl _, fun j hj => ⟨rfl, fun hok => ?_⟩⟩ hX (hX.fn _ (getD_mem_fn _ k (by omega))) hT (h3 k (by omega))]
      refine meansS_sim T x (lastF x) _ _ _ rfl rfl rfl (Nat.le_refl _) (fun h30 hr => ?_) hok
      obtain ⟨q, hq⟩ : ∃ q : Nat, (zi (x.fns.getD k zFn).f4 j).f1 = q := ⟨_, (Int.toNat_of_nonneg hr.1).symm⟩
      rw [hl, hq, zf_eq, zf_eq]
      rw [hq] at hr
      rw [show (lastF x).fns.getD q zFn = x.fns.getD q zFn from app_getD _ _ _ (by omega)]
      exact ⟨by omega, rfl, rfl⟩
    · obtain rfl : k = x.fns.length := by omega
      unfold fnAt
      rw [show (lastF x).fns.getD x.fns.length zFn = vmFn from app_getD_last _ _]
      exact fnS_ret T (lastF x) _
end Go.Proofs.YtedmncldelcbfaaDoor.E

namespace Go.Proofs.YtedmncldelcbfaaDoor.E
open Go.RowKit Go.Proofs.YtedmncldelcbfaaDoorW.PrintWords Go.Proofs.YtedmncldelcbfaaDoorW.PrintLast Go.Proofs.YtedmncldelcbfaaDoorW.PrintMore
attribute [local go_sem] max2_int min2_int max_two min_two max_three min_three max_four min_four
set_option linter.unusedVariables false
set_option linter.unusedSimpArgs false

/-! ### tiltyardlaw15_Copied: function 8 -/
def tiltyardlaw15_Copied.l0 : Nat → Int → List (SGlob) → List (SFn) → List (SGlob) → List (SFn) → Option ((List (SGlob)) × (List (SFn)))
  | 0, _, _, _, _, _ => none
  | k + 1, x4, x190000, x190001, x192000, x192001 => if x4 < (x190001.length : Int) then (if 0 ≤ x4 then ((some (([] : List Int) : List Int)).bind fun y197 => (if y197.length + ((rd_TFn x190001 x4).f1).length < 17592186044416 then ((some (([] : List Int) : List Int)).bind fun y203 => (if y203.length + ((rd_TFn x190001 x4).f3).length < 17592186044416 then ((some (([] : List (SInstr)) : List (SInstr))).bind fun y209 => (if y209.length + ((rd_TFn x190001 x4).f4).length < 5864062014805 then (if x192001.length < 1466015503701 then (tiltyardlaw15_Copied.l0 k (wrap64 (x4 + 1)) x190000 x190001 x192000 (x192001 ++ [(⟨(rd_TFn x190001 x4).f0, (y197 ++ ((rd_TFn x190001 x4).f1)), (rd_TFn x190001 x4).f2, (y203 ++ ((rd_TFn x190001 x4).f3)), (y209 ++ ((rd_TFn x190001 x4).f4))⟩ : SFn)])) else (none)) else (none))) else (none))) else (none))) else (none)) else (some (x192000, x192001))
def tiltyardlaw15_Copied.f (k : Nat) (l0_0 : List (SGlob)) (l0_1 : List (SFn)) : Option ((List (SGlob)) × (List (SFn))) := if ([] : List (SGlob)).length + l0_0.length < 5864062014805 then (tiltyardlaw15_Copied.l0 k 0 l0_0 l0_1 (([] : List (SGlob)) ++ l0_0) ([] : List (SFn))) else (none)
theorem tiltyardlaw15_Copied.mono_l : ∀ k, (∀ y0 y1 y2 y3 y4, LeO (tiltyardlaw15_Copied.l0 k y0 y1 y2 y3 y4) (tiltyardlaw15_Copied.l0 (k + 1) y0 y1 y2 y3 y4))
  | 0 => fun _ _ _ _ _ r h => by simp [tiltyardlaw15_Copied.l0] at h
  | k + 1 => by
    have ih0 := tiltyardlaw15_Copied.mono_l k
    · intro y0 y1 y2 y3 y4
      unfold tiltyardlaw15_Copied.l0
      repeat' first
      | (with_reducible exact ih0 _ _ _ _ _)
      | (with_reducible exact LeO.refl _)
      | (with_reducible exact LeO.none _)
      | (with_reducible refine LeO.ite ?_ ?_)
      | (with_reducible refine LeO.bind ?_ (fun _ => ?_))
      | exact ih0 _ _ _ _ _
      | exact LeO.none _
      | refine LeO.ite ?_ ?_
      | refine LeO.bind ?_ (fun _ => ?_)
theorem tiltyardlaw15_Copied.mono : ∀ a0 a1 k, LeO (tiltyardlaw15_Copied.f k a0 a1) (tiltyardlaw15_Copied.f (k + 1) a0 a1) := by
  intro a0 a1 k
  have ih0 := tiltyardlaw15_Copied.mono_l k
  unfold tiltyardlaw15_Copied.f
  repeat' first
      | (with_reducible exact ih0 _ _ _ _ _)
      | (with_reducible exact LeO.refl _)
      | (with_reducible exact LeO.none _)
      | (with_reducible refine LeO.ite ?_ ?_)
      | (with_reducible refine LeO.bind ?_ (fun _ => ?_))
      | exact ih0 _ _ _ _ _
      | exact LeO.none _
      | refine LeO.ite ?_ ?_
      | refine LeO.bind ?_ (fun _ => ?_)
set_option maxHeartbeats 8000000 in
set_option maxRecDepth 100000 in
theorem tiltyardlaw15_Copied.calls (k : Nat) (A0_0 : Option Addr) (c0_0 : Nat) (l0_0 : List (SGlob)) (A0_1 : Option Addr) (c0_1 : Nat) (l0_1 : List (SFn)) (r1 : List (SGlob)) (r2 : List (SFn)) (w : World) (hr0_0 : Kd.C kGlob w A0_0 l0_0.length l0_0) (hc0_0 : l0_0.length ≤ c0_0) (hr0_1 : Kd.C kFn w A0_1 l0_1.length l0_1) (hc0_1 : l0_1.length ≤ c0_1) (h : tiltyardlaw15_Copied.f k l0_0 l0_1 = some (r1, r2)) :
    Calls Tryd.prog 8 #[.agg #[.slice A0_0 l0_0.length c0_0, .slice A0_1 l0_1.length c0_1]] w fun e w' => ∃ v0_ v1_ : Value, e = .returned (.agg #[v0_, v1_]) ∧ Kd.R kGlob 73 w' w.heap.size (fun _ => True) v0_ r1 ∧ Kd.S kFn 35 w' w.heap.size (fun _ => True) v1_ r2 ∧ Below w.heap.size w w' := by
  have hu25 := Tryd.underlying25
  have hu35 := Tryd.underlying35
  have HR0_0 := Aside0.mk hr0_0
  have HC0_0 := Aside0.mk hc0_0
  clear hr0_0 hc0_0
  have HR0_1 := Aside0.mk hr0_1
  have HC0_1 := Aside0.mk hc0_1
  clear hr0_1 hc0_1
  have HB := Aside0.mk (Below.refl w.heap.size w)
  have H : (if ([] : List (SGlob)).length + l0_0.length < 5864062014805 then (tiltyardlaw15_Copied.l0 k 0 l0_0 l0_1 (([] : List (SGlob)) ++ l0_0) ([] : List (SFn))) else (none)) = some (r1, r2) := h
  clear h
  by_cases c2 : ([] : List (SGlob)).length + l0_0.length < 5864062014805
  · rw [if_pos c2] at H
    have LMc2 := Aside0.mk c2
    clear c2
    obtain ⟨y192, hy192⟩ : ∃ y_ : List (SGlob), y_ = (([] : List (SGlob)) ++ l0_0) := ⟨_, rfl⟩
    replace H : (tiltyardlaw15_Copied.l0 k 0 l0_0 l0_1 y192 ([] : List (SFn))) = some (r1, r2) := by first | (rw [hy192]; with_reducible exact H) | (have H2_ := (Option.bind_some _ _).symm.trans H; rw [hy192]; with_reducible exact H2_) | (have H2_ := (Option.bind_some _ _).symm.trans H; with_reducible exact H2_) | with_reducible exact H | (rw [hy192]; exact H) | exact H
    have Ny192 := Aside0.mk hy192
    clear hy192
    have H' := Aside0.mk H
    clear H
    go_enter Tryd.func8, Tryd.ntmps8
    go_wp2_with (first | ((with_reducible refine gate_dst (N := 1) rfl ?_); refine box_event ?hg (N := 1) ?hd (cs := #[.slice A0_0 l0_0.length c0_0, .slice A0_1 l0_1.length c0_1]) (t := 25) ?hr ?_; (case hd => rfl); (case hg => rfl); (case hr => first | (go_simp; done) | (go_simp; rfl)); intro gb189 hg w3 hbox hb; have n0_ := Aside0.mk (below_step (by repeat (first | (with_reducible first | exact HB.out | apply below_alloc | apply pw_below_drewN | apply below_drew1) | exact HB.out)) hb); have n1_ := Aside0.mk (hbox); have n2_ := Aside0.mk ((by rw [hg]; exact (below_size (by repeat (first | (with_reducible first | exact HB.out | apply below_alloc | apply pw_below_drewN | apply below_drew1) | exact HB.out))) : w.heap.size ≤ gb189)); have n3_ := Aside0.mk ((by rw [hg]; exact (below_size (by repeat (first | (with_reducible first | exact HB.out | apply below_alloc | apply pw_below_drewN | apply below_drew1) | exact HB.out))) : w.heap.size ≤ gb189)); clear HB; have HB := n0_; have BK189 := n1_; have GW189 := n2_; have GE189 := n3_; clear n0_ n1_ n2_ n3_; clear hb hbox hg) | ((with_reducible refine gate_dst (N := 2) rfl ?_); refine box_event ?hg (N := 2) ?hd (cs := #[.slice none 0 0, .slice none 0 0]) (t := 25) ?hr ?_; (case hd => rfl); (case hg => rfl); (case hr => first | (go_simp; done) | (go_simp; rfl)); intro gb190 hg w4 hbox hb; have n0_ := Aside0.mk (blk_below (g := gb189) (o := .cells #[.slice A0_0 l0_0.length c0_0, .slice A0_1 l0_1.length c0_1] 25 (0, 0)) (by (with_reducible repeat (first | refine blk_drewN ?_ _ | refine blk_drew ?_ | refine blk_alloc ?_ _)); exact BK189.out) hb); have n1_ := Aside0.mk (below_step (by repeat (first | (with_reducible first | exact HB.out | apply below_alloc | apply pw_below_drewN | apply below_drew1 | refine below_set ?_ GE189.out) | exact HB.out)) hb); have n2_ := Aside0.mk (hbox); have n3_ := Aside0.mk ((by rw [hg]; exact (below_size (by repeat (first | (with_reducible first | exact HB.out | apply below_alloc | apply pw_below_drewN | apply below_drew1 | refine below_set ?_ GE189.out) | exact HB.out))) : w.heap.size ≤ gb190)); have n4_ := Aside0.mk ((by rw [hg]; exact (below_size (by repeat (first | (with_reducible first | exact HB.out | apply below_alloc | apply pw_below_drewN | apply below_drew1 | refine below_set ?_ GE189.out) | exact HB.out))) : w.heap.size ≤ gb190)); have n5_ := Aside0.mk ((by rw [hg]; exact Nat.ne_of_lt (blk_lt (g := gb189) (o := .cells #[.slice A0_0 l0_0.length c0_0, .slice A0_1 l0_1.length c0_1] 25 (0, 0)) (by (with_reducible repeat (first | refine blk_drewN ?_ _ | refine blk_drew ?_ | refine blk_alloc ?_ _)); exact BK189.out)) : gb189 ≠ gb190)); have n6_ := Aside0.mk ((by rw [hg]; exact Nat.ne_of_gt (blk_lt (g := gb189) (o := .cells #[.slice A0_0 l0_0.length c0_0, .slice A0_1 l0_1.length c0_1] 25 (0, 0)) (by (with_reducible repeat (first | refine blk_drewN ?_ _ | refine blk_drew ?_ | refine blk_alloc ?_ _)); exact BK189.out)) : gb190 ≠ gb189)); clear BK189; clear HB; have BK189 := n0_; have HB := n1_; have BK190 := n2_; have GW190 := n3_; have GE190 := n4_; have NB189_190 := n5_; have NB190_189 := n6_; clear n0_ n1_ n2_ n3_ n4_ n5_ n6_; clear hb hbox hg) | ((with_reducible refine gate_dst (N := 3) rfl ?_); refine box_event ?hg (N := 3) ?hd (cs := #[.slice none 0 0, .slice none 0 0]) (t := 25) ?hr ?_; (case hd => rfl); (case hg => rfl); (case hr => first | (go_simp; done) | (go_simp; rfl)); intro gb191 hg w5 hbox hb; have n0_ := Aside0.mk (blk_below (g := gb189) (o := .cells #[.slice A0_0 l0_0.length c0_0, .slice A0_1 l0_1.length c0_1] 25 (0, 0)) (by (with_reducible repeat (first | refine blk_drewN ?_ _ | refine blk_drew ?_ | refine blk_alloc ?_ _)); exact BK189.out) hb); have n1_ := Aside0.mk (blk_below (g := gb190) (o := .cells #[.slice none 0 0, .slice none 0 0] 25 (0, 0)) (by (with_reducible repeat (first | refine blk_drewN ?_ _ | refine blk_drew ?_ | refine blk_alloc ?_ _)); exact BK190.out) hb); have n2_ := Aside0.mk (below_step (by repeat (first | (with_reducible first | exact HB.out | apply below_alloc | apply pw_below_drewN | apply below_drew1 | refine below_set ?_ GE189.out | refine below_set ?_ GE190.out) | exact HB.out)) hb); have n3_ := Aside0.mk (hbox); have n4_ := Aside0.mk ((by rw [hg]; exact (below_size (by repeat (first | (with_reducible first | exact HB.out | apply below_alloc | apply pw_below_drewN | apply below_drew1 | refine below_set ?_ GE189.out | refine below_set ?_ GE190.out) | exact HB.out))) : w.heap.size ≤ gb191)); have n5_ := Aside0.mk ((by rw [hg]; exact (below_size (by repeat (first | (with_reducible first | exact HB.out | apply below_alloc | apply pw_below_drewN | apply below_drew1 | refine below_set ?_ GE189.out | refine below_set ?_ GE190.out) | exact HB.out))) : w.heap.size ≤ gb191)); have n6_ := Aside0.mk ((by rw [hg]; exact Nat.ne_of_lt (blk_lt (g := gb189) (o := .cells #[.slice A0_0 l0_0.length c0_0, .slice A0_1 l0_1.length c0_1] 25 (0, 0)) (by (with_reducible repeat (first | refine blk_drewN ?_ _ | refine blk_drew ?_ | refine blk_alloc ?_ _)); exact BK189.out)) : gb189 ≠ gb191)); have n7_ := Aside0.mk ((by rw [hg]; exact Nat.ne_of_gt (blk_lt (g := gb189) (o := .cells #[.slice A0_0 l0_0.length c0_0, .slice A0_1 l0_1.length c0_1] 25 (0, 0)) (by (with_reducible repeat (first | refine blk_drewN ?_ _ | refine blk_drew ?_ | refine blk_alloc ?_ _)); exact BK189.out)) : gb191 ≠ gb189)); have n8_ := Aside0.mk ((by rw [hg]; exact Nat.ne_of_lt (blk_lt (g := gb190) (o := .cells #[.slice none 0 0, .slice none 0 0] 25 (0, 0)) (by (with_reducible repeat (first | refine blk_drewN ?_ _ | refine blk_drew ?_ | refine blk_alloc ?_ _)); exact BK190.out)) : gb190 ≠ gb191)); have n9_ := Aside0.mk ((by rw [hg]; exact Nat.ne_of_gt (blk_lt (g := gb190) (o := .cells #[.slice none 0 0, .slice none 0 0] 25 (0, 0)) (by (with_reducible repeat (first | refine blk_drewN ?_ _ | refine blk_drew ?_ | refine blk_alloc ?_ _)); exact BK190.out)) : gb191 ≠ gb190)); clear BK189; clear BK190; clear HB; have BK189 := n0_; have BK190 := n1_; have HB := n2_; have BK191 := n3_; have GW191 := n4_; have GE191 := n5_; have NB189_191 := n6_; have NB191_189 := n7_; have NB190_191 := n8_; have NB191_190 := n9_; clear n0_ n1_ n2_ n3_ n4_ n5_ n6_ n7_ n8_ n9_; clear hb hbox hg; have hnb6 := NB191_189.out; have hnc6 := NB189_191.out; have hnb7 := NB191_190.out; have hnc7 := NB190_191.out; have hcz8_0 : w5.cell? ⟨gb191, 0, none⟩ = some (.slice none 0 0) := (blk_cell BK191.out 0).trans rfl; have hcz8_1 : w5.cell? ⟨gb191, 1, none⟩ = some (.slice none 0 0) := (blk_cell BK191.out 1).trans rfl; have hfz8_0 := blk_frozen BK191.out 0; have hfz8_1 := blk_frozen BK191.out 1; have hnb9 := NB189_190.out; have hnc9 := NB190_189.out; have hcz10_0 : w5.cell? ⟨gb189, 0, none⟩ = some (.slice A0_0 l0_0.length c0_0) := (blk_cell BK189.out 0).trans rfl; have hcz10_1 : w5.cell? ⟨gb189, 1, none⟩ = some (.slice A0_1 l0_1.length c0_1) := (blk_cell BK189.out 1).trans rfl; have hfz10_0 := blk_frozen BK189.out 0; have hfz10_1 := blk_frozen BK189.out 1) | ((with_reducible refine gate_builtin (b := .append) (xs := #[.tmp 7, .tmp 9]) rfl ?_); at_builtin; refine Kd.R_append_rows kGlob (w0 := w) w.heap.size rfl (.tmp 7) (.tmp 9) 22 73 (.agg #[(.int .i64 0), (.int .i64 0), (.int .i64 0)]) 24 rfl Tryd.underlying22 infoGlob rfl (by decide) (by omega) (.slice none 0 0) ([] : List (SGlob)) l0_0 _ _ _ (fun _ => True) (fun _ => False) rfl rfl ?aO ?aR (fun _ _ h => h) (fun _ h => h.elim) ?aF ?aB ?aS ?aL ?_; (case aR => repeat (first | exact (Kd.C_below HR0_0.out HB.out) | (with_reducible refine Kd.C_alloc ?_ _) | (with_reducible refine Kd.C_drewN ?_ _) | (with_reducible refine Kd.C_drew ?_))); (case aB => exact (by repeat (first | (with_reducible first | exact HB.out | apply below_alloc | apply pw_below_drewN | apply below_drew1 | refine below_set ?_ GE189.out | refine below_set ?_ GE190.out | refine below_set ?_ GE191.out) | exact HB.out))); (case aF => exact (fun _ _ => trivial)); (case aO => exact ((Kd.R_nil _ _ _ _ (fun _ => True)))); (case aS => exact (below_size (by repeat (first | (with_reducible first | exact HB.out | apply below_alloc | apply pw_below_drewN | apply below_drew1 | refine below_set ?_ GE189.out | refine below_set ?_ GE190.out | refine below_set ?_ GE191.out) | exact HB.out)))); (case aL => have := LMc2.out; omega); intro v193 w11 ho hb hg hat; rw [← Ny192.out] at ho; have n0_ := Aside0.mk (blk_grown (g := gb189) (o := .cells #[.slice A0_0 l0_0.length c0_0, .slice A0_1 l0_1.length c0_1] 25 (0, 0)) (by (with_reducible repeat (first | refine blk_drewN ?_ _ | refine blk_drew ?_ | refine blk_alloc ?_ _)); exact BK189.out) hg (by simp [Value.ownBlock])); have n1_ := Aside0.mk (blk_grown (g := gb190) (o := .cells #[.slice none 0 0, .slice none 0 0] 25 (0, 0)) (by (with_reducible repeat (first | refine blk_drewN ?_ _ | refine blk_drew ?_ | refine blk_alloc ?_ _)); exact BK190.out) hg (by simp [Value.ownBlock])); have n2_ := Aside0.mk (blk_grown (g := gb191) (o := .cells #[.slice none 0 0, .slice none 0 0] 25 (0, 0)) (by (with_reducible repeat (first | refine blk_drewN ?_ _ | refine blk_drew ?_ | refine blk_alloc ?_ _)); exact BK191.out) hg (by simp [Value.ownBlock])); have n3_ := Aside0.mk (hb); have n4_ := Aside0.mk (ho); clear BK189; clear BK190; clear BK191; clear HB; have BK189 := n0_; have BK190 := n1_; have BK191 := n2_; have HB := n3_; have HO194 := n4_; clear n0_ n1_ n2_ n3_ n4_; clear ho hb hg hat; obtain ⟨Ao12, co12, eo12⟩ := Kd.R_slice HO194.out; subst eo12; have hcz13_0 : w11.cell? ⟨gb191, 0, none⟩ = some (.slice none 0 0) := (blk_cell BK191.out 0).trans rfl; have hcz13_1 : w11.cell? ⟨gb191, 1, none⟩ = some (.slice none 0 0) := (blk_cell BK191.out 1).trans rfl; have hfz13_0 := blk_frozen BK191.out 0; have hfz13_1 := blk_frozen BK191.out 1))
    go_loopg [4] k (fun kq v4 w' => ∃ (x4_1 : Int) (x192001_1 : List (SFn)) (u192001 : Value), v4 = .int .i64 x4_1 ∧ Aside0 (tiltyardlaw15_Copied.l0 kq x4_1 l0_0 l0_1 y192 x192001_1 = some (r1, r2)) ∧ Aside0 (kq ≤ k) ∧ Aside0 (Kd.R kGlob 73 w' w.heap.size (fun _ => True) (.slice Ao12 y192.length co12) y192) ∧ Aside0 (Kd.S kFn 35 w' w.heap.size (fun _ => True) u192001 x192001_1) ∧ Aside0 (w'.heap[gb189]? = some (.cells #[(.slice A0_0 l0_0.length c0_0), (.slice A0_1 l0_1.length c0_1)] 25 (0, 0))) ∧ Aside0 (w'.heap[gb190]? = some (.cells #[(.slice none 0 0), (.slice none 0 0)] 25 (0, 0))) ∧ Aside0 (w'.heap[gb191]? = some (.cells #[(.slice Ao12 y192.length co12), u192001] 25 (0, 0))) ∧ Aside0 (Below w.heap.size w w'))
    case atStart => exact ⟨(0), (([] : List (SFn))), (.slice none 0 0), (by first | rfl | (simp; done) | (simp [*]; done)), H', ⟨Nat.le_refl _⟩, ⟨by (with_reducible repeat (first | apply Kd.R_alloc | apply Kd.R_drewN | apply Kd.R_drew)); exact Kd.R_mono (Kd.R_far (p := ⟨gb191, 0, none⟩) (Kd.R_types HO194.out BK191.out (by decide)) (fun _ hk => hk.2) (.slice Ao12 y192.length co12)) (fun _ hk => trivial)⟩, ⟨by first | exact Kd.S_nil _ _ _ _ _ | exact Kd.N_nil _ _ _ _ _ | exact Kd.V_nil _ _ _ _ _ | exact Kd.Q_nil _ _ _ _ _ | exact Kd.R_nil _ _ _ _ _⟩, ⟨by (with_reducible repeat (first | refine blk_drewN ?_ _ | refine blk_drew ?_ | refine blk_alloc ?_ _)); refine blk_far ?_ NB189_191.out _; (with_reducible repeat (first | refine blk_drewN ?_ _ | refine blk_drew ?_ | refine blk_alloc ?_ _)); exact BK189.out⟩, ⟨by (with_reducible repeat (first | refine blk_drewN ?_ _ | refine blk_drew ?_ | refine blk_alloc ?_ _)); refine blk_far ?_ NB190_191.out _; (with_reducible repeat (first | refine blk_drewN ?_ _ | refine blk_drew ?_ | refine blk_alloc ?_ _)); exact BK190.out⟩, ⟨by (with_reducible repeat (first | refine blk_drewN ?_ _ | refine blk_drew ?_ | refine blk_alloc ?_ _)); refine blk_put (cs := #[.slice none 0 0, .slice none 0 0]) ?_ 0 _ rfl; (with_reducible repeat (first | refine blk_drewN ?_ _ | refine blk_drew ?_ | refine blk_alloc ?_ _)); exact BK191.out⟩, ⟨by repeat (first | (with_reducible first | exact HB.out | apply below_alloc | apply pw_below_drewN | apply below_drew1 | refine below_set ?_ GE189.out | refine below_set ?_ GE190.out | refine below_set ?_ GE191.out) | exact HB.out)⟩⟩
    case round =>
      clear H'
      try clear c2
      try clear p2
      try clear c6
      try clear c7
      try clear c8
      try clear c9
      try clear hcz10_0
      try clear hcz10_1
      try clear hcz13_0
      try clear hcz13_1
      try clear hcz8_0
      try clear hcz8_1
      try clear hfz10_0
      try clear hfz10_1
      try clear hfz13_0
      try clear hfz13_1
      try clear hfz8_0
      try clear hfz8_1
      obtain ⟨x4_1, x192001_1, u192001, rfl, HA, HK1, HO_192000, HO_192001, BK189, BK190, BK191, HB⟩ := hrel
      cases gk with
      | zero => exact absurd HA.out (by simp [tiltyardlaw15_Copied.l0])
      | succ k1 =>
        have H := HA.out
        clear HA
        simp only [tiltyardlaw15_Copied.l0] at H
        by_cases c14 : x4_1 < (l0_1.length : Int)
        · rw [if_pos c14] at H
          have c14b0 : decide (x4_1 < (l0_1.length : Int)) = true := decide_eq_true c14
          clear c14
          by_cases c15 : 0 ≤ x4_1
          · rw [if_pos c15] at H
            have c15b0 : decide (0 ≤ x4_1) = true := decide_eq_true c15
            clear c15
            obtain ⟨y197, hy197⟩ : ∃ y_ : List Int, y_ = (([] : List Int)) := ⟨_, rfl⟩
            replace H : (if y197.length + ((rd_TFn l0_1 x4_1).f1).length < 17592186044416 then ((some (([] : List Int) : List Int)).bind fun y203 => (if y203.length + ((rd_TFn l0_1 x4_1).f3).length < 17592186044416 then ((some (([] : List (SInstr)) : List (SInstr))).bind fun y209 => (if y209.length + ((rd_TFn l0_1 x4_1).f4).length < 5864062014805 then (if x192001_1.length < 1466015503701 then (tiltyardlaw15_Copied.l0 k1 (wrap64 (x4_1 + 1)) l0_0 l0_1 y192 (x192001_1 ++ [(⟨(rd_TFn l0_1 x4_1).f0, (y197 ++ ((rd_TFn l0_1 x4_1).f1)), (rd_TFn l0_1 x4_1).f2, (y203 ++ ((rd_TFn l0_1 x4_1).f3)), (y209 ++ ((rd_TFn l0_1 x4_1).f4))⟩ : SFn)])) else (none)) else (none))) else (none))) else (none)) = some (r1, r2) := by first | (rw [hy197]; with_reducible exact H) | (have H2_ := (Option.bind_some _ _).symm.trans H; rw [hy197]; with_reducible exact H2_) | (have H2_ := (Option.bind_some _ _).symm.trans H; with_reducible exact H2_) | with_reducible exact H | (rw [hy197]; exact H) | exact H
            have Ny197 := Aside0.mk hy197
            clear hy197
            by_cases c16 : y197.length + ((rd_TFn l0_1 x4_1).f1).length < 17592186044416
            · rw [if_pos c16] at H
              have LMc16 := Aside0.mk c16
              clear c16
              obtain ⟨y200, hy200⟩ : ∃ y_ : List Int, y_ = (y197 ++ ((rd_TFn l0_1 x4_1).f1)) := ⟨_, rfl⟩
              replace H : ((some (([] : List Int) : List Int)).bind fun y203 => (if y203.length + ((rd_TFn l0_1 x4_1).f3).length < 17592186044416 then ((some (([] : List (SInstr)) : List (SInstr))).bind fun y209 => (if y209.length + ((rd_TFn l0_1 x4_1).f4).length < 5864062014805 then (if x192001_1.length < 1466015503701 then (tiltyardlaw15_Copied.l0 k1 (wrap64 (x4_1 + 1)) l0_0 l0_1 y192 (x192001_1 ++ [(⟨(rd_TFn l0_1 x4_1).f0, y200, (rd_TFn l0_1 x4_1).f2, (y203 ++ ((rd_TFn l0_1 x4_1).f3)), (y209 ++ ((rd_TFn l0_1 x4_1).f4))⟩ : SFn)])) else (none)) else (none))) else (none))) = some (r1, r2) := by first | (rw [hy200]; with_reducible exact H) | (have H2_ := (Option.bind_some _ _).symm.trans H; rw [hy200]; with_reducible exact H2_) | (have H2_ := (Option.bind_some _ _).symm.trans H; with_reducible exact H2_) | with_reducible exact H | (rw [hy200]; exact H) | exact H
              have Ny200 := Aside0.mk hy200
              clear hy200
              obtain ⟨y203, hy203⟩ : ∃ y_ : List Int, y_ = (([] : List Int)) := ⟨_, rfl⟩
              replace H : (if y203.length + ((rd_TFn l0_1 x4_1).f3).length < 17592186044416 then ((some (([] : List (SInstr)) : List (SInstr))).bind fun y209 => (if y209.length + ((rd_TFn l0_1 x4_1).f4).length < 5864062014805 then (if x192001_1.length < 1466015503701 then (tiltyardlaw15_Copied.l0 k1 (wrap64 (x4_1 + 1)) l0_0 l0_1 y192 (x192001_1 ++ [(⟨(rd_TFn l0_1 x4_1).f0, y200, (rd_TFn l0_1 x4_1).f2, (y203 ++ ((rd_TFn l0_1 x4_1).f3)), (y209 ++ ((rd_TFn l0_1 x4_1).f4))⟩ : SFn)])) else (none)) else (none))) else (none)) = some (r1, r2) := by first | (rw [hy203]; with_reducible exact H) | (have H2_ := (Option.bind_some _ _).symm.trans H; rw [hy203]; with_reducible exact H2_) | (have H2_ := (Option.bind_some _ _).symm.trans H; with_reducible exact H2_) | with_reducible exact H | (rw [hy203]; exact H) | exact H
              have Ny203 := Aside0.mk hy203
              clear hy203
              by_cases c17 : y203.length + ((rd_TFn l0_1 x4_1).f3).length < 17592186044416
              · rw [if_pos c17] at H
                have LMc17 := Aside0.mk c17
                clear c17
                obtain ⟨y206, hy206⟩ : ∃ y_ : List Int, y_ = (y203 ++ ((rd_TFn l0_1 x4_1).f3)) := ⟨_, rfl⟩
                replace H : ((some (([] : List (SInstr)) : List (SInstr))).bind fun y209 => (if y209.length + ((rd_TFn l0_1 x4_1).f4).length < 5864062014805 then (if x192001_1.length < 1466015503701 then (tiltyardlaw15_Copied.l0 k1 (wrap64 (x4_1 + 1)) l0_0 l0_1 y192 (x192001_1 ++ [(⟨(rd_TFn l0_1 x4_1).f0, y200, (rd_TFn l0_1 x4_1).f2, y206, (y209 ++ ((rd_TFn l0_1 x4_1).f4))⟩ : SFn)])) else (none)) else (none))) = some (r1, r2) := by first | (rw [hy206]; with_reducible exact H) | (have H2_ := (Option.bind_some _ _).symm.trans H; rw [hy206]; with_reducible exact H2_) | (have H2_ := (Option.bind_some _ _).symm.trans H; with_reducible exact H2_) | with_reducible exact H | (rw [hy206]; exact H) | exact H
                have Ny206 := Aside0.mk hy206
                clear hy206
                obtain ⟨y209, hy209⟩ : ∃ y_ : List (SInstr), y_ = (([] : List (SInstr))) := ⟨_, rfl⟩
                replace H : (if y209.length + ((rd_TFn l0_1 x4_1).f4).length < 5864062014805 then (if x192001_1.length < 1466015503701 then (tiltyardlaw15_Copied.l0 k1 (wrap64 (x4_1 + 1)) l0_0 l0_1 y192 (x192001_1 ++ [(⟨(rd_TFn l0_1 x4_1).f0, y200, (rd_TFn l0_1 x4_1).f2, y206, (y209 ++ ((rd_TFn l0_1 x4_1).f4))⟩ : SFn)])) else (none)) else (none)) = some (r1, r2) := by first | (rw [hy209]; with_reducible exact H) | (have H2_ := (Option.bind_some _ _).symm.trans H; rw [hy209]; with_reducible exact H2_) | (have H2_ := (Option.bind_some _ _).symm.trans H; with_reducible exact H2_) | with_reducible exact H | (rw [hy209]; exact H) | exact H
                have Ny209 := Aside0.mk hy209
                clear hy209
                by_cases c18 : y209.length + ((rd_TFn l0_1 x4_1).f4).length < 5864062014805
                · rw [if_pos c18] at H
                  have LMc18 := Aside0.mk c18
                  clear c18
                  obtain ⟨y212, hy212⟩ : ∃ y_ : List (SInstr), y_ = (y209 ++ ((rd_TFn l0_1 x4_1).f4)) := ⟨_, rfl⟩
                  replace H : (if x192001_1.length < 1466015503701 then (tiltyardlaw15_Copied.l0 k1 (wrap64 (x4_1 + 1)) l0_0 l0_1 y192 (x192001_1 ++ [(⟨(rd_TFn l0_1 x4_1).f0, y200, (rd_TFn l0_1 x4_1).f2, y206, y212⟩ : SFn)])) else (none)) = some (r1, r2) := by first | (rw [hy212]; with_reducible exact H) | (have H2_ := (Option.bind_some _ _).symm.trans H; rw [hy212]; with_reducible exact H2_) | (have H2_ := (Option.bind_some _ _).symm.trans H; with_reducible exact H2_) | with_reducible exact H | (rw [hy212]; exact H) | exact H
                  have Ny212 := Aside0.mk hy212
                  clear hy212
                  by_cases c19 : x192001_1.length < 1466015503701
                  · rw [if_pos c19] at H
                    have LMc19 := Aside0.mk c19
                    clear c19
                    obtain ⟨y215, hy215⟩ : ∃ y_ : List (SFn), y_ = (x192001_1 ++ [(⟨(rd_TFn l0_1 x4_1).f0, y200, (rd_TFn l0_1 x4_1).f2, y206, y212⟩ : SFn)]) := ⟨_, rfl⟩
                    replace H : (tiltyardlaw15_Copied.l0 k1 (wrap64 (x4_1 + 1)) l0_0 l0_1 y192 y215) = some (r1, r2) := by first | (rw [hy215]; with_reducible exact H) | (have H2_ := (Option.bind_some _ _).symm.trans H; rw [hy215]; with_reducible exact H2_) | (have H2_ := (Option.bind_some _ _).symm.trans H; with_reducible exact H2_) | with_reducible exact H | (rw [hy215]; exact H) | exact H
                    have Ny215 := Aside0.mk hy215
                    clear hy215
                    have H' := Aside0.mk H
                    clear H
                    have hnb20 := NB189_190.out
                    have hnc20 := NB190_189.out
                    have hnb21 := NB189_191.out
                    have hnc21 := NB191_189.out
                    have hcz22_0 : wr.cell? ⟨gb189, 0, none⟩ = some (.slice A0_0 l0_0.length c0_0) := (blk_cell BK189.out 0).trans rfl
                    have hcz22_1 : wr.cell? ⟨gb189, 1, none⟩ = some (.slice A0_1 l0_1.length c0_1) := (blk_cell BK189.out 1).trans rfl
                    have hfz22_0 := blk_frozen BK189.out 0
                    have hfz22_1 := blk_frozen BK189.out 1
                    have p195 : 0 ≤ (x4_1 : Int) := of_decide_eq_true (by first | (with_reducible assumption) | assumption)
                    have q195 : x4_1 < (l0_1.length : Int) := of_decide_eq_true (by first | (with_reducible assumption) | assumption)
                    obtain ⟨ad195, A195_1, c195_1, A195_3, c195_3, A195_4, c195_4, e195, hx195_0, hx195_1, hx195_2, hx195_3, hx195_4, hl195_1, hi195_1, hl195_3, hi195_3, hl195_4, hi195_4⟩ := at_TFn HR0_1.out x4_1 p195 q195
                    cases e195
                    replace hx195_0 := (HB.out.cell (World.block_lt_of_cell? w _ hx195_0)).trans hx195_0
                    replace hx195_1 := (HB.out.cell (World.block_lt_of_cell? w _ hx195_1)).trans hx195_1
                    replace hx195_2 := (HB.out.cell (World.block_lt_of_cell? w _ hx195_2)).trans hx195_2
                    replace hx195_3 := (HB.out.cell (World.block_lt_of_cell? w _ hx195_3)).trans hx195_3
                    replace hx195_4 := (HB.out.cell (World.block_lt_of_cell? w _ hx195_4)).trans hx195_4
                    have HR195_1 := Aside0.mk hi195_1
                    have HC195_1 := Aside0.mk hl195_1
                    clear hi195_1 hl195_1
                    have HR195_3 := Aside0.mk hi195_3
                    have HC195_3 := Aside0.mk hl195_3
                    clear hi195_3 hl195_3
                    have HR195_4 := Aside0.mk hi195_4
                    have HC195_4 := Aside0.mk hl195_4
                    clear hi195_4 hl195_4
                    replace p195 := eq_true p195
                    replace q195 := eq_true q195
                    go_wp2_with (first | ((with_reducible refine gate_dst (N := 5) rfl ?_); refine box_event ?hg (N := 5) ?hd (cs := #[.string (⟨#[]⟩ : ByteArray), .slice none 0 0, .int .i64 0, .slice none 0 0, .slice none 0 0]) (t := 35) ?hr ?_; (case hd => rfl); (case hg => rfl); (case hr => first | (go_simp; done) | (go_simp; rfl)); intro gb196 hg w23 hbox hb; have n0_ := Aside0.mk (Kd.R_below (by (with_reducible repeat (first | apply Kd.R_alloc | apply Kd.R_drewN | apply Kd.R_drew)); exact HO_192000.out) hb); have n1_ := Aside0.mk (Kd.S_below (Kd.S_elderB (by (with_reducible repeat (first | apply Kd.S_alloc | apply Kd.S_drewN | apply Kd.S_drew)); exact HO_192001.out) gb196 (Nat.le_of_eq hg.symm)) hb); have n2_ := Aside0.mk (blk_below (g := gb189) (o := .cells #[.slice A0_0 l0_0.length c0_0, .slice (some ad195) l0_1.length c0_1] 25 (0, 0)) (by (with_reducible repeat (first | refine blk_drewN ?_ _ | refine blk_drew ?_ | refine blk_alloc ?_ _)); exact BK189.out) hb); have n3_ := Aside0.mk (blk_below (g := gb190) (o := .cells #[.slice none 0 0, .slice none 0 0] 25 (0, 0)) (by (with_reducible repeat (first | refine blk_drewN ?_ _ | refine blk_drew ?_ | refine blk_alloc ?_ _)); exact BK190.out) hb); have n4_ := Aside0.mk (blk_below (g := gb191) (o := .cells #[.slice Ao12 y192.length co12, u192001] 25 (0, 0)) (by (with_reducible repeat (first | refine blk_drewN ?_ _ | refine blk_drew ?_ | refine blk_alloc ?_ _)); exact BK191.out) hb); have n5_ := Aside0.mk (below_step (by repeat (first | (with_reducible first | exact HB.out | apply below_alloc | apply pw_below_drewN | apply below_drew1 | refine below_set ?_ GE189.out | refine below_set ?_ GE190.out | refine below_set ?_ GE191.out) | exact HB.out)) hb); have n6_ := Aside0.mk (hbox); have n7_ := Aside0.mk ((by rw [hg]; exact (below_size (by repeat (first | (with_reducible first | exact HB.out | apply below_alloc | apply pw_below_drewN | apply below_drew1 | refine below_set ?_ GE189.out | refine below_set ?_ GE190.out | refine below_set ?_ GE191.out) | exact HB.out))) : w.heap.size ≤ gb196)); have n8_ := Aside0.mk ((by rw [hg]; exact (below_size (by repeat (first | (with_reducible first | exact HB.out | apply below_alloc | apply pw_below_drewN | apply below_drew1 | refine below_set ?_ GE189.out | refine below_set ?_ GE190.out | refine below_set ?_ GE191.out) | exact HB.out))) : w.heap.size ≤ gb196)); have n9_ := Aside0.mk ((by rw [hg]; exact Nat.ne_of_lt (blk_lt (g := gb189) (o := .cells #[.slice A0_0 l0_0.length c0_0, .slice (some ad195) l0_1.length c0_1] 25 (0, 0)) (by (with_reducible repeat (first | refine blk_drewN ?_ _ | refine blk_drew ?_ | refine blk_alloc ?_ _)); exact BK189.out)) : gb189 ≠ gb196)); have n10_ := Aside0.mk ((by rw [hg]; exact Nat.ne_of_gt (blk_lt (g := gb189) (o := .cells #[.slice A0_0 l0_0.length c0_0, .slice (some ad195) l0_1.length c0_1] 25 (0, 0)) (by (with_reducible repeat (first | refine blk_drewN ?_ _ | refine blk_drew ?_ | refine blk_alloc ?_ _)); exact BK189.out)) : gb196 ≠ gb189)); have n11_ := Aside0.mk ((by rw [hg]; exact Nat.ne_of_lt (blk_lt (g := gb190) (o := .cells #[.slice none 0 0, .slice none 0 0] 25 (0, 0)) (by (with_reducible repeat (first | refine blk_drewN ?_ _ | refine blk_drew ?_ | refine blk_alloc ?_ _)); exact BK190.out)) : gb190 ≠ gb196)); have n12_ := Aside0.mk ((by rw [hg]; exact Nat.ne_of_gt (blk_lt (g := gb190) (o := .cells #[.slice none 0 0, .slice none 0 0] 25 (0, 0)) (by (with_reducible repeat (first | refine blk_drewN ?_ _ | refine blk_drew ?_ | refine blk_alloc ?_ _)); exact BK190.out)) : gb196 ≠ gb190)); have n13_ := Aside0.mk ((by rw [hg]; exact Nat.ne_of_lt (blk_lt (g := gb191) (o := .cells #[.slice Ao12 y192.length co12, u192001] 25 (0, 0)) (by (with_reducible repeat (first | refine blk_drewN ?_ _ | refine blk_drew ?_ | refine blk_alloc ?_ _)); exact BK191.out)) : gb191 ≠ gb196)); have n14_ := Aside0.mk ((by rw [hg]; exact Nat.ne_of_gt (blk_lt (g := gb191) (o := .cells #[.slice Ao12 y192.length co12, u192001] 25 (0, 0)) (by (with_reducible repeat (first | refine blk_drewN ?_ _ | refine blk_drew ?_ | refine blk_alloc ?_ _)); exact BK191.out)) : gb196 ≠ gb191)); clear HO_192000; clear HO_192001; clear BK189; clear BK190; clear BK191; clear HB; have HO_192000 := n0_; have HO_192001 := n1_; have BK189 := n2_; have BK190 := n3_; have BK191 := n4_; have HB := n5_; have BK196 := n6_; have GW196 := n7_; have GE196 := n8_; have NB189_196 := n9_; have NB196_189 := n10_; have NB190_196 := n11_; have NB196_190 := n12_; have NB191_196 := n13_; have NB196_191 := n14_; clear n0_ n1_ n2_ n3_ n4_ n5_ n6_ n7_ n8_ n9_ n10_ n11_ n12_ n13_ n14_; clear hb hbox hg; have hnb24 := NB196_189.out; have hnc24 := NB189_196.out; have hnb25 := NB196_190.out; have hnc25 := NB190_196.out; have hnb26 := NB196_191.out; have hnc26 := NB191_196.out; have hcz27_0 : w23.cell? ⟨gb196, 0, none⟩ = some (.string (⟨#[]⟩ : ByteArray)) := (blk_cell BK196.out 0).trans rfl; have hcz27_1 : w23.cell? ⟨gb196, 1, none⟩ = some (.slice none 0 0) := (blk_cell BK196.out 1).trans rfl; have hcz27_2 : w23.cell? ⟨gb196, 2, none⟩ = some (.int .i64 0) := (blk_cell BK196.out 2).trans rfl; have hcz27_3 : w23.cell? ⟨gb196, 3, none⟩ = some (.slice none 0 0) := (blk_cell BK196.out 3).trans rfl; have hcz27_4 : w23.cell? ⟨gb196, 4, none⟩ = some (.slice none 0 0) := (blk_cell BK196.out 4).trans rfl; have hfz27_0 := blk_frozen BK196.out 0; have hfz27_1 := blk_frozen BK196.out 1; have hfz27_2 := blk_frozen BK196.out 2; have hfz27_3 := blk_frozen BK196.out 3; have hfz27_4 := blk_frozen BK196.out 4) | ((with_reducible refine gate_dst (N := 24) rfl ?_); refine Kd.R_lit (Kd.int .i64) _ 3 ?hg (N := 24) ?hd (xs := ([] : List Int)) (inner := []) (ok := fun _ => True) (okp := fun _ => True) ?hr ?hp (fun _ hk => hk) trivial (Below.refl _ _) (Nat.le_refl _) (by simp) ?_; (case hd => rfl); (case hg => rfl); (case hr => first | (go_simp; done) | (go_simp; rfl)); (case hp => exact (Reps.none _ _)); intro v198 w28 ho29 hb hg_ hnew_; clear hg_ hnew_; (first | rw [← Ny197.out] at ho29 | (simp only [Int.reduceToNat] at ho29; rw [← Ny197.out] at ho29)); have n0_ := Aside0.mk (Kd.R_below (by (with_reducible repeat (first | apply Kd.R_alloc | apply Kd.R_drewN | apply Kd.R_drew)); exact (Kd.R_mono (Kd.R_far (p := ⟨gb196, 4, none⟩) (Kd.R_far (p := ⟨gb196, 3, none⟩) (Kd.R_far (p := ⟨gb196, 2, none⟩) (Kd.R_far (p := ⟨gb196, 1, none⟩) (Kd.R_far (p := ⟨gb196, 0, none⟩) (Kd.R_types HO_192000.out BK196.out (by decide)) (fun _ hk => hk.2) (.string ((rd_TFn l0_1 x4_1).f0))) (fun _ hk => hk.2) (.slice A195_1 ((rd_TFn l0_1 x4_1).f1).length c195_1)) (fun _ hk => hk.2) (.int .i64 ((rd_TFn l0_1 x4_1).f2))) (fun _ hk => hk.2) (.slice A195_3 ((rd_TFn l0_1 x4_1).f3).length c195_3)) (fun _ hk => hk.2) (.slice A195_4 ((rd_TFn l0_1 x4_1).f4).length c195_4)) (fun _ h_ => h_.1))) hb); have n1_ := Aside0.mk (Kd.S_elder' (by (with_reducible repeat (first | apply Kd.S_alloc | apply Kd.S_drewN | apply Kd.S_drew)); exact (Kd.S_mono (Kd.S_far (p := ⟨gb196, 4, none⟩) (Kd.S_far (p := ⟨gb196, 3, none⟩) (Kd.S_far (p := ⟨gb196, 2, none⟩) (Kd.S_far (p := ⟨gb196, 1, none⟩) (Kd.S_far (p := ⟨gb196, 0, none⟩) (Kd.S_mono HO_192001.out (fun k_ hk => (⟨hk, hk.2⟩ : _ ∧ k_ ≠ gb196))) (fun _ hk => hk.2) (.string ((rd_TFn l0_1 x4_1).f0))) (fun _ hk => hk.2) (.slice A195_1 ((rd_TFn l0_1 x4_1).f1).length c195_1)) (fun _ hk => hk.2) (.int .i64 ((rd_TFn l0_1 x4_1).f2))) (fun _ hk => hk.2) (.slice A195_3 ((rd_TFn l0_1 x4_1).f3).length c195_3)) (fun _ hk => hk.2) (.slice A195_4 ((rd_TFn l0_1 x4_1).f4).length c195_4)) (fun _ h_ => h_.1))) (Kd.R_base ho29) hb); have n2_ := Aside0.mk (Kd.R_lower ho29 (below_size (by repeat (first | (with_reducible first | exact HB.out | apply below_alloc | apply pw_below_drewN | apply below_drew1 | refine below_set ?_ GE189.out | refine below_set ?_ GE190.out | refine below_set ?_ GE191.out | refine below_set ?_ GE196.out) | exact HB.out)))); have n3_ := Aside0.mk (blk_below (g := gb189) (o := .cells #[.slice A0_0 l0_0.length c0_0, .slice (some ad195) l0_1.length c0_1] 25 (0, 0)) (by (with_reducible repeat (first | refine blk_drewN ?_ _ | refine blk_drew ?_ | refine blk_alloc ?_ _)); refine blk_far ?_ NB189_196.out _; (with_reducible repeat (first | refine blk_drewN ?_ _ | refine blk_drew ?_ | refine blk_alloc ?_ _)); refine blk_far ?_ NB189_196.out _; (with_reducible repeat (first | refine blk_drewN ?_ _ | refine blk_drew ?_ | refine blk_alloc ?_ _)); refine blk_far ?_ NB189_196.out _; (with_reducible repeat (first | refine blk_drewN ?_ _ | refine blk_drew ?_ | refine blk_alloc ?_ _)); refine blk_far ?_ NB189_196.out _; (with_reducible repeat (first | refine blk_drewN ?_ _ | refine blk_drew ?_ | refine blk_alloc ?_ _)); refine blk_far ?_ NB189_196.out _; (with_reducible repeat (first | refine blk_drewN ?_ _ | refine blk_drew ?_ | refine blk_alloc ?_ _)); exact BK189.out) hb); have n4_ := Aside0.mk (blk_below (g := gb190) (o := .cells #[.slice none 0 0, .slice none 0 0] 25 (0, 0)) (by (with_reducible repeat (first | refine blk_drewN ?_ _ | refine blk_drew ?_ | refine blk_alloc ?_ _)); refine blk_far ?_ NB190_196.out _; (with_reducible repeat (first | refine blk_drewN ?_ _ | refine blk_drew ?_ | refine blk_alloc ?_ _)); refine blk_far ?_ NB190_196.out _; (with_reducible repeat (first | refine blk_drewN ?_ _ | refine blk_drew ?_ | refine blk_alloc ?_ _)); refine blk_far ?_ NB190_196.out _; (with_reducible repeat (first | refine blk_drewN ?_ _ | refine blk_drew ?_ | refine blk_alloc ?_ _)); refine blk_far ?_ NB190_196.out _; (with_reducible repeat (first | refine blk_drewN ?_ _ | refine blk_drew ?_ | refine blk_alloc ?_ _)); refine blk_far ?_ NB190_196.out _; (with_reducible repeat (first | refine blk_drewN ?_ _ | refine blk_drew ?_ | refine blk_alloc ?_ _)); exact BK190.out) hb); have n5_ := Aside0.mk (blk_below (g := gb191) (o := .cells #[.slice Ao12 y192.length co12, u192001] 25 (0, 0)) (by (with_reducible repeat (first | refine blk_drewN ?_ _ | refine blk_drew ?_ | refine blk_alloc ?_ _)); refine blk_far ?_ NB191_196.out _; (with_reducible repeat (first | refine blk_drewN ?_ _ | refine blk_drew ?_ | refine blk_alloc ?_ _)); refine blk_far ?_ NB191_196.out _; (with_reducible repeat (first | refine blk_drewN ?_ _ | refine blk_drew ?_ | refine blk_alloc ?_ _)); refine blk_far ?_ NB191_196.out _; (with_reducible repeat (first | refine blk_drewN ?_ _ | refine blk_drew ?_ | refine blk_alloc ?_ _)); refine blk_far ?_ NB191_196.out _; (with_reducible repeat (first | refine blk_drewN ?_ _ | refine blk_drew ?_ | refine blk_alloc ?_ _)); refine blk_far ?_ NB191_196.out _; (with_reducible repeat (first | refine blk_drewN ?_ _ | refine blk_drew ?_ | refine blk_alloc ?_ _)); exact BK191.out) hb); have n6_ := Aside0.mk (blk_below (g := gb196) (o := .cells #[.string ((rd_TFn l0_1 x4_1).f0), .slice A195_1 ((rd_TFn l0_1 x4_1).f1).length c195_1, .int .i64 ((rd_TFn l0_1 x4_1).f2), .slice A195_3 ((rd_TFn l0_1 x4_1).f3).length c195_3, .slice A195_4 ((rd_TFn l0_1 x4_1).f4).length c195_4] 35 (0, 0)) (by (with_reducible repeat (first | refine blk_drewN ?_ _ | refine blk_drew ?_ | refine blk_alloc ?_ _)); refine blk_put (cs := #[.string ((rd_TFn l0_1 x4_1).f0), .slice A195_1 ((rd_TFn l0_1 x4_1).f1).length c195_1, .int .i64 ((rd_TFn l0_1 x4_1).f2), .slice A195_3 ((rd_TFn l0_1 x4_1).f3).length c195_3, .slice none 0 0]) ?_ 4 _ rfl; (with_reducible repeat (first | refine blk_drewN ?_ _ | refine blk_drew ?_ | refine blk_alloc ?_ _)); refine blk_put (cs := #[.string ((rd_TFn l0_1 x4_1).f0), .slice A195_1 ((rd_TFn l0_1 x4_1).f1).length c195_1, .int .i64 ((rd_TFn l0_1 x4_1).f2), .slice none 0 0, .slice none 0 0]) ?_ 3 _ rfl; (with_reducible repeat (first | refine blk_drewN ?_ _ | refine blk_drew ?_ | refine blk_alloc ?_ _)); refine blk_put (cs := #[.string ((rd_TFn l0_1 x4_1).f0), .slice A195_1 ((rd_TFn l0_1 x4_1).f1).length c195_1, .int .i64 0, .slice none 0 0, .slice none 0 0]) ?_ 2 _ rfl; (with_reducible repeat (first | refine blk_drewN ?_ _ | refine blk_drew ?_ | refine blk_alloc ?_ _)); refine blk_put (cs := #[.string ((rd_TFn l0_1 x4_1).f0), .slice none 0 0, .int .i64 0, .slice none 0 0, .slice none 0 0]) ?_ 1 _ rfl; (with_reducible repeat (first | refine blk_drewN ?_ _ | refine blk_drew ?_ | refine blk_alloc ?_ _)); refine blk_put (cs := #[.string (⟨#[]⟩ : ByteArray), .slice none 0 0, .int .i64 0, .slice none 0 0, .slice none 0 0]) ?_ 0 _ rfl; (with_reducible repeat (first | refine blk_drewN ?_ _ | refine blk_drew ?_ | refine blk_alloc ?_ _)); exact BK196.out) hb); have n7_ := Aside0.mk (below_step (by repeat (first | (with_reducible first | exact HB.out | apply below_alloc | apply pw_below_drewN | apply below_drew1 | refine below_set ?_ GE189.out | refine below_set ?_ GE190.out | refine below_set ?_ GE191.out | refine below_set ?_ GE196.out) | exact HB.out)) hb); clear HO_192000; clear HO_192001; clear BK189; clear BK190; clear BK191; clear BK196; clear HB; have HO_192000 := n0_; have HO_192001 := n1_; have HO199 := n2_; have BK189 := n3_; have BK190 := n4_; have BK191 := n5_; have BK196 := n6_; have HB := n7_; clear n0_ n1_ n2_ n3_ n4_ n5_ n6_ n7_; clear hb ho29; have hcz30_0 : w28.cell? ⟨gb196, 0, none⟩ = some (.string ((rd_TFn l0_1 x4_1).f0)) := (blk_cell BK196.out 0).trans rfl; have hcz30_1 : w28.cell? ⟨gb196, 1, none⟩ = some (.slice A195_1 ((rd_TFn l0_1 x4_1).f1).length c195_1) := (blk_cell BK196.out 1).trans rfl; have hcz30_2 : w28.cell? ⟨gb196, 2, none⟩ = some (.int .i64 ((rd_TFn l0_1 x4_1).f2)) := (blk_cell BK196.out 2).trans rfl; have hcz30_3 : w28.cell? ⟨gb196, 3, none⟩ = some (.slice A195_3 ((rd_TFn l0_1 x4_1).f3).length c195_3) := (blk_cell BK196.out 3).trans rfl; have hcz30_4 : w28.cell? ⟨gb196, 4, none⟩ = some (.slice A195_4 ((rd_TFn l0_1 x4_1).f4).length c195_4) := (blk_cell BK196.out 4).trans rfl; have hfz30_0 := blk_frozen BK196.out 0; have hfz30_1 := blk_frozen BK196.out 1; have hfz30_2 := blk_frozen BK196.out 2; have hfz30_3 := blk_frozen BK196.out 3; have hfz30_4 := blk_frozen BK196.out 4) | ((with_reducible refine gate_builtin (b := .append) (xs := #[.tmp 24, .tmp 26]) rfl ?_); at_builtin; refine Kd.R_append_rows (Kd.int .i64) (w0 := w) w.heap.size rfl (.tmp 24) (.tmp 26) 33 3 (.int .i64 0) 8 rfl Tryd.underlying33 infoInt rfl (by decide) (by omega) v198 y197 ((rd_TFn l0_1 x4_1).f1) _ _ _ (fun _ => True) (fun _ => False) rfl rfl ?aO ?aR (fun _ _ h => h) (fun _ h => h.elim) ?aF ?aB ?aS ?aL ?_; (case aR => repeat (first | exact (Kd.C_below HR195_1.out HB.out) | (with_reducible refine Kd.C_alloc ?_ _) | (with_reducible refine Kd.C_drewN ?_ _) | (with_reducible refine Kd.C_drew ?_))); (case aB => exact (by repeat (first | (with_reducible first | exact HB.out | apply below_alloc | apply pw_below_drewN | apply below_drew1 | refine below_set ?_ GE189.out | refine below_set ?_ GE190.out | refine below_set ?_ GE191.out | refine below_set ?_ GE196.out) | exact HB.out))); (case aF => exact (fun _ _ => trivial)); (case aO => exact (by (with_reducible repeat (first | apply Kd.R_alloc | apply Kd.R_drewN | apply Kd.R_drew)); exact HO199.out)); (case aS => exact (below_size (by repeat (first | (with_reducible first | exact HB.out | apply below_alloc | apply pw_below_drewN | apply below_drew1 | refine below_set ?_ GE189.out | refine below_set ?_ GE190.out | refine below_set ?_ GE191.out | refine below_set ?_ GE196.out) | exact HB.out)))); (case aL => have := LMc16.out; omega); intro v201 w31 ho hb hg hat; rw [← Ny200.out] at ho; have n0_ := Aside0.mk (Kd.R_over' (by (with_reducible repeat (first | apply Kd.R_alloc | apply Kd.R_drewN | apply Kd.R_drew)); exact HO_192000.out) (Kd.R_typed (by (with_reducible repeat (first | apply Kd.R_alloc | apply Kd.R_drewN | apply Kd.R_drew)); exact HO199.out)) (by decide) hg); have n1_ := Aside0.mk (Kd.S_after (ok := (fun k_ => k_ ≠ gb196)) (by (with_reducible repeat (first | apply Kd.S_alloc | apply Kd.S_drewN | apply Kd.S_drew)); exact Kd.S_mono HO_192001.out (fun _ hk => ⟨hk.1.2, hk.2⟩)) hg hat); have n2_ := Aside0.mk (blk_grown (g := gb189) (o := .cells #[.slice A0_0 l0_0.length c0_0, .slice (some ad195) l0_1.length c0_1] 25 (0, 0)) (by (with_reducible repeat (first | refine blk_drewN ?_ _ | refine blk_drew ?_ | refine blk_alloc ?_ _)); exact BK189.out) hg (Kd.R_ne HO199.out BK189.out (by decide))); have n3_ := Aside0.mk (blk_grown (g := gb190) (o := .cells #[.slice none 0 0, .slice none 0 0] 25 (0, 0)) (by (with_reducible repeat (first | refine blk_drewN ?_ _ | refine blk_drew ?_ | refine blk_alloc ?_ _)); exact BK190.out) hg (Kd.R_ne HO199.out BK190.out (by decide))); have n4_ := Aside0.mk (blk_grown (g := gb191) (o := .cells #[.slice Ao12 y192.length co12, u192001] 25 (0, 0)) (by (with_reducible repeat (first | refine blk_drewN ?_ _ | refine blk_drew ?_ | refine blk_alloc ?_ _)); exact BK191.out) hg (Kd.R_ne HO199.out BK191.out (by decide))); have n5_ := Aside0.mk (blk_grown (g := gb196) (o := .cells #[.string ((rd_TFn l0_1 x4_1).f0), .slice A195_1 ((rd_TFn l0_1 x4_1).f1).length c195_1, .int .i64 ((rd_TFn l0_1 x4_1).f2), .slice A195_3 ((rd_TFn l0_1 x4_1).f3).length c195_3, .slice A195_4 ((rd_TFn l0_1 x4_1).f4).length c195_4] 35 (0, 0)) (by (with_reducible repeat (first | refine blk_drewN ?_ _ | refine blk_drew ?_ | refine blk_alloc ?_ _)); exact BK196.out) hg (Kd.R_ne HO199.out BK196.out (by decide))); have n6_ := Aside0.mk (hb); have n7_ := Aside0.mk (ho); clear HO_192000; clear HO_192001; clear BK189; clear BK190; clear BK191; clear BK196; clear HB; clear HO199; have HO_192000 := n0_; have HO_192001 := n1_; have BK189 := n2_; have BK190 := n3_; have BK191 := n4_; have BK196 := n5_; have HB := n6_; have HO202 := n7_; clear n0_ n1_ n2_ n3_ n4_ n5_ n6_ n7_; clear ho hb hg hat; obtain ⟨Ao32, co32, eo32⟩ := Kd.R_slice HO202.out; subst eo32; have hcz33_0 : w31.cell? ⟨gb196, 0, none⟩ = some (.string ((rd_TFn l0_1 x4_1).f0)) := (blk_cell BK196.out 0).trans rfl; have hcz33_1 : w31.cell? ⟨gb196, 1, none⟩ = some (.slice A195_1 ((rd_TFn l0_1 x4_1).f1).length c195_1) := (blk_cell BK196.out 1).trans rfl; have hcz33_2 : w31.cell? ⟨gb196, 2, none⟩ = some (.int .i64 ((rd_TFn l0_1 x4_1).f2)) := (blk_cell BK196.out 2).trans rfl; have hcz33_3 : w31.cell? ⟨gb196, 3, none⟩ = some (.slice A195_3 ((rd_TFn l0_1 x4_1).f3).length c195_3) := (blk_cell BK196.out 3).trans rfl; have hcz33_4 : w31.cell? ⟨gb196, 4, none⟩ = some (.slice A195_4 ((rd_TFn l0_1 x4_1).f4).length c195_4) := (blk_cell BK196.out 4).trans rfl; have hfz33_0 := blk_frozen BK196.out 0; have hfz33_1 := blk_frozen BK196.out 1; have hfz33_2 := blk_frozen BK196.out 2; have hfz33_3 := blk_frozen BK196.out 3; have hfz33_4 := blk_frozen BK196.out 4) | ((with_reducible refine gate_dst (N := 29) rfl ?_); refine Kd.R_lit (Kd.int .i64) _ 3 ?hg (N := 29) ?hd (xs := ([] : List Int)) (inner := []) (ok := fun _ => True) (okp := fun _ => True) ?hr ?hp (fun _ hk => hk) trivial (Below.refl _ _) (Nat.le_refl _) (by simp) ?_; (case hd => rfl); (case hg => rfl); (case hr => first | (go_simp; done) | (go_simp; rfl)); (case hp => exact (Reps.none _ _)); intro v204 w34 ho35 hb hg_ hnew_; clear hg_ hnew_; (first | rw [← Ny203.out] at ho35 | (simp only [Int.reduceToNat] at ho35; rw [← Ny203.out] at ho35)); have n0_ := Aside0.mk (Kd.R_below (by (with_reducible repeat (first | apply Kd.R_alloc | apply Kd.R_drewN | apply Kd.R_drew)); exact (Kd.R_mono (Kd.R_far (p := ⟨gb196, 1, none⟩) (Kd.R_types HO_192000.out BK196.out (by decide)) (fun _ hk => hk.2) (.slice Ao32 y200.length co32)) (fun _ h_ => h_.1))) hb); have n1_ := Aside0.mk (Kd.S_elder' (by (with_reducible repeat (first | apply Kd.S_alloc | apply Kd.S_drewN | apply Kd.S_drew)); exact (Kd.S_mono (Kd.S_far (p := ⟨gb196, 1, none⟩) (Kd.S_mono HO_192001.out (fun k_ hk => (⟨hk, hk.1⟩ : _ ∧ k_ ≠ gb196))) (fun _ hk => hk.2) (.slice Ao32 y200.length co32)) (fun _ h_ => h_.1))) (Kd.R_base ho35) hb); have n2_ := Aside0.mk (Kd.R_elder' (by (with_reducible repeat (first | apply Kd.R_alloc | apply Kd.R_drewN | apply Kd.R_drew)); exact (Kd.R_mono (Kd.R_far (p := ⟨gb196, 1, none⟩) (Kd.R_types HO202.out BK196.out (by decide)) (fun _ hk => hk.2) (.slice Ao32 y200.length co32)) (fun _ h_ => h_.1))) (Kd.R_base ho35) hb); have n3_ := Aside0.mk (Kd.R_lower (Kd.R_new' ho35 (Kd.R_lt (by (with_reducible repeat (first | apply Kd.R_alloc | apply Kd.R_drewN | apply Kd.R_drew)); exact (Kd.R_mono (Kd.R_far (p := ⟨gb196, 1, none⟩) (Kd.R_types HO202.out BK196.out (by decide)) (fun _ hk => hk.2) (.slice Ao32 y200.length co32)) (fun _ h_ => h_.1))))) (below_size (by repeat (first | (with_reducible first | exact HB.out | apply below_alloc | apply pw_below_drewN | apply below_drew1 | refine below_set ?_ GE189.out | refine below_set ?_ GE190.out | refine below_set ?_ GE191.out | refine below_set ?_ GE196.out) | exact HB.out)))); have n4_ := Aside0.mk (blk_below (g := gb189) (o := .cells #[.slice A0_0 l0_0.length c0_0, .slice (some ad195) l0_1.length c0_1] 25 (0, 0)) (by (with_reducible repeat (first | refine blk_drewN ?_ _ | refine blk_drew ?_ | refine blk_alloc ?_ _)); refine blk_far ?_ NB189_196.out _; (with_reducible repeat (first | refine blk_drewN ?_ _ | refine blk_drew ?_ | refine blk_alloc ?_ _)); exact BK189.out) hb); have n5_ := Aside0.mk (blk_below (g := gb190) (o := .cells #[.slice none 0 0, .slice none 0 0] 25 (0, 0)) (by (with_reducible repeat (first | refine blk_drewN ?_ _ | refine blk_drew ?_ | refine blk_alloc ?_ _)); refine blk_far ?_ NB190_196.out _; (with_reducible repeat (first | refine blk_drewN ?_ _ | refine blk_drew ?_ | refine blk_alloc ?_ _)); exact BK190.out) hb); have n6_ := Aside0.mk (blk_below (g := gb191) (o := .cells #[.slice Ao12 y192.length co12, u192001] 25 (0, 0)) (by (with_reducible repeat (first | refine blk_drewN ?_ _ | refine blk_drew ?_ | refine blk_alloc ?_ _)); refine blk_far ?_ NB191_196.out _; (with_reducible repeat (first | refine blk_drewN ?_ _ | refine blk_drew ?_ | refine blk_alloc ?_ _)); exact BK191.out) hb); have n7_ := Aside0.mk (blk_below (g := gb196) (o := .cells #[.string ((rd_TFn l0_1 x4_1).f0), .slice Ao32 y200.length co32, .int .i64 ((rd_TFn l0_1 x4_1).f2), .slice A195_3 ((rd_TFn l0_1 x4_1).f3).length c195_3, .slice A195_4 ((rd_TFn l0_1 x4_1).f4).length c195_4] 35 (0, 0)) (by (with_reducible repeat (first | refine blk_drewN ?_ _ | refine blk_drew ?_ | refine blk_alloc ?_ _)); refine blk_put (cs := #[.string ((rd_TFn l0_1 x4_1).f0), .slice A195_1 ((rd_TFn l0_1 x4_1).f1).length c195_1, .int .i64 ((rd_TFn l0_1 x4_1).f2), .slice A195_3 ((rd_TFn l0_1 x4_1).f3).length c195_3, .slice A195_4 ((rd_TFn l0_1 x4_1).f4).length c195_4]) ?_ 1 _ rfl; (with_reducible repeat (first | refine blk_drewN ?_ _ | refine blk_drew ?_ | refine blk_alloc ?_ _)); exact BK196.out) hb); have n8_ := Aside0.mk (below_step (by repeat (first | (with_reducible first | exact HB.out | apply below_alloc | apply pw_below_drewN | apply below_drew1 | refine below_set ?_ GE189.out | refine below_set ?_ GE190.out | refine below_set ?_ GE191.out | refine below_set ?_ GE196.out) | exact HB.out)) hb); clear HO_192000; clear HO_192001; clear HO202; clear BK189; clear BK190; clear BK191; clear BK196; clear HB; have HO_192000 := n0_; have HO_192001 := n1_; have HO202 := n2_; have HO205 := n3_; have BK189 := n4_; have BK190 := n5_; have BK191 := n6_; have BK196 := n7_; have HB := n8_; clear n0_ n1_ n2_ n3_ n4_ n5_ n6_ n7_ n8_; clear hb ho35; have hcz36_0 : w34.cell? ⟨gb196, 0, none⟩ = some (.string ((rd_TFn l0_1 x4_1).f0)) := (blk_cell BK196.out 0).trans rfl; have hcz36_1 : w34.cell? ⟨gb196, 1, none⟩ = some (.slice Ao32 y200.length co32) := (blk_cell BK196.out 1).trans rfl; have hcz36_2 : w34.cell? ⟨gb196, 2, none⟩ = some (.int .i64 ((rd_TFn l0_1 x4_1).f2)) := (blk_cell BK196.out 2).trans rfl; have hcz36_3 : w34.cell? ⟨gb196, 3, none⟩ = some (.slice A195_3 ((rd_TFn l0_1 x4_1).f3).length c195_3) := (blk_cell BK196.out 3).trans rfl; have hcz36_4 : w34.cell? ⟨gb196, 4, none⟩ = some (.slice A195_4 ((rd_TFn l0_1 x4_1).f4).length c195_4) := (blk_cell BK196.out 4).trans rfl; have hfz36_0 := blk_frozen BK196.out 0; have hfz36_1 := blk_frozen BK196.out 1; have hfz36_2 := blk_frozen BK196.out 2; have hfz36_3 := blk_frozen BK196.out 3; have hfz36_4 := blk_frozen BK196.out 4) | ((with_reducible refine gate_builtin (b := .append) (xs := #[.tmp 29, .tmp 31]) rfl ?_); at_builtin; refine Kd.R_append_rows (Kd.int .i64) (w0 := w) w.heap.size rfl (.tmp 29) (.tmp 31) 33 3 (.int .i64 0) 8 rfl Tryd.underlying33 infoInt rfl (by decide) (by omega) v204 y203 ((rd_TFn l0_1 x4_1).f3) _ _ _ (fun k_ => some k_ ≠ (.slice Ao32 y200.length co32 : Value).ownBlock) (fun _ => False) rfl rfl ?aO ?aR (fun _ _ h => h) (fun _ h => h.elim) ?aF ?aB ?aS ?aL ?_; (case aR => repeat (first | exact (Kd.C_below HR195_3.out HB.out) | (with_reducible refine Kd.C_alloc ?_ _) | (with_reducible refine Kd.C_drewN ?_ _) | (with_reducible refine Kd.C_drew ?_))); (case aB => exact (by repeat (first | (with_reducible first | exact HB.out | apply below_alloc | apply pw_below_drewN | apply below_drew1 | refine below_set ?_ GE189.out | refine below_set ?_ GE190.out | refine below_set ?_ GE191.out | refine below_set ?_ GE196.out) | exact HB.out))); (case aF => exact (fun k_ hk => Kd.fresh' (Kd.R_lt (by (with_reducible repeat (first | apply Kd.R_alloc | apply Kd.R_drewN | apply Kd.R_drew)); exact HO202.out)) k_ hk)); (case aO => exact (by (with_reducible repeat (first | apply Kd.R_alloc | apply Kd.R_drewN | apply Kd.R_drew)); exact Kd.R_mono HO205.out (fun _ hk => hk.2))); (case aS => exact (below_size (by repeat (first | (with_reducible first | exact HB.out | apply below_alloc | apply pw_below_drewN | apply below_drew1 | refine below_set ?_ GE189.out | refine below_set ?_ GE190.out | refine below_set ?_ GE191.out | refine below_set ?_ GE196.out) | exact HB.out)))); (case aL => have := LMc17.out; omega); intro v207 w37 ho hb hg hat; rw [← Ny206.out] at ho; have n0_ := Aside0.mk (Kd.R_over' (by (with_reducible repeat (first | apply Kd.R_alloc | apply Kd.R_drewN | apply Kd.R_drew)); exact HO_192000.out) (Kd.R_typed (by (with_reducible repeat (first | apply Kd.R_alloc | apply Kd.R_drewN | apply Kd.R_drew)); exact HO205.out)) (by decide) hg); have n1_ := Aside0.mk (Kd.S_after (ok := (fun k_ => some k_ ≠ (.slice Ao32 y200.length co32 : Value).ownBlock ∧ k_ ≠ gb196)) (by (with_reducible repeat (first | apply Kd.S_alloc | apply Kd.S_drewN | apply Kd.S_drew)); exact Kd.S_mono HO_192001.out (fun _ hk => ⟨⟨hk.1.2, hk.1.1⟩, hk.2⟩)) hg hat); have n2_ := Aside0.mk (blk_grown (g := gb189) (o := .cells #[.slice A0_0 l0_0.length c0_0, .slice (some ad195) l0_1.length c0_1] 25 (0, 0)) (by (with_reducible repeat (first | refine blk_drewN ?_ _ | refine blk_drew ?_ | refine blk_alloc ?_ _)); exact BK189.out) hg (Kd.R_ne HO205.out BK189.out (by decide))); have n3_ := Aside0.mk (blk_grown (g := gb190) (o := .cells #[.slice none 0 0, .slice none 0 0] 25 (0, 0)) (by (with_reducible repeat (first | refine blk_drewN ?_ _ | refine blk_drew ?_ | refine blk_alloc ?_ _)); exact BK190.out) hg (Kd.R_ne HO205.out BK190.out (by decide))); have n4_ := Aside0.mk (blk_grown (g := gb191) (o := .cells #[.slice Ao12 y192.length co12, u192001] 25 (0, 0)) (by (with_reducible repeat (first | refine blk_drewN ?_ _ | refine blk_drew ?_ | refine blk_alloc ?_ _)); exact BK191.out) hg (Kd.R_ne HO205.out BK191.out (by decide))); have n5_ := Aside0.mk (blk_grown (g := gb196) (o := .cells #[.string ((rd_TFn l0_1 x4_1).f0), .slice Ao32 y200.length co32, .int .i64 ((rd_TFn l0_1 x4_1).f2), .slice A195_3 ((rd_TFn l0_1 x4_1).f3).length c195_3, .slice A195_4 ((rd_TFn l0_1 x4_1).f4).length c195_4] 35 (0, 0)) (by (with_reducible repeat (first | refine blk_drewN ?_ _ | refine blk_drew ?_ | refine blk_alloc ?_ _)); exact BK196.out) hg (Kd.R_ne HO205.out BK196.out (by decide))); have n6_ := Aside0.mk (Kd.R_after (ok := (fun _ => True)) (by (with_reducible repeat (first | apply Kd.R_alloc | apply Kd.R_drewN | apply Kd.R_drew)); exact HO202.out) hg hat); have n7_ := Aside0.mk (hb); have n8_ := Aside0.mk (ho); clear HO_192000; clear HO_192001; clear BK189; clear BK190; clear BK191; clear BK196; clear HO202; clear HB; clear HO205; have HO_192000 := n0_; have HO_192001 := n1_; have BK189 := n2_; have BK190 := n3_; have BK191 := n4_; have BK196 := n5_; have HO202 := n6_; have HB := n7_; have HO208 := n8_; clear n0_ n1_ n2_ n3_ n4_ n5_ n6_ n7_ n8_; clear ho hb hg hat; obtain ⟨Ao38, co38, eo38⟩ := Kd.R_slice HO208.out; subst eo38; have hcz39_0 : w37.cell? ⟨gb196, 0, none⟩ = some (.string ((rd_TFn l0_1 x4_1).f0)) := (blk_cell BK196.out 0).trans rfl; have hcz39_1 : w37.cell? ⟨gb196, 1, none⟩ = some (.slice Ao32 y200.length co32) := (blk_cell BK196.out 1).trans rfl; have hcz39_2 : w37.cell? ⟨gb196, 2, none⟩ = some (.int .i64 ((rd_TFn l0_1 x4_1).f2)) := (blk_cell BK196.out 2).trans rfl; have hcz39_3 : w37.cell? ⟨gb196, 3, none⟩ = some (.slice A195_3 ((rd_TFn l0_1 x4_1).f3).length c195_3) := (blk_cell BK196.out 3).trans rfl; have hcz39_4 : w37.cell? ⟨gb196, 4, none⟩ = some (.slice A195_4 ((rd_TFn l0_1 x4_1).f4).length c195_4) := (blk_cell BK196.out 4).trans rfl; have hfz39_0 := blk_frozen BK196.out 0; have hfz39_1 := blk_frozen BK196.out 1; have hfz39_2 := blk_frozen BK196.out 2; have hfz39_3 := blk_frozen BK196.out 3; have hfz39_4 := blk_frozen BK196.out 4) | ((with_reducible refine gate_dst (N := 34) rfl ?_); refine Kd.R_lit kInstr _ 38 ?hg (N := 34) ?hd (xs := ([] : List (SInstr))) (inner := []) (ok := fun _ => True) (okp := fun _ => True) ?hr ?hp (fun _ hk => hk) trivial (Below.refl _ _) (Nat.le_refl _) (by simp) ?_; (case hd => rfl); (case hg => rfl); (case hr => first | (go_simp; done) | (go_simp; rfl)); (case hp => exact (Reps.none _ _)); intro v210 w40 ho41 hb hg_ hnew_; clear hg_ hnew_; (first | rw [← Ny209.out] at ho41 | (simp only [Int.reduceToNat] at ho41; rw [← Ny209.out] at ho41)); have n0_ := Aside0.mk (Kd.R_below (by (with_reducible repeat (first | apply Kd.R_alloc | apply Kd.R_drewN | apply Kd.R_drew)); exact (Kd.R_mono (Kd.R_far (p := ⟨gb196, 3, none⟩) (Kd.R_types HO_192000.out BK196.out (by decide)) (fun _ hk => hk.2) (.slice Ao38 y206.length co38)) (fun _ h_ => h_.1))) hb); have n1_ := Aside0.mk (Kd.S_elder' (by (with_reducible repeat (first | apply Kd.S_alloc | apply Kd.S_drewN | apply Kd.S_drew)); exact (Kd.S_mono (Kd.S_far (p := ⟨gb196, 3, none⟩) (Kd.S_mono HO_192001.out (fun k_ hk => (⟨hk, hk.1.2⟩ : _ ∧ k_ ≠ gb196))) (fun _ hk => hk.2) (.slice Ao38 y206.length co38)) (fun _ h_ => h_.1))) (Kd.R_base ho41) hb); have n2_ := Aside0.mk (Kd.R_below (by (with_reducible repeat (first | apply Kd.R_alloc | apply Kd.R_drewN | apply Kd.R_drew)); exact (Kd.R_mono (Kd.R_far (p := ⟨gb196, 3, none⟩) (Kd.R_types HO202.out BK196.out (by decide)) (fun _ hk => hk.2) (.slice Ao38 y206.length co38)) (fun _ h_ => h_.1))) hb); have n3_ := Aside0.mk (Kd.R_below (by (with_reducible repeat (first | apply Kd.R_alloc | apply Kd.R_drewN | apply Kd.R_drew)); exact (Kd.R_mono (Kd.R_far (p := ⟨gb196, 3, none⟩) (Kd.R_types HO208.out BK196.out (by decide)) (fun _ hk => hk.2) (.slice Ao38 y206.length co38)) (fun _ h_ => h_.1))) hb); have n4_ := Aside0.mk (Kd.R_lower ho41 (below_size (by repeat (first | (with_reducible first | exact HB.out | apply below_alloc | apply pw_below_drewN | apply below_drew1 | refine below_set ?_ GE189.out | refine below_set ?_ GE190.out | refine below_set ?_ GE191.out | refine below_set ?_ GE196.out) | exact HB.out)))); have n5_ := Aside0.mk (blk_below (g := gb189) (o := .cells #[.slice A0_0 l0_0.length c0_0, .slice (some ad195) l0_1.length c0_1] 25 (0, 0)) (by (with_reducible repeat (first | refine blk_drewN ?_ _ | refine blk_drew ?_ | refine blk_alloc ?_ _)); refine blk_far ?_ NB189_196.out _; (with_reducible repeat (first | refine blk_drewN ?_ _ | refine blk_drew ?_ | refine blk_alloc ?_ _)); exact BK189.out) hb); have n6_ := Aside0.mk (blk_below (g := gb190) (o := .cells #[.slice none 0 0, .slice none 0 0] 25 (0, 0)) (by (with_reducible repeat (first | refine blk_drewN ?_ _ | refine blk_drew ?_ | refine blk_alloc ?_ _)); refine blk_far ?_ NB190_196.out _; (with_reducible repeat (first | refine blk_drewN ?_ _ | refine blk_drew ?_ | refine blk_alloc ?_ _)); exact BK190.out) hb); have n7_ := Aside0.mk (blk_below (g := gb191) (o := .cells #[.slice Ao12 y192.length co12, u192001] 25 (0, 0)) (by (with_reducible repeat (first | refine blk_drewN ?_ _ | refine blk_drew ?_ | refine blk_alloc ?_ _)); refine blk_far ?_ NB191_196.out _; (with_reducible repeat (first | refine blk_drewN ?_ _ | refine blk_drew ?_ | refine blk_alloc ?_ _)); exact BK191.out) hb); have n8_ := Aside0.mk (blk_below (g := gb196) (o := .cells #[.string ((rd_TFn l0_1 x4_1).f0), .slice Ao32 y200.length co32, .int .i64 ((rd_TFn l0_1 x4_1).f2), .slice Ao38 y206.length co38, .slice A195_4 ((rd_TFn l0_1 x4_1).f4).length c195_4] 35 (0, 0)) (by (with_reducible repeat (first | refine blk_drewN ?_ _ | refine blk_drew ?_ | refine blk_alloc ?_ _)); refine blk_put (cs := #[.string ((rd_TFn l0_1 x4_1).f0), .slice Ao32 y200.length co32, .int .i64 ((rd_TFn l0_1 x4_1).f2), .slice A195_3 ((rd_TFn l0_1 x4_1).f3).length c195_3, .slice A195_4 ((rd_TFn l0_1 x4_1).f4).length c195_4]) ?_ 3 _ rfl; (with_reducible repeat (first | refine blk_drewN ?_ _ | refine blk_drew ?_ | refine blk_alloc ?_ _)); exact BK196.out) hb); have n9_ := Aside0.mk (below_step (by repeat (first | (with_reducible first | exact HB.out | apply below_alloc | apply pw_below_drewN | apply below_drew1 | refine below_set ?_ GE189.out | refine below_set ?_ GE190.out | refine below_set ?_ GE191.out | refine below_set ?_ GE196.out) | exact HB.out)) hb); clear HO_192000; clear HO_192001; clear HO202; clear HO208; clear BK189; clear BK190; clear BK191; clear BK196; clear HB; have HO_192000 := n0_; have HO_192001 := n1_; have HO202 := n2_; have HO208 := n3_; have HO211 := n4_; have BK189 := n5_; have BK190 := n6_; have BK191 := n7_; have BK196 := n8_; have HB := n9_; clear n0_ n1_ n2_ n3_ n4_ n5_ n6_ n7_ n8_ n9_; clear hb ho41; have hcz42_0 : w40.cell? ⟨gb196, 0, none⟩ = some (.string ((rd_TFn l0_1 x4_1).f0)) := (blk_cell BK196.out 0).trans rfl; have hcz42_1 : w40.cell? ⟨gb196, 1, none⟩ = some (.slice Ao32 y200.length co32) := (blk_cell BK196.out 1).trans rfl; have hcz42_2 : w40.cell? ⟨gb196, 2, none⟩ = some (.int .i64 ((rd_TFn l0_1 x4_1).f2)) := (blk_cell BK196.out 2).trans rfl; have hcz42_3 : w40.cell? ⟨gb196, 3, none⟩ = some (.slice Ao38 y206.length co38) := (blk_cell BK196.out 3).trans rfl; have hcz42_4 : w40.cell? ⟨gb196, 4, none⟩ = some (.slice A195_4 ((rd_TFn l0_1 x4_1).f4).length c195_4) := (blk_cell BK196.out 4).trans rfl; have hfz42_0 := blk_frozen BK196.out 0; have hfz42_1 := blk_frozen BK196.out 1; have hfz42_2 := blk_frozen BK196.out 2; have hfz42_3 := blk_frozen BK196.out 3; have hfz42_4 := blk_frozen BK196.out 4) | ((with_reducible refine gate_builtin (b := .append) (xs := #[.tmp 34, .tmp 36]) rfl ?_); at_builtin; refine Kd.R_append_rows kInstr (w0 := w) w.heap.size rfl (.tmp 34) (.tmp 36) 26 38 (.agg #[(.int .i64 0), (.int .i64 0), (.int .i64 0)]) 24 rfl Tryd.underlying26 infoInstr rfl (by decide) (by omega) v210 y209 ((rd_TFn l0_1 x4_1).f4) _ _ _ (fun _ => True) (fun _ => False) rfl rfl ?aO ?aR (fun _ _ h => h) (fun _ h => h.elim) ?aF ?aB ?aS ?aL ?_; (case aR => repeat (first | exact (Kd.C_below HR195_4.out HB.out) | (with_reducible refine Kd.C_alloc ?_ _) | (with_reducible refine Kd.C_drewN ?_ _) | (with_reducible refine Kd.C_drew ?_))); (case aB => exact (by repeat (first | (with_reducible first | exact HB.out | apply below_alloc | apply pw_below_drewN | apply below_drew1 | refine below_set ?_ GE189.out | refine below_set ?_ GE190.out | refine below_set ?_ GE191.out | refine below_set ?_ GE196.out) | exact HB.out))); (case aF => exact (fun _ _ => trivial)); (case aO => exact (by (with_reducible repeat (first | apply Kd.R_alloc | apply Kd.R_drewN | apply Kd.R_drew)); exact HO211.out)); (case aS => exact (below_size (by repeat (first | (with_reducible first | exact HB.out | apply below_alloc | apply pw_below_drewN | apply below_drew1 | refine below_set ?_ GE189.out | refine below_set ?_ GE190.out | refine below_set ?_ GE191.out | refine below_set ?_ GE196.out) | exact HB.out)))); (case aL => have := LMc18.out; omega); intro v213 w43 ho hb hg hat; rw [← Ny212.out] at ho; have n0_ := Aside0.mk (Kd.R_over' (by (with_reducible repeat (first | apply Kd.R_alloc | apply Kd.R_drewN | apply Kd.R_drew)); exact HO_192000.out) (Kd.R_typed (by (with_reducible repeat (first | apply Kd.R_alloc | apply Kd.R_drewN | apply Kd.R_drew)); exact HO211.out)) (by decide) hg); have n1_ := Aside0.mk (Kd.S_after (ok := (fun k_ => some k_ ≠ (.slice Ao32 y200.length co32 : Value).ownBlock ∧ some k_ ≠ (.slice Ao38 y206.length co38 : Value).ownBlock ∧ k_ ≠ gb196)) (by (with_reducible repeat (first | apply Kd.S_alloc | apply Kd.S_drewN | apply Kd.S_drew)); exact Kd.S_mono HO_192001.out (fun _ hk => ⟨⟨hk.1.1.1, ⟨hk.1.2, hk.1.1.2⟩⟩, hk.2⟩)) hg hat); have n2_ := Aside0.mk (blk_grown (g := gb189) (o := .cells #[.slice A0_0 l0_0.length c0_0, .slice (some ad195) l0_1.length c0_1] 25 (0, 0)) (by (with_reducible repeat (first | refine blk_drewN ?_ _ | refine blk_drew ?_ | refine blk_alloc ?_ _)); exact BK189.out) hg (Kd.R_ne HO211.out BK189.out (by decide))); have n3_ := Aside0.mk (blk_grown (g := gb190) (o := .cells #[.slice none 0 0, .slice none 0 0] 25 (0, 0)) (by (with_reducible repeat (first | refine blk_drewN ?_ _ | refine blk_drew ?_ | refine blk_alloc ?_ _)); exact BK190.out) hg (Kd.R_ne HO211.out BK190.out (by decide))); have n4_ := Aside0.mk (blk_grown (g := gb191) (o := .cells #[.slice Ao12 y192.length co12, u192001] 25 (0, 0)) (by (with_reducible repeat (first | refine blk_drewN ?_ _ | refine blk_drew ?_ | refine blk_alloc ?_ _)); exact BK191.out) hg (Kd.R_ne HO211.out BK191.out (by decide))); have n5_ := Aside0.mk (blk_grown (g := gb196) (o := .cells #[.string ((rd_TFn l0_1 x4_1).f0), .slice Ao32 y200.length co32, .int .i64 ((rd_TFn l0_1 x4_1).f2), .slice Ao38 y206.length co38, .slice A195_4 ((rd_TFn l0_1 x4_1).f4).length c195_4] 35 (0, 0)) (by (with_reducible repeat (first | refine blk_drewN ?_ _ | refine blk_drew ?_ | refine blk_alloc ?_ _)); exact BK196.out) hg (Kd.R_ne HO211.out BK196.out (by decide))); have n6_ := Aside0.mk (Kd.R_over' (by (with_reducible repeat (first | apply Kd.R_alloc | apply Kd.R_drewN | apply Kd.R_drew)); exact HO202.out) (Kd.R_typed (by (with_reducible repeat (first | apply Kd.R_alloc | apply Kd.R_drewN | apply Kd.R_drew)); exact HO211.out)) (by decide) hg); have n7_ := Aside0.mk (Kd.R_over' (by (with_reducible repeat (first | apply Kd.R_alloc | apply Kd.R_drewN | apply Kd.R_drew)); exact HO208.out) (Kd.R_typed (by (with_reducible repeat (first | apply Kd.R_alloc | apply Kd.R_drewN | apply Kd.R_drew)); exact HO211.out)) (by decide) hg); have n8_ := Aside0.mk (hb); have n9_ := Aside0.mk (ho); clear HO_192000; clear HO_192001; clear BK189; clear BK190; clear BK191; clear BK196; clear HO202; clear HO208; clear HB; clear HO211; have HO_192000 := n0_; have HO_192001 := n1_; have BK189 := n2_; have BK190 := n3_; have BK191 := n4_; have BK196 := n5_; have HO202 := n6_; have HO208 := n7_; have HB := n8_; have HO214 := n9_; clear n0_ n1_ n2_ n3_ n4_ n5_ n6_ n7_ n8_ n9_; clear ho hb hg hat; obtain ⟨Ao44, co44, eo44⟩ := Kd.R_slice HO214.out; subst eo44; have hcz45_0 : w43.cell? ⟨gb196, 0, none⟩ = some (.string ((rd_TFn l0_1 x4_1).f0)) := (blk_cell BK196.out 0).trans rfl; have hcz45_1 : w43.cell? ⟨gb196, 1, none⟩ = some (.slice Ao32 y200.length co32) := (blk_cell BK196.out 1).trans rfl; have hcz45_2 : w43.cell? ⟨gb196, 2, none⟩ = some (.int .i64 ((rd_TFn l0_1 x4_1).f2)) := (blk_cell BK196.out 2).trans rfl; have hcz45_3 : w43.cell? ⟨gb196, 3, none⟩ = some (.slice Ao38 y206.length co38) := (blk_cell BK196.out 3).trans rfl; have hcz45_4 : w43.cell? ⟨gb196, 4, none⟩ = some (.slice A195_4 ((rd_TFn l0_1 x4_1).f4).length c195_4) := (blk_cell BK196.out 4).trans rfl; have hfz45_0 := blk_frozen BK196.out 0; have hfz45_1 := blk_frozen BK196.out 1; have hfz45_2 := blk_frozen BK196.out 2; have hfz45_3 := blk_frozen BK196.out 3; have hfz45_4 := blk_frozen BK196.out 4) | ((with_reducible refine gate_store (t := 26) (p := 38) rfl ?_); refine store_event (t := 26) (p := 38) (v := ?vo_w46) (w1 := (w43.setCell ⟨gb196, 4, none⟩ (.slice Ao44 y212.length co44))) ?hg ?ho ?hn ?hr ?_; (case ho => rfl); (case hg => rfl); (case hn => rfl); (case hr => first | (go_simp; done) | (go_simp; rfl)); intro w46 hw; have n0_ : Aside0 (Kd.R kGlob 73 w46 w.heap.size (fun _ => True) (.slice Ao12 y192.length co12) y192) := ⟨(by rw [hw]; exact (by (with_reducible repeat (first | apply Kd.R_alloc | apply Kd.R_drewN | apply Kd.R_drew)); exact Kd.R_mono (Kd.R_far (p := ⟨gb196, 4, none⟩) (Kd.R_types HO_192000.out BK196.out (by decide)) (fun _ hk => hk.2) (.slice Ao44 y212.length co44)) (fun _ hk => trivial)))⟩; have n1_ : Aside0 (Kd.S kFn 35 w46 w.heap.size (fun k_ => some k_ ≠ (.slice Ao32 y200.length co32 : Value).ownBlock ∧ some k_ ≠ (.slice Ao38 y206.length co38 : Value).ownBlock ∧ some k_ ≠ (.slice Ao44 y212.length co44 : Value).ownBlock ∧ k_ ≠ gb196) u192001 x192001_1) := ⟨(by rw [hw]; exact (by (with_reducible repeat (first | apply Kd.S_alloc | apply Kd.S_drewN | apply Kd.S_drew)); exact Kd.S_mono (Kd.S_far (p := ⟨gb196, 4, none⟩) (Kd.S_mono HO_192001.out (fun k_ hk => (⟨hk, hk.1.2.2⟩ : _ ∧ k_ ≠ gb196))) (fun _ hk => hk.2) (.slice Ao44 y212.length co44)) (fun _ hk => ⟨hk.1.1.1, ⟨hk.1.1.2.1, ⟨hk.1.2, hk.1.1.2.2⟩⟩⟩)))⟩; have n2_ : Aside0 (Kd.R (Kd.int .i64) 3 w46 w.heap.size (fun k_ => some k_ ≠ (.slice Ao38 y206.length co38 : Value).ownBlock) (.slice Ao32 y200.length co32) y200) := ⟨(by rw [hw]; exact (by (with_reducible repeat (first | apply Kd.R_alloc | apply Kd.R_drewN | apply Kd.R_drew)); exact Kd.R_mono (Kd.R_far (p := ⟨gb196, 4, none⟩) (Kd.R_types HO202.out BK196.out (by decide)) (fun _ hk => hk.2) (.slice Ao44 y212.length co44)) (fun _ hk => hk.1.2)))⟩; have n3_ : Aside0 (Kd.R (Kd.int .i64) 3 w46 w.heap.size (fun k_ => some k_ ≠ (.slice Ao32 y200.length co32 : Value).ownBlock) (.slice Ao38 y206.length co38) y206) := ⟨(by rw [hw]; exact (by (with_reducible repeat (first | apply Kd.R_alloc | apply Kd.R_drewN | apply Kd.R_drew)); exact Kd.R_mono (Kd.R_far (p := ⟨gb196, 4, none⟩) (Kd.R_types HO208.out BK196.out (by decide)) (fun _ hk => hk.2) (.slice Ao44 y212.length co44)) (fun _ hk => hk.1)))⟩; have n4_ : Aside0 (Kd.R kInstr 38 w46 w.heap.size (fun _ => True) (.slice Ao44 y212.length co44) y212) := ⟨(by rw [hw]; exact (by (with_reducible repeat (first | apply Kd.R_alloc | apply Kd.R_drewN | apply Kd.R_drew)); exact Kd.R_mono (Kd.R_far (p := ⟨gb196, 4, none⟩) (Kd.R_types HO214.out BK196.out (by decide)) (fun _ hk => hk.2) (.slice Ao44 y212.length co44)) (fun _ hk => trivial)))⟩; have n5_ : Aside0 (w46.heap[gb189]? = some (.cells #[.slice A0_0 l0_0.length c0_0, .slice (some ad195) l0_1.length c0_1] 25 (0, 0))) := ⟨(by rw [hw]; exact (by (with_reducible repeat (first | refine blk_drewN ?_ _ | refine blk_drew ?_ | refine blk_alloc ?_ _)); refine blk_far ?_ NB189_196.out _; (with_reducible repeat (first | refine blk_drewN ?_ _ | refine blk_drew ?_ | refine blk_alloc ?_ _)); exact BK189.out))⟩; have n6_ : Aside0 (w46.heap[gb190]? = some (.cells #[.slice none 0 0, .slice none 0 0] 25 (0, 0))) := ⟨(by rw [hw]; exact (by (with_reducible repeat (first | refine blk_drewN ?_ _ | refine blk_drew ?_ | refine blk_alloc ?_ _)); refine blk_far ?_ NB190_196.out _; (with_reducible repeat (first | refine blk_drewN ?_ _ | refine blk_drew ?_ | refine blk_alloc ?_ _)); exact BK190.out))⟩; have n7_ : Aside0 (w46.heap[gb191]? = some (.cells #[.slice Ao12 y192.length co12, u192001] 25 (0, 0))) := ⟨(by rw [hw]; exact (by (with_reducible repeat (first | refine blk_drewN ?_ _ | refine blk_drew ?_ | refine blk_alloc ?_ _)); refine blk_far ?_ NB191_196.out _; (with_reducible repeat (first | refine blk_drewN ?_ _ | refine blk_drew ?_ | refine blk_alloc ?_ _)); exact BK191.out))⟩; have n8_ : Aside0 (w46.heap[gb196]? = some (.cells #[.string ((rd_TFn l0_1 x4_1).f0), .slice Ao32 y200.length co32, .int .i64 ((rd_TFn l0_1 x4_1).f2), .slice Ao38 y206.length co38, .slice Ao44 y212.length co44] 35 (0, 0))) := ⟨(by rw [hw]; exact (by (with_reducible repeat (first | refine blk_drewN ?_ _ | refine blk_drew ?_ | refine blk_alloc ?_ _)); refine blk_put (cs := #[.string ((rd_TFn l0_1 x4_1).f0), .slice Ao32 y200.length co32, .int .i64 ((rd_TFn l0_1 x4_1).f2), .slice Ao38 y206.length co38, .slice A195_4 ((rd_TFn l0_1 x4_1).f4).length c195_4]) ?_ 4 _ rfl; (with_reducible repeat (first | refine blk_drewN ?_ _ | refine blk_drew ?_ | refine blk_alloc ?_ _)); exact BK196.out))⟩; have n9_ : Aside0 (Below w.heap.size w w46) := ⟨(by rw [hw]; exact (by repeat (first | (with_reducible first | exact HB.out | apply below_alloc | apply pw_below_drewN | apply below_drew1 | refine below_set ?_ GE189.out | refine below_set ?_ GE190.out | refine below_set ?_ GE191.out | refine below_set ?_ GE196.out) | exact HB.out)))⟩; clear hw; clear HO_192000; clear HO_192001; clear HO202; clear HO208; clear HO214; clear BK189; clear BK190; clear BK191; clear BK196; clear HB; have HO_192000 := n0_; have HO_192001 := n1_; have HO202 := n2_; have HO208 := n3_; have HO214 := n4_; have BK189 := n5_; have BK190 := n6_; have BK191 := n7_; have BK196 := n8_; have HB := n9_; clear n0_ n1_ n2_ n3_ n4_ n5_ n6_ n7_ n8_ n9_; have hnb47 := NB191_190.out; have hnc47 := NB190_191.out; have hcz48_0 : w46.cell? ⟨gb191, 0, none⟩ = some (.slice Ao12 y192.length co12) := (blk_cell BK191.out 0).trans rfl; have hcz48_1 : w46.cell? ⟨gb191, 1, none⟩ = some (u192001) := (blk_cell BK191.out 1).trans rfl; have hfz48_0 := blk_frozen BK191.out 0; have hfz48_1 := blk_frozen BK191.out 1; have hcz49_0 : w46.cell? ⟨gb196, 0, none⟩ = some (.string ((rd_TFn l0_1 x4_1).f0)) := (blk_cell BK196.out 0).trans rfl; have hcz49_1 : w46.cell? ⟨gb196, 1, none⟩ = some (.slice Ao32 y200.length co32) := (blk_cell BK196.out 1).trans rfl; have hcz49_2 : w46.cell? ⟨gb196, 2, none⟩ = some (.int .i64 ((rd_TFn l0_1 x4_1).f2)) := (blk_cell BK196.out 2).trans rfl; have hcz49_3 : w46.cell? ⟨gb196, 3, none⟩ = some (.slice Ao38 y206.length co38) := (blk_cell BK196.out 3).trans rfl; have hcz49_4 : w46.cell? ⟨gb196, 4, none⟩ = some (.slice Ao44 y212.length co44) := (blk_cell BK196.out 4).trans rfl; have hfz49_0 := blk_frozen BK196.out 0; have hfz49_1 := blk_frozen BK196.out 1; have hfz49_2 := blk_frozen BK196.out 2; have hfz49_3 := blk_frozen BK196.out 3; have hfz49_4 := blk_frozen BK196.out 4) | ((with_reducible refine gate_builtin (b := .append) (xs := #[.tmp 40, .tmp 42]) rfl ?_); at_builtin; refine Kd.S_append kFn (w0 := w) w.heap.size rfl (.tmp 40) (.tmp 42) 23 35 (.agg #[(.string ⟨#[]⟩), (.slice none 0 0), (.int .i64 0), (.slice none 0 0), (.slice none 0 0)]) 96 rfl Tryd.underlying23 infoFn rfl (by decide) (by omega) u192001 x192001_1 (⟨(rd_TFn l0_1 x4_1).f0, y200, (rd_TFn l0_1 x4_1).f2, y206, y212⟩ : SFn) [.string ((rd_TFn l0_1 x4_1).f0), .slice Ao32 y200.length co32, .int .i64 ((rd_TFn l0_1 x4_1).f2), .slice Ao38 y206.length co38, .slice Ao44 y212.length co44] (fun k_ => k_ ≠ gb196) (fun k_ => some k_ = (.slice Ao32 y200.length co32 : Value).ownBlock ∨ some k_ = (.slice Ao38 y206.length co38 : Value).ownBlock ∨ some k_ = (.slice Ao44 y212.length co44 : Value).ownBlock) rfl rfl ?aP (fun k_ hk_ => hk_.elim (fun h_ => ((Kd.R_mono (ok' := fun k_ => ((fun k_ => k_ ≠ gb196)) k_ ∧ some k_ ≠ (u192001 : Value).ownBlock) (Kd.R_types (Kd.R_apart' (HO202.out) (Kd.S_typed HO_192001.out) (by decide)) BK196.out (by decide)) (fun k_ hk => ⟨hk.2, hk.1.2⟩))).1 k_ h_.symm) (fun h_ => h_.elim (fun h_ => ((Kd.R_mono (ok' := fun k_ => ((fun k_ => k_ ≠ gb196)) k_ ∧ some k_ ≠ (u192001 : Value).ownBlock) (Kd.R_types (Kd.R_apart' (HO208.out) (Kd.S_typed HO_192001.out) (by decide)) BK196.out (by decide)) (fun k_ hk => ⟨hk.2, hk.1.2⟩))).1 k_ h_.symm) (fun h_ => ((Kd.R_mono (ok' := fun k_ => ((fun k_ => k_ ≠ gb196)) k_ ∧ some k_ ≠ (u192001 : Value).ownBlock) (Kd.R_types (Kd.R_apart' (HO214.out) (Kd.S_typed HO_192001.out) (by decide)) BK196.out (by decide)) (fun k_ hk => ⟨hk.2, hk.1.2⟩))).1 k_ h_.symm))) ?aF ?aO ?aB ?aS ?aL ?_; (case aP => exact kFn_mkM _ _ _ (⟨(rd_TFn l0_1 x4_1).f0, y200, (rd_TFn l0_1 x4_1).f2, y206, y212⟩ : SFn) (Kd.R_mono (Kd.R_tight rfl (Kd.R_mono (ok' := fun k_ => ((fun k_ => k_ ≠ gb196)) k_ ∧ some k_ ≠ (u192001 : Value).ownBlock) (Kd.R_types (Kd.R_apart' (HO202.out) (Kd.S_typed HO_192001.out) (by decide)) BK196.out (by decide)) (fun k_ hk => ⟨hk.2, hk.1.2⟩))) (fun _ h_ => Or.inl h_)) (Kd.R_mono (Kd.R_tight rfl (Kd.R_mono (ok' := fun k_ => ((fun k_ => k_ ≠ gb196)) k_ ∧ some k_ ≠ (u192001 : Value).ownBlock) (Kd.R_types (Kd.R_apart' (HO208.out) (Kd.S_typed HO_192001.out) (by decide)) BK196.out (by decide)) (fun k_ hk => ⟨hk.2, hk.1.2⟩))) (fun _ h_ => Or.inr (Or.inl h_))) (Kd.R_mono (Kd.R_tight rfl (Kd.R_mono (ok' := fun k_ => ((fun k_ => k_ ≠ gb196)) k_ ∧ some k_ ≠ (u192001 : Value).ownBlock) (Kd.R_types (Kd.R_apart' (HO214.out) (Kd.S_typed HO_192001.out) (by decide)) BK196.out (by decide)) (fun k_ hk => ⟨hk.2, hk.1.2⟩))) (fun _ h_ => Or.inr (Or.inr (h_))))); (case aB => exact (by repeat (first | (with_reducible first | exact HB.out | apply below_alloc | apply pw_below_drewN | apply below_drew1 | refine below_set ?_ GE189.out | refine below_set ?_ GE190.out | refine below_set ?_ GE191.out | refine below_set ?_ GE196.out) | exact HB.out))); (case aF => exact (fun k_ hk => Kd.freshB (g := gb196) (o := .cells #[.string ((rd_TFn l0_1 x4_1).f0), .slice Ao32 y200.length co32, .int .i64 ((rd_TFn l0_1 x4_1).f2), .slice Ao38 y206.length co38, .slice Ao44 y212.length co44] 35 (0, 0)) (by (with_reducible repeat (first | refine blk_drewN ?_ _ | refine blk_drew ?_ | refine blk_alloc ?_ _)); exact BK196.out) k_ hk)); (case aO => exact (by (with_reducible repeat (first | apply Kd.S_alloc | apply Kd.S_drewN | apply Kd.S_drew)); exact Kd.S_mono HO_192001.out (fun k_ hk => ⟨hk.2.2.2, fun e_ => e_.elim (fun h_ => hk.1 h_) (fun h_ => h_.elim (fun h_ => hk.2.1 h_) (fun h_ => hk.2.2.1 h_))⟩))); (case aS => exact (below_size (by repeat (first | (with_reducible first | exact HB.out | apply below_alloc | apply pw_below_drewN | apply below_drew1 | refine below_set ?_ GE189.out | refine below_set ?_ GE190.out | refine below_set ?_ GE191.out | refine below_set ?_ GE196.out) | exact HB.out)))); (case aL => have := LMc19.out; omega); intro v216 w50 ho hb hg hat; rw [← Ny215.out] at ho; have n0_ := Aside0.mk (Kd.R_over' (by (with_reducible repeat (first | apply Kd.R_alloc | apply Kd.R_drewN | apply Kd.R_drew)); exact HO_192000.out) (Kd.S_typed (by (with_reducible repeat (first | apply Kd.S_alloc | apply Kd.S_drewN | apply Kd.S_drew)); exact HO_192001.out)) (by decide) hg); have n1_ := Aside0.mk (blk_grown (g := gb189) (o := .cells #[.slice A0_0 l0_0.length c0_0, .slice (some ad195) l0_1.length c0_1] 25 (0, 0)) (by (with_reducible repeat (first | refine blk_drewN ?_ _ | refine blk_drew ?_ | refine blk_alloc ?_ _)); exact BK189.out) hg (Kd.S_ne HO_192001.out BK189.out (by decide))); have n2_ := Aside0.mk (blk_grown (g := gb190) (o := .cells #[.slice none 0 0, .slice none 0 0] 25 (0, 0)) (by (with_reducible repeat (first | refine blk_drewN ?_ _ | refine blk_drew ?_ | refine blk_alloc ?_ _)); exact BK190.out) hg (Kd.S_ne HO_192001.out BK190.out (by decide))); have n3_ := Aside0.mk (blk_grown (g := gb191) (o := .cells #[.slice Ao12 y192.length co12, u192001] 25 (0, 0)) (by (with_reducible repeat (first | refine blk_drewN ?_ _ | refine blk_drew ?_ | refine blk_alloc ?_ _)); exact BK191.out) hg (Kd.S_ne HO_192001.out BK191.out (by decide))); have n4_ := Aside0.mk (blk_grown (g := gb196) (o := .cells #[.string ((rd_TFn l0_1 x4_1).f0), .slice Ao32 y200.length co32, .int .i64 ((rd_TFn l0_1 x4_1).f2), .slice Ao38 y206.length co38, .slice Ao44 y212.length co44] 35 (0, 0)) (by (with_reducible repeat (first | refine blk_drewN ?_ _ | refine blk_drew ?_ | refine blk_alloc ?_ _)); exact BK196.out) hg (Kd.S_away HO_192001.out (fun _ hk => hk.2.2.2))); have n5_ := Aside0.mk (hb); have n6_ := Aside0.mk (ho); clear HO_192000; clear BK189; clear BK190; clear BK191; clear BK196; clear HB; clear HO_192001; clear HO202; clear HO208; clear HO214; have HO_192000 := n0_; have BK189 := n1_; have BK190 := n2_; have BK191 := n3_; have BK196 := n4_; have HB := n5_; have HO217 := n6_; clear n0_ n1_ n2_ n3_ n4_ n5_ n6_; clear ho hb hg hat; obtain ⟨Ao51, co51, eo51⟩ := Kd.S_slice HO217.out; subst eo51; have hcz52_0 : w50.cell? ⟨gb191, 0, none⟩ = some (.slice Ao12 y192.length co12) := (blk_cell BK191.out 0).trans rfl; have hcz52_1 : w50.cell? ⟨gb191, 1, none⟩ = some (u192001) := (blk_cell BK191.out 1).trans rfl; have hfz52_0 := blk_frozen BK191.out 0; have hfz52_1 := blk_frozen BK191.out 1))
                    go_roundg k1
                    case measure => have := HK1.out; omega
                    case rel => exact ⟨(wrap64 (x4_1 + 1)), (y215), (.slice Ao51 y215.length co51), (by first | rfl | (simp; done) | (simp [*]; done)), H', ⟨by have := HK1.out; omega⟩, ⟨by (with_reducible repeat (first | apply Kd.R_alloc | apply Kd.R_drewN | apply Kd.R_drew)); exact Kd.R_mono (Kd.R_far (p := ⟨gb191, 1, none⟩) (Kd.R_types HO_192000.out BK191.out (by decide)) (fun _ hk => hk.2) (.slice Ao51 y215.length co51)) (fun _ hk => trivial)⟩, ⟨by (with_reducible repeat (first | apply Kd.S_alloc | apply Kd.S_drewN | apply Kd.S_drew)); exact Kd.S_mono (Kd.S_far (p := ⟨gb191, 1, none⟩) (Kd.S_types HO217.out BK191.out (by decide)) (fun _ hk => hk.2) (.slice Ao51 y215.length co51)) (fun _ hk => trivial)⟩, ⟨by (with_reducible repeat (first | refine blk_drewN ?_ _ | refine blk_drew ?_ | refine blk_alloc ?_ _)); refine blk_far ?_ NB189_191.out _; (with_reducible repeat (first | refine blk_drewN ?_ _ | refine blk_drew ?_ | refine blk_alloc ?_ _)); exact BK189.out⟩, ⟨by (with_reducible repeat (first | refine blk_drewN ?_ _ | refine blk_drew ?_ | refine blk_alloc ?_ _)); refine blk_far ?_ NB190_191.out _; (with_reducible repeat (first | refine blk_drewN ?_ _ | refine blk_drew ?_ | refine blk_alloc ?_ _)); exact BK190.out⟩, ⟨by (with_reducible repeat (first | refine blk_drewN ?_ _ | refine blk_drew ?_ | refine blk_alloc ?_ _)); refine blk_put (cs := #[.slice Ao12 y192.length co12, u192001]) ?_ 1 _ rfl; (with_reducible repeat (first | refine blk_drewN ?_ _ | refine blk_drew ?_ | refine blk_alloc ?_ _)); exact BK191.out⟩, ⟨by repeat (first | (with_reducible first | exact HB.out | apply below_alloc | apply pw_below_drewN | apply below_drew1 | refine below_set ?_ GE189.out | refine below_set ?_ GE190.out | refine below_set ?_ GE191.out | refine below_set ?_ GE196.out) | exact HB.out)⟩⟩
                  · rw [if_neg c19] at H
                    exact absurd H (by simp)
                · rw [if_neg c18] at H
                  exact absurd H (by simp)
              · rw [if_neg c17] at H
                exact absurd H (by simp)
            · rw [if_neg c16] at H
              exact absurd H (by simp)
          · rw [if_neg c15] at H
            exact absurd H (by simp)
        · rw [if_neg c14] at H
          have c14b0 : decide (x4_1 < (l0_1.length : Int)) = false := decide_eq_false c14
          clear c14
          simp only [Option.some.injEq, Prod.mk.injEq] at H
          obtain ⟨rfl, rfl⟩ := H
          have hnb53 := NB189_190.out
          have hnc53 := NB190_189.out
          have hnb54 := NB189_191.out
          have hnc54 := NB191_189.out
          have hcz55_0 : wr.cell? ⟨gb189, 0, none⟩ = some (.slice A0_0 l0_0.length c0_0) := (blk_cell BK189.out 0).trans rfl
          have hcz55_1 : wr.cell? ⟨gb189, 1, none⟩ = some (.slice A0_1 l0_1.length c0_1) := (blk_cell BK189.out 1).trans rfl
          have hfz55_0 := blk_frozen BK189.out 0
          have hfz55_1 := blk_frozen BK189.out 1
          have hnb56 := NB191_190.out
          have hnc56 := NB190_191.out
          have hcz57_0 : wr.cell? ⟨gb191, 0, none⟩ = some (.slice Ao12 y192.length co12) := (blk_cell BK191.out 0).trans rfl
          have hcz57_1 : wr.cell? ⟨gb191, 1, none⟩ = some (u192001) := (blk_cell BK191.out 1).trans rfl
          have hfz57_0 := blk_frozen BK191.out 0
          have hfz57_1 := blk_frozen BK191.out 1
          have hcz58_0 : wr.cell? ⟨gb190, 0, none⟩ = some (.slice none 0 0) := (blk_cell BK190.out 0).trans rfl
          have hcz58_1 : wr.cell? ⟨gb190, 1, none⟩ = some (.slice none 0 0) := (blk_cell BK190.out 1).trans rfl
          have hfz58_0 := blk_frozen BK190.out 0
          have hfz58_1 := blk_frozen BK190.out 1
          obtain ⟨Ao59, co59, eo59⟩ := Kd.S_slice HO_192001.out
          subst eo59
          go_wp2
          refine bodyPost_ret (results_cell_row rfl _ _ gb190 25 #[.slice Ao12 y192.length co12, .slice Ao59 x192001_1.length co59] (0, 0) _ rfl (by (with_reducible repeat (first | refine blk_drewN ?_ _ | refine blk_drew ?_ | refine blk_alloc ?_ _)); refine blk_put (cs := #[.slice Ao12 y192.length co12, .slice none 0 0]) ?_ 1 _ rfl; (with_reducible repeat (first | refine blk_drewN ?_ _ | refine blk_drew ?_ | refine blk_alloc ?_ _)); refine blk_put (cs := #[.slice none 0 0, .slice none 0 0]) ?_ 0 _ rfl; (with_reducible repeat (first | refine blk_drewN ?_ _ | refine blk_drew ?_ | refine blk_alloc ?_ _)); exact BK190.out) Tryd.underlying25 rfl (by kernel_rfl)) rfl ?_
          exact ⟨_, _, by first | rfl | (simp [errW_none, errW_some] <;> rfl) | (simp [*, errW_none, errW_some] <;> rfl), by (with_reducible repeat (first | apply Kd.R_alloc | apply Kd.R_drewN | apply Kd.R_drew)); exact Kd.R_mono (Kd.R_far (p := ⟨gb190, 1, none⟩) (Kd.R_far (p := ⟨gb190, 0, none⟩) (Kd.R_types HO_192000.out BK190.out (by decide)) (fun _ hk => hk.2) (.slice Ao12 y192.length co12)) (fun _ hk => hk.2) (.slice Ao59 x192001_1.length co59)) (fun _ hk => trivial), by (with_reducible repeat (first | apply Kd.S_alloc | apply Kd.S_drewN | apply Kd.S_drew)); exact Kd.S_mono (Kd.S_far (p := ⟨gb190, 1, none⟩) (Kd.S_far (p := ⟨gb190, 0, none⟩) (Kd.S_types HO_192001.out BK190.out (by decide)) (fun _ hk => hk.2) (.slice Ao12 y192.length co12)) (fun _ hk => hk.2) (.slice Ao59 x192001_1.length co59)) (fun _ hk => trivial), by repeat (first | (with_reducible first | exact HB.out | apply below_alloc | apply pw_below_drewN | apply below_drew1 | refine below_set ?_ GE189.out | refine below_set ?_ GE190.out | refine below_set ?_ GE191.out) | exact HB.out)⟩
  · rw [if_neg c2] at H
    exact absurd H (by simp)

end Go.Proofs.YtedmncldelcbfaaDoor.E

namespace Go.Proofs.YtedmncldelcbfaaDoor.E
open Go Go.RowKit Go.Proofs.YtedmncldelcbfaaDoorW.PrintWords Go.Proofs.YtedmncldelcbfaaDoorW.PrintLast Go.Proofs.YtedmncldelcbfaaDoorW.PrintMore
set_option linter.unusedVariables false
set_option linter.unusedSimpArgs false
set_option maxRecDepth 100000
set_option maxHeartbeats 2000000

theorem copied_l0 (gs : List SGlob) (fs : List SFn) (y : List SGlob) (hl : fs.length ≤ 1099511620000) (hf : ∀ f ∈ fs, fnSmall 1099511620000 f) : ∀ (d i k : Nat), i + d = fs.length → d < k → ∀ acc, acc = fs.take i → tiltyardlaw15_Copied.l0 k i gs fs y acc = some (y, fs) := by
  intro d
  induction d with
  | zero =>
    intro i k hi hk acc ha
    obtain ⟨k, rfl⟩ : ∃ m, k = m + 1 := ⟨k - 1, by omega⟩
    unfold tiltyardlaw15_Copied.l0
    rw [if_neg (by omega), ha, List.take_of_length_le (by omega)]
  | succ d ih =>
    intro i k hi hk acc ha
    obtain ⟨k, rfl⟩ : ∃ m, k = m + 1 := ⟨k - 1, by omega⟩
    have hlt : i < fs.length := by omega
    have hrd : rd_TFn fs (i : Int) = fs[i] := by
      unfold rd_TFn; rw [Int.toNat_natCast, List.getD_eq_getElem?_getD, List.getElem?_eq_getElem hlt]; rfl
    obtain ⟨s0, s1, s3, s4⟩ := hf fs[i] (List.getElem_mem hlt)
    have hacc : acc.length = i := by rw [ha, List.length_take]; omega
    have hw : wrap64 ((i : Int) + 1) = ((i + 1 : Nat) : Int) := by rw [IntWalk.wrap64_in _ (by omega)]; omega
    unfold tiltyardlaw15_Copied.l0
    rw [if_pos (by omega), if_pos (by omega)]
    simp only [Option.bind_some, hrd, List.length_nil, Nat.zero_add, List.nil_append, hw]
    rw [if_pos (by omega), if_pos (by omega), if_pos (by omega), if_pos (by omega)]
    refine ih (i + 1) k (by omega) (by omega) _ ?_
    rw [ha, List.take_add_one, List.getElem?_eq_getElem hlt]
    rfl
theorem copied_f (gs : List SGlob) (fs : List SFn) (hs : imgSmall 1099511620000 ⟨gs, fs⟩) : tiltyardlaw15_Copied.f (fs.length + 1) gs fs = some (gs, fs) := by
  obtain ⟨h1, h2, h3⟩ := hs
  simp only at h1 h2 h3
  unfold tiltyardlaw15_Copied.f
  rw [if_pos (by simp only [List.length_nil]; omega)]
  exact copied_l0 gs fs _ h2 h3 fs.length 0 _ (by omega) (by omega) _ rfl
/-- an image of the call's own -/
def OImage (w : World) (base : Nat) (x : SImage) (v : Value) : Prop := ∃ v0 v1, v = .agg #[v0, v1] ∧ Kd.R kGlob 73 w base (fun _ => True) v0 x.globs ∧ Kd.S kFn 35 w base (fun _ => True) v1 x.fns
theorem OImage.reads {w : World} {base : Nat} {x : SImage} {v : Value} (h : OImage w base x v) : VImage w x v := by
  obtain ⟨v0, v1, rfl, h0, h1⟩ := h
  obtain ⟨A0, c0, rfl, l0, g0⟩ := Kd.R_reads h0
  obtain ⟨A1, c1, rfl, l1, g1⟩ := Kd.S_reads h1
  exact ⟨A0, c0, A1, c1, rfl, l0, g0, l1, g1⟩
theorem Copied_any (x : SImage) (v : Value) (w : World) (hv : VImage w x v) (hs : imgSmall 1099511620000 x) :
    Calls Tryd.prog 8 #[v] w fun e w' => ∃ v', e = .returned v' ∧ OImage w' w.heap.size x v' ∧ Below w.heap.size w w' := by
  obtain ⟨A0, c0, A1, c1, rfl, l0, g0, l1, g1⟩ := hv
  refine (tiltyardlaw15_Copied.calls _ A0 c0 x.globs A1 c1 x.fns x.globs x.fns w g0 l0 g1 l1 (copied_f _ _ hs)).mono ?_
  rintro e w' ⟨v0, v1, rfl, h0, h1, hb⟩
  exact ⟨_, rfl, ⟨v0, v1, rfl, h0, h1⟩, hb⟩
end Go.Proofs.YtedmncldelcbfaaDoor.E

namespace Go.Proofs.YtedmncldelcbfaaDoor.E
open Go Go.RowKit Go.Proofs.YtedmncldelcbfaaDoorW.PrintWords Go.Proofs.YtedmncldelcbfaaDoorW.PrintLast Go.Proofs.YtedmncldelcbfaaDoorW.PrintMore
set_option linter.unusedVariables false
set_option linter.unusedSimpArgs false
set_option maxRecDepth 100000
set_option maxHeartbeats 2000000

theorem VerifyAlone_any (T : Nat → ByteArray × ByteArray) (x : SImage) (v : Value) (w : World) (hv : VImage w x v) (hs : imgSmall 1099511620000 x) (hG : Nib w) (hT : Pln T w) (hTK : TOK T) :
    Calls Tryd.prog 4 #[v] w fun e w' => e = .returned (.bool true) ∧ Below w.heap.size w w' := by
  obtain ⟨A0, c0, A1, c1, hve, l0, hG0, l1, hF0⟩ := hv
  subst hve
  have HGF := Lib.hid (show VImage w x (.agg #[.slice A0 x.globs.length c0, .slice A1 x.fns.length c1]) from ⟨A0, c0, A1, c1, rfl, l0, hG0, l1, hF0⟩)
  have HCF := Lib.hid hF0
  have HG := Lib.hid hG
  have HT := Lib.hid hT
  have HSM := Lib.hid hs
  have hlf := hs.2.1
  obtain ⟨ec, hec⟩ : ∃ z, z = (verifyS T x).1 := ⟨_, rfl⟩
  obtain ⟨ea, hea⟩ : ∃ z, z = (verifyS T x).2 := ⟨_, rfl⟩
  have HV := Lib.hid (show ∀ W, Below w.heap.size w W → Calls Tryd.prog 7 #[.agg #[.slice A0 x.globs.length c0, .slice A1 x.fns.length c1]] W fun e w' => e = .returned (.agg #[.int .i64 ec, .int .i64 ea]) ∧ Below W.heap.size W w' from fun W hb => by
    rw [hec, hea]; exact Verify_any T x _ _ (HGF.out.below hb) hs (hG.below hb) (hT.below hb) hTK)
  have HEC := Lib.hid hec
  clear hG hT hG0 hF0 hs hec hea
  go_enter Tryd.func4, Tryd.ntmps4
  go_wp2_with fail
  have HB0 := Lib.hid (below_alloc (Below.refl w.heap.size w) (Obj.cells #[Value.slice A0 x.globs.length c0, Value.slice A1 x.fns.length c1] 25))
  refine (awake_any T _ (HG.out.below HB0.out) (HT.out.below HB0.out) hTK).mono ?_
  rintro e w1 ⟨rfl, hb1⟩
  have HB1 := Lib.hid (below_next HB0.out hb1)
  have HI1 := Lib.hid ((hb1.block w.heap.size (by simp)).trans (heap_alloc_new w _))
  have i0 : w1.cell? ⟨w.heap.size, 0, none⟩ = some (.slice A0 x.globs.length c0) := (blk_cell HI1.out 0).trans rfl
  have i1 : w1.cell? ⟨w.heap.size, 1, none⟩ = some (.slice A1 x.fns.length c1) := (blk_cell HI1.out 1).trans rfl
  clear hb1
  go_wp2_with fail
  refine (HV.out w1 HB1.out).mono ?_
  rintro e w2 ⟨rfl, hb2⟩
  have HB2 := Lib.hid (below_next HB1.out hb2)
  have HI2 := Lib.hid ((hb2.block w.heap.size (blk_lt HI1.out)).trans HI1.out)
  clear hb2 i0 i1
  have i0 : w2.cell? ⟨w.heap.size, 0, none⟩ = some (.slice A0 x.globs.length c0) := (blk_cell HI2.out 0).trans rfl
  have i1 : w2.cell? ⟨w.heap.size, 1, none⟩ = some (.slice A1 x.fns.length c1) := (blk_cell HI2.out 1).trans rfl
  have hlt2 := blk_lt HI2.out
  by_cases he : ec = 0
  · subst he
    obtain ⟨W2, hW2⟩ : ∃ W2, W2 = w2.alloc (Obj.cells #[.int .i64 0, .int .i64 ea] 30) := ⟨_, rfl⟩
    by_cases hn : x.fns.length = 0
    · have hn1 : decide ((x.fns.length : Int) - 1 < 0) = true := decide_eq_true (by omega)
      clear hn
      go_wp2_with fail
      go_ret
      exact ⟨rfl, below_alloc HB2.out _⟩
    · obtain ⟨n, hn'⟩ : ∃ n : Nat, x.fns.length = n + 1 := ⟨x.fns.length - 1, by omega⟩
      have HN := Lib.hid hn'
      have hn1 : decide ((x.fns.length : Int) - 1 < 0) = false := decide_eq_false (by omega)
      have hnn : n ≤ 1099511620000 := by omega
      have hn2 : n + 1 ≤ x.fns.length := by omega
      have hn3 : x.fns.length ≤ n + 1 := by omega
      clear hn hn'
      have HLAW := Lib.hid (fun hc => alone_law T hTK x n HN.out HEC.out.symm hc)
      go_wp2_with fail
      go_loopw [6] (fun i wr => ∃ k : Nat, k ≤ n ∧ i = .int .i64 k ∧ Hid (∀ i, i < k → ∀ j ∈ (x.fns.getD i zFn).f4, ¬ (j.f0 = 30 ∧ j.f1 = n)) ∧ Hid (Below w2.heap.size w2 wr)) (fun i _ => n - (intOf i).toNat)
      case atStart => exact ⟨0, by omega, rfl, fun i hi => by omega, below_alloc (Below.refl _ _) _⟩
      case round =>
        obtain ⟨k, hk, rfl, HNO, HB⟩ := hrel
        have HIr := Lib.hid ((HB.out.block w.heap.size hlt2).trans HI2.out)
        have HBr := Lib.hid (below_next HB2.out HB.out)
        clear i0 i1
        have i0 : wr.cell? ⟨w.heap.size, 0, none⟩ = some (.slice A0 x.globs.length c0) := (blk_cell HIr.out 0).trans rfl
        have i1 : wr.cell? ⟨w.heap.size, 1, none⟩ = some (.slice A1 x.fns.length c1) := (blk_cell HIr.out 1).trans rfl
        by_cases hlt : k < n
        · obtain ⟨f, hf⟩ : ∃ f, f = rd_TFn x.fns (k : Int) := ⟨_, rfl⟩
          have hfe : x.fns.getD k zFn = f := by rw [hf]; rfl
          have HFE := Lib.hid hfe
          have HFR := Lib.hid hf
          clear hfe hf
          have hfl : f.f4.length ≤ 1099511620000 := by
            have := HSM.out.2.2 f (by rw [← HFE.out]; exact getD_mem_fn _ _ (by omega))
            exact this.2.2.2
          go_wp2_with fail
          obtain ⟨wo, hwo⟩ : ∃ wo : World, wo = wr := ⟨_, rfl⟩
          subst hwo
          go_loopw [7] (fun i wr2 => ∃ m : Nat, m ≤ f.f4.length ∧ i = .int .i64 m ∧ Hid (∀ j, j < m → ¬ ((zi f.f4 j).f0 = 30 ∧ (zi f.f4 j).f1 = n)) ∧ Hid (Below w2.heap.size w2 wr2)) (fun i _ => f.f4.length - (intOf i).toNat)
          case atStart => exact ⟨0, by omega, rfl, fun i hi => by omega, HB.out⟩
          case round =>
            obtain ⟨m, hm, rfl, HNO2, HB2'⟩ := hrel
            have HIr2 := Lib.hid ((HB2'.out.block w.heap.size hlt2).trans HI2.out)
            have HBr2 := Lib.hid (below_next HB2.out HB2'.out)
            clear i0 i1
            have i0 : wr.cell? ⟨w.heap.size, 0, none⟩ = some (.slice A0 x.globs.length c0) := (blk_cell HIr2.out 0).trans rfl
            have i1 : wr.cell? ⟨w.heap.size, 1, none⟩ = some (.slice A1 x.fns.length c1) := (blk_cell HIr2.out 1).trans rfl
            obtain ⟨ad, B1, d1, B3, d3, B4, d4, hA, h0, h1, h2, h3, h4, m1, g1, m3, g3, m4, g4⟩ := at_TFn (Kd.C_below HCF.out HBr2.out) (k : Int) (by omega) (by omega)
            subst hA
            rw [← HFR.out] at h4 m4 g4
            simp only [Int.toNat_natCast] at h4
            have HG4 := Lib.hid g4
            clear h0 h1 h2 h3 m1 g1 m3 g3 m4 g4
            by_cases hlt2m : m < f.f4.length
            · obtain ⟨ad4, e4, q0, q1, q2⟩ := at_TInstr HG4.out (m : Int) (by omega) (by omega)
              subst e4
              obtain ⟨ii, hii⟩ : ∃ ii, ii = rd_TInstr f.f4 (m : Int) := ⟨_, rfl⟩
              rw [← hii] at q0 q1
              simp only [Int.toNat_natCast] at q0 q1
              have HII := Lib.hid (show zi f.f4 m = ii from by rw [hii]; rfl)
              have hnext : ¬ (ii.f0 = 30 ∧ ii.f1 = n) → ∀ j, j < m + 1 → ¬ ((zi f.f4 j).f0 = 30 ∧ (zi f.f4 j).f1 = n) := fun hne j hj => by
                by_cases e : j = m
                · rw [e, HII.out]; exact hne
                · exact HNO2.out j (by omega)
              have HNX := Lib.hid hnext
              clear hii q2 hnext
              by_cases c30 : ii.f0 = 30
              · have c30' : (ii.f0 == 30) = true := by simpa using c30
                have C30 := Lib.hid c30
                clear c30
                by_cases cn : ii.f1 = (x.fns.length : Int) - 1
                · have cn' : (ii.f1 == (x.fns.length : Int) - 1) = true := by simpa using cn
                  clear cn
                  go_wp2_with fail
                  go_ret
                  exact ⟨rfl, HBr2.out⟩
                · have cn' : (ii.f1 == (x.fns.length : Int) - 1) = false := by simpa using cn
                  have HX := Lib.hid (HNX.out (fun h => cn (by omega)))
                  clear cn
                  go_wp2_with fail
                  go_roundw
                  case rel => exact ⟨m + 1, by omega, by go_num, HX.out, HB2'.out⟩
                  case measure => simp [intOf]; omega
              · have c30' : (ii.f0 == 30) = false := by simpa using c30
                have HX := Lib.hid (HNX.out (fun h => c30 h.1))
                clear c30
                go_wp2_with fail
                go_roundw
                case rel => exact ⟨m + 1, by omega, by go_num, HX.out, HB2'.out⟩
                case measure => simp [intOf]; omega
            · obtain rfl : m = f.f4.length := by omega
              have HX := Lib.hid (show ∀ i, i < k + 1 → ∀ j ∈ (x.fns.getD i zFn).f4, ¬ (j.f0 = 30 ∧ j.f1 = n) from fun i hi j hj => by
                by_cases e : i = k
                · rw [e, HFE.out] at hj
                  obtain ⟨q, hq, rfl⟩ := List.getElem_of_mem hj
                  have := HNO2.out q hq
                  rw [show zi f.f4 q = f.f4[q] from by unfold zi; rw [List.getD_eq_getElem?_getD, List.getElem?_eq_getElem hq]; rfl] at this
                  exact this
                · exact HNO.out i (by omega) j hj)
              go_wp2_with fail
              go_roundw
              case rel => exact ⟨k + 1, by omega, by go_num, HX.out, HB2'.out⟩
              case measure => simp [intOf]; omega
        · obtain rfl : n = k := by omega
          have HLW := Lib.hid (HLAW.out HNO.out)
          have hEq : ∀ W : World, (binOp .eql 30 (.agg #[.int .i64 0, .int .i64 0]) (.agg #[.int .i64 0, .int .i64 0])).run Tryd.prog W = .ok (.bool true) W := fun W => by kernel_rfl
          go_wp2_with fail
          refine (Copied_any x (.agg #[.slice A0 x.globs.length c0, .slice A1 x.fns.length c1]) wr (HGF.out.below HBr.out) HSM.out).mono ?_
          rintro e w3 ⟨v', rfl, hO, hb3⟩
          obtain ⟨B0, d0, B1, d1, rfl, m0, q0, m1, q1⟩ := hO.reads
          obtain ⟨ad, e1, _⟩ := q1.2.2 (by omega)
          subst e1
          have HB3 := Lib.hid (below_next HBr.out hb3)
          have HV2 := Lib.hid (show ∀ W, Below w3.heap.size w3 W → Calls Tryd.prog 7 #[.agg #[.slice B0 x.globs.length d0, .slice (some ad) (x.fns.length - 1) d1]] W fun e w' => e = .returned (.agg #[.int .i64 0, .int .i64 0]) ∧ Below W.heap.size W w' from fun W hb => by
            have hle : n ≤ x.fns.length := by omega
            have h := Verify_any T (dropF x n) (.agg #[.slice B0 x.globs.length d0, .slice (some ad) n d1]) W ⟨B0, d0, some ad, d1, by rw [show (dropF x n).fns.length = n from by show (x.fns.take n).length = n; rw [List.length_take]; omega]; rfl, m0, Kd.C_below q0 hb, by show (x.fns.take n).length ≤ d1; rw [List.length_take]; omega, Kd.C_below (Kd.C_take q1 hle) hb⟩
              ⟨HSM.out.1, by show (x.fns.take n).length ≤ _; rw [List.length_take]; have := HSM.out.2.1; omega, fun f hf => HSM.out.2.2 f (List.mem_of_mem_take hf)⟩ (HG.out.below (below_next HB3.out hb)) (HT.out.below (below_next HB3.out hb)) hTK
            rw [HLW.out] at h
            rw [show x.fns.length - 1 = n from by omega]
            exact h)
          have hnd : n ≤ d1 := by omega
          clear q0 q1 hO hb3
          go_wp2_with fail
          refine (HV2.out _ (by first | exact below_alloc (Below.refl _ _) _ | exact below_set (below_alloc (Below.refl _ _) _) (Nat.le_refl _))).mono ?_
          rintro e w4 ⟨rfl, hb4⟩
          have HB4 := Lib.hid (below_next (below_next HB3.out (below_alloc (Below.refl _ _) _)) hb4)
          clear hb4
          go_wp2_with fail
          go_ret
          exact ⟨rfl, HB4.out⟩
  · have he' : (ec != 0) = true := by simpa using he
    clear he
    go_wp2_with fail
    go_ret
    exact ⟨rfl, below_alloc HB2.out _⟩
end Go.Proofs.YtedmncldelcbfaaDoor.E

namespace Go.Proofs.YtedmncldelcbfaaDoor.E
open Go Go.RowKit Go.Proofs.YtedmncldelcbfaaDoorW.PrintWords Go.Proofs.YtedmncldelcbfaaDoorW.PrintLast Go.Proofs.YtedmncldelcbfaaDoorW.PrintMore
set_option linter.unusedVariables false
set_option linter.unusedSimpArgs false
set_option maxRecDepth 100000
set_option maxHeartbeats 2000000

theorem eqFault (a b c d : Int) (W : World) : (binOp .eql 30 (.agg #[.int .i64 a, .int .i64 b]) (.agg #[.int .i64 c, .int .i64 d])).run Tryd.prog W = .ok (.bool (a == c && b == d)) W := by
  rw [run_eql_struct]
  have h : (Op.equalIn 10000 30 (.agg #[.int .i64 a, .int .i64 b]) (.agg #[.int .i64 c, .int .i64 d])).run Tryd.prog W = .ok (a == c && b == d) W := by
    refine eqA_of Tryd.underlying30 (by kernel_rfl) ?_
    refine eqf_cons (by rfl) (a := .int .i64 a) (b := .int .i64 c) (by go_simp) (by go_simp) (by go_simp) ?_
    exact eqf_last (by rfl) (a := .int .i64 b) (b := .int .i64 d) (by go_simp) (by go_simp) (by go_simp)
  rw [h]; rfl
theorem vm_eq (s : ByteArray) : (s.toList == [118, 101, 114, 105, 102, 121, 109, 111, 114, 101]) = decide (s = vmName) := by
  have h : (s.toList == vmName.toList) = (s == vmName) := (beq_toListBytes s vmName).symm
  rw [show vmName.toList = [118, 101, 114, 105, 102, 121, 109, 111, 114, 101] from by kernel_rfl] at h
  rw [h]
  by_cases he : s = vmName
  · rw [decide_eq_true he, he]; show (vmName.data == vmName.data) = true; simp
  · rw [decide_eq_false he]
    cases h1 : (s == vmName)
    · rfl
    · have h2 : (s.data == vmName.data) = true := h1
      exact absurd (ByteArray.ext (by simpa using h2)) he

/-- the first k functions lengthened -/
def moreTo (m : List SInstr) (k : Nat) (l : List SFn) : List SFn := (l.take k).map (addC m) ++ l.drop k
theorem moreTo_zero (m : List SInstr) (l : List SFn) : moreTo m 0 l = l := by simp [moreTo]
theorem moreTo_all (m : List SInstr) (l : List SFn) : moreTo m l.length l = l.map (addC m) := by simp [moreTo]
theorem moreTo_len (m : List SInstr) (k : Nat) (l : List SFn) : (moreTo m k l).length = l.length := by simp [moreTo]; omega
theorem moreTo_at (m : List SInstr) (k : Nat) (l : List SFn) (hk : k < l.length) : (moreTo m k l).getD k zFn = l.getD k zFn := by
  unfold moreTo
  rw [List.getD_eq_getElem?_getD, List.getElem?_append_right (by simp; omega), List.getElem?_drop, List.getD_eq_getElem?_getD]
  congr 2
  simp
  omega
theorem moreTo_set (m : List SInstr) (k : Nat) (l : List SFn) (hk : k < l.length) : (moreTo m k l).set k (addC m (l.getD k zFn)) = moreTo m (k + 1) l := by
  unfold moreTo
  rw [List.set_append_right _ _ (by simp; omega), List.take_add_one, List.getElem?_eq_getElem hk, List.map_append, List.getD_eq_getElem?_getD, List.getElem?_eq_getElem hk, List.drop_eq_getElem_cons hk]
  have : k - (List.map (addC m) (List.take k l)).length = 0 := by simp; omega
  rw [this]
  first | rw [List.set_cons_zero] | rw [List.drop_eq_getElem_cons hk, List.set_cons_zero]
  simp

/-- function k's code may be written: what comes back -/
theorem code_more {W : World} {B FB n cap : Nat} {xs : List SFn} (k : Nat) (hk : k < n) (hS : Kd.S kFn 35 W B (fun _ => True) (.slice (some ⟨FB, 0, none⟩) n cap) xs) :
    ∃ (oki : Nat → Prop) (A4 : Option Addr) (c4 : Nat), W.cell? ⟨FB, k * 5 + 4, none⟩ = some (.slice A4 (xs.getD k zFn).f4.length c4) ∧ (∀ k, oki k → k < W.heap.size ∧ k ≠ FB) ∧ FB < W.heap.size ∧ (∃ cells, W.heap[FB]? = some (.cells cells 35 (0, 0))) ∧
      kInstr.R 38 W B oki (.slice A4 (xs.getD k zFn).f4.length c4) (xs.getD k zFn).f4 ∧
      ∀ w1 v1 ys, kInstr.R 38 w1 B (fun k => oki k ∨ W.heap.size ≤ k) v1 ys → W.grownBy w1 (.slice A4 (xs.getD k zFn).f4.length c4 : Value).ownBlock → v1.oneCell' = true →
        w1.cell? ⟨FB, k * 5 + 4, none⟩ = some (.slice A4 (xs.getD k zFn).f4.length c4) ∧ w1.frozen? ⟨FB, k * 5 + 4, none⟩ = false ∧ Kd.S kFn 35 (w1.setCell ⟨FB, k * 5 + 4, none⟩ v1) B (fun _ => True) (.slice (some ⟨FB, 0, none⟩) n cap) (xs.set k { xs.getD k zFn with f4 := ys }) := by
  have hF : Kd.S kFn 35 W B (fun k => True ∧ ¬ W.heap.size ≤ k) (.slice (some ⟨FB, 0, none⟩) n cap) xs := Kd.S_mono (Kd.S_bound hS) (fun k hk => ⟨trivial, by have := hk.2.2.1; omega⟩)
  obtain ⟨cells, hcells⟩ := Kd.S_typed hF FB rfl
  have hlt := Kd.S_lt hF FB rfl
  obtain ⟨oki, c, hcl, hM, hcc, hfr, hoki, hH⟩ := Kd.S_elem hF zFn (k : Int) (by omega) (by omega)
  simp only [Int.toNat_natCast] at hM hcc hfr
  have hsz : kFn.sz = 5 := rfl
  rw [hsz] at hcc hfr
  obtain ⟨fr, hfe⟩ : ∃ fr, fr = xs.getD k zFn := ⟨_, rfl⟩
  rw [← hfe] at hM ⊢
  obtain ⟨v1, v3, v4, hc, h1, h3, h4⟩ := kFn_openM hM
  subst hc
  obtain ⟨A4, c4, rfl⟩ := Kd.R_slice h4
  refine ⟨oki, A4, c4, hcc 4 _ rfl, fun k hk => ⟨by have := (hoki k hk).1.2; omega, (hoki k hk).2⟩, hlt, ⟨cells, hcells⟩, h4, fun w1 v ys hR hg hone => ?_⟩
  have hne : (Value.slice A4 fr.f4.length c4).ownBlock ≠ some FB := fun e => (hoki FB (h4.1 FB e)).2 rfl
  have hH1 := Kd.H_grown hH hg (fun k hk => h4.1 k hk)
  have hb1 : w1.heap[FB]? = some (.cells cells 35 (0, 0)) := (hg.block FB hlt (fun e => hne e.symm)).trans hcells
  have g1 : (Kd.int .i64).R 3 w1 B (fun k => oki k ∨ W.heap.size ≤ k) v1 fr.f1 := Kd.R_mono (Kd.R_over' h1 (Kd.R_typed h4) (by decide) hg) (fun k hk => .inl hk)
  have g3 : (Kd.int .i64).R 3 w1 B (fun k => oki k ∨ W.heap.size ≤ k) v3 fr.f3 := Kd.R_mono (Kd.R_over' h3 (Kd.R_typed h4) (by decide) hg) (fun k hk => .inl hk)
  have hM2 := kFn_mkM w1 B (fun k => oki k ∨ W.heap.size ≤ k) { fr with f4 := ys } g1 g3 hR
  have h2 := Kd.S_seg (okg := fun k => W.heap.size ≤ k) (seg := [v]) (j := 4) hH1 (by omega) (by omega) (by rw [hsz]; show 4 + 1 ≤ 5; decide) (x' := { fr with f4 := ys }) (okp := fun k => oki k ∨ W.heap.size ≤ k) hM2 (fun k hk => hk) (fun k hk => ⟨trivial, by omega⟩)
  rw [Int.toNat_natCast, hsz] at h2
  have hce : w1.heap[FB]? = W.heap[FB]? := hg.block FB hlt (fun e => hne e.symm)
  exact ⟨by have := hcc 4 _ rfl; simpa [World.cell?, hce] using this, blk_frozen hb1 _, h2.1⟩
theorem instr_row (W : World) (base : Nat) (hbase : base ≤ W.heap.size) (ok : Nat → Prop) (hok : ok W.heap.size) (i : SInstr) :
    kInstr.R 38 (W.alloc (.cells #[.int .i64 i.f0, .int .i64 i.f1, .int .i64 i.f2] 38 (0, 0))) base ok (.slice (some ⟨W.heap.size, 0, none⟩) 1 1) [i] := by
  refine ⟨fun k hk => ?_, [.int .i64 i.f0, .int .i64 i.f1, .int .i64 i.f2], ?_, ?_⟩
  · have : W.heap.size = k := by simpa [Value.ownBlock] using hk
    rw [← this]; exact hok
  · have h2 := World.ownsRow_lit (base := base) (e := 38) (size := 3) W #[.int .i64 i.f0, .int .i64 i.f1, .int .i64 i.f2] 1 hbase (by decide) (by rfl)
    exact h2
  · refine ⟨rfl, fun j p hj => ?_⟩
    obtain rfl : j = 0 := by
      have := (List.getElem?_eq_some_iff.1 hj).1
      simp at this; omega
    obtain rfl : i = p := by simpa using hj
    exact kInstr_mkM _ _ _ i
end Go.Proofs.YtedmncldelcbfaaDoor.E

namespace Go.Proofs.YtedmncldelcbfaaDoor.E
open Go Go.RowKit Go.Proofs.YtedmncldelcbfaaDoorW.PrintWords Go.Proofs.YtedmncldelcbfaaDoorW.PrintLast Go.Proofs.YtedmncldelcbfaaDoorW.PrintMore
set_option linter.unusedVariables false
set_option linter.unusedSimpArgs false
set_option maxRecDepth 100000
set_option maxHeartbeats 4000000

/-- the copied image that is being lengthened -/
structure YK (w2 : World) (B gY : Nat) (V0 V1 : Value) (x : SImage) (ys : List SFn) (wr : World) : Prop where
  blk : wr.heap[gY]? = some (.cells #[V0, V1] 25 (0, 0))
  globs : Kd.R kGlob 73 wr B (fun _ => True) V0 x.globs
  fns : Kd.S kFn 35 wr B (fun _ => True) V1 ys
  below : Below w2.heap.size w2 wr
theorem YK.step {w2 wr w4 : World} {B gY FB n c4 o : Nat} {V0 V1 u : Value} {x : SImage} {ys ys' : List SFn} {oki : Nat → Prop} {A4 : Option Addr} {ys4 : List SInstr} (h : YK w2 B gY V0 V1 x ys wr) (hB : w2.heap.size ≤ B)
    (hR4 : kInstr.R 38 wr.drew B oki (.slice A4 n c4) ys4) (hFB : ∃ cells, wr.drew.heap[FB]? = some (.cells cells 35 (0, 0))) (hbF : B ≤ FB) (hyb : w4.heap[gY]? = some (.cells #[V0, V1] 25 (0, 0))) (hg : wr.drew.grownBy w4 (Value.slice A4 n c4).ownBlock)
    (hb : Below B wr.drew w4) (hS : Kd.S kFn 35 (w4.setCell ⟨FB, o, none⟩ u) B (fun _ => True) V1 ys') : YK w2 B gY V0 V1 x ys' (w4.setCell ⟨FB, o, none⟩ u) := by
  obtain ⟨cells, hc⟩ := hFB
  have hFY : gY ≠ FB := fun e => by
    have h1 := h.blk
    rw [e, show wr.heap[FB]? = wr.drew.heap[FB]? from rfl, hc] at h1
    exact absurd (Obj.cells.inj (Option.some.inj h1)).2.1 (by decide)
  have h4 : w4.heap[FB]? = some (.cells cells 35 (0, 0)) := (hg.block FB (blk_lt hc) (fun e => by
    obtain ⟨c2, h2⟩ := Kd.R_typed hR4 FB e.symm
    rw [hc] at h2
    exact absurd (Obj.cells.inj (Option.some.inj h2)).2.1 (by decide))).trans hc
  refine ⟨?_, ?_, hS, ?_⟩
  · rw [Below.heap_setCell _ _ _ gY hFY]; exact hyb
  · have h1 := Kd.R_over' (Kd.R_drew h.globs) (Kd.R_typed hR4) (by decide) hg
    exact Kd.R_mono (Kd.R_far (p := ⟨FB, o, none⟩) (Kd.R_types h1 h4 (by decide)) (fun _ hk => hk.2) u) (fun _ _ => trivial)
  · exact ((below_drew1 h.below).trans (hb.mono hB)).setCell (show w2.heap.size ≤ FB by omega) _

theorem YK.image {w2 wr : World} {B gY : Nat} {V0 V1 : Value} {x : SImage} {ys : List SFn} (h : YK w2 B gY V0 V1 x ys wr) : VImage wr ⟨x.globs, ys⟩ (.agg #[V0, V1]) := by
  obtain ⟨A0, c0, rfl, l0, g0⟩ := Kd.R_reads h.globs
  obtain ⟨A1, c1, rfl, l1, g1⟩ := Kd.S_reads h.fns
  exact ⟨A0, c0, A1, c1, rfl, l0, g0, l1, g1⟩

theorem VerifyMore_any (T : Nat → ByteArray × ByteArray) (x : SImage) (m : List SInstr) (v : Value) (AM : Option Addr) (cM : Nat) (w : World) (hv : VImage w x v) (hs : imgSmall 500000000000 x) (hm : m.length ≤ 500000000000) (hMC : kInstr.C w AM m.length m) (hcM : m.length ≤ cM) (hG : Nib w) (hT : Pln T w) (hTK : TOK T) :
    Calls Tryd.prog 3 #[v, .slice AM m.length cM] w fun e w' => e = .returned (.bool true) ∧ Below w.heap.size w w' := by
  obtain ⟨A0, c0, A1, c1, hve, l0, hG0, l1, hF0⟩ := hv
  subst hve
  have hs1 : imgSmall 1099511620000 x := ⟨by have := hs.1; omega, by have := hs.2.1; omega, fun f hf => by obtain ⟨a1, a2, a3, a4⟩ := hs.2.2 f hf; exact ⟨by omega, by omega, by omega, by omega⟩⟩
  have hs2 : imgSmall 1099511620000 (moreF x m) := ⟨by have := hs.1; show x.globs.length ≤ _; omega, by have := hs.2.1; show (x.fns.map (addC m)).length ≤ _; rw [List.length_map]; omega, fun f hf => by
    obtain ⟨f0, hf0, rfl⟩ := List.mem_map.1 hf
    obtain ⟨a1, a2, a3, a4⟩ := hs.2.2 f0 hf0
    exact ⟨by show f0.f0.size ≤ _; omega, by show f0.f1.length ≤ _; omega, by show f0.f3.length ≤ _; omega, by show (f0.f4 ++ m).length ≤ _; rw [List.length_append]; omega⟩⟩
  have hs3 : imgSmall 1099511620000 (lastF x) := ⟨by have := hs.1; show x.globs.length ≤ _; omega, by have := hs.2.1; show (x.fns ++ [vmFn]).length ≤ _; simp; omega, fun f hf => by
    rcases List.mem_append.1 hf with h | h
    · exact hs1.2.2 f h
    · rw [List.mem_singleton.1 h]; exact ⟨by decide, by decide, by decide, by decide⟩⟩
  have HGF := Lib.hid (show VImage w x (.agg #[.slice A0 x.globs.length c0, .slice A1 x.fns.length c1]) from ⟨A0, c0, A1, c1, rfl, l0, hG0, l1, hF0⟩)
  have HCF := Lib.hid hF0
  have HG := Lib.hid hG
  have HT := Lib.hid hT
  have HSM := Lib.hid hs1
  have HSM2 := Lib.hid hs2
  have HSM3 := Lib.hid hs3
  have HMC := Lib.hid hMC
  have HS5 := Lib.hid hs
  have hlf : x.fns.length ≤ 500000000000 := hs.2.1
  obtain ⟨ec, hec⟩ : ∃ z, z = (verifyS T x).1 := ⟨_, rfl⟩
  obtain ⟨ea, hea⟩ : ∃ z, z = (verifyS T x).2 := ⟨_, rfl⟩
  have HV := Lib.hid (show ∀ W, Below w.heap.size w W → Calls Tryd.prog 7 #[.agg #[.slice A0 x.globs.length c0, .slice A1 x.fns.length c1]] W fun e w' => e = .returned (.agg #[.int .i64 ec, .int .i64 ea]) ∧ Below W.heap.size W w' from fun W hb => by
    rw [hec, hea]; exact Verify_any T x _ _ (HGF.out.below hb) hs1 (hG.below hb) (hT.below hb) hTK)
  have HEC := Lib.hid hec
  clear hG hT hG0 hF0 hs hs1 hs2 hs3 hec hea hMC
  go_enter Tryd.func3, Tryd.ntmps3
  go_wp2_with fail
  have HB0 := Lib.hid (below_alloc (Below.refl w.heap.size w) (Obj.cells #[Value.slice A0 x.globs.length c0, Value.slice A1 x.fns.length c1] 25))
  refine (awake_any T _ (HG.out.below HB0.out) (HT.out.below HB0.out) hTK).mono ?_
  rintro e w1 ⟨rfl, hb1⟩
  have HB1 := Lib.hid (below_next HB0.out hb1)
  have HI1 := Lib.hid ((hb1.block w.heap.size (by simp)).trans (heap_alloc_new w _))
  have i0 : w1.cell? ⟨w.heap.size, 0, none⟩ = some (.slice A0 x.globs.length c0) := (blk_cell HI1.out 0).trans rfl
  have i1 : w1.cell? ⟨w.heap.size, 1, none⟩ = some (.slice A1 x.fns.length c1) := (blk_cell HI1.out 1).trans rfl
  clear hb1
  go_wp2_with fail
  refine (HV.out w1 HB1.out).mono ?_
  rintro e w2 ⟨rfl, hb2⟩
  have HB2 := Lib.hid (below_next HB1.out hb2)
  have HI2 := Lib.hid ((hb2.block w.heap.size (blk_lt HI1.out)).trans HI1.out)
  clear hb2 i0 i1
  have i0 : w2.cell? ⟨w.heap.size, 0, none⟩ = some (.slice A0 x.globs.length c0) := (blk_cell HI2.out 0).trans rfl
  have i1 : w2.cell? ⟨w.heap.size, 1, none⟩ = some (.slice A1 x.fns.length c1) := (blk_cell HI2.out 1).trans rfl
  have hlt2 := blk_lt HI2.out
  by_cases he : ec = 0
  · subst he
    go_wp2_with fail
    refine (Copied_any x (.agg #[.slice A0 x.globs.length c0, .slice A1 x.fns.length c1]) _ (HGF.out.below (below_alloc HB2.out _)) HSM.out).mono ?_
    rintro e w3 ⟨v', rfl, hO, hb3⟩
    obtain ⟨V0, V1, rfl, hR0, hS1⟩ := hO
    obtain ⟨Ag, cg, rfl⟩ := Kd.R_slice hR0
    obtain ⟨Af, cf, rfl⟩ := Kd.S_slice hS1
    have HB3sz := Lib.hid hb3.size
    have HR0 := Lib.hid hR0
    have HS1 := Lib.hid hS1
    have HB3 := Lib.hid (below_next (below_alloc (Below.refl w2.heap.size w2) _) hb3)
    clear hR0 hS1 hb3
    go_wp2_with fail
    obtain ⟨B, hB⟩ : ∃ B, B = (w2.alloc (Obj.cells #[.int .i64 0, .int .i64 ea] 30)).heap.size := ⟨_, rfl⟩
    rw [← hB] at HR0 HS1
    have hBw : w2.heap.size ≤ B := by rw [hB]; simp
    have hBw3 : B ≤ w3.heap.size := by rw [hB]; exact HB3sz.out
    clear hB
    have HGY := Lib.hid (show w2.heap.size ≤ w3.heap.size ∧ B ≤ w3.heap.size from by omega)
    go_loopw [8] (fun i wr => ∃ k : Nat, k ≤ x.fns.length ∧ i = .int .i64 k ∧ Hid (YK w2 B w3.heap.size (.slice Ag x.globs.length cg) (.slice Af x.fns.length cf) x (moreTo m k x.fns) wr)) (fun i _ => x.fns.length - (intOf i).toNat)
    case atStart =>
      refine ⟨0, by omega, rfl, ⟨?_, ?_, ?_, ?_⟩⟩
      · exact heap_alloc_new w3 _
      · exact Kd.R_alloc HR0.out _
      · rw [moreTo_zero]; exact Kd.S_alloc HS1.out _
      · exact below_alloc HB3.out _
    case round =>
      obtain ⟨k, hk, rfl, HY⟩ := hrel
      by_cases hlt : k < x.fns.length
      · have y1 : wr.cell? ⟨w3.heap.size, 1, none⟩ = some (.slice Af x.fns.length cf) := (blk_cell HY.out.blk 1).trans rfl
        have HAT := Lib.hid (moreTo_at m k x.fns hlt)
        have HSET := Lib.hid (moreTo_set m k x.fns hlt)
        obtain ⟨FB, cap, eV, hFBb, _⟩ := Kd.S_form HY.out.fns (by rw [moreTo_len]; omega)
        have hAf : Af = some ⟨FB, 0, none⟩ := (Value.slice.inj eV).1
        subst hAf
        clear eV
        have hYd : Kd.S kFn 35 wr.drew B (fun _ => True) (.slice (some ⟨FB, 0, none⟩) x.fns.length cf) (moreTo m k x.fns) := Kd.S_drew HY.out.fns
        obtain ⟨oki, A4, c4, hc4, hoki, hFB, hFBc, hR4, hback⟩ := code_more k hlt hYd
        rw [HAT.out] at hc4 hR4 hback
        obtain ⟨f, hf⟩ : ∃ f, f = x.fns.getD k zFn := ⟨_, rfl⟩
        rw [← hf] at hc4 hR4 hback
        have HFE := Lib.hid hf
        have hfl : f.f4.length ≤ 500000000000 := by
          have := HS5.out.2.2 f (by rw [hf]; exact getD_mem_fn _ _ (by omega))
          exact this.2.2.2
        clear hf
        have hc4' : wr.cell? ⟨FB, k * 5 + 4, none⟩ = some (.slice A4 f.f4.length c4) := hc4
        have HR4 := Lib.hid hR4
        have HBK := Lib.hid hback
        have HFB := Lib.hid hFBc
        have hYne : some w3.heap.size ≠ (Value.slice A4 f.f4.length c4).ownBlock := fun e => by
          obtain ⟨cells, hcc⟩ := Kd.R_typed hR4 w3.heap.size e.symm
          have := HY.out.blk
          rw [show wr.heap[w3.heap.size]? = wr.drew.heap[w3.heap.size]? from rfl, hcc] at this
          exact absurd (Obj.cells.inj (Option.some.inj this)).2.1 (by decide)
        have HYN := Lib.hid hYne
        clear hYd hc4 hoki hR4 hback hFBc hYne
        go_wp2_with fail
        go_region_law ((refine Kd.R_append_rows_step kInstr (w0 := wr.drew) (W := wr.drew) B (by rfl) _ _ 26 38 (.agg #[.int .i64 0, .int .i64 0, .int .i64 0]) 24 rfl Tryd.underlying26 infoInstr rfl (show 0 < 3 by decide) (by decide) (.slice A4 f.f4.length c4) f.f4 m AM m.length cM (fun k => oki k ∨ wr.drew.heap.size ≤ k) (fun _ => False) rfl rfl (Kd.R_mono HR4.out (fun _ hk => .inl hk)) (Kd.C_below HMC.out (below_drew (below_next HB2.out HY.out.below))) (fun x cs h => by rw [kInstr_open h]; exact kInstr_mkM _ _ _ _) (fun _ h => h.elim) (fun k hk => .inr hk) (Below.refl _ _) (Nat.le_trans hBw3 (Nat.le_of_lt (blk_lt HY.out.blk))) (by omega) ?_; intro v1 w4 hv1 hb1 hg1 hat1; obtain ⟨A', c', rfl⟩ := Kd.R_slice hv1; obtain ⟨hq1, hq2, hq3⟩ := HBK.out w4 _ _ hv1 hg1 rfl; have HQ := Lib.hid hq3; have HG1 := Lib.hid hg1; have hyb := (hg1.block w3.heap.size (blk_lt HY.out.blk) HYN.out).trans HY.out.blk; have hy1 : w4.cell? ⟨w3.heap.size, 1, none⟩ = some (.slice (some ⟨FB, 0, none⟩) x.fns.length cf) := (blk_cell hyb 1).trans rfl; have HYB := Lib.hid hyb; have HV1 := Lib.hid hb1; clear hv1 hb1 hg1 hat1 hq3 hyb))
        all_goals go_wp2_with fail
        all_goals
          refine ⟨⟨k + 1, by omega, by go_num, ?_⟩, by simp [intOf]; omega⟩
          have hq := HQ.out
          rw [show ({ f with f4 := f.f4 ++ m } : SFn) = addC m (x.fns.getD k zFn) from by rw [← HFE.out]; rfl, HSET.out, show (f.f4 ++ m).length = f.f4.length + m.length from List.length_append] at hq
          exact HY.out.step hBw HR4.out HFB.out hFBb HYB.out HG1.out HV1.out hq
      · obtain rfl : k = x.fns.length := by omega
        have hY := HY.out
        rw [moreTo_all] at hY
        have HIY := Lib.hid (show VImage wr (moreF x m) (.agg #[.slice Ag x.globs.length cg, .slice Af x.fns.length cf]) from hY.image)
        have HYB := Lib.hid hY.blk
        have HYW := Lib.hid (below_next HB2.out hY.below)
        clear hY
        obtain ⟨ry, hry⟩ : ∃ r, r = rightE (moreF x m) := ⟨_, rfl⟩
        obtain ⟨gc, hgc⟩ : ∃ z, z = (verifyS T (moreF x m)).1 := ⟨_, rfl⟩
        obtain ⟨ga, hga⟩ : ∃ z, z = (verifyS T (moreF x m)).2 := ⟨_, rfl⟩
        have HRY := Lib.hid hry
        have HGC := Lib.hid hgc
        have HGA := Lib.hid hga
        clear hry hgc hga i0 i1
        have y0 : wr.cell? ⟨w3.heap.size, 0, none⟩ = some (.slice Ag x.globs.length cg) := (blk_cell HYB.out 0).trans rfl
        have y1 : wr.cell? ⟨w3.heap.size, 1, none⟩ = some (.slice Af x.fns.length cf) := (blk_cell HYB.out 1).trans rfl
        go_wp2_with fail
        refine (Right_any (moreF x m) _ wr HIY.out HSM2.out (HG.out.below HYW.out)).mono ?_
        rintro e w4 ⟨rfl, hb4⟩
        rw [← HRY.out]
        have HB4 := Lib.hid (below_next HYW.out hb4)
        have HYB4 := Lib.hid ((hb4.block w3.heap.size (blk_lt HYB.out)).trans HYB.out)
        have HIY4 := Lib.hid (HIY.out.below hb4)
        have HB24 := Lib.hid (below_next HY.out.below hb4)
        clear hb4 y0 y1
        have y0 : w4.cell? ⟨w3.heap.size, 0, none⟩ = some (.slice Ag x.globs.length cg) := (blk_cell HYB4.out 0).trans rfl
        have y1 : w4.cell? ⟨w3.heap.size, 1, none⟩ = some (.slice Af x.fns.length cf) := (blk_cell HYB4.out 1).trans rfl
        go_wp2_with fail
        refine (Verify_any T (moreF x m) _ w4 HIY4.out HSM2.out (HG.out.below HB4.out) (HT.out.below HB4.out) hTK).mono ?_
        rintro e w5 ⟨rfl, hb5⟩
        rw [← HGC.out, ← HGA.out]
        have HB5 := Lib.hid (below_next HB4.out hb5)
        have HB25 := Lib.hid (below_next HB24.out hb5)
        have HI5 := Lib.hid ((HB25.out.block w.heap.size hlt2).trans HI2.out)
        clear hb5 y0 y1
        by_cases hr : ry = 0
        · subst hr
          have hv1 : gc = 0 ∧ ga = 0 := by
            have h1 := more_law T hTK x m HEC.out.symm HRY.out.symm
            rw [HGC.out, HGA.out, h1]
            exact ⟨rfl, rfl⟩
          obtain ⟨rfl, rfl⟩ := hv1
          have i0 : w5.cell? ⟨w.heap.size, 0, none⟩ = some (.slice A0 x.globs.length c0) := (blk_cell HI5.out 0).trans rfl
          have i1 : w5.cell? ⟨w.heap.size, 1, none⟩ = some (.slice A1 x.fns.length c1) := (blk_cell HI5.out 1).trans rfl
          have hlt5 := blk_lt HI5.out
          go_wp2_with fail
          refine (Copied_any x (.agg #[.slice A0 x.globs.length c0, .slice A1 x.fns.length c1]) _ (HGF.out.below (below_alloc HB5.out _)) HSM.out).mono ?_
          rintro e w6 ⟨v', rfl, hO, hb6⟩
          obtain ⟨V0, V1, rfl, hR0, hS1⟩ := hO
          obtain ⟨Bg, dg, rfl⟩ := Kd.R_slice hR0
          obtain ⟨Bf, df, rfl⟩ := Kd.S_slice hS1
          have HR6 := Lib.hid hR0
          have HS6 := Lib.hid hS1
          have HB6 := Lib.hid (below_next (below_alloc HB5.out _) hb6)
          have HI6 := Lib.hid ((hb6.block w.heap.size (by simp; omega)).trans ((heap_alloc_old w5 _ hlt5).trans HI5.out))
          have HG6 := Lib.hid ((hb6.block w5.heap.size (by simp)).trans (heap_alloc_new w5 _))
          have HZ6 := Lib.hid (show w5.heap.size < w6.heap.size from by have := hb6.size; simp at this; omega)
          obtain ⟨B2, hB2⟩ : ∃ B, B = (w5.alloc (Obj.cells #[.int .i64 0, .int .i64 0] 30)).heap.size := ⟨_, rfl⟩
          rw [← hB2] at HR6 HS6
          have hB26 : B2 ≤ w6.heap.size := by rw [hB2]; exact hb6.size
          have hB25 : w5.heap.size < B2 := by rw [hB2]; simp
          clear hR0 hS1 hb6 i0 i1 hB2
          obtain ⟨WI, hWI⟩ : ∃ W, W = (w6.alloc (Obj.cells #[.slice Bg x.globs.length dg, .slice Bf x.fns.length df] 25)).alloc (Obj.cells #[.int .i64 32, .int .i64 0, .int .i64 0] 38) := ⟨_, rfl⟩
          have hWs : WI.heap.size = w6.heap.size + 1 + 1 := by rw [hWI]; simp
          have hWR : kInstr.R 38 WI B2 (fun k => k = w6.heap.size + 1) (.slice (some ⟨w6.heap.size + 1, 0, none⟩) 1 1) [⟨32, 0, 0⟩] := by
            have h := instr_row (w6.alloc (Obj.cells #[.slice Bg x.globs.length dg, .slice Bf x.fns.length df] 25)) B2 (by simp; omega) (fun k => k = w6.heap.size + 1) (by simp) ⟨32, 0, 0⟩
            rw [hWI]; simpa using h
          have HWM := Lib.hid (show kFn.M WI B2 (fun k => k = w6.heap.size + 1) vmFn [.string vmName, .slice none 0 0, .int .i64 0, .slice none 0 0, .slice (some ⟨w6.heap.size + 1, 0, none⟩) 1 1] from kFn_mkM WI B2 _ vmFn (Kd.R_nil _ _ _ _ _) (Kd.R_nil _ _ _ _ _) hWR)
          have HWS := Lib.hid (show Kd.S kFn 35 WI B2 (fun k => True ∧ ¬ k = w6.heap.size + 1) (.slice Bf x.fns.length df) x.fns from by
            rw [hWI]
            exact Kd.S_alloc (Kd.S_alloc (Kd.S_mono (Kd.S_bound HS6.out) (fun k hk => ⟨trivial, by have := hk.2.2.1; omega⟩)) _) _)
          have HWK := Lib.hid (show ∀ k, k = w6.heap.size + 1 → True ∧ some k ≠ (Value.slice Bf x.fns.length df).ownBlock from fun k hk => ⟨trivial, fun e => by have := Kd.S_lt HS6.out k e.symm; omega⟩)
          have hWle : B2 ≤ WI.heap.size := by omega
          have HZN := Lib.hid (show some w6.heap.size ≠ (Value.slice Bf x.fns.length df).ownBlock from fun e => by have := Kd.S_lt HS6.out _ e.symm; omega)
          have HZL := Lib.hid (show w6.heap.size < WI.heap.size by omega)
          have HZW := Lib.hid (show WI.heap[w6.heap.size]? = some (.cells #[.slice Bg x.globs.length dg, .slice Bf x.fns.length df] 25 (0, 0)) from by rw [hWI]; exact (heap_alloc_old _ _ (by simp)).trans (heap_alloc_new _ _))
          clear hWR
          subst hWI
          go_wp2_with (at_builtin; refine Kd.S_append kFn (w0 := ((w6.alloc (Obj.cells #[.slice Bg x.globs.length dg, .slice Bf x.fns.length df] 25)).alloc (Obj.cells #[.int .i64 32, .int .i64 0, .int .i64 0] 38))) (W := ((w6.alloc (Obj.cells #[.slice Bg x.globs.length dg, .slice Bf x.fns.length df] 25)).alloc (Obj.cells #[.int .i64 32, .int .i64 0, .int .i64 0] 38))) B2 rfl _ _ 23 35 (.agg #[.string ⟨#[]⟩, .slice none 0 0, .int .i64 0, .slice none 0 0, .slice none 0 0]) 96 rfl Tryd.underlying23 infoFn rfl (show 0 < 5 by decide) (by decide) (.slice Bf x.fns.length df) x.fns vmFn [.string vmName, .slice none 0 0, .int .i64 0, .slice none 0 0, .slice (some ⟨w6.heap.size + 1, 0, none⟩) 1 1] (fun _ => True) (fun k => k = w6.heap.size + 1) rfl (by rw [hWs]; rfl) HWM.out HWK.out (fun _ _ => trivial) HWS.out (Below.refl _ _) hWle (by omega) ?_; intro v7 w7 hv7 hb7 hg7 hat7; obtain ⟨A', c', rfl⟩ := Kd.S_slice hv7; have HV7 := Lib.hid hv7; have HB7 := Lib.hid hb7; have HG7 := Lib.hid hg7; have hzb := (hg7.block w6.heap.size HZL.out HZN.out).trans HZW.out; have HZB := Lib.hid hzb; have z0 : w7.cell? ⟨w6.heap.size, 1, none⟩ = some (.slice Bf x.fns.length df) := (blk_cell hzb 1).trans rfl; have z1 : w7.frozen? ⟨w6.heap.size, 1, none⟩ = false := blk_frozen hzb 1; clear hv7 hb7 hg7 hat7 hzb)
          obtain ⟨vZ, hvZ⟩ : ∃ v, v = Value.slice A' (x.fns.length + 1) c' := ⟨_, rfl⟩
          obtain ⟨w8, hw8⟩ : ∃ W, W = w7.setCell ⟨w6.heap.size, 1, none⟩ vZ := ⟨_, rfl⟩
          have HVZ := Lib.hid (show Kd.S kFn 35 w7 B2 (fun _ => True) vZ (lastF x).fns from by
            have h := HV7.out
            rw [show (x.fns ++ [vmFn]).length = x.fns.length + 1 by simp, ← hvZ] at h
            exact h)
          have HIZ := Lib.hid (show VImage w8 (lastF x) (.agg #[.slice Bg x.globs.length dg, vZ]) from by
            rw [hw8]
            have h0 := Kd.R_over' (Kd.R_alloc (Kd.R_alloc HR6.out (Obj.cells #[.slice Bg x.globs.length dg, .slice Bf x.fns.length df] 25)) (Obj.cells #[.int .i64 32, .int .i64 0, .int .i64 0] 38)) (Kd.S_typed HWS.out) (by decide) HG7.out
            obtain ⟨P0, q0, e0, k0, g0⟩ := Kd.R_reads (Kd.R_far (p := ⟨w6.heap.size, 1, none⟩) (Kd.R_types h0 HZB.out (by decide)) (fun _ hk => hk.2) vZ)
            obtain ⟨P1, q1, e1, k1, g1⟩ := Kd.S_reads (Kd.S_far (p := ⟨w6.heap.size, 1, none⟩) (Kd.S_types HVZ.out HZB.out (by decide)) (fun _ hk => hk.2) vZ)
            exact ⟨P0, q0, P1, q1, by rw [e0]; exact congrArg (fun v => Value.agg #[_, v]) e1, k0, g0, k1, g1⟩)
          have HZ8 := Lib.hid (show w8.heap[w6.heap.size]? = some (.cells #[.slice Bg x.globs.length dg, vZ] 25 (0, 0)) from by rw [hw8]; exact blk_set HZB.out 1 _)
          have HG8 := Lib.hid (show w8.heap[w5.heap.size]? = some (.cells #[.int .i64 0, .int .i64 0] 30 (0, 0)) from by
            rw [hw8, Below.heap_setCell _ _ _ w5.heap.size (by show w5.heap.size ≠ w6.heap.size; omega)]
            exact (HB7.out.block w5.heap.size hB25).trans ((heap_alloc_old _ _ (by simp; omega)).trans ((heap_alloc_old _ _ HZ6.out).trans HG6.out)))
          have HI8 := Lib.hid (show w8.heap[w.heap.size]? = some (.cells #[.slice A0 x.globs.length c0, .slice A1 x.fns.length c1] 25 (0, 0)) from by
            rw [hw8, Below.heap_setCell _ _ _ w.heap.size (by show w.heap.size ≠ w6.heap.size; omega)]
            exact (HB7.out.block w.heap.size (by omega)).trans ((heap_alloc_old _ _ (by simp; omega)).trans ((heap_alloc_old _ _ (by omega)).trans HI6.out)))
          have HB8 := Lib.hid (show Below w.heap.size w w8 from by
            rw [hw8]
            exact ((below_alloc (below_alloc HB6.out _) _).trans (HB7.out.mono (by omega))).setCell (show w.heap.size ≤ w6.heap.size by omega) _)
          rw [← hvZ, ← hw8]
          clear hw8 hvZ z0 z1
          have i0 : w8.cell? ⟨w.heap.size, 0, none⟩ = some (.slice A0 x.globs.length c0) := (blk_cell HI8.out 0).trans rfl
          have i1 : w8.cell? ⟨w.heap.size, 1, none⟩ = some (.slice A1 x.fns.length c1) := (blk_cell HI8.out 1).trans rfl
          obtain ⟨oldL, hold⟩ : ∃ g : Nat → Bool, g = fun k => (x.fns.take k).any (fun f => decide (f.f0 = vmName)) := ⟨_, rfl⟩
          have HOLD := Lib.hid hold
          clear hold
          have ho0 : oldL 0 = false := by rw [HOLD.out]; rfl
          go_loopw [12, 13] (fun o i wr => ∃ k : Nat, k ≤ x.fns.length ∧ o = .bool (oldL k) ∧ i = .int .i64 k ∧ wr = w8) (fun _ i _ => x.fns.length - (intOf i).toNat)
          case atStart => exact ⟨0, by omega, by rw [ho0], rfl, rfl⟩
          case round =>
            obtain ⟨k, hk, rfl, rfl, rfl⟩ := hrel
            by_cases hlt : k < x.fns.length
            · have hst : oldL (k + 1) = (oldL k || decide ((x.fns.getD k zFn).f0 = vmName)) := by
                rw [HOLD.out]
                show (x.fns.take (k + 1)).any _ = _
                rw [List.take_add_one, List.getElem?_eq_getElem hlt, List.any_append, List.getD_eq_getElem?_getD, List.getElem?_eq_getElem hlt]
                simp
              obtain ⟨f, hf⟩ : ∃ f, f = rd_TFn x.fns (k : Int) := ⟨_, rfl⟩
              rw [show x.fns.getD k zFn = f from by rw [hf]; rfl] at hst
              obtain ⟨ad, B1, d1, B3, d3, B4, d4, hA, h0, h1, h2, h3, h4, m1, g1, m3, g3, m4, g4⟩ := at_TFn (Kd.C_below HCF.out HB8.out) (k : Int) (by omega) (by omega)
              subst hA
              rw [← hf] at h0
              simp only [Int.toNat_natCast] at h0
              clear h1 h2 h3 h4 m1 g1 m3 g3 m4 g4 hf
              obtain ⟨s, hs⟩ : ∃ s, s = f.f0 := ⟨_, rfl⟩
              obtain ⟨ok, hok⟩ : ∃ o, o = oldL k := ⟨_, rfl⟩
              obtain ⟨on, hon⟩ : ∃ o, o = oldL (k + 1) := ⟨_, rfl⟩
              rw [← hs] at h0
              rw [← hs, ← hon, ← hok] at hst
              rw [← hok]
              have HON := Lib.hid hon
              clear hs hok hon
              cases ok
              · go_wp2_with fail
                refine ⟨⟨k + 1, by omega, ?_, by go_num, trivial⟩, by simp [intOf]; omega⟩
                rw [← HON.out, hst, vm_eq]; rfl
              · go_wp2_with fail
                refine ⟨⟨k + 1, by omega, ?_, by go_num, trivial⟩, by simp [intOf]; omega⟩
                rw [← HON.out, hst]; rfl
            · obtain rfl : k = x.fns.length := by omega
              obtain ⟨old, hol⟩ : ∃ o, o = oldL x.fns.length := ⟨_, rfl⟩
              have HOL := Lib.hid hol
              rw [← hol]
              have z0 : wr.cell? ⟨w6.heap.size, 0, none⟩ = some (.slice Bg x.globs.length dg) := (blk_cell HZ8.out 0).trans rfl
              have z1 : wr.cell? ⟨w6.heap.size, 1, none⟩ = some vZ := (blk_cell HZ8.out 1).trans rfl
              clear hol
              go_wp2_with fail
              refine (Right_any (lastF x) _ wr HIZ.out HSM3.out (HG.out.below HB8.out)).mono ?_
              rintro e w9 ⟨rfl, hb9⟩
              have HB9 := Lib.hid (below_next HB8.out hb9)
              have HZ9 := Lib.hid ((hb9.block w6.heap.size (blk_lt HZ8.out)).trans HZ8.out)
              have HG9 := Lib.hid ((hb9.block w5.heap.size (blk_lt HG8.out)).trans HG8.out)
              have HIZ9 := Lib.hid (HIZ.out.below hb9)
              obtain ⟨rz, hrz⟩ : ∃ r, r = rightE (lastF x) := ⟨_, rfl⟩
              obtain ⟨zc, hzc⟩ : ∃ r, r = (verifyS T (lastF x)).1 := ⟨_, rfl⟩
              obtain ⟨za, hza⟩ : ∃ r, r = (verifyS T (lastF x)).2 := ⟨_, rfl⟩
              have HRZ := Lib.hid hrz
              have HZC := Lib.hid hzc
              have HZA := Lib.hid hza
              rw [← hrz]
              clear hb9 z0 z1 i0 i1 hrz hzc hza
              have z0 : w9.cell? ⟨w6.heap.size, 0, none⟩ = some (.slice Bg x.globs.length dg) := (blk_cell HZ9.out 0).trans rfl
              have z1 : w9.cell? ⟨w6.heap.size, 1, none⟩ = some vZ := (blk_cell HZ9.out 1).trans rfl
              go_wp2_with fail
              refine (Verify_any T (lastF x) _ w9 HIZ9.out HSM3.out (HG.out.below HB9.out) (HT.out.below HB9.out) hTK).mono ?_
              rintro e w10 ⟨rfl, hb10⟩
              rw [← HZC.out, ← HZA.out]
              have HB10 := Lib.hid (below_next HB9.out hb10)
              have HG10 := Lib.hid ((hb10.block w5.heap.size (blk_lt HG9.out)).trans HG9.out)
              clear hb10 z0 z1
              have g0 : w10.cell? ⟨w5.heap.size, 0, none⟩ = some (.int .i64 0) := (blk_cell HG10.out 0).trans rfl
              have g1 : w10.cell? ⟨w5.heap.size, 1, none⟩ = some (.int .i64 0) := (blk_cell HG10.out 1).trans rfl
              have hlt10 := blk_lt HG10.out
              have hE0 : ∀ W : World, (binOp .eql 30 (.agg #[.int .i64 0, .int .i64 0]) (.agg #[.int .i64 0, .int .i64 0])).run Tryd.prog W = .ok (.bool true) W := fun W => by rw [eqFault]; rfl
              obtain ⟨q, hq⟩ : ∃ q : Bool, q = (zc == 0 && za == 0) := ⟨_, rfl⟩
              have hE1 : ∀ W : World, (binOp .eql 30 (.agg #[.int .i64 zc, .int .i64 za]) (.agg #[.int .i64 0, .int .i64 0])).run Tryd.prog W = .ok (.bool q) W := fun W => by rw [eqFault, hq]
              have HQ := Lib.hid hq
              clear hq
              have HANS := Lib.hid (show q = true ∨ old = true ∨ (rz != 0) = true from by
                by_cases h1 : rz = 0
                · cases h2 : old
                  · left
                    have h3 : ∀ f ∈ x.fns, f.f0 ≠ vmName := fun f hf he => by
                      have h4 := HOL.out
                      rw [HOLD.out, h2] at h4
                      have h5 : (x.fns.take x.fns.length).any (fun f => decide (f.f0 = vmName)) = true := by
                        rw [List.take_length, List.any_eq_true]
                        exact ⟨f, hf, by simpa using he⟩
                      exact absurd (h4.trans h5) (by decide)
                    have h6 := last_law T hTK x HEC.out.symm (by rw [← HRZ.out]; exact h1) h3
                    rw [HQ.out, HZC.out, HZA.out, h6]
                    rfl
                  · exact .inr (.inl rfl)
                · right; right; simpa using h1)
              obtain ⟨rb, hrb⟩ : ∃ r, r = (rz != 0) := ⟨_, rfl⟩
              have HRB := Lib.hid hrb
              have hrb2 : (rz != 0) = rb := hrb.symm
              clear hrb
              have HAN2 := Lib.hid (show q = true ∨ old = true ∨ rb = true from by rw [HRB.out]; exact HANS.out)
              clear HQ HOL HRB HANS
              rcases HAN2.out with e | e | e
              · subst e
                go_wp2_with fail
                go_ret
                exact ⟨rfl, below_alloc HB10.out _⟩
              · subst e
                cases q
                · go_wp2_with fail
                  go_ret
                  exact ⟨rfl, below_alloc HB10.out _⟩
                · go_wp2_with fail
                  go_ret
                  exact ⟨rfl, below_alloc HB10.out _⟩
              · subst e
                cases q <;> cases old
                all_goals
                  go_wp2_with fail
                  go_ret
                  exact ⟨rfl, below_alloc HB10.out _⟩
        · have hr1 : (ry != 0) = true := by simpa using hr
          have hv1 : gc = ry ∧ ga = -1 := by
            rw [HGC.out, HGA.out, HRY.out]
            rw [HRY.out] at hr
            unfold verifyS
            rw [if_neg hr]
            exact ⟨rfl, rfl⟩
          obtain ⟨rfl, rfl⟩ := hv1
          clear hr
          have hEq : ∀ W : World, (binOp .eql 30 (.agg #[.int .i64 gc, .int .i64 (-1)]) (.agg #[.int .i64 gc, .int .i64 (-1)])).run Tryd.prog W = .ok (.bool true) W := fun W => by rw [eqFault]; simp
          go_wp2_with fail
          go_ret
          exact ⟨rfl, below_alloc HB5.out _⟩
  · have he' : (ec != 0) = true := by simpa using he
    clear he
    go_wp2_with fail
    go_ret
    exact ⟨rfl, below_alloc HB2.out _⟩
end Go.Proofs.YtedmncldelcbfaaDoor.E

namespace Go.Proofs.YtedmncldelcbfaaDoor.E
open Go Go.Proofs Go.RowKit Go.Deep Go.ChangeShapes Go.WideShapes Go.Proofs.YtedmncldelcbfaaDoorW.PrintWords Go.Proofs.YtedmncldelcbfaaDoorW.PrintLast Go.Proofs.YtedmncldelcbfaaDoorW.PrintMore
set_option linter.unusedVariables false
set_option linter.unusedSimpArgs false
set_option maxRecDepth 100000
set_option maxHeartbeats 2000000

theorem bulk_pos {H : Type} (d : DataW H) : 1 ≤ Rows.uptoBulk d := by
  cases d with
  | lit l => cases l <;> simp [Rows.uptoBulk]
  | nil => simp [Rows.uptoBulk]
  | ptr => simp [Rows.uptoBulk]
  | slice => simp [Rows.uptoBulk]
  | agg => simp [Rows.uptoBulk]
  | iface => simp [Rows.uptoBulk]
  | map => simp [Rows.uptoBulk]
  | held => simp [Rows.uptoBulk]
theorem bulk_all_len {H : Type} : ∀ l : List (DataW H), l.length ≤ Rows.uptoBulkAll l
  | [] => by simp [Rows.uptoBulkAll]
  | d :: r => by have := bulk_pos d; have := bulk_all_len r; simp [Rows.uptoBulkAll]; omega
theorem bulk_all_mem {H : Type} : ∀ (l : List (DataW H)) (d : DataW H), d ∈ l → Rows.uptoBulk d ≤ Rows.uptoBulkAll l
  | [], d, h => by simp at h
  | e :: r, d, h => by
    rcases List.mem_cons.1 h with rfl | h
    · simp [Rows.uptoBulkAll]
    · have := bulk_all_mem r d h; simp [Rows.uptoBulkAll]; omega
/-- what reads as a datum is of this kind, and no longer than the datum's bulk -/
def Opn {α : Type} (d : Kd α) (t : TypeId) (bd : Nat → α → Prop) : Prop :=
  ∀ (H : Type) (enc : TypeId × Value → H) (W : World) (fuel : Nat) (cs : List Value) (y : DataW H × List MemPlace), DataW.trod enc Tryd.prog W 0 (fun _ => true) true fuel t cs = some y → ∃ x, d.K W x cs ∧ bd (Rows.uptoBulk y.1) x
theorem opn_int {k : IntKind} {t : TypeId} (ht : Tryd.prog.underlying t = some (.int k)) : Opn (Kd.int k) t (fun _ _ => True) := by
  intro H enc W fuel cs y h
  obtain ⟨n, rfl, rfl, _⟩ := DataW.trod_int ht h
  exact ⟨n, rfl, trivial⟩
theorem opn_string {t : TypeId} (ht : Tryd.prog.underlying t = some .string) : Opn Kd.string t (fun n s => s.size + 1 ≤ n) := by
  intro H enc W fuel cs y h
  obtain ⟨s, rfl, rfl, _⟩ := DataW.trod_string ht h
  exact ⟨s, rfl, by simp [Rows.uptoBulk]⟩
theorem opn_slice {α : Type} {d : Kd α} {t e : TypeId} {bd : Nat → α → Prop} (ht : Tryd.prog.underlying t = some (.slice e)) (hsz : Tryd.prog.cellsOf e = d.sz) (he : Opn d e bd) :
    Opn (Kd.slice e d) t (fun n l => l.length ≤ n ∧ ∀ x ∈ l, ∃ m, m ≤ n ∧ bd m x) := by
  intro H enc W fuel cs y h
  rcases open_slice ht h with ⟨rfl, rfl⟩ | ⟨a, len, cap, m, n, D, Pl, rfl, hb, hl, hm, hmm, rfl, hel⟩
  · exact ⟨[], ⟨none, 0, rfl, by simp, Kd.C_nil _ _⟩, by simp, by simp⟩
  · have hml : len ≤ m := by rw [hmm]; simp; exact hl
    have hx : ∀ i, i < len → ∃ x, ∃ cs', W.cells? 0 (a.add (i * d.sz)) d.sz = some cs' ∧ d.K W x cs' ∧ bd (Rows.uptoBulk (D i)) x := by
      intro i hi
      obtain ⟨cs', h1, h2⟩ := hel i (by omega)
      obtain ⟨x, hx1, hx2⟩ := he H enc W n cs' _ h2
      rw [hsz] at h1
      exact ⟨x, cs', h1, hx1, hx2⟩
    have hml2 : maxLen ≤ 9223372036854775807 := by unfold maxLen; omega
    have hbk : Rows.uptoBulk (DataW.slice ((List.range len).map D) ((List.range (m - len)).map fun j => D (len + j))) = Rows.uptoBulkAll ((List.range len).map D) + Rows.uptoBulkAll ((List.range (m - len)).map fun j => D (len + j)) + 1 := by simp [Rows.uptoBulk]
    refine ⟨List.ofFn (fun i : Fin len => Classical.choose (hx i i.2)), ⟨some a, cap, by simp, by simp; exact hl, ?_⟩, ?_, ?_⟩
    · refine ⟨rfl, by simp; omega, fun _ => ⟨a, rfl, fun j p hj => ?_⟩⟩
      have hjl : j < len := by
        have := (List.getElem?_eq_some_iff.1 hj).1
        simpa using this
      have hp : p = Classical.choose (hx j hjl) := by
        rw [List.getElem?_ofFn] at hj
        simp [hjl] at hj
        exact hj.symm
      obtain ⟨cs', h1, h2, h3⟩ := Classical.choose_spec (hx j hjl)
      rw [← hp] at h2
      obtain ⟨_, hlen, hc⟩ := World.cells?_some h1
      refine ⟨cs', hlen, h2, fun i u hu => ?_⟩
      have hi : i < d.sz := by rw [← hlen]; exact (List.getElem?_eq_some_iff.1 hu).1
      have := hc i hi
      rw [hu] at this
      rw [← this]
      rw [Go.Deep.add_add]
    · have h1 := bulk_all_len ((List.range len).map D)
      simp only [List.length_map, List.length_range] at h1
      simp only [List.length_ofFn]
      rw [hbk]; omega
    · intro x hxm
      obtain ⟨i, rfl⟩ := (List.mem_ofFn).1 hxm
      obtain ⟨cs', h1, h2, h3⟩ := Classical.choose_spec (hx i i.2)
      have h4 := bulk_all_mem ((List.range len).map D) (D i) (List.mem_map.2 ⟨i, List.mem_range.2 i.2, rfl⟩)
      exact ⟨_, by rw [hbk]; omega, h3⟩

theorem opn_instr : Opn kInstr 38 (fun _ _ => True) := by
  intro H enc W fuel cs y h
  have hu : Tryd.prog.underlying 38 = some _ := Tryd.underlying38
  obtain ⟨xs, n, _, rfl, hl, hlen, hf⟩ := DataW.trod_struct hu h
  match xs, hlen with
  | [y0, y1, y2], _ =>
    have h0 := hf 0 _ rfl
    have h1 := hf 1 _ rfl
    have h2 := hf 2 _ rfl
    obtain ⟨a, e0, _⟩ := DataW.trod_int Tryd.underlying3 (h0.trans rfl)
    obtain ⟨b, e1, _⟩ := DataW.trod_int Tryd.underlying3 (h1.trans rfl)
    obtain ⟨c, e2, _⟩ := DataW.trod_int Tryd.underlying3 (h2.trans rfl)
    have hc : Tryd.prog.cellsOf 38 = 3 := by kernel_rfl
    have hi : Tryd.prog.cellsOf 3 = 1 := by kernel_rfl
    rw [hc] at hl
    replace e0 : (cs.drop 0).take (Tryd.prog.cellsOf 3) = [.int .i64 a] := e0
    replace e1 : (cs.drop 1).take (Tryd.prog.cellsOf 3) = [.int .i64 b] := e1
    replace e2 : (cs.drop 2).take (Tryd.prog.cellsOf 3) = [.int .i64 c] := e2
    rw [hi] at e0 e1 e2
    match cs, hl with
    | [c0, c1, c2], _ =>
      simp at e0 e1 e2
      subst e0 e1 e2
      exact ⟨⟨a, b, c⟩, kInstr_mk W ⟨a, b, c⟩, trivial⟩
theorem opn_glob : Opn kGlob 73 (fun _ _ => True) := by
  intro H enc W fuel cs y h
  have hu : Tryd.prog.underlying 73 = some _ := Tryd.underlying73
  obtain ⟨xs, n, _, rfl, hl, hlen, hf⟩ := DataW.trod_struct hu h
  match xs, hlen with
  | [y0, y1, y2], _ =>
    have h0 := hf 0 _ rfl
    have h1 := hf 1 _ rfl
    have h2 := hf 2 _ rfl
    obtain ⟨a, e0, _⟩ := DataW.trod_int Tryd.underlying3 (h0.trans rfl)
    obtain ⟨b, e1, _⟩ := DataW.trod_int Tryd.underlying3 (h1.trans rfl)
    obtain ⟨c, e2, _⟩ := DataW.trod_int Tryd.underlying3 (h2.trans rfl)
    have hc : Tryd.prog.cellsOf 73 = 3 := by kernel_rfl
    have hi : Tryd.prog.cellsOf 3 = 1 := by kernel_rfl
    rw [hc] at hl
    replace e0 : (cs.drop 0).take (Tryd.prog.cellsOf 3) = [.int .i64 a] := e0
    replace e1 : (cs.drop 1).take (Tryd.prog.cellsOf 3) = [.int .i64 b] := e1
    replace e2 : (cs.drop 2).take (Tryd.prog.cellsOf 3) = [.int .i64 c] := e2
    rw [hi] at e0 e1 e2
    match cs, hl with
    | [c0, c1, c2], _ =>
      simp at e0 e1 e2
      subst e0 e1 e2
      exact ⟨⟨a, b, c⟩, kGlob_mk W ⟨a, b, c⟩, trivial⟩
/-- a function's parts are no longer than its bulk -/
def fnBulk (n : Nat) (f : SFn) : Prop := f.f0.size ≤ n ∧ f.f1.length ≤ n ∧ f.f3.length ≤ n ∧ f.f4.length ≤ n
theorem opn_fn : Opn kFn 35 fnBulk := by
  intro H enc W fuel cs y h
  have hu : Tryd.prog.underlying 35 = some _ := Tryd.underlying35
  obtain ⟨xs, n, _, rfl, hl, hlen, hf⟩ := DataW.trod_struct hu h
  match xs, hlen with
  | [y0, y1, y2, y3, y4], _ =>
    have h0 := hf 0 _ rfl
    have h1 := hf 1 _ rfl
    have h2 := hf 2 _ rfl
    have h3 := hf 3 _ rfl
    have h4 := hf 4 _ rfl
    have hi : Tryd.prog.cellsOf 3 = Kd.sz (Kd.int .i64) := by kernel_rfl
    have hI : Tryd.prog.cellsOf 38 = Kd.sz kInstr := by kernel_rfl
    obtain ⟨a, k0, b0⟩ := opn_string Tryd.underlying9 H enc W n _ _ (h0.trans rfl)
    obtain ⟨b, k1, b1⟩ := opn_slice Tryd.underlying33 hi (opn_int Tryd.underlying3) H enc W n _ _ (h1.trans rfl)
    obtain ⟨c, e2, _⟩ := DataW.trod_int Tryd.underlying3 (h2.trans rfl)
    obtain ⟨d, k3, b3⟩ := opn_slice Tryd.underlying33 hi (opn_int Tryd.underlying3) H enc W n _ _ (h3.trans rfl)
    obtain ⟨e, k4, b4⟩ := opn_slice Tryd.underlying26 hI opn_instr H enc W n _ _ (h4.trans rfl)
    obtain ⟨A1, c1, e1, l1, g1⟩ := k1
    obtain ⟨A3, c3, e3, l3, g3⟩ := k3
    obtain ⟨A4, c4, e4, l4, g4⟩ := k4
    have e0 : _ = [Value.string a] := k0
    have hc : Tryd.prog.cellsOf 35 = 5 := by kernel_rfl
    rw [hc] at hl
    have q0 : Tryd.prog.cellsOf 9 = 1 := by kernel_rfl
    have q1 : Tryd.prog.cellsOf 33 = 1 := by kernel_rfl
    have q2 : Tryd.prog.cellsOf 3 = 1 := by kernel_rfl
    have q4 : Tryd.prog.cellsOf 26 = 1 := by kernel_rfl
    replace e0 : (cs.drop 0).take (Tryd.prog.cellsOf 9) = [.string a] := e0
    replace e1 : (cs.drop 1).take (Tryd.prog.cellsOf 33) = [.slice A1 b.length c1] := e1
    replace e2 : (cs.drop 2).take (Tryd.prog.cellsOf 3) = [.int .i64 c] := e2
    replace e3 : (cs.drop 3).take (Tryd.prog.cellsOf 33) = [.slice A3 d.length c3] := e3
    replace e4 : (cs.drop 4).take (Tryd.prog.cellsOf 26) = [.slice A4 e.length c4] := e4
    rw [q0] at e0
    rw [q1] at e1 e3
    rw [q2] at e2
    rw [q4] at e4
    match cs, hl with
    | [v0, v1, v2, v3, v4], _ =>
      simp at e0 e1 e2 e3 e4
      subst e0 e1 e2 e3 e4
      refine ⟨⟨a, b, c, d, e⟩, kFn_mk W ⟨a, b, c, d, e⟩ l1 g1 l3 g3 l4 g4, ?_⟩
      have hb : Rows.uptoBulk (DataW.agg (([y0, y1, y2, y3, y4] : List (DataW H × List MemPlace)).map (·.1))) = Rows.uptoBulk y0.1 + (Rows.uptoBulk y1.1 + (Rows.uptoBulk y2.1 + (Rows.uptoBulk y3.1 + (Rows.uptoBulk y4.1 + 0)))) + 1 := by simp [Rows.uptoBulk, Rows.uptoBulkAll]
      show fnBulk (Rows.uptoBulk (DataW.agg (([y0, y1, y2, y3, y4] : List (DataW H × List MemPlace)).map (·.1)))) _
      rw [hb]
      exact ⟨by show a.size ≤ _; omega, by show b.length ≤ _; omega, by show d.length ≤ _; omega, by show e.length ≤ _; omega⟩
def imgBulk (n : Nat) (x : SImage) : Prop := x.globs.length ≤ n ∧ x.fns.length ≤ n ∧ ∀ f ∈ x.fns, fnBulk n f
theorem open_img (H : Type) (enc : TypeId × Value → H) (W : World) (fuel : Nat) (cs : List Value) (y : DataW H × List MemPlace) (h : DataW.trod enc Tryd.prog W 0 (fun _ => true) true fuel 25 cs = some y) :
    ∃ x A0 c0 A1 c1, cs = [.slice A0 x.globs.length c0, .slice A1 x.fns.length c1] ∧ x.globs.length ≤ c0 ∧ kGlob.C W A0 x.globs.length x.globs ∧ x.fns.length ≤ c1 ∧ kFn.C W A1 x.fns.length x.fns ∧ imgBulk (Rows.uptoBulk y.1) x := by
  have hu : Tryd.prog.underlying 25 = some _ := Tryd.underlying25
  obtain ⟨xs, n, _, rfl, hl, hlen, hf⟩ := DataW.trod_struct hu h
  match xs, hlen with
  | [y0, y1], _ =>
    have h0 := hf 0 _ rfl
    have h1 := hf 1 _ rfl
    have hG : Tryd.prog.cellsOf 73 = Kd.sz kGlob := by kernel_rfl
    have hF : Tryd.prog.cellsOf 35 = Kd.sz kFn := by kernel_rfl
    obtain ⟨a, k0, b0⟩ := opn_slice Tryd.underlying22 hG opn_glob H enc W n _ _ (h0.trans rfl)
    obtain ⟨b, k1, b1, b2⟩ := opn_slice Tryd.underlying23 hF opn_fn H enc W n _ _ (h1.trans rfl)
    obtain ⟨A0, c0, e0, l0, g0⟩ := k0
    obtain ⟨A1, c1, e1, l1, g1⟩ := k1
    have hc : Tryd.prog.cellsOf 25 = 2 := by kernel_rfl
    rw [hc] at hl
    have q0 : Tryd.prog.cellsOf 22 = 1 := by kernel_rfl
    have q1 : Tryd.prog.cellsOf 23 = 1 := by kernel_rfl
    replace e0 : (cs.drop 0).take (Tryd.prog.cellsOf 22) = [.slice A0 a.length c0] := e0
    replace e1 : (cs.drop 1).take (Tryd.prog.cellsOf 23) = [.slice A1 b.length c1] := e1
    rw [q0] at e0
    rw [q1] at e1
    match cs, hl with
    | [v0, v1], _ =>
      simp at e0 e1
      subst e0 e1
      have hb : Rows.uptoBulk (DataW.agg (([y0, y1] : List (DataW H × List MemPlace)).map (·.1))) = Rows.uptoBulk y0.1 + (Rows.uptoBulk y1.1 + 0) + 1 := by simp [Rows.uptoBulk, Rows.uptoBulkAll]
      refine ⟨⟨a, b⟩, A0, c0, A1, c1, rfl, l0, g0, l1, g1, ?_⟩
      show imgBulk (Rows.uptoBulk (DataW.agg (([y0, y1] : List (DataW H × List MemPlace)).map (·.1)))) _
      rw [hb]
      refine ⟨by show a.length ≤ _; omega, by show b.length ≤ _; omega, fun f hfm => ?_⟩
      obtain ⟨m, hm, h5⟩ := b2 f hfm
      unfold fnBulk at h5 ⊢
      omega
end Go.Proofs.YtedmncldelcbfaaDoor.E

namespace Go.Proofs.YtedmncldelcbfaaDoor.E
open Go Go.RowKit Go.Proofs.YtedmncldelcbfaaDoorW.PrintWords Go.Proofs.YtedmncldelcbfaaDoorW.PrintLast Go.Proofs.YtedmncldelcbfaaDoorW.PrintMore
set_option linter.unusedVariables false
set_option linter.unusedSimpArgs false
set_option maxRecDepth 100000
set_option maxHeartbeats 2000000

def nibL : List Int := [0, 498536548, 997073096, 651767980, 1994146192, 1802195444, 1303535960, 1342533948, 3988292384, 4027552580, 3604390888, 3412177804, 2607071920, 2262029012, 2685067896, 3183342108]
def tabL : List (List UInt8 × List UInt8) := [([], []), ([], []), ([], []), ([], []), ([], []), ([], []), ([], []), ([], []), ([105, 105], [105]), ([105, 105], [105]), ([105, 105], [105]), ([105, 105], [105]), ([105, 105], [105]), ([105], [105]), ([102, 102], [102]), ([102, 102], [102]), ([102, 102], [102]), ([102, 102], [102]), ([102], [102]), ([84, 84], [98]), ([84, 84], [98]), ([78, 78], [98]), ([78, 78], [98]), ([78, 78], [98]), ([78, 78], [98]), ([98], [98]), ([105], [102]), ([102], [105]), ([], []), ([], []), ([], []), ([], []), ([], []), ([84], [])]
def tabT (j : Nat) : ByteArray × ByteArray := (⟨(tabL.getD j ([], [])).1.toArray⟩, ⟨(tabL.getD j ([], [])).2.toArray⟩)
theorem tabOK : TOK tabT := by
  have h : ∀ j, j < 34 → (tabL.getD j ([], [])).1.length ≤ 2 ∧ (tabL.getD j ([], [])).2.length ≤ 1 := by decide
  intro j hj
  have := h j hj
  simpa [tabT, ByteArray.size] using this
theorem gNib : Tryd.prog.globalNamed "tiltyard/wire.nibbles" = some 1 := by kernel_rfl
theorem gNibType : (Tryd.prog.globals[1]?).map (·.type) = some 120 := by kernel_rfl
theorem gPln : Tryd.prog.globalNamed "tiltyard/verify.plain" = some 0 := by kernel_rfl
theorem gPlnType : (Tryd.prog.globals[0]?).map (·.type) = some 110 := by kernel_rfl
def laidL : List (String × DataW Unit) := [("tiltyard/wire.nibbles", Rows.laid_tiltyard_wire_nibbles), ("tiltyard/verify.plain", Rows.laid_tiltyard_verify_plain)]
theorem nib_of {W : World} (h : laidMetH Tryd.prog laidL W) : Nib W := by
  have h1 : Lib.TabIs Tryd.prog W "tiltyard/wire.nibbles" .u32 nibL :=
    Lib.tabIs_of_head (rest := [("tiltyard/verify.plain", Rows.laid_tiltyard_verify_plain)]) gNib gNibType Tryd.underlying120 Tryd.underlying119 (by kernel_rfl) (by kernel_rfl) h
  exact ⟨fun j => nibL.getD j 0, fun j hj => h1.cell gNib j (by simpa [nibL] using hj)⟩
theorem pln_of {W : World} (h : laidMetH Tryd.prog laidL W) : Pln tabT W := by
  have h0 : laidMet Tryd.prog laidL W := h
  obtain ⟨g, t, cs, fuel, p, hg, ht, hv, hd⟩ := Lib.laidMet.reads h0 (n := "tiltyard/verify.plain") (d := Rows.laid_tiltyard_verify_plain) (.tail _ (.head _))
  obtain rfl := Option.some.inj (gPln.symm.trans hg)
  obtain rfl := Option.some.inj (gPlnType.symm.trans ht)
  have hd' : DataW.trod (fun _ => ()) Tryd.prog W 0 (fun _ => true) false fuel 110 cs.toList = some (.agg (tabL.map fun q => .agg [.lit (.string q.1), .lit (.string q.2)]), p) := hd
  have c1 : Tryd.prog.cellsOf 109 = 2 := by kernel_rfl
  have c2 : Tryd.prog.cellsOf 9 = 1 := by kernel_rfl
  intro j hj
  obtain ⟨f1, d1, q1, e1, t1⟩ := Lib.array_elem Tryd.underlying110 hd' j hj
  have hjl : j < tabL.length := hj
  rw [List.getElem?_map, List.getElem?_eq_getElem hjl] at e1
  obtain rfl : DataW.agg [.lit (.string (tabL[j]).1), .lit (.string (tabL[j]).2)] = d1 := by simpa using e1
  have hgd : tabL.getD j ([], []) = tabL[j] := by rw [List.getD_eq_getElem?_getD, List.getElem?_eq_getElem hjl]; rfl
  obtain ⟨f2, d2, q2, e2, t2⟩ := Lib.array_elem Tryd.underlying109 t1 0 (by omega)
  obtain ⟨f3, d3, q3, e3, t3⟩ := Lib.array_elem Tryd.underlying109 t1 1 (by omega)
  obtain ⟨s2, u2, x2, _⟩ := DataW.trod_string Tryd.underlying9 t2
  obtain ⟨s3, u3, x3, _⟩ := DataW.trod_string Tryd.underlying9 t3
  have x2' := congrArg Prod.fst x2
  have x3' := congrArg Prod.fst x3
  simp only at x2' x3'
  have k2 : (tabL[j]).1 = s2.data.toList := by
    have : d2 = .lit (.string (tabL[j]).1) := by simpa using e2.symm
    rw [this] at x2'
    injection x2' with h; injection h
  have k3 : (tabL[j]).2 = s3.data.toList := by
    have : d3 = .lit (.string (tabL[j]).2) := by simpa using e3.symm
    rw [this] at x3'
    injection x3' with h; injection h
  rw [c1, c2] at u2 u3
  have w2 : cs[j * 2]? = some (.string s2) := by
    have := congrArg (·[0]?) u2
    simp [List.getElem?_take, List.getElem?_drop] at this
    simpa using this
  have w3 : cs[j * 2 + 1]? = some (.string s3) := by
    have := congrArg (·[0]?) u3
    simp [List.getElem?_take, List.getElem?_drop] at this
    simpa using this
  have m2 : (tabT j).1 = s2 := by unfold tabT; rw [hgd, k2]
  have m3 : (tabT j).2 = s3 := by unfold tabT; rw [hgd, k3]
  rw [m2, m3]
  exact ⟨(World.var?_cell gPln hv (j * 2)).trans w2, (World.var?_cell gPln hv (j * 2 + 1)).trans w3⟩
end Go.Proofs.YtedmncldelcbfaaDoor.E

namespace Go.Proofs.YtedmncldelcbfaaDoor.verifyMore
open Go Go.Proofs.YtedmncldelcbfaaDoor Go.ChangeShapes Go.WideShapes Go.ChangeAt Go.RowKit
set_option linter.unusedVariables false

theorem own : ownKnob Tryd.prog.godebug = none := by kernel_rfl
theorem laidOut : laidOutB Tryd.prog = true := by kernel_rfl
set_option maxRecDepth 100000 in
theorem contract (H : Type) (enc : TypeId × Value → H) (W : World) (base : Nat) (args : Array Value) (ds gs : List (DataW H)) (before : List MemPlace)
    (hval : ∀ (j : Nat) t v, Tryd.f3.params[j]? = some t → args[j]? = some v → Value.okWide Tryd.prog W .any base t v)
    (hW : DataW.Whole enc Tryd.prog Tryd.f3.params.toList Rows.verifyMoreSpec.vars false W args.toList ds gs before) (hL : laidMetH Tryd.prog E.laidL W) (hk : Rows.uptoBulkAll (ds ++ gs) ≤ 1048576) :
    Calls Tryd.prog 3 args W fun e W' => ∃ v, e = .returned v ∧ Rows.verifyMoreSpec.post enc Tryd.prog Tryd.f3 false true false false W args v W' := by
  have hW' := hW
  obtain ⟨p, q, hA0, hV, rfl, hfz, hnd⟩ := hW
  have hA : DataW.TrodAll enc Tryd.prog W 0 (fun _ => true) true Tryd.f3.params.toList args.toList ds p := hA0
  rw [Tryd.params3] at hA hval
  obtain ⟨v0, vs0, d0, ds0, p0, q0, hargs, rfl, rfl, h0, r0⟩ := trodAll_cons hA
  obtain ⟨v1, vs1, d1, ds1, p1, q1, hargs1, rfl, rfl, h1, r1⟩ := trodAll_cons r0
  obtain ⟨rfl, rfl, rfl⟩ := trodAll_nil r1
  subst hargs1
  obtain rfl : args = #[v0, v1] := by cases args; simp_all
  obtain ⟨rfl, rfl⟩ := trodVars_none hV
  have k0 := h0
  have k1 := h1
  have lt0 : ∀ x ∈ p0, x.block < W.heap.size := by obtain ⟨m, hm⟩ := k0; exact DataW.trod_lt m _ _ _ hm
  have lt1 : ∀ x ∈ p1, x.block < W.heap.size := by obtain ⟨m, hm⟩ := k1; exact DataW.trod_lt m _ _ _ hm
  obtain ⟨fuel, hf⟩ := h0
  obtain ⟨fuel1, hf1⟩ := h1
  obtain ⟨x, A0, c0, A1, c1, hcs, l0, g0, l1, g1, hb⟩ := E.open_img H enc W fuel _ _ hf
  obtain ⟨m, ⟨AM, cM, hcm, lM, gM⟩, hbm, _⟩ := E.opn_slice (d := E.kInstr) Tryd.underlying26 (by kernel_rfl) E.opn_instr H enc W fuel1 _ _ hf1
  have hv0 : v0 = .agg #[.slice A0 x.globs.length c0, .slice A1 x.fns.length c1] := by
    cases v0 <;> simp [Value.cells] at hcs
    exact congrArg Value.agg (Array.ext' hcs)
  have hv1 : v1 = .slice AM m.length cM := by
    have hw1 := hval 1 26 v1 (by simp) (by simp)
    obtain ⟨a, len, cap, rfl⟩ := okWide_slice Tryd.underlying26 hw1
    simp [Value.cells] at hcm
    obtain ⟨rfl, rfl, rfl⟩ := hcm
    rfl
  subst hv0 hv1
  have hbk : Rows.uptoBulk d0 ≤ 1048576 ∧ Rows.uptoBulk d1 ≤ 1048576 := by simp only [List.append_nil, Rows.uptoBulkAll] at hk; constructor <;> omega
  have hsm : E.imgSmall 500000000000 x := by
    obtain ⟨b1, b2, b3⟩ := hb
    refine ⟨by simp only at b1; omega, by simp only at b2; omega, fun f hfm => ?_⟩
    obtain ⟨a1, a2, a3, a4⟩ := b3 f hfm
    simp only at a1 a2 a3 a4
    exact ⟨by omega, by omega, by omega, by omega⟩
  simp only at hbm
  clear hA0
  refine (E.VerifyMore_any E.tabT x m _ AM cM W ⟨A0, c0, A1, c1, rfl, l0, g0, l1, g1⟩ hsm (by omega) gM lM (E.nib_of hL) (E.pln_of hL) E.tabOK).mono fun e W' ⟨he, bel⟩ => ?_
  subst he
  exact ⟨_, rfl, _, _, _, [], _, [], hW', trodAll_mk1 (shut_bool Tryd.underlying4 _), trodAll_cons_mk (Below.trod laidOut (by kernel_rfl) (of_decide_eq_true (by kernel_rfl)) k0 bel lt0) (trodAll_cons_mk (Below.trod laidOut (by kernel_rfl) (of_decide_eq_true (by kernel_rfl)) k1 bel lt1) trodAll_mk0), rfl, bel.frame _, fun h => by cases h⟩

def setTab (cs : Array Value) : Obj → Obj
  | .cells _ t frozen => .cells cs t frozen
  | o => o
/-- A world for the witness: the settled one, the two tables holding what their initialisers lay. -/
noncomputable def laidWorld (os : Os) : World :=
  { World.holding Tryd.prog os ⟨#[], #[], []⟩ with heap := Array.modify (Array.modify (World.holding Tryd.prog os ⟨#[], #[], []⟩).heap 1 (setTab #[.int .u32 0, .int .u32 498536548, .int .u32 997073096, .int .u32 651767980, .int .u32 1994146192, .int .u32 1802195444, .int .u32 1303535960, .int .u32 1342533948, .int .u32 3988292384, .int .u32 4027552580, .int .u32 3604390888, .int .u32 3412177804, .int .u32 2607071920, .int .u32 2262029012, .int .u32 2685067896, .int .u32 3183342108])) 0 (setTab #[.string ⟨#[]⟩, .string ⟨#[]⟩, .string ⟨#[]⟩, .string ⟨#[]⟩, .string ⟨#[]⟩, .string ⟨#[]⟩, .string ⟨#[]⟩, .string ⟨#[]⟩, .string ⟨#[]⟩, .string ⟨#[]⟩, .string ⟨#[]⟩, .string ⟨#[]⟩, .string ⟨#[]⟩, .string ⟨#[]⟩, .string ⟨#[]⟩, .string ⟨#[]⟩, .string ⟨#[105, 105]⟩, .string ⟨#[105]⟩, .string ⟨#[105, 105]⟩, .string ⟨#[105]⟩, .string ⟨#[105, 105]⟩, .string ⟨#[105]⟩, .string ⟨#[105, 105]⟩, .string ⟨#[105]⟩, .string ⟨#[105, 105]⟩, .string ⟨#[105]⟩, .string ⟨#[105]⟩, .string ⟨#[105]⟩, .string ⟨#[102, 102]⟩, .string ⟨#[102]⟩, .string ⟨#[102, 102]⟩, .string ⟨#[102]⟩, .string ⟨#[102, 102]⟩, .string ⟨#[102]⟩, .string ⟨#[102, 102]⟩, .string ⟨#[102]⟩, .string ⟨#[102]⟩, .string ⟨#[102]⟩, .string ⟨#[84, 84]⟩, .string ⟨#[98]⟩, .string ⟨#[84, 84]⟩, .string ⟨#[98]⟩, .string ⟨#[78, 78]⟩, .string ⟨#[98]⟩, .string ⟨#[78, 78]⟩, .string ⟨#[98]⟩, .string ⟨#[78, 78]⟩, .string ⟨#[98]⟩, .string ⟨#[78, 78]⟩, .string ⟨#[98]⟩, .string ⟨#[98]⟩, .string ⟨#[98]⟩, .string ⟨#[105]⟩, .string ⟨#[102]⟩, .string ⟨#[102]⟩, .string ⟨#[105]⟩, .string ⟨#[]⟩, .string ⟨#[]⟩, .string ⟨#[]⟩, .string ⟨#[]⟩, .string ⟨#[]⟩, .string ⟨#[]⟩, .string ⟨#[]⟩, .string ⟨#[]⟩, .string ⟨#[]⟩, .string ⟨#[]⟩, .string ⟨#[84]⟩, .string ⟨#[]⟩]) }
theorem laid_met (os : Os) : laidMet Tryd.prog Rows.verifyMoreRow.laid ((laidWorld os).forCall (fun _ _ => 0) ⟨#[], #[.agg #[.slice none 0 0, .slice none 0 0], .slice none 0 0], []⟩).memory :=
  laidMet_of_run' 8 (by kernel_rfl) (by kernel_rfl)
theorem reads (os : Os) {H : Type} (enc : TypeId × Value → H) : ∃ places, DataW.whole enc Tryd.prog ((laidWorld os).forCall (fun _ _ => 0) ⟨#[], #[.agg #[.slice none 0 0, .slice none 0 0], .slice none 0 0], []⟩).memory Tryd.f3.params.toList Rows.verifyMoreSpec.vars false #[Value.agg #[.slice none 0 0, .slice none 0 0], .slice none 0 0].toList 8 = some ([.agg [.nil, .nil], .nil], [], places) :=
  ⟨[], by kernel_rfl⟩
set_option maxRecDepth 100000 in
theorem liftedUpto (os : Os) (started : os.Started) (H : Type) (enc : TypeId × Value → H) (F : Stop.Interp) :
    ReturnsInHanded {} Tryd.checked os 3 .any ((Rows.OpenSpec.upto Rows.verifyMoreSpec).preRow enc Tryd.prog Tryd.f3 Rows.verifyMoreUptoRow.domain false Rows.verifyMoreUptoRow.laid) (((Rows.OpenSpec.upto Rows.verifyMoreSpec).at F).post enc Tryd.prog Tryd.f3 false true false false) := by
  obtain ⟨places, hx⟩ := reads os enc
  refine returnsInHanded_of_row (C := Tryd.checked) (s := Rows.OpenSpec.upto Rows.verifyMoreSpec) own started (by kernel_rfl) Tryd.func3
    (witness_row_at (enc := enc) (C := Tryd.checked) false (laidWorld os) #[.agg #[.slice none 0 0, .slice none 0 0], .slice none 0 0] rfl (by kernel_rfl) (by kernel_rfl) (by kernel_rfl)
      (OpenSpec.preRow_of_cond 8 hx (by kernel_rfl) (fun k hk => by cases hk; kernel_rfl) (by kernel_rfl) (laid_met os))) ?_
  intro W base args ds gs before hval hW h1 hcond h2 hL h3 h4
  exact contract H enc W base args ds gs before hval hW hL (of_decide_eq_true (hcond _ rfl))
theorem saidUpto : Rows.VerifyMoreUptoSaid :=
  OpenClaim.holds_of_cond 3 Tryd.f3 rfl rfl rfl rfl rfl rfl rfl ⟨rfl, rfl, rfl, rfl, rfl⟩ rfl rfl rfl rfl rfl (by kernel_rfl) Tryd.func3 (by kernel_rfl)
    (of_decide_eq_true (by kernel_rfl)) (by unfold Func.isWrapper; first | (rw [if_pos (by decide +kernel)]; kernel_rfl) | (rw [if_neg (by decide +kernel)]; exact ⟨rfl, rfl⟩))
    (fun os started H enc _ F => by rw [OpenClaim.pre_eq_preRow]; exact liftedUpto os started H enc F)
theorem plain (f : FuncId) (fn : Func) (hf : Tryd.pinned.checked.prog.funcNamed "tiltyard/tiltyardlaw16.VerifyMore" = some f) (hfn : Tryd.pinned.checked.prog.funcs[f]? = some fn) :
    true = Tryd.pinned.checked.prog.looks [] ∧ ∀ (j : Nat) t, fn.params[j]? = some t → Tryd.pinned.checked.prog.wantsStandIn t = false := by
  obtain rfl : f = 3 := Option.some.inj ((show Tryd.prog.funcNamed "tiltyard/tiltyardlaw16.VerifyMore" = some 3 by kernel_rfl).symm.trans hf) |>.symm
  obtain rfl : fn = Tryd.f3 := (Option.some.inj (Tryd.func3.symm.trans hfn)).symm
  refine ⟨by kernel_rfl, fun j t ht => ?_⟩
  rw [Tryd.params3] at ht
  rcases (show t = 25 ∨ t = 26 by simpa using Array.mem_of_getElem? ht) with rfl | rfl
  · exact (show Tryd.prog.wantsStandIn 25 = false by kernel_rfl)
  · exact (show Tryd.prog.wantsStandIn 26 = false by kernel_rfl)
theorem cardUpto : Rows.VerifyMoreUptoCardSaid :=
  Claim7.holds_tied_plain_at .later [] _ _ _ _ saidUpto (fun _ h => by cases h) (by kernel_rfl) (fun _ h => by cases h) verifyMoreUpto_row_tie rfl ⟨rfl, rfl⟩ (by kernel_rfl) rfl plain (by kernel_rfl)
end Go.Proofs.YtedmncldelcbfaaDoor.verifyMore
