import Derived.Test.YtpfdhihbecpbeaaGreatDoorKF
import Derived.Test.YtpfdhihbecpbeaaGreatDoorShelf2
import Derived.Test.YtpfdhihbecpbeaaGreatDoorKE
import Derived.Shelf.Strings.Builder1
import Derived.Shelf.Strconv.Itoa3
import Derived.Laws.Bits64b
import Derived.Test.YtpfdhihbecpbeaaGreatDoorKA
import Derived.Laws.EntriesVeiled
import Derived.Deep.DeepCutAuto
import Derived.Deep.CutRange
import Derived.Test.YtpfdhihbecpbeaaGreatDoorKB
/- Contracts of the program's functions, and lemmas: no statement of its own. -/
namespace Go.Proofs.YtpfdhihbecpbeaaGreatDoor.E
open Go Go.RowKit Go.Proofs.YtpfdhihbecpbeaaGreatDoorW.PrintWords Go.Proofs.YtpfdhihbecpbeaaGreatDoorW.PrintLast Go.Proofs.YtpfdhihbecpbeaaGreatDoorW.PrintMore
set_option linter.unusedVariables false
set_option linter.unusedSimpArgs false
set_option maxRecDepth 100000
set_option maxHeartbeats 4000000
theorem z2z : (Tryz.prog.info? 76).map (·.size) = some 2 := by kernel_rfl
theorem x1c : (Tryz.prog.info? 5).map (fun i => (i.zero, i.size, i.bytes)) = some (some (.int .u8 0), 1, 1) := by kernel_rfl
def j8a (x : Option Obj) : Prop := ∃ cur fz, x = some (.cells cur 5 fz)
structure PF (B b : Nat) (w w' : World) : Prop where
 be : Below B w w'
 nb : ∀ k, k < w.heap.size -> k ≠ b -> ¬ j8a w.heap[k]? -> w'.heap[k]? = w.heap[k]?
theorem PF.refl (B b : Nat) (w : World) : PF B b w w := ⟨Below.refl _ _, fun _ _ _ _ => rfl⟩
theorem PF.trans {B b : Nat} {w w1 w2 : World} (h : PF B b w w1) (k : PF B b w1 w2) : PF B b w w2 :=
 ⟨h.be.trans k.be, fun i hi hb hn => by
  have e := h.nb i hi hb hn
  exact (k.nb i (Nat.lt_of_lt_of_le hi h.be.size) hb (by rw [e]; exact hn)).trans e⟩
theorem PF.of_below {B b : Nat} {w w' : World} (h : Below w.heap.size w w') (hB : B <= w.heap.size) : PF B b w w' := ⟨h.mono hB, fun k hk _ _ => h.block k hk⟩
structure BT (T : TypeId) (n : Nat) : Prop where
 ne : T ≠ 5
 lies : liesAt Tryz.prog Tryz.prog.depth T ((n + 2) / Tryz.prog.cellsOf T) 0 76 1 = true
structure PG (T : TypeId) (rest : List Value) (B b : Nat) (bs : List UInt8) (w : World) : Prop where
 bt : BT T rest.length
 ge : B <= b
 bw : B <= w.heap.size
 mem : ∃ p v, w.heap[b]? = some (.cells (p :: v :: rest).toArray T (0, 0)) /\ (p = .pointer none \/ p = .pointer (some ⟨b, 0, none⟩)) /\ w.ownsRow B 5 1 v bs.length (Lib.byteCells bs)
theorem PG.lt {T : TypeId} {rest : List Value} {B b : Nat} {bs : List UInt8} {w : World} (h : PG T rest B b bs w) : b < w.heap.size := by
 obtain ⟨p, v, hm, _⟩ := h.mem
 exact q0c hm
theorem PG.below {T : TypeId} {rest : List Value} {B b : Nat} {bs : List UInt8} {w w' : World} (h : PG T rest B b bs w) (hb : Below w.heap.size w w') : PG T rest B b bs w' := by
 obtain ⟨p, v, hm, hp, ho⟩ := h.mem
 exact ⟨h.bt, h.ge, Nat.le_trans h.bw hb.size, p, v, (hb.block b (q0c hm)).trans hm, hp, ho.kept (row := none) ⟨hb.os, hb.tape, hb.output, hb.size, fun k hk _ => hb.block k hk⟩ (by cases v.ownBlock <;> simp)⟩
theorem PG.setRest {T : TypeId} {rest rest' : List Value} {B b : Nat} {bs : List UInt8} {w : World} (h : PG T rest B b bs w) (i : Nat) (u : Value) (hr : rest' = rest.set i u) : PG T rest' B b bs (w.setCell ⟨b, i + 2, none⟩ u) /\ PF B b w (w.setCell ⟨b, i + 2, none⟩ u) := by
 obtain ⟨p, v, hm, hp, ho⟩ := h.mem
 have hne := Lib.ownBlock_ne ho hm h.bt.ne
 refine ⟨⟨by rw [hr, List.length_set]; exact h.bt, h.ge, by simpa using h.bw, p, v, ?_, hp, ?_⟩, ⟨(Below.refl B w).setCell (p := ⟨b, i + 2, none⟩) h.ge u, fun k _ hk _ => Below.heap_setCell _ _ _ _ hk⟩⟩
 ·have := z2o hm (i + 2) u
  rw [this, hr]
  simp
 ·exact ho.kept (row := some b) ⟨rfl, rfl, rfl, by simp [World.setCell], fun k _ hk => Below.heap_setCell _ _ _ _ (fun e => hk (by simp [e]))⟩ (Or.inr hne)
theorem z9k (b : Nat) (w : World) (h0 : w.cell? ⟨b, 0, none⟩ = some (.pointer (some ⟨b, 0, none⟩))) :
  Calls Tryz.prog 128 #[.pointer (some ⟨b, 0, none⟩)] w fun e w' => e = .returned (.tuple #[]) /\ w' = w := by
 obtain ⟨j, hj, hjs⟩ := Option.map_eq_some_iff.1 z2z
 go_enter Tryz.func128, Tryz.ntmps128
 go_wp2_with fail
 rw [Lib.run_neq_ptr_same w _ Tryz.underlying73 hj]
 go_wp2_with fail
 go_end0
 exact ⟨rfl, rfl⟩
theorem z7j {T : TypeId} {n : Nat} (hT : BT T n) (b : Nat) (w : World) (h0 : w.cell? ⟨b, 0, none⟩ = some (.pointer none)) (hsh : w.shape? b = some (T, n + 2)) (hfz : w.frozen? ⟨b, 0, none⟩ = false) :
  Calls Tryz.prog 128 #[.pointer (some ⟨b, 0, none⟩)] w fun e w' => e = .returned (.tuple #[]) /\ w' = w.setCell ⟨b, 0, none⟩ (.pointer (some ⟨b, 0, none⟩)) := by
 obtain ⟨j, hj, hjs⟩ := Option.map_eq_some_iff.1 z2z
 have HL := q0h hT.lies
 clear hT
 go_enter Tryz.func128, Tryz.ntmps128
 go_wp2_with fail
 rw [Lib.run_to_unsafe w ⟨b, 0, none⟩ Tryz.underlying73 Tryz.underlying168 hj (by rw [hjs]; decide) hsh (by show 0 < n + 2; omega)]
 simp only [Result.andThen]
 rw [Oper.upon_value]
 go_wp2_with fail
 rw [run_callFunc_extern Tryz.func164 (by kernel_rfl) (by kernel_rfl) (by kernel_rfl) (e := Extern.AbiNoEscape.same) (by kernel_rfl)]
 rw [Lib.run_noEscape]
 simp only [Result.andThen]
 rw [Oper.upon_value]
 go_wp2_with fail
 rw [Lib.run_from_unsafe w ⟨b, 0, none⟩ Tryz.underlying168 Tryz.underlying73 hj hsh HL.out]
 simp only [Result.andThen]
 rw [Oper.upon_value]
 go_wp2_with fail
 go_end0
 exact ⟨rfl, rfl⟩
theorem z4l {T : TypeId} {rest : List Value} {B b : Nat} {bs : List UInt8} {w : World} (h : PG T rest B b bs w) :
  Calls Tryz.prog 128 #[.pointer (some ⟨b, 0, none⟩)] w fun e w' => e = .returned (.tuple #[]) /\ PF B b w w' /\ ∃ v, w'.heap[b]? = some (.cells (.pointer (some ⟨b, 0, none⟩) :: v :: rest).toArray T (0, 0)) /\ w'.ownsRow B 5 1 v bs.length (Lib.byteCells bs) := by
 obtain ⟨p, v, hm, hp, ho⟩ := h.mem
 have hne := Lib.ownBlock_ne ho hm h.bt.ne
 rcases hp with rfl | rfl
 ·refine (z7j h.bt b w ((q0a hm 0).trans rfl) (by simp [World.shape?, hm]) (q0f hm 0)).mono ?_
  rintro e w' ⟨rfl, rfl⟩
  refine ⟨rfl, ⟨(Below.refl B w).setCell (p := ⟨b, 0, none⟩) h.ge _, fun k _ hk _ => Below.heap_setCell _ _ _ _ hk⟩, v, q0y hm 0 _ rfl, ?_⟩
  exact ho.kept (row := some b) ⟨rfl, rfl, rfl, by simp [World.setCell], fun k _ hk => Below.heap_setCell _ _ _ _ (fun e => hk (by simp [e]))⟩ (Or.inr hne)
 ·refine (z9k b w ((q0a hm 0).trans rfl)).mono ?_
  rintro e w' ⟨rfl, rfl⟩
  exact ⟨rfl, PF.refl _ _ _, v, hm, ho⟩
theorem PG.grow {T : TypeId} {rest : List Value} {B b : Nat} {bs : List UInt8} {w w1 w2 : World} {v v' : Value} (h : PG T rest B b bs w) (hf : PF B b w w1) (hm : w1.heap[b]? = some (.cells (.pointer (some ⟨b, 0, none⟩) :: v :: rest).toArray T (0, 0))) (ho : w1.ownsRow B 5 1 v bs.length (Lib.byteCells bs)) (bs' : List UInt8) (ho' : w2.ownsRow B 5 1 v' bs'.length (Lib.byteCells bs')) (hg : w1.grownBy w2 v.ownBlock) :
  w2.heap[b]? = some (.cells (.pointer (some ⟨b, 0, none⟩) :: v :: rest).toArray T (0, 0)) /\ PG T rest B b bs' (w2.setCell ⟨b, 1, none⟩ v') /\ PF B b w (w2.setCell ⟨b, 1, none⟩ v') := by
 have hne := Lib.ownBlock_ne ho hm h.bt.ne
 have hb2 := (hg.block b (q0c hm) (fun e => hne e.symm)).trans hm
 have hne' := Lib.ownBlock_ne ho' hb2 h.bt.ne
 have hlt : ∀ k, v.ownBlock = some k -> B <= k := fun k hk => (ho.lt k hk).1
 have hsz : (w2.setCell ⟨b, 1, none⟩ v').heap.size = w2.heap.size := by simp
 refine ⟨hb2, ⟨h.bt, h.ge, by rw [hsz]; exact Nat.le_trans h.bw (Nat.le_trans hf.be.size hg.size), _, v', q0y hb2 1 v' rfl, .inr rfl, ?_⟩, ?_⟩
 ·exact ho'.kept (row := some b) ⟨rfl, rfl, rfl, by simp [World.setCell], fun k _ hk => Below.heap_setCell _ _ _ _ (fun e => hk (by simp [e]))⟩ (Or.inr hne')
 ·refine hf.trans ⟨((Below.refl B w1).grown hg (Nat.le_trans h.bw hf.be.size) hlt).setCell (p := ⟨b, 1, none⟩) h.ge v', fun k hk hb hn => ?_⟩
  refine (Below.heap_setCell _ _ _ _ hb).trans (hg.block k hk (fun e => hn ?_))
  rcases ho.2 with ⟨hv, _⟩ | ⟨g, cap, cur, hv, _, hh, _⟩
  ·rw [hv] at e; cases e
  ·rw [hv] at e
   simp only [Value.ownBlock, Option.some.injEq] at e
   subst e
   exact ⟨cur, _, hh⟩
theorem x9t {T : TypeId} {rest : List Value} {B b : Nat} {bs : List UInt8} {w : World} (h : PG T rest B b bs w) : Calls Tryz.prog 86 #[.pointer (some ⟨b, 0, none⟩)] w fun e w' => e = .returned (.int .i64 bs.length) /\ w = w' := by
 obtain ⟨p, v, hm, hp, ho⟩ := h.mem
 obtain ⟨ao, cap, rfl⟩ : ∃ ao cap, v = .slice ao bs.length cap := by
  rcases ho.2 with ⟨hv, h0⟩ | ⟨g, cap, cur, hv, _⟩
  ·exact ⟨none, 0, by rw [hv, h0]⟩
  ·exact ⟨_, _, hv⟩
 have c1 : w.cell? ⟨b, 1, none⟩ = some (.slice ao bs.length cap) := (q0a hm 1).trans rfl
 clear h hm hp ho
 go_enter Tryz.func86, Tryz.ntmps86
 go_wp2_with fail
 go_ret
 exact ⟨rfl, rfl⟩
theorem q8z {T : TypeId} {rest : List Value} {B b : Nat} {bs : List UInt8} {w : World} (h : PG T rest B b bs w) (s : ByteArray) (hlen : (bs ++ toL s).length <= 140737488355328) :
  Calls Tryz.prog 87 #[.pointer (some ⟨b, 0, none⟩), .string s] w fun e w' => e = .returned (.tuple #[.int .i64 s.size, .nilIface]) /\ PG T rest B b (bs ++ toL s) w' /\ PF B b w w' := by
 obtain ⟨i0, hi, hz0, hz1, hz2⟩ := info_parts x1c
 have hl2 : bs.length + s.size <= 140737488355328 := by
  rw [List.length_append] at hlen
  have : (toL s).length = s.size := by show s.data.toList.length = _; rw [Array.length_toList]; rfl
  omega
 have hll : (bs ++ toL s).length = bs.length + s.size := by
  rw [List.length_append]
  have : (toL s).length = s.size := by show s.data.toList.length = _; rw [Array.length_toList]; rfl
  omega
 have HG := q0h h
 have HC := q0h (z4l h)
 have HLL := q0h hll
 clear h hlen hll
 go_enter Tryz.func87, Tryz.ntmps87
 go_wp2_with fail
 refine HC.out.mono ?_
 rintro e w1 ⟨rfl, hf, v, hm, ho⟩
 have c0 : w1.cell? ⟨b, 0, none⟩ = some (.pointer (some ⟨b, 0, none⟩)) := (q0a hm 0).trans rfl
 have c1 : w1.cell? ⟨b, 1, none⟩ = some v := (q0a hm 1).trans rfl
 have HF := q0h hf
 have HM := q0h hm
 have HO := q0h ho
 clear hf hm ho HC
 go_wp2_with (at_builtin; refine Lib.wpList_append_own_string _ rfl _ _ 74 9 rfl B 5 i0 Tryz.underlying74 Tryz.underlying9 hi hz0 hz1 hz2 _ _ _ rfl HO.out s rfl ?c3 ?c4 ?c5 ?_)
 case c3 => unfold maxLen; omega
 case c4 => exact hl2
 case c5 => exact Nat.le_trans HG.out.bw HF.out.be.size
 intro v' w2 hown' hgrow _
 have hown2 : w2.ownsRow B 5 1 v' (bs ++ toL s).length (Lib.byteCells (bs ++ toL s)) := by
  rw [HLL.out, Lib.byteCells_append]
  exact hown'
 obtain ⟨hb2, hpg, hpf⟩ := HG.out.grow HF.out HM.out HO.out _ hown2 hgrow
 have d1 : w2.cell? ⟨b, 1, none⟩ = some v := (q0a hb2 1).trans rfl
 have f1 : w2.frozen? ⟨b, 1, none⟩ = false := q0f hb2 1
 obtain ⟨ao, n', cp, rfl⟩ : ∃ ao n' cp, v' = .slice ao n' cp := by
  rcases hown2.2 with ⟨hv, _⟩ | ⟨g, cap, cur, hv, _⟩
  ·exact ⟨none, 0, 0, hv⟩
  ·exact ⟨_, _, _, hv⟩
 have HPG := q0h hpg
 have HPF := q0h hpf
 clear hown' hown2 hgrow hb2 hpg hpf c0 c1 hz0 hz1 hz2 hi hl2
 go_wp2_with fail
 go_ret2
 exact ⟨rfl, HPG.out, HPF.out⟩
theorem z3a {T : TypeId} {rest : List Value} {B b : Nat} {bs : List UInt8} {w : World} (h : PG T rest B b bs w) (c : UInt8) (hlen : bs.length + 1 <= 140737488355328) :
  Calls Tryz.prog 125 #[.pointer (some ⟨b, 0, none⟩), .int .u8 (c.toNat : Nat)] w fun e w' => e = .returned .nilIface /\ PG T rest B b (bs ++ [c]) w' /\ PF B b w w' := by
 obtain ⟨i0, hi, hz0, hz1, hz2⟩ := info_parts x1c
 have HG := q0h h
 have HC := q0h (z4l h)
 clear h
 go_enter Tryz.func125, Tryz.ntmps125
 go_wp2_with fail
 refine HC.out.mono ?_
 rintro e w1 ⟨rfl, hf, v, hm, ho⟩
 have c0 : w1.cell? ⟨b, 0, none⟩ = some (.pointer (some ⟨b, 0, none⟩)) := (q0a hm 0).trans rfl
 have c1 : w1.cell? ⟨b, 1, none⟩ = some v := (q0a hm 1).trans rfl
 have HF := q0h hf
 have HM := q0h hm
 have HO := q0h ho
 clear hf hm ho HC
 go_wp2_with (at_builtin; refine wpList_append_own _ rfl _ _ 74 rfl B 5 i0 (.int .u8 0) 1 1 Tryz.underlying74 hi hz0 hz1 hz2 rfl (by decide) _ _ _ rfl (HO.out.alloc _) ⟨w1.heap.size, 0, none⟩ 1 1 [.int .u8 (c.toNat : Nat)] rfl rfl ?c1 ?c2 ?c3 ?c4 ?c5 ?_)
 case c1 =>
  intro j u hj
  match j, hj with
  | 0, hj => simp at hj; subst hj; simp [Addr.add]
 case c2 => intro u hu; simp at hu; subst hu; rfl
 case c3 => unfold maxLen; omega
 case c4 => omega
 case c5 => have := HF.out.be.size; have := HG.out.bw; simp; omega
 intro v' w2 hown' hgrow _
 have hown2 : w2.ownsRow B 5 1 v' (bs ++ [c]).length (Lib.byteCells (bs ++ [c])) := by
  rw [show (bs ++ [c]).length = bs.length + 1 by simp, Lib.byteCells_append]
  exact hown'
 have hg2 : w1.grownBy w2 v.ownBlock := ⟨hgrow.os, hgrow.tape, hgrow.output, Nat.le_trans (by simp) hgrow.size, fun k hk hne => (hgrow.block k (by simp; omega) hne).trans (Below.heap_alloc _ _ _ hk)⟩
 obtain ⟨hb2, hpg, hpf⟩ := HG.out.grow HF.out HM.out HO.out _ hown2 hg2
 have d1 : w2.cell? ⟨b, 1, none⟩ = some v := (q0a hb2 1).trans rfl
 have f1 : w2.frozen? ⟨b, 1, none⟩ = false := q0f hb2 1
 obtain ⟨ao, n', cp, rfl⟩ : ∃ ao n' cp, v' = .slice ao n' cp := by
  rcases hown2.2 with ⟨hv, _⟩ | ⟨g, cap, cur, hv, _⟩
  ·exact ⟨none, 0, 0, hv⟩
  ·exact ⟨_, _, _, hv⟩
 have HPG := q0h hpg
 have HPF := q0h hpf
 clear hown' hown2 hgrow hg2 hb2 hpg hpf c0 c1 hz0 hz1 hz2 hi
 go_wp2_with fail
 go_ret
 exact ⟨rfl, HPG.out, HPF.out⟩
theorem j4d : BT 78 1 := ⟨by decide, by kernel_rfl⟩
theorem x3d : BT 76 0 := ⟨by decide, by kernel_rfl⟩
abbrev Pg (B b : Nat) (bs : List UInt8) (lv : Nat) (w : World) : Prop := PG 78 [.int .i64 (lv : Nat)] B b bs w
theorem q3o {B b lv : Nat} {bs : List UInt8} {w : World} (h : Pg B b bs lv w) : Calls Tryz.prog 41 #[.pointer (some ⟨b, 0, none⟩)] w fun e w' => e = .returned (.bool (q1w bs)) /\ w = w' := by
 have HC := q0h (x9t h)
 clear h
 go_enter Tryz.func41, Tryz.ntmps41
 go_wp2_with fail
 refine HC.out.mono ?_
 rintro e w1 ⟨rfl, rfl⟩
 go_wp2_with fail
 go_ret
 exact ⟨q0g (by unfold q1w; simp only [decide_eq_decide]; omega), rfl⟩
def x3e (w : World) (b : Nat) (v : Value) (ss : List ByteArray) : Prop := (ss = [] /\ v = .slice none 0 0) \/ ∃ r cp fz, v = .slice (some ⟨r, 0, none⟩) ss.length cp /\ w.heap[r]? = some (.cells (ss.map Value.string).toArray 9 fz) /\ r ≠ b
def q7k (ss : List ByteArray) : List UInt8 := (ss.map toL).flatten
theorem x3e.keep {B b : Nat} {w w' : World} {v : Value} {ss : List ByteArray} (h : x3e w b v ss) (hf : PF B b w w') : x3e w' b v ss := by
 rcases h with h | ⟨r, cp, fz, hv, hm, hr⟩
 ·exact .inl h
 ·refine .inr ⟨r, cp, fz, hv, (hf.nb r (q0c hm) hr ?_).trans hm, hr⟩
  rintro ⟨cur, fz2, e⟩
  rw [hm] at e
  injection e with e
  injection e with _ e _
  exact absurd e (by decide)
theorem x3e.below {b : Nat} {w w' : World} {v : Value} {ss : List ByteArray} (h : x3e w b v ss) (hf : Below w.heap.size w w') : x3e w' b v ss := by
 rcases h with h | ⟨r, cp, fz, hv, hm, hr⟩
 ·exact .inl h
 ·exact .inr ⟨r, cp, fz, hv, (hf.block r (q0c hm)).trans hm, hr⟩
theorem x3e.new {b : Nat} {w : World} (ss : List ByteArray) (hb : b < w.heap.size) (n : Nat) (hn : n = ss.length) : x3e (w.alloc (.cells (ss.map Value.string).toArray 9)) b (.slice (some ⟨w.heap.size, 0, none⟩) n n) ss :=
 .inr ⟨w.heap.size, n, (0, 0), by rw [hn], heap_alloc_new _ _, by omega⟩
theorem z9l {B b lv : Nat} {bs : List UInt8} {w : World} (h : Pg B b bs lv w) {v : Value} {ss : List ByteArray} (hr : x3e w b v ss) (hsl : ss.length <= 1000) (hlen : (bs ++ q7k ss).length <= 140737488355328) :
  Calls Tryz.prog 42 #[.pointer (some ⟨b, 0, none⟩), v] w fun e w' => e = .returned (.tuple #[]) /\ Pg B b (bs ++ q7k ss) lv w' /\ PF B b w w' := by
 obtain ⟨A, cp, rfl⟩ : ∃ A cp, v = .slice A ss.length cp := by
  rcases hr with ⟨rfl, rfl⟩ | ⟨r, cp, fz, rfl, _⟩
  ·exact ⟨none, 0, rfl⟩
  ·exact ⟨_, cp, rfl⟩
 have HP := q0h h
 have HR := q0h hr
 have HL := q0h hlen
 clear h hr hlen
 go_enter Tryz.func42, Tryz.ntmps42
 go_wp2_with fail
 go_loopw [8] (fun i w' => ∃ k : Nat, k <= ss.length /\ i = .int .i64 k /\ Hid (Pg B b (bs ++ q7k (ss.take k)) lv w') /\ Hid (PF B b w w')) (fun i _ => ss.length - (intOf i).toNat)
 case atStart => exact ⟨0, by omega, rfl, by show Pg B b (bs ++ q7k []) lv w; rw [show bs ++ q7k [] = bs from List.append_nil _]; exact HP.out, PF.refl _ _ _⟩
 case round =>
  obtain ⟨k, hk, rfl, HQ, HF⟩ := hrel
  by_cases hlt : k < ss.length
  ·obtain ⟨x, hx⟩ : ∃ x, x = ss[k] := ⟨_, rfl⟩
   obtain ⟨r, hA, hrc⟩ : ∃ r, A = some ⟨r, 0, none⟩ /\ wr.cell? ⟨r, k, none⟩ = some (.string x) := by
    rcases HR.out.keep HF.out with ⟨e, _⟩ | ⟨r, cp, fz, e, hm, _⟩
    ·rw [e] at hlt; exact absurd hlt (by simp)
    ·injection e with e _ _
     refine ⟨r, e, ?_⟩
     simp only [World.cell?, hm]
     simp [hx, hlt]
   subst hA
   have hta : q7k (ss.take (k + 1)) = q7k (ss.take k) ++ toL x := by
    unfold q7k
    rw [List.take_succ_eq_append_getElem hlt, List.map_append, List.flatten_append, <- hx]
    simp
   have hle : (bs ++ q7k (ss.take k) ++ toL x).length <= 140737488355328 := by
    rw [List.append_assoc, <- hta]
    refine Nat.le_trans ?_ HL.out
    rw [List.length_append, List.length_append]
    refine Nat.add_le_add_left ?_ _
    unfold q7k
    conv => rhs; rw [<- List.take_append_drop (k + 1) ss]
    rw [List.map_append, List.flatten_append, List.length_append]
    omega
   have HTA := q0h hta
   have HLE := q0h hle
   have hadd : (⟨r, 0, none⟩ : Addr).add k = ⟨r, k, none⟩ := by unfold Addr.add; split <;> simp_all
   clear hx hta hle
   go_wp2_with fail
   refine (q8z HQ.out x HLE.out).mono ?_
   rintro e w1 ⟨rfl, hp, hf⟩
   have HP1 := q0h (show Pg B b (bs ++ q7k (ss.take (k + 1))) lv w1 by rw [HTA.out, <- List.append_assoc]; exact hp)
   have HF1 := q0h (HF.out.trans hf)
   clear hp hf
   go_wp2_with fail
   go_roundw
   case rel => exact ⟨k + 1, by omega, by go_num, HP1, HF1⟩
   case measure => simp [intOf]; omega
  ·obtain rfl : k = ss.length := by omega
   rw [List.take_length] at HQ
   go_wp2_with fail
   go_end0
   exact ⟨rfl, HQ.out, HF.out⟩
theorem x6e (lv : Nat) (s : ByteArray) (hs : s = ⟨(Lib.repeatL [9] lv).toArray⟩) : q7k [s] = q2y lv := by
 subst hs
 show (Lib.repeatL [9] lv).toArray.toList ++ [] = _
 unfold q2y
 rw [List.append_nil]
 show Lib.repeatL [9] lv = _
 induction lv with
 | zero => rfl
 | succ n ih => rw [Lib.repeatL, ih, List.replicate_succ]; rfl
theorem z7k {B b lv : Nat} {bs : List UInt8} {w : World} (h : Pg B b bs lv w) {v : Value} {ss : List ByteArray} (hr : x3e w b v ss) (hsl : ss.length <= 1000) (hlv : lv <= 140737488355328) (hlen : (bs ++ q2y lv ++ q7k ss).length <= 140737488355328) :
  Calls Tryz.prog 88 #[.pointer (some ⟨b, 0, none⟩), v] w fun e w' => e = .returned (.tuple #[]) /\ Pg B b (bs ++ q2y lv ++ q7k ss) lv w' /\ PF B b w w' := by
 have HR9 := q0h (Tryz.strings_Repeat ⟨#[9]⟩ lv w (by omega) (by show 1 * lv <= _; omega))
 obtain ⟨p, vb, hm, hpp, ho⟩ := h.mem
 have c2 : w.cell? ⟨b, 2, none⟩ = some (.int .i64 lv) := (q0a hm 2).trans rfl
 have HP := q0h h
 have HR := q0h hr
 have HL := q0h hlen
 clear h hr hlen hm hpp ho
 go_enter Tryz.func88, Tryz.ntmps88
 go_wp2_with fail
 refine HR9.out.mono ?_
 rintro e w1 ⟨rfl, hb⟩
 obtain ⟨sx, hsx⟩ : ∃ s : ByteArray, s = ⟨(Lib.repeatL [9] lv).toArray⟩ := ⟨_, rfl⟩
 have hsx2 : (⟨(Lib.repeatL (⟨#[9]⟩ : ByteArray).data.toList lv).toArray⟩ : ByteArray) = sx := hsx.symm
 rw [hsx2]
 have HCT := q0h (x6e lv sx hsx)
 have HP1 := q0h (HP.out.below hb)
 have HR1 := q0h (HR.out.below hb)
 have HF1 := q0h (PF.of_below (b := b) hb HP.out.bw)
 clear hsx hsx2 hb c2
 go_wp2_with fail
 have hba := q0d (Below.refl w1.heap.size w1) (.cells #[.string sx] 9)
 refine (z9l (HP1.out.below hba) (x3e.new [sx] HP1.out.lt 1 rfl) (by simp) (by rw [HCT.out]; exact Nat.le_trans (by simp only [List.length_append]; omega) HL.out)).mono ?_
 rintro e w2 ⟨rfl, hp, hf⟩
 rw [HCT.out] at hp
 have HP2 := q0h hp
 have HR2 := q0h ((HR1.out.below hba).keep hf)
 have HF2 := q0h ((HF1.out.trans (PF.of_below hba HP1.out.bw)).trans hf)
 clear hba hp hf
 go_wp2_with fail
 refine (z9l HP2.out HR2.out hsl HL.out).mono ?_
 rintro e w3 ⟨rfl, hp, hf⟩
 have HP3 := q0h hp
 have HF3 := q0h (HF2.out.trans hf)
 clear hp hf
 go_wp2_with fail
 go_end0
 exact ⟨rfl, HP3.out, HF3.out⟩
theorem x6f : Tryz.prog.cellsOf 5 = 1 := by kernel_rfl
theorem z9m {T : TypeId} {rest : List Value} (B b : Nat) (p : Value) (w : World) (hbk : w.heap[b]? = some (.cells (p :: .slice none 0 0 :: rest).toArray T (0, 0))) :
  Calls Tryz.prog 44 #[.pointer (some ⟨b, 0, none⟩)] w fun e w' => e = .returned (.string ⟨#[]⟩) /\ Below B w w' := by
 have hUS : ∀ (W : World) (q : Option Addr), (Builtin.unsafeString_ #[119, 3] 9 #[.pointer q, .int .i64 0]).run Tryz.prog W = .ok (.string .empty) W := fun W q => Lib.run_unsafeString_none W _ _ _ q
 have c1 : w.drew.cell? ⟨b, 1, none⟩ = some (.slice none 0 0) := (q0a (w := w.drew) hbk 1).trans rfl
 have hSD : (Builtin.unsafeSliceData_ #[74] 119 #[.slice none 0 0]).run Tryz.prog w.drew = .ok (.pointer none) w.drew := rfl
 have mixed : Tryz.prog.follows Departure.mixedOrders = true := by kernel_rfl
 go_enter Tryz.func44, Tryz.ntmps44
 go_wp2_with fail
 go_region_o
 all_goals (go_wp2_with fail; go_ret; exact ⟨rfl, Below.drew (Below.refl B w)⟩)
theorem z3x {T : TypeId} {rest : List Value} (B b g : Nat) (p : Value) (cur : Array Value) (w : World) (hBw : B <= w.heap.size) (hg : w.heap[g]? = some (.cells cur 5 (0, 0))) (hbk : w.heap[b]? = some (.cells (p :: .slice (some ⟨g, 0, none⟩) 0 0 :: rest).toArray T (0, 0))) :
  Calls Tryz.prog 44 #[.pointer (some ⟨b, 0, none⟩)] w fun e w' => e = .returned (.string ⟨#[]⟩) /\ Below B w w' := by
 have hUS : ∀ (W : World) (q : Option Addr), (Builtin.unsafeString_ #[119, 3] 9 #[.pointer q, .int .i64 0]).run Tryz.prog W = .ok (.string .empty) W := fun W q => Lib.run_unsafeString_none W _ _ _ q
 have c1 : w.drew.cell? ⟨b, 1, none⟩ = some (.slice (some ⟨g, 0, none⟩) 0 0) := (q0a (w := w.drew) hbk 1).trans rfl
 have hlt : b < w.heap.size := q0c hbk
 have hSD : (Builtin.unsafeSliceData_ #[74] 119 #[.slice (some ⟨g, 0, none⟩) 0 0]).run Tryz.prog w.drew = .ok (.pointer (some ⟨w.drew.heap.size, 0, none⟩)) (w.drew.alloc (.view ⟨g, 0, none⟩ 5)) :=
  Lib.run_unsafeSliceData_zero w.drew _ _ 5 Tryz.underlying119 ⟨g, 0, none⟩ 0 (5, cur.size) (by have hg' : w.drew.heap[g]? = some (.cells cur 5 (0, 0)) := hg; simp [World.shape?, hg'])
 have c2 : (w.drew.alloc (.view ⟨g, 0, none⟩ 5)).cell? ⟨b, 1, none⟩ = some (.slice (some ⟨g, 0, none⟩) 0 0) := by
  have h2 : (w.drew.alloc (.view ⟨g, 0, none⟩ 5)).heap[b]? = _ := (Lib.alloc_old w.drew _ b hlt).trans hbk
  exact (q0a h2 1).trans rfl
 have c3 : (w.alloc (.view ⟨g, 0, none⟩ 5)).drew.cell? ⟨b, 1, none⟩ = some (.slice (some ⟨g, 0, none⟩) 0 0) := c2
 clear hbk hg
 have mixed : Tryz.prog.follows Departure.mixedOrders = true := by kernel_rfl
 go_enter Tryz.func44, Tryz.ntmps44
 go_wp2_with fail
 go_region_o
 all_goals (go_wp2_with fail; go_ret; exact ⟨rfl, (Below.drew (Below.refl B w)).alloc hBw _⟩)
theorem z7l {T : TypeId} {rest : List Value} (B b g cap : Nat) (p : Value) (w : World) (hc0 : cap ≠ 0) (hbk : w.heap[b]? = some (.cells (p :: .slice (some ⟨g, 0, none⟩) 0 cap :: rest).toArray T (0, 0))) :
  Calls Tryz.prog 44 #[.pointer (some ⟨b, 0, none⟩)] w fun e w' => e = .returned (.string ⟨#[]⟩) /\ Below B w w' := by
 have hUS : ∀ (W : World) (q : Option Addr), (Builtin.unsafeString_ #[119, 3] 9 #[.pointer q, .int .i64 0]).run Tryz.prog W = .ok (.string .empty) W := fun W q => Lib.run_unsafeString_none W _ _ _ q
 have c1 : w.drew.cell? ⟨b, 1, none⟩ = some (.slice (some ⟨g, 0, none⟩) 0 cap) := (q0a (w := w.drew) hbk 1).trans rfl
 have hSD : (Builtin.unsafeSliceData_ #[74] 119 #[.slice (some ⟨g, 0, none⟩) 0 cap]).run Tryz.prog w.drew = .ok (.pointer (some ⟨g, 0, none⟩)) w.drew :=
  Lib.run_unsafeSliceData_row _ _ _ _ _ _ hc0
 clear hc0
 have mixed : Tryz.prog.follows Departure.mixedOrders = true := by kernel_rfl
 go_enter Tryz.func44, Tryz.ntmps44
 go_wp2_with fail
 go_region_o
 all_goals (go_wp2_with fail; go_ret; exact ⟨rfl, Below.drew (Below.refl B w)⟩)
theorem z9n {T : TypeId} {rest : List Value} (B b g cap : Nat) (p : Value) (cur : Array Value) (l : List UInt8) (h0 : l ≠ []) (w : World) (hbg : B <= g) (hg : w.heap[g]? = some (.cells cur 5 (0, 0))) (hnc : l.length <= cap) (hcm : cap <= maxLen) (hcs : cur.size = cap * 1) (hown : w.ownsRow B 5 1 (.slice (some ⟨g, 0, none⟩) l.length cap) l.length (Lib.byteCells l)) (hbk : w.heap[b]? = some (.cells (p :: .slice (some ⟨g, 0, none⟩) l.length cap :: rest).toArray T (0, 0))) :
  Calls Tryz.prog 44 #[.pointer (some ⟨b, 0, none⟩)] w fun e w' => e = .returned (.string ⟨l.toArray⟩) /\ Below B w w' := by
 have hl0 : l.length ≠ 0 := by simpa using h0
 have c1 : w.drew.cell? ⟨b, 1, none⟩ = some (.slice (some ⟨g, 0, none⟩) l.length cap) := (q0a (w := w.drew) hbk 1).trans rfl
 have hSD : (Builtin.unsafeSliceData_ #[74] 119 #[.slice (some ⟨g, 0, none⟩) l.length cap]).run Tryz.prog w.drew = .ok (.pointer (some ⟨g, 0, none⟩)) w.drew :=
  Lib.run_unsafeSliceData_row _ _ _ _ _ _ (by omega)
 have hUS : (Builtin.unsafeString_ #[119, 3] 9 #[.pointer (some ⟨g, 0, none⟩), .int .i64 l.length]).run Tryz.prog w.drew = .ok (.string ⟨l.toArray⟩) (w.drew.freeze ⟨g, 0, none⟩ l.length) := by
  refine Lib.run_unsafeString_row w.drew 119 3 9 5 Tryz.underlying119 x6f g cur.size (by have hg' : w.drew.heap[g]? = some (.cells cur 5 (0, 0)) := hg; simp [World.shape?, hg']) l h0 (by omega) (by unfold maxLen at hcm; omega) ?_
  intro j x hx
  exact hown.cells (g := g) rfl j (.int .u8 x.toNat) (by simp [Lib.byteCells, hx])
 clear hown hbk hg hcs hcm hnc h0
 have mixed : Tryz.prog.follows Departure.mixedOrders = true := by kernel_rfl
 go_enter Tryz.func44, Tryz.ntmps44
 go_wp2_with fail
 go_region_o
 all_goals (go_wp2_with fail; go_ret; exact ⟨rfl, Lib.below_freeze (Below.drew (Below.refl B w)) (p := ⟨g, 0, none⟩) hbg _⟩)
theorem q6z {T : TypeId} {rest : List Value} {B b : Nat} {bs : List UInt8} {w : World} (h : PG T rest B b bs w) : Calls Tryz.prog 44 #[.pointer (some ⟨b, 0, none⟩)] w fun e w' => e = .returned (.string ⟨bs.toArray⟩) /\ Below B w w' := by
 obtain ⟨p, v, hm, _, ho⟩ := h.mem
 have ho2 := ho
 rcases ho.2 with ⟨hv, hn⟩ | ⟨g, cap, cur, hv, hbg, hg, hnc, hcm, hcs, _⟩
 ·obtain rfl : bs = [] := List.length_eq_zero_iff.1 hn
  rw [hv] at hm
  exact z9m B b p w hm
 ·rw [hv] at hm ho2
  cases bs with
  | nil =>
   by_cases hc0 : cap = 0
   ·subst hc0
    exact z3x B b g p cur w h.bw hg hm
   ·exact z7l B b g cap p w hc0 hm
  | cons x r => exact z9n B b g cap p cur (x :: r) (by simp) w hbg hg hnc hcm hcs ho2 hm
def P10 (w : World) : Prop := Lib.TabIs Tryz.prog w "internal/strconv.uint64pow10" .u64 Lib.pow10Tab
theorem P10.below {w w' : World} (h : P10 w) (hb : Below w.heap.size w w') : P10 w' := by
 unfold P10 Lib.TabIs World.var? at h ⊢
 cases hg : Tryz.prog.globalNamed "internal/strconv.uint64pow10" with
 | none => rw [hg] at h; cases h
 | some g =>
  rw [hg] at h
  simp only [Option.bind_some] at h ⊢
  rcases Nat.lt_or_ge g w.heap.size with hlt | hge
  ·rw [hb.block g hlt]; exact h
  ·rw [Array.getElem?_eq_none hge] at h; cases h
open Go.Sort Go.Lib in
theorem z9o (w : World) (T : TypeId) (nd : Nat) (hs : nd <= 24) : Holds (fun (b : UInt8) => Value.int .u8 (b.toNat : Int)) (w.alloc (.cells Lib.zeros24 T)) w.heap.size 0 (Array.replicate nd (0 : UInt8)) := fun j hj => by
 have hj' : j < nd := by simpa using hj
 refine ⟨?_, World.frozen?_alloc_new _ _ _ _⟩
 rw [World.cell?_alloc_new, Lib.zeros24_at _ (by omega), getElem!_pos _ j hj]
 simp
open Go.Sort Go.Lib in
theorem x9u (w : World) (o : Obj) (dk : Array UInt8) (k : Nat) : ∃ os, (putRow (fun (b : UInt8) => Value.int .u8 (b.toNat : Int)) (w.alloc o) w.heap.size 0 dk).drewN k = grow (w.drewN k) os := by
 rw [alloc_eq_grow]
 obtain ⟨os', _, e⟩ := putRow_grow_new (fun (b : UInt8) => Value.int .u8 (b.toNat : Int)) w #[o] w.heap.size 0 dk (Nat.le_refl _)
 exact ⟨os', by rw [e]; rfl⟩
open Go.Sort Go.Lib in
theorem z3b (w : World) (k : Nat) (os : Array Obj) : Below w.heap.size w (grow (w.drewN k) os) := by
 refine ⟨rfl, rfl, rfl, ?_, fun i hi => ?_⟩
 ·show w.heap.size <= (w.heap ++ os).size
  simp
 ·show (w.heap ++ os)[i]? = w.heap[i]?
  rw [Array.getElem?_append_left hi]
open Go.Sort Go.Lib in
theorem x9v (u : Nat) (hu : u < 18446744073709551616) (w : World) (htab : P10 w) :
  Calls Tryz.prog 163 #[.int .u64 u, .int .i64 10] w fun e w' => e = .returned (.string ⟨(Lib.decDigits u).toArray⟩) /\ Below w.heap.size w w' := by
 by_cases hs : u < 100
 ·have HC := q0h (Tryz.internal_strconv_small u hs w)
  go_enter Tryz.func163, Tryz.ntmps163
  go_wp2_with fail
  refine HC.out.mono ?_
  rintro e w1 ⟨rfl, rfl⟩
  go_wp2_with fail
  go_ret
  exact ⟨rfl, Below.refl _ _⟩
 ·have hu1 : 1 <= u := by omega
  have hnd20 : Lib.nDigits u <= 20 := by have := Lib.numDigits_eq u hu1 hu; split at this <;> omega
  have hal : Tryz.prog.arrayLen 195 = 24 := by kernel_rfl
  have hsl1 : ∀ W, (Instr.sliceAt 195 (.pointer (some ⟨w.heap.size, 0, none⟩)) none (some (.int .i64 (Lib.nDigits u : Int))) none).run Tryz.prog W = .ok (.slice (some ⟨w.heap.size, 0, none⟩) (Lib.nDigits u) 24) W := fun W => by
   rw [run_sliceAt_array_h W 195 ⟨w.heap.size, 0, none⟩ (by kernel_rfl) .i64 (Lib.nDigits u : Int) (by omega) (by rw [hal]; omega)]
   go_simp
  have hH0 := z9o w 195 (Lib.nDigits u) (by omega)
  have hfmt := Tryz.internal_strconv_formatBase10 w.heap.size 0 24 u (Array.replicate (Lib.nDigits u) 0) (w.alloc (.cells Lib.zeros24 195)) hH0 (by rw [Array.size_replicate]; exact Lib.lt_pow_nDigits u) hu (by rw [Array.size_replicate]; omega)
  rw [Array.size_replicate] at hfmt
  have HH0 := q0h hH0
  have HN := q0h (Tryz.internal_strconv_numDigits u hu1 hu (w.alloc (.cells Lib.zeros24 195)) (Lib.tabIs_alloc htab _))
  have HF := q0h hfmt
  clear hH0 hal hfmt htab
  go_enter Tryz.func163, Tryz.ntmps163
  go_wp2_with fail
  refine HN.out.mono ?_
  rintro e w' ⟨rfl, rfl⟩
  go_wp2_with fail
  refine HF.out.mono ?_
  rintro e w' ⟨rfl, k, v', dk, rfl, hF⟩
  have hcv : (convert 74 9 (.slice (some ⟨w.heap.size, 0, none⟩) (Lib.nDigits u) 24)).run Tryz.prog ((putRow (fun (b : UInt8) => Value.int .u8 (b.toNat : Int)) (w.alloc (.cells Lib.zeros24 195)) w.heap.size 0 dk).drewN k) = .ok (.string ⟨(Lib.decDigits u).toArray⟩) ((putRow (fun (b : UInt8) => Value.int .u8 (b.toNat : Int)) (w.alloc (.cells Lib.zeros24 195)) w.heap.size 0 dk).drewN k) := by
   have h := run_convert_bytes_back (P := Tryz.prog) ((putRow (fun (b : UInt8) => Value.int .u8 (b.toNat : Int)) (w.alloc (.cells Lib.zeros24 195)) w.heap.size 0 dk).drewN k) 74 9 5 ⟨w.heap.size, 0, none⟩ 24 (Lib.decDigits u) Tryz.underlying74 Tryz.underlying5 Tryz.underlying9 (fun j hj => by
    rw [Lib.row_is_numeral hF j hj, Lib.add_plain, World.cell?_drewN]
    exact cell?_putRow (fun (b : UInt8) => Value.int .u8 (b.toNat : Int)) _ w.heap.size 0 _ dk HH0.out (by rw [hF.size, Array.size_replicate]) j (by rw [hF.size]; rw [Lib.decDigits_length] at hj; exact hj))
   rw [Lib.decDigits_length] at h
   exact h
  go_wp2_with fail
  go_ret
  obtain ⟨os, eo⟩ := x9u w (.cells Lib.zeros24 195) dk k
  exact ⟨rfl, by rw [eo]; exact z3b w k os⟩
theorem j2k (u : Nat) (hu : u < 18446744073709551616) (w : World) (htab : P10 w) :
  Calls Tryz.prog 127 #[.int .u64 u, .int .i64 10] w fun e w' => e = .returned (.string ⟨(Lib.decDigits u).toArray⟩) /\ Below w.heap.size w w' := by
 have HC := q0h (x9v u hu w htab)
 clear htab
 go_enter Tryz.func127, Tryz.ntmps127
 go_wp2_with fail
 refine HC.out.mono ?_
 rintro e w1 ⟨rfl, hb⟩
 have HB := q0h hb
 clear hb
 go_wp2_with fail
 go_ret
 exact ⟨rfl, HB.out⟩
theorem z5g (n : Int) (h0 : -9223372036854775808 <= n) (h1 : n <= 9223372036854775807) (w : World) (htab : P10 w) : Calls Tryz.prog 81 #[.int .i64 n] w fun e w' => e = .returned (.string ⟨(Lib.itoa n).toArray⟩) /\ Below w.heap.size w w' := by
 refine (Tryz.strconv_Itoa n h0 h1 w htab).mono ?_
 rintro e w' ⟨rfl, k, os, rfl⟩
 exact ⟨rfl, z3b w k os⟩
theorem x6g (a : Int) (h0 : -9223372036854775808 <= a) (h1 : a <= 9223372036854775807) (w : World) : Calls Tryz.prog 126 #[.int .i64 a] w fun e w' => e = .returned (.int .u64 (a.natAbs : Nat)) /\ w = w' := by
 by_cases h : a < 0
 ·go_enter Tryz.func126, Tryz.ntmps126
  go_wp2_with fail
  go_ret
  refine ⟨?_, rfl⟩
  show Ending.returned (.int .u64 (IntKind.u64.wrap (-IntKind.u64.wrap a))) = _
  rw [show IntKind.u64.wrap (-IntKind.u64.wrap a) = ((a.natAbs : Nat) : Int) by rw [IntKind.wrap_u64, IntKind.wrap_u64]; omega]
 ·go_enter Tryz.func126, Tryz.ntmps126
  go_wp2_with fail
  go_ret
  refine ⟨?_, rfl⟩
  show Ending.returned (.int .u64 a) = _
  rw [show ((a.natAbs : Nat) : Int) = a by omega]
theorem z4m (k u : Nat) : q3m (k + 1) u = UInt8.ofNat (48 + u * 10 / 4294967296) :: if u * 10 % 4294967296 = 0 then [] else q3m k (u * 10 % 4294967296) := rfl
theorem z3c (d : Nat) (h : d < 208) : (UInt8.ofNat (48 + d)).toNat = 48 + d := by
 rw [UInt8.toNat_ofNat']
 omega
theorem z5h (a b : ByteArray) : toL (a ++ b) = toL a ++ toL b := by
 show (a ++ b).data.toList = _
 rw [ByteArray.data_append, Array.toList_append]
 rfl
theorem x1d (a : Nat) (ha : a < 18446744073709551616) : bits .and .u64 (a : Int) 4294967295 = ((a % 4294967296 : Nat) : Int) := by
 have h := bits_and_u64_nat a 4294967295 ha (by decide)
 rw [show ((4294967295 : Nat) : Int) = 4294967295 from rfl] at h
 rw [h]
 have h2 := Nat.and_two_pow_sub_one_eq_mod a 32
 rw [show (2 : Nat) ^ 32 - 1 = 4294967295 by decide, show (2 : Nat) ^ 32 = 4294967296 by decide] at h2
 rw [h2]
theorem z2a {j f : Nat} (hj : j + 1 <= 32) (h : 2 ^ j ∣ f) : 2 ^ (j + 1) ∣ f * 10 % 4294967296 := by
 have h1 : 2 ^ (j + 1) ∣ f * 10 := by
  obtain ⟨c, rfl⟩ := h
  exact ⟨c * 5, by rw [Nat.pow_succ]; rw [Nat.mul_assoc, Nat.mul_assoc]; congr 1; omega⟩
 have h2 : 2 ^ (j + 1) ∣ 4294967296 := by
  have e : (4294967296 : Nat) = 2 ^ 32 := by decide
  rw [e]
  exact Nat.pow_dvd_pow 2 hj
 exact (Nat.dvd_mod_iff h2).2 h1
theorem z1k (a : Int) (h0 : -9223372036854775808 <= a) (h1 : a <= 9223372036854775807) (w : World) (hp : P10 w) : Calls Tryz.prog 84 #[.int .i64 a] w fun e w' => e = .returned (.string ⟨(q4o a).toArray⟩) /\ Below w.heap.size w w' := by
 obtain ⟨u, hu⟩ : ∃ u, u = a.natAbs := ⟨_, rfl⟩
 obtain ⟨B, hB⟩ : ∃ B, B = w.heap.size := ⟨_, rfl⟩
 obtain ⟨W, hW⟩ : ∃ W, W = w.alloc (.cells #[.pointer none, .slice none 0 0] 76) := ⟨_, rfl⟩
 have hg : PG 76 [] B B [] W := ⟨x3d, Nat.le_refl _, by rw [hW, hB]; simp, .pointer none, .slice none 0 0, by rw [hW, hB]; exact heap_alloc_new _ _, .inl rfl, World.ownsRow_nil _ _ _ _⟩
 have hbe : Below B w W := by rw [hW, hB]; exact q0d (Below.refl _ _) _
 have HP := q0h hp
 have HW := q0h hW
 have HB := q0h hB
 have HG := q0h hg
 have HBE := q0h hbe
 have HU := q0h hu
 have HS := q0h (fun w => x6g a h0 h1 w)
 have hul : u <= 9223372036854775808 := by omega
 clear hp hW hB hg hbe hu
 by_cases hneg : a < 0
 ·go_enter Tryz.func84, Tryz.ntmps84
  go_wp2_with fail
  rw [<- HW.out, <- HB.out]
  refine (z3a HG.out 45 (by simp)).mono ?_
  rintro e w1 ⟨rfl, hp1, hf1⟩
  have HG1 := q0h hp1
  have HF1 := q0h hf1
  have HPRE := q0h (show q4o a = [] ++ [45] ++ (Lib.decDigits (u / 4294967296) ++ [46] ++ q3m 40 (u % 4294967296)) by unfold q4o; rw [if_pos hneg, <- HU.out]; simp only [List.append_assoc]; rfl)
  obtain ⟨pre, hpre⟩ : ∃ p, p = [] ++ [(45 : UInt8)] := ⟨_, rfl⟩
  have HPL := q0h (show pre.length <= 1 by rw [hpre]; simp)
  rw [<- hpre] at HG1 HPRE
  clear hp1 hf1 hpre
  go_wp2_with fail
  refine (HS.out _).mono ?_
  rintro e w2 ⟨rfl, rfl⟩
  rw [<- HU.out]
  go_wp2_with fail
  have HBW1 := q0h (show Below w.heap.size w w1 by rw [<- HB.out]; exact HBE.out.trans HF1.out.be)
  rw [show ((u : Int) / 4294967296) = ((u / 4294967296 : Nat) : Int) from rfl]
  refine (j2k (u / 4294967296) (by omega) w1 (HP.out.below HBW1.out)).mono ?_
  rintro e w2 ⟨rfl, hb⟩
  obtain ⟨ds, hds⟩ : ∃ d, d = Lib.decDigits (u / 4294967296) := ⟨_, rfl⟩
  have hdl : ds.length <= 20 := by
   rw [hds, Lib.decDigits_length]
   rcases Nat.eq_zero_or_pos (u / 4294967296) with h | h
   ·rw [h, Lib.nDigits_small (by omega)]; omega
   ·have := Lib.numDigits_eq (u / 4294967296) h (by omega); split at this <;> omega
  have HG2 := q0h (HG1.out.below hb)
  have HF2 := q0h (HF1.out.trans (PF.of_below (b := B) hb HG1.out.bw))
  rw [<- hds] at HPRE ⊢
  clear hds hb
  go_wp2_with fail
  refine (q8z HG2.out _ (by rw [z5h, List.length_append, List.length_append]; show pre.length + (ds.length + 1) <= _; have := HPL.out; omega)).mono ?_
  rintro e w3 ⟨rfl, hp3, hf3⟩
  rw [z5h] at hp3
  have HG3 := q0h (show PG 76 [] B B (pre ++ (ds ++ [46])) w3 from hp3)
  have HF3 := q0h (HF2.out.trans hf3)
  have HL3 := q0h (show (pre ++ (ds ++ [46])).length <= 30 by rw [List.length_append, List.length_append]; show pre.length + (ds.length + 1) <= _; have := HPL.out; omega)
  obtain ⟨tgt, htgt⟩ : ∃ t, t = pre ++ (ds ++ [46]) := ⟨_, rfl⟩
  rw [<- htgt] at HG3 HL3
  have HTG := q0h (show tgt ++ q3m 40 (u % 4294967296) = q4o a by rw [HPRE.out, htgt]; simp only [List.append_assoc])
  clear hp3 hf3 htgt
  go_wp2_with fail
  go_loopg [4] 40 (fun k vu wr => ∃ (f : Nat) (bs : List UInt8), vu = .int .u64 ((f : Nat) : Int) /\ f < 4294967296 /\ 9 <= k /\ k <= 40 /\ bs.length + k <= 80 /\ Hid (2 ^ (40 - k) ∣ f) /\ Hid (PG 76 [] B B bs wr) /\ Hid (PF B B W wr) /\ Hid (bs ++ q3m k f = q4o a))
  case atStart =>
   refine ⟨u % 4294967296, tgt, ?_, Nat.mod_lt _ (by decide), by decide, by decide, by have := HL3.out; omega, Nat.one_dvd _, HG3, HF3, HTG⟩
   rw [x1d u (by omega)]
  case round =>
   clear HG3 HF3 HTG HL3
   obtain ⟨f, bs, rfl, hf, hk, hk2, hbl, HD, HGr, HFr, HT⟩ := hrel
   cases gk with
   | zero => exact absurd hk (by decide)
   | succ k =>
    have hT := HT.out
    rw [z4m] at hT
    have HTR := q0h hT
    obtain ⟨d, hd⟩ : ∃ d, d = f * 10 / 4294967296 := ⟨_, rfl⟩
    have hd10 : d < 10 := by omega
    have HDT := q0h (z3c d (by omega))
    have HDD := q0h hd
    clear hT HT hd
    obtain ⟨g, hg⟩ : ∃ g, g = f * 10 % 4294967296 := ⟨_, rfl⟩
    have hm : bits .and .u64 ((f : Int) * 10) 4294967295 = ((g : Nat) : Int) := by
     have := x1d (f * 10) (by omega)
     rw [<- hg] at this
     rw [<- this]
     rfl
    have hdv : ∀ (_ : 10 <= k + 1), 2 ^ (40 - k) ∣ g := fun h10 => by
     have := z2a (j := 40 - (k + 1)) (by omega) HD.out
     rw [show 40 - (k + 1) + 1 = 40 - k by omega, <- hg] at this
     exact this
    have hend : k + 1 = 9 -> g = 0 := fun h9 => by
     have := z2a (j := 40 - (k + 1)) (by omega) HD.out
     rw [show 40 - (k + 1) + 1 = 32 by omega, <- hg] at this
     exact Nat.eq_zero_of_dvd_of_lt this (by rw [hg]; exact Nat.mod_lt _ (by decide))
    have hg2 : g < 4294967296 := by rw [hg]; exact Nat.mod_lt _ (by decide)
    have HGG := q0h hg
    have HDV := q0h hdv
    rw [<- HGG.out, <- HDD.out] at HTR
    have HWB := q0h (z3a HGr.out (UInt8.ofNat (48 + d)) (by omega))
    rw [HDT.out, show ((48 + d : Nat) : Int) = 48 + (f : Int) * 10 / 4294967296 by rw [HDD.out]; omega] at HWB
    clear hg hdv
    by_cases h0 : g = 0
    ·subst h0
     clear hend
     have HTZ := q0h (show bs ++ [UInt8.ofNat (48 + d)] = q4o a by rw [<- HTR.out, if_pos rfl])
     go_wp2_with fail
     refine HWB.out.mono ?_
     rintro e w4 ⟨rfl, hp4, hf4⟩
     rw [HTZ.out] at hp4
     have HG4 := q0h hp4
     have HF4 := q0h (HFr.out.trans hf4)
     clear hp4 hf4
     go_wp2_with fail
     refine (q6z HG4.out).mono ?_
     rintro e w5 ⟨rfl, hb⟩
     have HBB := q0h (show Below w.heap.size w w5 by rw [<- HB.out]; exact (HBE.out.trans HF4.out.be).trans hb)
     clear hb
     go_wp2_with fail
     go_ret
     exact ⟨rfl, HBB.out⟩
    ·have y : (((g : Nat) : Int) == 0) = false := by rw [beq_eq_false_iff_ne]; omega
     have HTZ := q0h (show bs ++ [UInt8.ofNat (48 + d)] ++ q3m k g = q4o a by rw [<- HTR.out, if_neg h0, List.append_assoc]; rfl)
     have hk10 : 10 <= k + 1 := by
      rcases Nat.lt_or_ge (k + 1) 10 with h | h
      ·exact absurd (hend (by omega)) h0
      ·exact h
     clear hend
     go_wp2_with fail
     refine HWB.out.mono ?_
     rintro e w4 ⟨rfl, hp4, hf4⟩
     have HG4 := q0h hp4
     have HF4 := q0h (HFr.out.trans hf4)
     clear hp4 hf4
     go_wp2_with fail
     go_roundg k
     case measure => omega
     case rel => exact ⟨g, bs ++ [UInt8.ofNat (48 + d)], rfl, hg2, by omega, by omega, by rw [List.length_append]; simp; omega, HDV.out hk10, HG4, HF4, HTZ⟩
 ·go_enter Tryz.func84, Tryz.ntmps84
  obtain ⟨w1, hw1⟩ : ∃ w1, w1 = W := ⟨_, rfl⟩
  have HF1 := q0h (show PF B B W w1 by rw [hw1]; exact PF.refl _ _ _)
  obtain ⟨pre, hpre⟩ : ∃ p, p = ([] : List UInt8) := ⟨_, rfl⟩
  have HG1 := q0h (show PG 76 [] B B pre w1 by rw [hw1, hpre]; exact HG.out)
  have HPRE := q0h (show q4o a = pre ++ (Lib.decDigits (u / 4294967296) ++ [46] ++ q3m 40 (u % 4294967296)) by rw [hpre]; unfold q4o; rw [if_neg hneg, <- HU.out]; simp only [List.append_assoc, List.nil_append])
  have HPL := q0h (show pre.length <= 1 by rw [hpre]; simp)
  have HW1 := q0h hw1
  clear hpre hw1
  go_wp2_with fail
  rw [<- HW.out, <- HB.out, <- HW1.out]
  refine (HS.out _).mono ?_
  rintro e w2 ⟨rfl, rfl⟩
  rw [<- HU.out]
  go_wp2_with fail
  have HBW1 := q0h (show Below w.heap.size w w1 by rw [<- HB.out]; exact HBE.out.trans HF1.out.be)
  rw [show ((u : Int) / 4294967296) = ((u / 4294967296 : Nat) : Int) from rfl]
  refine (j2k (u / 4294967296) (by omega) w1 (HP.out.below HBW1.out)).mono ?_
  rintro e w2 ⟨rfl, hb⟩
  obtain ⟨ds, hds⟩ : ∃ d, d = Lib.decDigits (u / 4294967296) := ⟨_, rfl⟩
  have hdl : ds.length <= 20 := by
   rw [hds, Lib.decDigits_length]
   rcases Nat.eq_zero_or_pos (u / 4294967296) with h | h
   ·rw [h, Lib.nDigits_small (by omega)]; omega
   ·have := Lib.numDigits_eq (u / 4294967296) h (by omega); split at this <;> omega
  have HG2 := q0h (HG1.out.below hb)
  have HF2 := q0h (HF1.out.trans (PF.of_below (b := B) hb HG1.out.bw))
  rw [<- hds] at HPRE ⊢
  clear hds hb
  go_wp2_with fail
  refine (q8z HG2.out _ (by rw [z5h, List.length_append, List.length_append]; show pre.length + (ds.length + 1) <= _; have := HPL.out; omega)).mono ?_
  rintro e w3 ⟨rfl, hp3, hf3⟩
  rw [z5h] at hp3
  have HG3 := q0h (show PG 76 [] B B (pre ++ (ds ++ [46])) w3 from hp3)
  have HF3 := q0h (HF2.out.trans hf3)
  have HL3 := q0h (show (pre ++ (ds ++ [46])).length <= 30 by rw [List.length_append, List.length_append]; show pre.length + (ds.length + 1) <= _; have := HPL.out; omega)
  obtain ⟨tgt, htgt⟩ : ∃ t, t = pre ++ (ds ++ [46]) := ⟨_, rfl⟩
  rw [<- htgt] at HG3 HL3
  have HTG := q0h (show tgt ++ q3m 40 (u % 4294967296) = q4o a by rw [HPRE.out, htgt]; simp only [List.append_assoc])
  clear hp3 hf3 htgt
  go_wp2_with fail
  go_loopg [4] 40 (fun k vu wr => ∃ (f : Nat) (bs : List UInt8), vu = .int .u64 ((f : Nat) : Int) /\ f < 4294967296 /\ 9 <= k /\ k <= 40 /\ bs.length + k <= 80 /\ Hid (2 ^ (40 - k) ∣ f) /\ Hid (PG 76 [] B B bs wr) /\ Hid (PF B B W wr) /\ Hid (bs ++ q3m k f = q4o a))
  case atStart =>
   refine ⟨u % 4294967296, tgt, ?_, Nat.mod_lt _ (by decide), by decide, by decide, by have := HL3.out; omega, Nat.one_dvd _, HG3, HF3, HTG⟩
   rw [x1d u (by omega)]
  case round =>
   clear HG3 HF3 HTG HL3
   obtain ⟨f, bs, rfl, hf, hk, hk2, hbl, HD, HGr, HFr, HT⟩ := hrel
   cases gk with
   | zero => exact absurd hk (by decide)
   | succ k =>
    have hT := HT.out
    rw [z4m] at hT
    have HTR := q0h hT
    obtain ⟨d, hd⟩ : ∃ d, d = f * 10 / 4294967296 := ⟨_, rfl⟩
    have hd10 : d < 10 := by omega
    have HDT := q0h (z3c d (by omega))
    have HDD := q0h hd
    clear hT HT hd
    obtain ⟨g, hg⟩ : ∃ g, g = f * 10 % 4294967296 := ⟨_, rfl⟩
    have hm : bits .and .u64 ((f : Int) * 10) 4294967295 = ((g : Nat) : Int) := by
     have := x1d (f * 10) (by omega)
     rw [<- hg] at this
     rw [<- this]
     rfl
    have hdv : ∀ (_ : 10 <= k + 1), 2 ^ (40 - k) ∣ g := fun h10 => by
     have := z2a (j := 40 - (k + 1)) (by omega) HD.out
     rw [show 40 - (k + 1) + 1 = 40 - k by omega, <- hg] at this
     exact this
    have hend : k + 1 = 9 -> g = 0 := fun h9 => by
     have := z2a (j := 40 - (k + 1)) (by omega) HD.out
     rw [show 40 - (k + 1) + 1 = 32 by omega, <- hg] at this
     exact Nat.eq_zero_of_dvd_of_lt this (by rw [hg]; exact Nat.mod_lt _ (by decide))
    have hg2 : g < 4294967296 := by rw [hg]; exact Nat.mod_lt _ (by decide)
    have HGG := q0h hg
    have HDV := q0h hdv
    rw [<- HGG.out, <- HDD.out] at HTR
    have HWB := q0h (z3a HGr.out (UInt8.ofNat (48 + d)) (by omega))
    rw [HDT.out, show ((48 + d : Nat) : Int) = 48 + (f : Int) * 10 / 4294967296 by rw [HDD.out]; omega] at HWB
    clear hg hdv
    by_cases h0 : g = 0
    ·subst h0
     clear hend
     have HTZ := q0h (show bs ++ [UInt8.ofNat (48 + d)] = q4o a by rw [<- HTR.out, if_pos rfl])
     go_wp2_with fail
     refine HWB.out.mono ?_
     rintro e w4 ⟨rfl, hp4, hf4⟩
     rw [HTZ.out] at hp4
     have HG4 := q0h hp4
     have HF4 := q0h (HFr.out.trans hf4)
     clear hp4 hf4
     go_wp2_with fail
     refine (q6z HG4.out).mono ?_
     rintro e w5 ⟨rfl, hb⟩
     have HBB := q0h (show Below w.heap.size w w5 by rw [<- HB.out]; exact (HBE.out.trans HF4.out.be).trans hb)
     clear hb
     go_wp2_with fail
     go_ret
     exact ⟨rfl, HBB.out⟩
    ·have y : (((g : Nat) : Int) == 0) = false := by rw [beq_eq_false_iff_ne]; omega
     have HTZ := q0h (show bs ++ [UInt8.ofNat (48 + d)] ++ q3m k g = q4o a by rw [<- HTR.out, if_neg h0, List.append_assoc]; rfl)
     have hk10 : 10 <= k + 1 := by
      rcases Nat.lt_or_ge (k + 1) 10 with h | h
      ·exact absurd (hend (by omega)) h0
      ·exact h
     clear hend
     go_wp2_with fail
     refine HWB.out.mono ?_
     rintro e w4 ⟨rfl, hp4, hf4⟩
     have HG4 := q0h hp4
     have HF4 := q0h (HFr.out.trans hf4)
     clear hp4 hf4
     go_wp2_with fail
     go_roundg k
     case measure => omega
     case rel => exact ⟨g, bs ++ [UInt8.ofNat (48 + d)], rfl, hg2, by omega, by omega, by rw [List.length_append]; simp; omega, HDV.out hk10, HG4, HF4, HTZ⟩
theorem q6r (t : Int) (w : World) : Calls Tryz.prog 78 #[.int .i64 t] w fun e w' => e = .returned (.bool (q1c t)) /\ w = w' := by
 go_enter Tryz.func78, Tryz.ntmps78
 go_wp2
 all_goals go_ret
 all_goals exact ⟨q0g (by unfold q1c; first | rfl | (simp; omega)), rfl⟩
def j7u (K : Nat) (k : Int) : Prop := q1k K /\ ∀ (n : Int) (w : World), Calls Tryz.prog K #[.int .i64 n] w fun e w' => e = .returned (.bool (z7i k n)) /\ w = w'
theorem q8h (k : Int) (h : k ≠ 1 /\ k ≠ 2 /\ k ≠ 3) : j7u 222 k := ⟨fun args w => by kernel_rfl, fun n w => by
 go_enter Tryz.func222, Tryz.ntmps222
 go_wp2
 go_ret
 exact ⟨q0g (by unfold z7i; rw [if_neg (fun q => q.elim h.1 h.2.1), if_neg h.2.2]), rfl⟩⟩
theorem x6h (k : Int) (h : k = 1 \/ k = 2) : j7u 223 k := ⟨fun args w => by kernel_rfl, fun n w => by
 go_enter Tryz.func223, Tryz.ntmps223
 go_wp2
 go_ret
 exact ⟨q0g (by unfold z7i; rw [if_pos h]), rfl⟩⟩
theorem x9w : j7u 224 3 := ⟨fun args w => by kernel_rfl, fun n w => by
 by_cases h : n = 0
 ·subst h
  go_enter Tryz.func224, Tryz.ntmps224
  go_wp2
  go_ret
  exact ⟨rfl, rfl⟩
 ·have y : (n == 0) = false := by simpa using h
  go_enter Tryz.func224, Tryz.ntmps224
  go_wp2
  go_ret
  exact ⟨q0g (by unfold z7i; simp [h]), rfl⟩⟩
def z3d (k : Int) (e : Ending) : Option (Bool × Int × Int × Int × Int) -> Prop
 | none => e = .returned (.tuple #[.agg #[.bool false, .int .i64 0, .int .i64 0, .int .i64 0, .int .i64 0, .nilFunc], .bool false])
 | some (nm, lo, hi, le, mo) => ∃ K, j7u K k /\ e = .returned (.tuple #[.agg #[.bool nm, .int .i64 lo, .int .i64 hi, .int .i64 le, .int .i64 mo, .func (.func K) #[] #[]], .bool true])
theorem x9x (w : World) : Calls Tryz.prog 199 #[.int .i64 1] w fun e w' => Below w.heap.size w w' /\ z3d 1 e (q2f 1) := by
 have HB := q0h (q0d (q0d (Below.refl w.heap.size w) (.cells #[.bool false, .int .i64 0, .int .i64 0, .int .i64 0, .int .i64 0, .func (.func 223) #[] #[]] 192)) (.cells #[.bool false, .int .i64 0, .int .i64 0, .int .i64 0, .int .i64 0, .func (.func 223) #[] #[]] 192))
 go_enter Tryz.func199, Tryz.ntmps199
 go_wp2_with fail
 refine bodyPost_ret (q3d rfl _ _ w.heap.size 192 #[.bool false, .int .i64 0, .int .i64 0, .int .i64 0, .int .i64 0, .func (.func 223) #[] #[]] (0, 0) _ rfl ((Below.heap_alloc _ _ _ (by simp)).trans (heap_alloc_new _ _)) Tryz.underlying192 rfl (by kernel_rfl)) rfl ?_
 exact ⟨HB.out, _, x6h _ (by decide), rfl⟩
theorem x9y (w : World) : Calls Tryz.prog 199 #[.int .i64 2] w fun e w' => Below w.heap.size w w' /\ z3d 2 e (q2f 2) := by
 have HB := q0h (q0d (q0d (Below.refl w.heap.size w) (.cells #[.bool false, .int .i64 0, .int .i64 0, .int .i64 0, .int .i64 0, .func (.func 223) #[] #[]] 192)) (.cells #[.bool false, .int .i64 0, .int .i64 0, .int .i64 0, .int .i64 0, .func (.func 223) #[] #[]] 192))
 go_enter Tryz.func199, Tryz.ntmps199
 go_wp2_with fail
 refine bodyPost_ret (q3d rfl _ _ w.heap.size 192 #[.bool false, .int .i64 0, .int .i64 0, .int .i64 0, .int .i64 0, .func (.func 223) #[] #[]] (0, 0) _ rfl ((Below.heap_alloc _ _ _ (by simp)).trans (heap_alloc_new _ _)) Tryz.underlying192 rfl (by kernel_rfl)) rfl ?_
 exact ⟨HB.out, _, x6h _ (by decide), rfl⟩
theorem x9z (w : World) : Calls Tryz.prog 199 #[.int .i64 3] w fun e w' => Below w.heap.size w w' /\ z3d 3 e (q2f 3) := by
 have HB := q0h (q0d (q0d (Below.refl w.heap.size w) (.cells #[.bool false, .int .i64 0, .int .i64 0, .int .i64 0, .int .i64 0, .func (.func 224) #[] #[]] 192)) (.cells #[.bool false, .int .i64 0, .int .i64 0, .int .i64 0, .int .i64 0, .func (.func 224) #[] #[]] 192))
 go_enter Tryz.func199, Tryz.ntmps199
 go_wp2_with fail
 refine bodyPost_ret (q3d rfl _ _ w.heap.size 192 #[.bool false, .int .i64 0, .int .i64 0, .int .i64 0, .int .i64 0, .func (.func 224) #[] #[]] (0, 0) _ rfl ((Below.heap_alloc _ _ _ (by simp)).trans (heap_alloc_new _ _)) Tryz.underlying192 rfl (by kernel_rfl)) rfl ?_
 exact ⟨HB.out, _, x9w, rfl⟩
theorem j0a (w : World) : Calls Tryz.prog 199 #[.int .i64 4] w fun e w' => Below w.heap.size w w' /\ z3d 4 e (q2f 4) := by
 have HB := q0h (q0d (q0d (Below.refl w.heap.size w) (.cells #[.bool false, .int .i64 0, .int .i64 0, .int .i64 0, .int .i64 0, .func (.func 222) #[] #[]] 192)) (.cells #[.bool false, .int .i64 0, .int .i64 0, .int .i64 0, .int .i64 0, .func (.func 222) #[] #[]] 192))
 go_enter Tryz.func199, Tryz.ntmps199
 go_wp2_with fail
 refine bodyPost_ret (q3d rfl _ _ w.heap.size 192 #[.bool false, .int .i64 0, .int .i64 0, .int .i64 0, .int .i64 0, .func (.func 222) #[] #[]] (0, 0) _ rfl ((Below.heap_alloc _ _ _ (by simp)).trans (heap_alloc_new _ _)) Tryz.underlying192 rfl (by kernel_rfl)) rfl ?_
 exact ⟨HB.out, _, q8h _ (by decide), rfl⟩
theorem j0b (w : World) : Calls Tryz.prog 199 #[.int .i64 5] w fun e w' => Below w.heap.size w w' /\ z3d 5 e (q2f 5) := by
 have HB := q0h (q0d (q0d (Below.refl w.heap.size w) (.cells #[.bool true, .int .i64 0, .int .i64 0, .int .i64 0, .int .i64 0, .func (.func 222) #[] #[]] 192)) (.cells #[.bool true, .int .i64 0, .int .i64 0, .int .i64 0, .int .i64 0, .func (.func 222) #[] #[]] 192))
 go_enter Tryz.func199, Tryz.ntmps199
 go_wp2_with fail
 refine bodyPost_ret (q3d rfl _ _ w.heap.size 192 #[.bool true, .int .i64 0, .int .i64 0, .int .i64 0, .int .i64 0, .func (.func 222) #[] #[]] (0, 0) _ rfl ((Below.heap_alloc _ _ _ (by simp)).trans (heap_alloc_new _ _)) Tryz.underlying192 rfl (by kernel_rfl)) rfl ?_
 exact ⟨HB.out, _, q8h _ (by decide), rfl⟩
theorem j0c (w : World) : Calls Tryz.prog 199 #[.int .i64 6] w fun e w' => Below w.heap.size w w' /\ z3d 6 e (q2f 6) := by
 have HB := q0h (q0d (q0d (Below.refl w.heap.size w) (.cells #[.bool true, .int .i64 0, .int .i64 0, .int .i64 1, .int .i64 1, .func (.func 222) #[] #[]] 192)) (.cells #[.bool true, .int .i64 0, .int .i64 0, .int .i64 1, .int .i64 1, .func (.func 222) #[] #[]] 192))
 go_enter Tryz.func199, Tryz.ntmps199
 go_wp2_with fail
 refine bodyPost_ret (q3d rfl _ _ w.heap.size 192 #[.bool true, .int .i64 0, .int .i64 0, .int .i64 1, .int .i64 1, .func (.func 222) #[] #[]] (0, 0) _ rfl ((Below.heap_alloc _ _ _ (by simp)).trans (heap_alloc_new _ _)) Tryz.underlying192 rfl (by kernel_rfl)) rfl ?_
 exact ⟨HB.out, _, q8h _ (by decide), rfl⟩
theorem j0d (w : World) : Calls Tryz.prog 199 #[.int .i64 7] w fun e w' => Below w.heap.size w w' /\ z3d 7 e (q2f 7) := by
 have HB := q0h (q0d (q0d (Below.refl w.heap.size w) (.cells #[.bool true, .int .i64 0, .int .i64 0, .int .i64 0, .int .i64 16384, .func (.func 222) #[] #[]] 192)) (.cells #[.bool true, .int .i64 0, .int .i64 0, .int .i64 0, .int .i64 16384, .func (.func 222) #[] #[]] 192))
 go_enter Tryz.func199, Tryz.ntmps199
 go_wp2_with fail
 refine bodyPost_ret (q3d rfl _ _ w.heap.size 192 #[.bool true, .int .i64 0, .int .i64 0, .int .i64 0, .int .i64 16384, .func (.func 222) #[] #[]] (0, 0) _ rfl ((Below.heap_alloc _ _ _ (by simp)).trans (heap_alloc_new _ _)) Tryz.underlying192 rfl (by kernel_rfl)) rfl ?_
 exact ⟨HB.out, _, q8h _ (by decide), rfl⟩
theorem j0e (w : World) : Calls Tryz.prog 199 #[.int .i64 8] w fun e w' => Below w.heap.size w w' /\ z3d 8 e (q2f 8) := by
 have HB := q0h (q0d (q0d (Below.refl w.heap.size w) (.cells #[.bool false, .int .i64 14, .int .i64 15, .int .i64 1, .int .i64 1, .func (.func 222) #[] #[]] 192)) (.cells #[.bool false, .int .i64 14, .int .i64 15, .int .i64 1, .int .i64 1, .func (.func 222) #[] #[]] 192))
 go_enter Tryz.func199, Tryz.ntmps199
 go_wp2_with fail
 refine bodyPost_ret (q3d rfl _ _ w.heap.size 192 #[.bool false, .int .i64 14, .int .i64 15, .int .i64 1, .int .i64 1, .func (.func 222) #[] #[]] (0, 0) _ rfl ((Below.heap_alloc _ _ _ (by simp)).trans (heap_alloc_new _ _)) Tryz.underlying192 rfl (by kernel_rfl)) rfl ?_
 exact ⟨HB.out, _, q8h _ (by decide), rfl⟩
theorem j0f (w : World) : Calls Tryz.prog 199 #[.int .i64 9] w fun e w' => Below w.heap.size w w' /\ z3d 9 e (q2f 9) := by
 have HB := q0h (q0d (q0d (Below.refl w.heap.size w) (.cells #[.bool false, .int .i64 1, .int .i64 13, .int .i64 2, .int .i64 2, .func (.func 222) #[] #[]] 192)) (.cells #[.bool false, .int .i64 1, .int .i64 13, .int .i64 2, .int .i64 2, .func (.func 222) #[] #[]] 192))
 go_enter Tryz.func199, Tryz.ntmps199
 go_wp2_with fail
 refine bodyPost_ret (q3d rfl _ _ w.heap.size 192 #[.bool false, .int .i64 1, .int .i64 13, .int .i64 2, .int .i64 2, .func (.func 222) #[] #[]] (0, 0) _ rfl ((Below.heap_alloc _ _ _ (by simp)).trans (heap_alloc_new _ _)) Tryz.underlying192 rfl (by kernel_rfl)) rfl ?_
 exact ⟨HB.out, _, q8h _ (by decide), rfl⟩
theorem z9p (k : Int) (hk : k ≠ 1 /\ k ≠ 2 /\ k ≠ 3 /\ k ≠ 4 /\ k ≠ 5 /\ k ≠ 6 /\ k ≠ 7 /\ k ≠ 8 /\ k ≠ 9) (w : World) : Calls Tryz.prog 199 #[.int .i64 k] w fun e w' => Below w.heap.size w w' /\ z3d k e none := by
 have HB := q0h (q0d (q0d (Below.refl w.heap.size w) (.cells #[.bool false, .int .i64 0, .int .i64 0, .int .i64 0, .int .i64 0, .nilFunc] 192)) (.cells #[.bool false, .int .i64 0, .int .i64 0, .int .i64 0, .int .i64 0, .func (.func 222) #[] #[]] 192))
 obtain ⟨k1, k2, k3, k4, k5, k6, k7, k8, k9⟩ := hk
 have y1 : (k == 1) = false := by simpa using k1
 have y2 : (k == 2) = false := by simpa using k2
 have y3 : (k == 3) = false := by simpa using k3
 have y4 : (k == 4) = false := by simpa using k4
 have y5 : (k == 5) = false := by simpa using k5
 have y6 : (k == 6) = false := by simpa using k6
 have y7 : (k == 7) = false := by simpa using k7
 have y8 : (k == 8) = false := by simpa using k8
 have y9 : (k == 9) = false := by simpa using k9
 go_enter Tryz.func199, Tryz.ntmps199
 go_wp2_with fail
 refine bodyPost_ret (q3d rfl _ _ w.heap.size 192 #[.bool false, .int .i64 0, .int .i64 0, .int .i64 0, .int .i64 0, .nilFunc] (0, 0) _ rfl ((Below.heap_alloc _ _ _ (by simp)).trans (heap_alloc_new _ _)) Tryz.underlying192 rfl (by kernel_rfl)) rfl ?_
 exact ⟨HB.out, rfl⟩
theorem x3f (k : Int) (w : World) : Calls Tryz.prog 199 #[.int .i64 k] w fun e w' => Below w.heap.size w w' /\ z3d k e (q2f k) := by
 by_cases h1 : k = 1
 ·subst h1; exact x9x w
 by_cases h2 : k = 2
 ·subst h2; exact x9y w
 by_cases h3 : k = 3
 ·subst h3; exact x9z w
 by_cases h4 : k = 4
 ·subst h4; exact j0a w
 by_cases h5 : k = 5
 ·subst h5; exact j0b w
 by_cases h6 : k = 6
 ·subst h6; exact j0c w
 by_cases h7 : k = 7
 ·subst h7; exact j0d w
 by_cases h8 : k = 8
 ·subst h8; exact j0e w
 by_cases h9 : k = 9
 ·subst h9; exact j0f w
 have e : q2f k = none := by
  unfold q2f
  rw [if_neg (by omega), if_neg h5, if_neg h6, if_neg h7, if_neg h8, if_neg h9]
 rw [e]
 exact z9p k ⟨h1, h2, h3, h4, h5, h6, h7, h8, h9⟩ w
mutual
def smE : Ex -> Prop
 | .mk _ _ n s l _ _ _ => s.size <= 1000000000 /\ n <= 9223372036854775807 /\ j5s l
def j5s : List Ex -> Prop
 | [] => True
 | e :: l => smE e /\ j5s l
end
theorem z0a : ∀ {l : List Ex}, j5s l -> ∀ x ∈ l, smE x
 | e :: l, h, x, hx => by
  rcases List.mem_cons.1 hx with rfl | hx
  ·exact h.1
  ·exact z0a h.2 x hx
theorem x1e {s : ByteArray} (h : s.size = 0) : s = ⟨#[]⟩ := by
 obtain ⟨⟨l⟩⟩ := s
 have h2 : l.length = 0 := h
 rw [List.length_eq_zero_iff.1 h2]
theorem x3g {k : Int} {nm : Bool} {lo hi le mo : Int} (h : q2f k = some (nm, lo, hi, le, mo)) : mo <= 16384 := by
 unfold q2f at h
 repeat' split at h
 all_goals first | (cases h; done) | (injection h with h; injection h with _ h; injection h with _ h; injection h with _ h; injection h with _ h; omega)
theorem q5g {α : Type} (p : α -> Bool) (l : List α) : (!l.any (fun x => !p x)) = l.all p := by
 induction l with
 | nil => rfl
 | cons a l ih => rw [List.any_cons, List.all_cons, <- ih]; cases p a <;> simp
def z9q (e : Ex) : Prop := ∀ (cs : List Value) (w : World), kEx.K w e cs -> Calls Tryz.prog 161 #[.agg cs.toArray] w fun e' w' => e' = .returned (.bool (q0x e)) /\ Below w.heap.size w w'
theorem z7m : q1k 200 := fun args w => by kernel_rfl
theorem z0b : q1k 160 := fun args w => by kernel_rfl
theorem z7n (x : Ex) (ih : z9q x) (cs : List Value) (w : World) (h : kEx.K w x cs) : q3r 200 #[] (.agg cs.toArray) w (!q0x x) := by
 have HC := q0h (ih cs (w.alloc (.cells cs.toArray 86)) (kEx.K_below (q0d (Below.refl _ _) _) h))
 have HB := q0h (q0d (Below.refl w.heap.size w) (.cells cs.toArray 86))
 obtain ⟨k, o, n, s, A, l, c, a, t, p, rfl⟩ := z5f h
 clear h ih
 unfold q3r
 go_enter Tryz.func200, Tryz.ntmps200
 go_wp2_with fail
 refine HC.out.mono ?_
 rintro e w1 ⟨rfl, hb⟩
 have HB1 := q0h (q0e HB.out hb)
 clear hb
 go_wp2_with fail
 go_ret
 exact ⟨rfl, HB1.out⟩
theorem z0c (x : Ex) (ih : z9q x) (cs : List Value) (w : World) (h : kEx.K w x cs) : q3r 160 #[] (.agg cs.toArray) w (!q0x x) := by
 have HC := q0h (ih cs (w.alloc (.cells cs.toArray 86)) (kEx.K_below (q0d (Below.refl _ _) _) h))
 have HB := q0h (q0d (Below.refl w.heap.size w) (.cells cs.toArray 86))
 obtain ⟨k, o, n, s, A, l, c, a, t, p, rfl⟩ := z5f h
 clear h ih
 unfold q3r
 go_enter Tryz.func160, Tryz.ntmps160
 go_wp2_with fail
 refine HC.out.mono ?_
 rintro e w1 ⟨rfl, hb⟩
 have HB1 := q0h (q0e HB.out hb)
 clear hb
 go_wp2_with fail
 go_ret
 exact ⟨rfl, HB1.out⟩
theorem q2g {w w1 : World} (h : Below w.heap.size w w1) (o : Obj) : Below w.heap.size w (w1.alloc o) := q0e h (q0d (Below.refl _ _) o)
theorem x6i (k o n : Int) (s : ByteArray) (l : List Ex) (a t p : Int) (hs : s.size <= 1000000000) (ih : ∀ x ∈ l, z9q x) : z9q (.mk k o n s l a t p) := by
 intro cs w h
 obtain ⟨A, c, rfl, hlc, hC⟩ := q2x h
 have HC := q0h hC
 have HI := q0h ih
 have HS := q0h (fun w => x3f k w)
 obtain ⟨r, hr⟩ : ∃ r, r = q0x (.mk k o n s l a t p) := ⟨_, rfl⟩
 rw [<- hr]
 rw [q9w] at hr
 unfold q5e at hr
 have HR := q0h hr
 obtain ⟨W, hW⟩ : ∃ W, W = w.alloc (.cells #[.int .i64 k, .int .i64 o, .int .i64 n, .string s, .slice A l.length c, .int .i64 a, .int .i64 t, .int .i64 p] 86) := ⟨_, rfl⟩
 obtain ⟨b, hb⟩ : ∃ b, b = w.heap.size := ⟨_, rfl⟩
 have HM := q0h (show W.heap[b]? = some (.cells #[.int .i64 k, .int .i64 o, .int .i64 n, .string s, .slice A l.length c, .int .i64 a, .int .i64 t, .int .i64 p] 86 (0, 0)) by rw [hW, hb]; exact heap_alloc_new _ _)
 have HBW := q0h (show Below w.heap.size w W by rw [hW]; exact q0d (Below.refl _ _) _)
 have HW := q0h hW
 have HBB := q0h hb
 clear hr hC ih hW hb h
 go_enter Tryz.func161, Tryz.ntmps161
 go_wp2_with fail
 rw [<- HW.out, <- HBB.out]
 refine (HS.out _).mono ?_
 rintro e w1 ⟨hb1, ha⟩
 have HB1 := q0h (q0e HBW.out hb1)
 have hm1 := (hb1.block b (q0c HM.out)).trans HM.out
 have HM1 := q0h hm1
 have lb := q0c hm1
 have c0 : w1.cell? ⟨b, 0, none⟩ = some (.int .i64 k) := (q0a hm1 0).trans rfl
 have c1 : w1.cell? ⟨b, 1, none⟩ = some (.int .i64 o) := (q0a hm1 1).trans rfl
 have c2 : w1.cell? ⟨b, 2, none⟩ = some (.int .i64 n) := (q0a hm1 2).trans rfl
 have c3 : w1.cell? ⟨b, 3, none⟩ = some (.string s) := (q0a hm1 3).trans rfl
 have c4 : w1.cell? ⟨b, 4, none⟩ = some (.slice A l.length c) := (q0a hm1 4).trans rfl
 clear hb1 hm1 HS
 cases hsh : q2f k with
 | none =>
  rw [hsh] at ha
  obtain rfl := ha
  have HRR := q0h (show r = false by have h := HR.out; rw [hsh] at h; exact h)
  clear hsh
  go_wp2_with fail
  go_ret
  exact ⟨q0g HRR.out.symm, q2g HB1.out _⟩
 | some q =>
  obtain ⟨nm, lo, hi, le, mo⟩ := q
  rw [hsh] at ha
  obtain ⟨K, ⟨hE, hN⟩, rfl⟩ := ha
  have hmo := x3g hsh
  have HRR := q0h (show r = ((decide (lo <= o) && decide (o <= hi) && decide (le <= (l.length : Int)) && decide ((l.length : Int) <= mo) && z7i k n && (if nm then q1p s else decide (s.size = 0))) && l.all q0x) by have h := HR.out; rw [hsh] at h; exact h)
  have HN := q0h hN
  unfold q1k at hE
  clear hsh HR hN
  by_cases x0 : o < lo
  ·have HRX := q0h (show r = false by rw [HRR.out]; have e : decide (lo <= o) = false := decide_eq_false (by omega); rw [e]; rfl)
   clear HRR
   go_wp2_with fail
   go_ret
   exact ⟨q0g HRX.out.symm, q2g HB1.out _⟩
  by_cases x1 : hi < o
  ·have HRX := q0h (show r = false by rw [HRR.out]; have e : decide (o <= hi) = false := decide_eq_false (by omega); rw [e]; simp)
   clear HRR
   go_wp2_with fail
   go_ret
   exact ⟨q0g HRX.out.symm, q2g HB1.out _⟩
  by_cases x2 : (l.length : Int) < le
  ·have HRX := q0h (show r = false by rw [HRR.out]; have e : decide (le <= (l.length : Int)) = false := decide_eq_false (by omega); rw [e]; simp)
   clear HRR
   go_wp2_with fail
   go_ret
   exact ⟨q0g HRX.out.symm, q2g HB1.out _⟩
  by_cases x3 : mo < (l.length : Int)
  ·have HRX := q0h (show r = false by rw [HRR.out]; have e : decide ((l.length : Int) <= mo) = false := decide_eq_false (by omega); rw [e]; simp)
   clear HRR
   go_wp2_with fail
   go_ret
   exact ⟨q0g HRX.out.symm, q2g HB1.out _⟩
  have HRY := q0h (show r = (z7i k n && (if nm then q1p s else decide (s.size = 0)) && l.all q0x) by
   rw [HRR.out, decide_eq_true (show lo <= o by omega), decide_eq_true (show o <= hi by omega), decide_eq_true (show le <= (l.length : Int) by omega), decide_eq_true (show (l.length : Int) <= mo by omega)]; rfl)
  clear HRR
  go_wp2_with fail
  refine (HN.out n _).mono ?_
  rintro e w2 ⟨rfl, rfl⟩
  cases hnb : z7i k n with
  | false =>
   have HRX := q0h (show r = false by rw [HRY.out, hnb]; rfl)
   go_wp2_with fail
   go_ret
   exact ⟨q0g HRX.out.symm, q2g HB1.out _⟩
  | true =>
   have HRZ := q0h (show r = ((if nm then q1p s else decide (s.size = 0)) && l.all q0x) by rw [HRY.out, hnb]; rfl)
   clear hnb HRY
   obtain ⟨W2, hW2⟩ : ∃ W2, W2 = w1.alloc (.cells #[.bool nm, .int .i64 lo, .int .i64 hi, .int .i64 le, .int .i64 mo, .func (.func K) #[] #[]] 192) := ⟨_, rfl⟩
   obtain ⟨b2, hb2⟩ : ∃ b2, b2 = w1.heap.size := ⟨_, rfl⟩
   have HM2 := q0h (show W2.heap[b2]? = some (.cells #[.bool nm, .int .i64 lo, .int .i64 hi, .int .i64 le, .int .i64 mo, .func (.func K) #[] #[]] 192 (0, 0)) by rw [hW2, hb2]; exact heap_alloc_new _ _)
   have hbw2 : Below w1.heap.size w1 W2 := by rw [hW2]; exact q0d (Below.refl _ _) _
   have HB2 := q0h (q0e HB1.out hbw2)
   have hmb := (hbw2.block b lb).trans HM1.out
   have HMB := q0h hmb
   rw [<- hW2, <- hb2]
   clear c0 c1 c2 c3 c4 hW2 hb2 hbw2
   have c3 : W2.cell? ⟨b, 3, none⟩ = some (.string s) := (q0a hmb 3).trans rfl
   have c4 : W2.cell? ⟨b, 4, none⟩ = some (.slice A l.length c) := (q0a hmb 4).trans rfl
   have d0 : W2.cell? ⟨b2, 0, none⟩ = some (.bool nm) := (q0a HM2.out 0).trans rfl
   have lb2 := q0c hmb
   have lb3 := q0c HM2.out
   clear hmb
   cases nm with
   | true =>
    go_wp2_with fail
    refine (q9j s W2 (by omega)).mono ?_
    rintro e w3 ⟨rfl, hb3⟩
    have HB3 := q0h (q0e HB2.out hb3)
    have hm3 := (hb3.block b (q0c HMB.out)).trans HMB.out
    have hm4 := (hb3.block b2 (q0c HM2.out)).trans HM2.out
    clear c3 c4 d0 lb2 lb3 hb3
    have c4 : w3.cell? ⟨b, 4, none⟩ = some (.slice A l.length c) := (q0a hm3 4).trans rfl
    have d0 : w3.cell? ⟨b2, 0, none⟩ = some (.bool true) := (q0a hm4 0).trans rfl
    have lb2 := q0c hm3
    have lb3 := q0c hm4
    clear hm3 hm4
    cases hnb : q1p s with
    | false =>
     have HRX := q0h (show r = false by rw [HRZ.out, hnb]; simp)
     go_wp2_with fail
     go_ret
     exact ⟨q0g HRX.out.symm, HB3.out⟩
    | true =>
     have HRX := q0h (show r = l.all q0x by rw [HRZ.out, hnb]; simp)
     clear hnb HRZ
     go_wp2_with fail
     refine (q4s 200 (fun x => !q0x x) A c l w3 z7m (fun x cs w' hx _ hK => z7n x (HI.out x hx) cs w' hK) (Kd.C_below HC.out HB3.out) (by omega)).mono ?_
     rintro e w4 ⟨rfl, hb4⟩
     have HB4 := q0h (q0e HB3.out hb4)
     clear hb4
     go_wp2_with fail
     go_ret
     exact ⟨q0g (by rw [HRX.out]; exact q5g q0x l), HB4.out⟩
   | false =>
    by_cases hz : s.size = 0
    ·have HRX := q0h (show r = l.all q0x by rw [HRZ.out, decide_eq_true hz]; simp)
     obtain rfl := x1e hz
     clear HRZ
     go_wp2_with fail
     refine (q4s 200 (fun x => !q0x x) A c l W2 z7m (fun x cs w' hx _ hK => z7n x (HI.out x hx) cs w' hK) (Kd.C_below HC.out HB2.out) (by omega)).mono ?_
     rintro e w4 ⟨rfl, hb4⟩
     have HB4 := q0h (q0e HB2.out hb4)
     clear hb4
     go_wp2_with fail
     go_ret
     exact ⟨q0g (by rw [HRX.out]; exact q5g q0x l), HB4.out⟩
    ·have HRX := q0h (show r = false by rw [HRZ.out, decide_eq_false hz]; simp)
     have hne := q8q s (by omega)
     have hne1 := hne.1
     have hne2 := hne.2
     clear HRZ hne
     go_wp2_with fail
     go_ret
     exact ⟨q0g HRX.out.symm, HB2.out⟩
theorem j0g : ∀ (n : Nat) (e : Ex), SizeOf.sizeOf e <= n -> smE e -> z9q e := by
 intro n
 induction n with
 | zero => intro e h; cases e; simp at h
 | succ n ih =>
  intro e h hs
  obtain ⟨k, o, m, s, l, a, t, p⟩ := e
  refine x6i k o m s l a t p hs.1 (fun x hx => ih x ?_ (z0a hs.2.2 x hx))
  have h1 := List.sizeOf_lt_of_mem hx
  simp only [Ex.mk.sizeOf_spec] at h
  omega
theorem x6j {e : Ex} (h : smE e) : z9q e := j0g _ e (Nat.le_refl _) h
mutual
def smS : St -> Prop
 | .mk _ s _ l b e _ _ => s.size <= 1000000000 /\ j5s l /\ j4e b /\ j4e e
def j4e : List St -> Prop
 | [] => True
 | s :: l => smS s /\ j4e l
end
theorem q6e : ∀ {l : List St}, j4e l -> ∀ x ∈ l, smS x
 | e :: l, h, x, hx => by
  rcases List.mem_cons.1 hx with rfl | hx
  ·exact h.1
  ·exact q6e h.2 x hx
def z9r (s : St) : Prop := ∀ (cs : List Value) (w : World), kSt.K w s cs -> Calls Tryz.prog 123 #[.agg cs.toArray] w fun e' w' => e' = .returned (.bool (q4n s)) /\ Below w.heap.size w w'
theorem x3h : q1k 122 := fun args w => by kernel_rfl
theorem j8b (x : St) (ih : z9r x) (cs : List Value) (w : World) (h : kSt.K w x cs) : q3r 122 #[] (.agg cs.toArray) w (!q4n x) := by
 have HC := q0h (ih cs (w.alloc (.cells cs.toArray 67)) (kSt.K_below (q0d (Below.refl _ _) _) h))
 have HB := q0h (q0d (Below.refl w.heap.size w) (.cells cs.toArray 67))
 obtain ⟨k, s, t, A, n, c, A1, n1, c1, A2, n2, c2, a, p, rfl⟩ := x6a h
 clear h ih
 unfold q3r
 go_enter Tryz.func122, Tryz.ntmps122
 go_wp2_with fail
 refine HC.out.mono ?_
 rintro e w1 ⟨rfl, hb⟩
 have HB1 := q0h (q0e HB.out hb)
 clear hb
 go_wp2_with fail
 go_ret
 exact ⟨rfl, HB1.out⟩
theorem z3y {k : Int} {ne nb nl : Nat} {ek : Int} {nm ty : Bool} {le mo : Int} {bare : Bool} (h : q1u k ne nb nl ek = some (nm, ty, le, mo, bare)) : mo <= 2 := by
 unfold q1u at h
 repeat' split at h
 all_goals first | (cases h; done) | (injection h with h; injection h with _ h; injection h with _ h; injection h with _ h; injection h with h _; omega)
theorem j9g (n : Nat) : (((n : Nat) : Int) == 0) = (n == 0) := by rw [Bool.eq_iff_iff, beq_iff_eq, beq_iff_eq]; omega
theorem q3x (l : List St) (ih : ∀ x ∈ l, z9r x) (A : Option Addr) (c : Nat) (w : World) (hC : kSt.C w A l.length l) : Calls Tryz.prog 80 #[.slice A l.length c] w fun e' w' => e' = .returned (.bool (q0t l)) /\ Below w.heap.size w w' := by
 have HI := q0h ih
 have HC := q0h hC
 clear ih hC
 by_cases h : l.length <= 400
 ·have HR := q0h (show q0t l = l.all q4n by unfold q0t; rw [q3k, decide_eq_true h]; rfl)
  go_enter Tryz.func80, Tryz.ntmps80
  go_wp2_with fail
  refine (z9h 122 (fun x => !q4n x) A c l w x3h (fun x cs w' hx _ hK => j8b x (HI.out x hx) cs w' hK) HC.out (by omega)).mono ?_
  rintro e w1 ⟨rfl, hb⟩
  have HB := q0h hb
  clear hb
  go_wp2_with fail
  go_ret
  exact ⟨q0g (by rw [HR.out]; exact q5g q4n l), HB.out⟩
 ·have HR := q0h (show q0t l = false by unfold q0t; rw [decide_eq_false h]; rfl)
  go_enter Tryz.func80, Tryz.ntmps80
  go_wp2_with fail
  go_ret
  exact ⟨q0g HR.out.symm, Below.refl _ _⟩
theorem x6k (k : Int) (s : ByteArray) (t : Int) (l : List Ex) (b e : List St) (a p : Int) (hs : s.size <= 1000000000) (ihl : ∀ x ∈ l, z9q x) (ihb : ∀ x ∈ b, z9r x) (ihe : ∀ x ∈ e, z9r x) : z9r (.mk k s t l b e a p) := by
 intro cs w h
 obtain ⟨A, c, A1, c1, A2, c2, rfl, hC, hC1, hC2⟩ := q3y h
 obtain ⟨r, hr⟩ : ∃ r, r = q4n (.mk k s t l b e a p) := ⟨_, rfl⟩
 rw [<- hr]
 rw [q9x] at hr
 unfold q4h at hr
 obtain ⟨ek, hek⟩ : ∃ x, x = (l.head?.map Ex.kind |>.getD 0) := ⟨_, rfl⟩
 rw [<- hek] at hr
 have HR := q0h hr
 have HEK := q0h hek
 have HIL := q0h ihl
 have HIB := q0h ihb
 have HIE := q0h ihe
 obtain ⟨W, hW⟩ : ∃ W, W = w.alloc (.cells #[.int .i64 k, .string s, .int .i64 t, .slice A l.length c, .slice A1 b.length c1, .slice A2 e.length c2, .int .i64 a, .int .i64 p] 67) := ⟨_, rfl⟩
 obtain ⟨bk, hb⟩ : ∃ b, b = w.heap.size := ⟨_, rfl⟩
 have hm : W.heap[bk]? = some (.cells #[.int .i64 k, .string s, .int .i64 t, .slice A l.length c, .slice A1 b.length c1, .slice A2 e.length c2, .int .i64 a, .int .i64 p] 67 (0, 0)) := by rw [hW, hb]; exact heap_alloc_new _ _
 have hbw : Below w.heap.size w W := by rw [hW]; exact q0d (Below.refl _ _) _
 have HM := q0h hm
 have HC := q0h (Kd.C_below hC hbw)
 have HC1 := q0h (Kd.C_below hC1 hbw)
 have HC2 := q0h (Kd.C_below hC2 hbw)
 have HBW := q0h hbw
 have HW := q0h hW
 have HBK := q0h hb
 have lb := q0c hm
 have v0 : W.cell? ⟨bk, 0, none⟩ = some (.int .i64 k) := (q0a hm 0).trans rfl
 have v1 : W.cell? ⟨bk, 1, none⟩ = some (.string s) := (q0a hm 1).trans rfl
 have v2 : W.cell? ⟨bk, 2, none⟩ = some (.int .i64 t) := (q0a hm 2).trans rfl
 have v3 : W.cell? ⟨bk, 3, none⟩ = some (.slice A l.length c) := (q0a hm 3).trans rfl
 have v4 : W.cell? ⟨bk, 4, none⟩ = some (.slice A1 b.length c1) := (q0a hm 4).trans rfl
 have v5 : W.cell? ⟨bk, 5, none⟩ = some (.slice A2 e.length c2) := (q0a hm 5).trans rfl
 clear hr hC hC1 hC2 ihl ihb ihe hW hb h hbw hm hek
 go_enter Tryz.func123, Tryz.ntmps123
 go_upto_region 1 with fail
 rw [<- HW.out, <- HBK.out]
 go_cut [3] (fun v3 wc => v3 = .bool (b.length == 0 && e.length == 0) /\ W = wc)
 case first =>
  by_cases hb0 : b.length = 0
  ·by_cases he0 : e.length = 0
   ·go_wp2_with fail
    go_meet
    case rel => exact ⟨by rw [hb0, he0]; rfl, rfl⟩
   ·go_wp2_with fail
    go_meet
    case rel => exact ⟨by rw [hb0]; simp [he0, j9g], rfl⟩
  ·go_wp2_with fail
   go_meet
   case rel => exact ⟨by simp [hb0], rfl⟩
 case rest =>
  obtain ⟨hv3, hwc⟩ := hcut
  subst hv3 hwc
  go_upto_region 3 with fail
  go_cut [3, 4, 5, 6, 7, 20] (fun v3 v4 v5 v6 v7 v20 wc => v3 = .bool (b.length == 0 && e.length == 0) /\ v4 = .bool false /\ v5 = .bool false /\ v6 = .int .i64 1 /\ v7 = .int .i64 1 /\ v20 = .int .i64 k /\ W = wc)
  case first =>
   go_wp2_with fail
   go_meet
   case rel => exact ⟨rfl, rfl, rfl, rfl, rfl, rfl, rfl⟩
  case rest =>
  obtain ⟨hv3, hv4, hv5, hv6, hv7, hv20, hwc⟩ := hcut
  subst hv3 hv4 hv5 hv6 hv7 hv20 hwc
  rename_i K hK
  refine hK _ _ ?_
  clear hK K
  go_cut [3, 4, 5, 6, 7] (fun v3 v4 v5 v6 v7 wc => ∃ (nm ty : Bool) (le mo : Int) (bare : Bool), v3 = .bool bare /\ v4 = .bool nm /\ v5 = .bool ty /\ v6 = .int .i64 le /\ v7 = .int .i64 mo /\ Hid (q1u k l.length b.length e.length ek = some (nm, ty, le, mo, bare)) /\ W = wc)
  case first =>
   by_cases h1 : k = 1
   ·subst h1
    go_wp2_with fail
    go_meet
    case rel => exact ⟨true, true, 1, 1, _, rfl, rfl, rfl, rfl, rfl, rfl, rfl⟩
   by_cases h2 : k = 2
   ·subst h2
    go_wp2_with fail
    go_meet
    case rel => exact ⟨true, false, 1, 1, _, rfl, rfl, rfl, rfl, rfl, rfl, rfl⟩
   by_cases h3 : k = 3
   ·subst h3
    go_wp2_with fail
    go_meet
    case rel => exact ⟨true, false, 2, 2, _, rfl, rfl, rfl, rfl, rfl, rfl, rfl⟩
   by_cases h4 : k = 4
   ·subst h4
    go_wp2_with fail
    go_meet
    case rel => exact ⟨false, false, 1, 1, true, rfl, rfl, rfl, rfl, rfl, rfl, rfl⟩
   by_cases h5 : k = 5
   ·subst h5
    go_wp2_with fail
    go_meet
    case rel => exact ⟨false, false, 1, 1, e.length == 0, by first | rfl | rw [j9g], rfl, rfl, rfl, rfl, rfl, rfl⟩
   by_cases h6 : k = 6
   ·subst h6
    go_wp2_with fail
    go_meet
    case rel => exact ⟨false, false, 0, 1, _, rfl, rfl, rfl, rfl, rfl, rfl, rfl⟩
   by_cases h7 : k = 7
   ·subst h7
    obtain ⟨br, hbr⟩ : ∃ x, x = (b.length == 0 && e.length == 0) := ⟨_, rfl⟩
    have HBR := q0h hbr
    rw [<- hbr]
    clear hbr
    cases br with
    | false =>
     go_wp2_with fail
     go_meet
     case rel => exact ⟨false, false, 1, 1, false, rfl, rfl, rfl, rfl, rfl, by unfold q1u; show some (false, false, (1 : Int), (1 : Int), b.length == 0 && e.length == 0 && _ && _) = _; rw [<- HBR.out]; rfl, rfl⟩
    | true =>
     by_cases hl1 : l.length = 1
     ·obtain ⟨ad, q0, q1, q2, q3, q4, q5, q6, q7, q8, q9, rfl, HK, z0, z1, z2, z3, z4, z5, z6, z7⟩ := q6y HC.out 0 (by omega)
      have hk0 : q0 = ek := by
       rw [HEK.out]
       match l, hl1 with
       | [x], _ =>
        obtain ⟨k', o', n', s', l', a', t', p'⟩ := x
        obtain ⟨_, _, h5, _⟩ := q2x HK.out
        cases h5
        rfl
      subst hk0
      rw [Nat.zero_mul, q8t] at z0
      clear z1 z2 z3 z4 z5 z6 z7
      have y : ((l.length : Int) == 1) = true := by rw [beq_iff_eq]; omega
      go_wp2_with fail
      go_meet
      case rel => exact ⟨false, false, 1, 1, q0 == 7, by first | rfl | simp, rfl, rfl, rfl, rfl, by unfold q1u; show some (false, false, (1 : Int), (1 : Int), b.length == 0 && e.length == 0 && (l.length == 1) && (q0 == 7)) = _; rw [<- HBR.out, hl1]; rfl, rfl⟩
     ·have y : ((l.length : Int) == 1) = false := by rw [beq_eq_false_iff_ne]; omega
      go_wp2_with fail
      go_meet
      case rel => exact ⟨false, false, 1, 1, false, by first | rfl | simp, rfl, rfl, rfl, rfl, by unfold q1u; show some (false, false, (1 : Int), (1 : Int), b.length == 0 && e.length == 0 && (l.length == 1) && _) = _; rw [show (l.length == 1) = false by simpa using hl1]; simp, rfl⟩
   ·have HRR := q0h (show r = false by
     have h := HR.out
     have e0 : q1u k l.length b.length e.length ek = none := by
      unfold q1u
      rw [if_neg h1, if_neg h2, if_neg h3, if_neg h4, if_neg h5, if_neg h6, if_neg h7]
     rw [e0] at h
     exact h)
    have y1 : (k == 1) = false := by simpa using h1
    have y2 : (k == 2) = false := by simpa using h2
    have y3 : (k == 3) = false := by simpa using h3
    have y4 : (k == 4) = false := by simpa using h4
    have y5 : (k == 5) = false := by simpa using h5
    have y6 : (k == 6) = false := by simpa using h6
    have y7 : (k == 7) = false := by simpa using h7
    go_wp2_with fail
    first
    | (go_ret; exact ⟨q0g HRR.out.symm, HBW.out⟩)
  case rest =>
   obtain ⟨nm, ty, le, mo, bare, hv3, hv4, hv5, hv6, hv7, HSH, hwc⟩ := hcut
   subst hv3 hv4 hv5 hv6 hv7 hwc
   have hmo := z3y HSH.out
   have HRR := q0h (show r = ((bare && decide (le <= (l.length : Int)) && decide ((l.length : Int) <= mo) && (if nm then q1p s else decide (s.size = 0)) && (if ty then q1c t else decide (t = 0))) && l.all q0x && q0t b && q0t e) by have h := HR.out; rw [HSH.out] at h; exact h)
   clear HR HSH
   cases bare with
   | false =>
    have HRX := q0h (show r = false by rw [HRR.out]; rfl)
    go_wp2_with fail
    go_ret
    exact ⟨q0g HRX.out.symm, HBW.out⟩
   | true =>
    by_cases x1 : (l.length : Int) < le
    ·have HRX := q0h (show r = false by have e : decide (le <= (l.length : Int)) = false := decide_eq_false (by omega); rw [HRR.out, e]; rfl)
     go_wp2_with fail
     go_ret
     exact ⟨q0g HRX.out.symm, HBW.out⟩
    by_cases x2 : mo < (l.length : Int)
    ·have HRX := q0h (show r = false by have e : decide ((l.length : Int) <= mo) = false := decide_eq_false (by omega); rw [HRR.out, e]; simp)
     go_wp2_with fail
     go_ret
     exact ⟨q0g HRX.out.symm, HBW.out⟩
    have HRY := q0h (show r = (((if nm then q1p s else decide (s.size = 0)) && (if ty then q1c t else decide (t = 0))) && l.all q0x && q0t b && q0t e) by
     rw [HRR.out, decide_eq_true (show le <= (l.length : Int) by omega), decide_eq_true (show (l.length : Int) <= mo by omega)]; rfl)
    clear HRR
    cases nm with
    | true =>
     go_wp2_with fail
     refine (q9j s W (by omega)).mono ?_
     rintro e' w3 ⟨rfl, hb3⟩
     have HB3 := q0h (q0e HBW.out hb3)
     have HD3 := q0h hb3
     have HM3 := q0h ((hb3.block bk (q0c HM.out)).trans HM.out)
     clear v0 v1 v2 v3 v4 v5 lb
     have lb := q0c HM3.out
     have v0 : w3.cell? ⟨bk, 0, none⟩ = some (.int .i64 k) := (q0a HM3.out 0).trans rfl
     have v1 : w3.cell? ⟨bk, 1, none⟩ = some (.string s) := (q0a HM3.out 1).trans rfl
     have v2 : w3.cell? ⟨bk, 2, none⟩ = some (.int .i64 t) := (q0a HM3.out 2).trans rfl
     have v3 : w3.cell? ⟨bk, 3, none⟩ = some (.slice A l.length c) := (q0a HM3.out 3).trans rfl
     have v4 : w3.cell? ⟨bk, 4, none⟩ = some (.slice A1 b.length c1) := (q0a HM3.out 4).trans rfl
     have v5 : w3.cell? ⟨bk, 5, none⟩ = some (.slice A2 e.length c2) := (q0a HM3.out 5).trans rfl
     clear hb3
     cases hnb : q1p s with
     | false =>
      have HRX := q0h (show r = false by rw [HRY.out, hnb]; rfl)
      go_wp2_with fail
      go_ret
      exact ⟨q0g HRX.out.symm, HB3.out⟩
     | true =>
      have HRN := q0h (show r = ((if ty then q1c t else decide (t = 0)) && l.all q0x && q0t b && q0t e) by rw [HRY.out, hnb]; rfl)
      clear hnb HRY
      cases ty with
      | true =>
       go_wp2_with fail
       refine (q6r t w3).mono ?_
       rintro e' w' ⟨rfl, rfl⟩
       cases hty : q1c t with
       | false =>
        have HRX := q0h (show r = false by rw [HRN.out, hty]; rfl)
        go_wp2_with fail
        go_ret
        exact ⟨q0g HRX.out.symm, HB3.out⟩
       | true =>
        have HRT := q0h (show r = (l.all q0x && q0t b && q0t e) by rw [HRN.out, hty]; rfl)
        clear hty
        go_wp2_with fail
        refine (q4s 160 (fun x => !q0x x) A c l w3 z0b (fun x cs w' hx _ hK => z0c x (HIL.out x hx) cs w' hK) (Kd.C_below HC.out HD3.out) (by omega)).mono ?_
        rintro e' w5 ⟨rfl, hb5⟩
        rw [show l.any (fun x => !q0x x) = !l.all q0x by rw [<- q5g, Bool.not_not]]
        have HB5 := q0h (q0e HB3.out hb5)
        have HD5 := q0h (q0e HD3.out hb5)
        have HM5 := q0h ((hb5.block bk (q0c HM3.out)).trans HM3.out)
        clear v0 v1 v2 v3 v4 v5 lb
        have lb := q0c HM5.out
        have v0 : w5.cell? ⟨bk, 0, none⟩ = some (.int .i64 k) := (q0a HM5.out 0).trans rfl
        have v1 : w5.cell? ⟨bk, 1, none⟩ = some (.string s) := (q0a HM5.out 1).trans rfl
        have v2 : w5.cell? ⟨bk, 2, none⟩ = some (.int .i64 t) := (q0a HM5.out 2).trans rfl
        have v3 : w5.cell? ⟨bk, 3, none⟩ = some (.slice A l.length c) := (q0a HM5.out 3).trans rfl
        have v4 : w5.cell? ⟨bk, 4, none⟩ = some (.slice A1 b.length c1) := (q0a HM5.out 4).trans rfl
        have v5 : w5.cell? ⟨bk, 5, none⟩ = some (.slice A2 e.length c2) := (q0a HM5.out 5).trans rfl
        clear hb5
        cases hal : l.all q0x with
        | false =>
         have HRX := q0h (show r = false by rw [HRT.out, hal]; rfl)
         go_wp2_with fail
         go_ret
         exact ⟨q0g HRX.out.symm, HB5.out⟩
        | true =>
         have HRA := q0h (show r = (q0t b && q0t e) by rw [HRT.out, hal]; rfl)
         clear hal
         go_wp2_with fail
         refine (q3x b HIB.out A1 c1 w5 (Kd.C_below HC1.out HD5.out)).mono ?_
         rintro e' w6 ⟨rfl, hb6⟩
         have HB6 := q0h (q0e HB5.out hb6)
         have HD6 := q0h (q0e HD5.out hb6)
         have HM6 := q0h ((hb6.block bk (q0c HM5.out)).trans HM5.out)
         clear v0 v1 v2 v3 v4 v5 lb
         have lb := q0c HM6.out
         have v0 : w6.cell? ⟨bk, 0, none⟩ = some (.int .i64 k) := (q0a HM6.out 0).trans rfl
         have v1 : w6.cell? ⟨bk, 1, none⟩ = some (.string s) := (q0a HM6.out 1).trans rfl
         have v2 : w6.cell? ⟨bk, 2, none⟩ = some (.int .i64 t) := (q0a HM6.out 2).trans rfl
         have v3 : w6.cell? ⟨bk, 3, none⟩ = some (.slice A l.length c) := (q0a HM6.out 3).trans rfl
         have v4 : w6.cell? ⟨bk, 4, none⟩ = some (.slice A1 b.length c1) := (q0a HM6.out 4).trans rfl
         have v5 : w6.cell? ⟨bk, 5, none⟩ = some (.slice A2 e.length c2) := (q0a HM6.out 5).trans rfl
         clear hb6
         cases hbb : q0t b with
         | false =>
          have HRX := q0h (show r = false by rw [HRA.out, hbb]; rfl)
          go_wp2_with fail
          go_ret
          exact ⟨q0g HRX.out.symm, HB6.out⟩
         | true =>
          have HRB := q0h (show r = q0t e by rw [HRA.out, hbb]; rfl)
          clear hbb
          go_wp2_with fail
          refine (q3x e HIE.out A2 c2 w6 (Kd.C_below HC2.out HD6.out)).mono ?_
          rintro e' w7 ⟨rfl, hb7⟩
          have HB7 := q0h (q0e HB6.out hb7)
          clear hb7
          rw [<- HRB.out]
          clear v0 v1 v2 v3 v4 v5 lb
          cases r
          ·go_wp2_with fail
           go_ret
           exact ⟨rfl, HB7.out⟩
          ·go_wp2_with fail
           go_ret
           exact ⟨rfl, HB7.out⟩
      | false =>
       by_cases ht : t = 0
       ·have HRT := q0h (show r = (l.all q0x && q0t b && q0t e) by rw [HRN.out]; simp [ht])
        have y : (t != 0) = false := by simpa using ht
        clear ht
        go_wp2_with fail
        refine (q4s 160 (fun x => !q0x x) A c l w3 z0b (fun x cs w' hx _ hK => z0c x (HIL.out x hx) cs w' hK) (Kd.C_below HC.out HD3.out) (by omega)).mono ?_
        rintro e' w5 ⟨rfl, hb5⟩
        rw [show l.any (fun x => !q0x x) = !l.all q0x by rw [<- q5g, Bool.not_not]]
        have HB5 := q0h (q0e HB3.out hb5)
        have HD5 := q0h (q0e HD3.out hb5)
        have HM5 := q0h ((hb5.block bk (q0c HM3.out)).trans HM3.out)
        clear v0 v1 v2 v3 v4 v5 lb
        have lb := q0c HM5.out
        have v0 : w5.cell? ⟨bk, 0, none⟩ = some (.int .i64 k) := (q0a HM5.out 0).trans rfl
        have v1 : w5.cell? ⟨bk, 1, none⟩ = some (.string s) := (q0a HM5.out 1).trans rfl
        have v2 : w5.cell? ⟨bk, 2, none⟩ = some (.int .i64 t) := (q0a HM5.out 2).trans rfl
        have v3 : w5.cell? ⟨bk, 3, none⟩ = some (.slice A l.length c) := (q0a HM5.out 3).trans rfl
        have v4 : w5.cell? ⟨bk, 4, none⟩ = some (.slice A1 b.length c1) := (q0a HM5.out 4).trans rfl
        have v5 : w5.cell? ⟨bk, 5, none⟩ = some (.slice A2 e.length c2) := (q0a HM5.out 5).trans rfl
        clear hb5
        cases hal : l.all q0x with
        | false =>
         have HRX := q0h (show r = false by rw [HRT.out, hal]; rfl)
         go_wp2_with fail
         go_ret
         exact ⟨q0g HRX.out.symm, HB5.out⟩
        | true =>
         have HRA := q0h (show r = (q0t b && q0t e) by rw [HRT.out, hal]; rfl)
         clear hal
         go_wp2_with fail
         refine (q3x b HIB.out A1 c1 w5 (Kd.C_below HC1.out HD5.out)).mono ?_
         rintro e' w6 ⟨rfl, hb6⟩
         have HB6 := q0h (q0e HB5.out hb6)
         have HD6 := q0h (q0e HD5.out hb6)
         have HM6 := q0h ((hb6.block bk (q0c HM5.out)).trans HM5.out)
         clear v0 v1 v2 v3 v4 v5 lb
         have lb := q0c HM6.out
         have v0 : w6.cell? ⟨bk, 0, none⟩ = some (.int .i64 k) := (q0a HM6.out 0).trans rfl
         have v1 : w6.cell? ⟨bk, 1, none⟩ = some (.string s) := (q0a HM6.out 1).trans rfl
         have v2 : w6.cell? ⟨bk, 2, none⟩ = some (.int .i64 t) := (q0a HM6.out 2).trans rfl
         have v3 : w6.cell? ⟨bk, 3, none⟩ = some (.slice A l.length c) := (q0a HM6.out 3).trans rfl
         have v4 : w6.cell? ⟨bk, 4, none⟩ = some (.slice A1 b.length c1) := (q0a HM6.out 4).trans rfl
         have v5 : w6.cell? ⟨bk, 5, none⟩ = some (.slice A2 e.length c2) := (q0a HM6.out 5).trans rfl
         clear hb6
         cases hbb : q0t b with
         | false =>
          have HRX := q0h (show r = false by rw [HRA.out, hbb]; rfl)
          go_wp2_with fail
          go_ret
          exact ⟨q0g HRX.out.symm, HB6.out⟩
         | true =>
          have HRB := q0h (show r = q0t e by rw [HRA.out, hbb]; rfl)
          clear hbb
          go_wp2_with fail
          refine (q3x e HIE.out A2 c2 w6 (Kd.C_below HC2.out HD6.out)).mono ?_
          rintro e' w7 ⟨rfl, hb7⟩
          have HB7 := q0h (q0e HB6.out hb7)
          clear hb7
          rw [<- HRB.out]
          clear v0 v1 v2 v3 v4 v5 lb
          cases r
          ·go_wp2_with fail
           go_ret
           exact ⟨rfl, HB7.out⟩
          ·go_wp2_with fail
           go_ret
           exact ⟨rfl, HB7.out⟩
       ·have y : (t != 0) = true := by simpa using ht
        have HRX := q0h (show r = false by rw [HRN.out]; simp [ht])
        go_wp2_with fail
        go_ret
        exact ⟨q0g HRX.out.symm, HB3.out⟩
    | false =>
     by_cases hz : s.size = 0
     ·have HRN := q0h (show r = ((if ty then q1c t else decide (t = 0)) && l.all q0x && q0t b && q0t e) by rw [HRY.out, decide_eq_true hz]; simp)
      obtain rfl := x1e hz
      clear HRY
      cases ty with
      | true =>
       go_wp2_with fail
       refine (q6r t W).mono ?_
       rintro e' w' ⟨rfl, rfl⟩
       cases hty : q1c t with
       | false =>
        have HRX := q0h (show r = false by rw [HRN.out, hty]; rfl)
        go_wp2_with fail
        go_ret
        exact ⟨q0g HRX.out.symm, HBW.out⟩
       | true =>
        have HRT := q0h (show r = (l.all q0x && q0t b && q0t e) by rw [HRN.out, hty]; rfl)
        clear hty
        go_wp2_with fail
        refine (q4s 160 (fun x => !q0x x) A c l W z0b (fun x cs w' hx _ hK => z0c x (HIL.out x hx) cs w' hK) (Kd.C_below HC.out (Below.refl W.heap.size W)) (by omega)).mono ?_
        rintro e' w5 ⟨rfl, hb5⟩
        rw [show l.any (fun x => !q0x x) = !l.all q0x by rw [<- q5g, Bool.not_not]]
        have HB5 := q0h (q0e HBW.out hb5)
        have HD5 := q0h (q0e (Below.refl W.heap.size W) hb5)
        have HM5 := q0h ((hb5.block bk (q0c HM.out)).trans HM.out)
        clear v0 v1 v2 v3 v4 v5 lb
        have lb := q0c HM5.out
        have v0 : w5.cell? ⟨bk, 0, none⟩ = some (.int .i64 k) := (q0a HM5.out 0).trans rfl
        have v1 : w5.cell? ⟨bk, 1, none⟩ = some (.string ⟨#[]⟩) := (q0a HM5.out 1).trans rfl
        have v2 : w5.cell? ⟨bk, 2, none⟩ = some (.int .i64 t) := (q0a HM5.out 2).trans rfl
        have v3 : w5.cell? ⟨bk, 3, none⟩ = some (.slice A l.length c) := (q0a HM5.out 3).trans rfl
        have v4 : w5.cell? ⟨bk, 4, none⟩ = some (.slice A1 b.length c1) := (q0a HM5.out 4).trans rfl
        have v5 : w5.cell? ⟨bk, 5, none⟩ = some (.slice A2 e.length c2) := (q0a HM5.out 5).trans rfl
        clear hb5
        cases hal : l.all q0x with
        | false =>
         have HRX := q0h (show r = false by rw [HRT.out, hal]; rfl)
         go_wp2_with fail
         go_ret
         exact ⟨q0g HRX.out.symm, HB5.out⟩
        | true =>
         have HRA := q0h (show r = (q0t b && q0t e) by rw [HRT.out, hal]; rfl)
         clear hal
         go_wp2_with fail
         refine (q3x b HIB.out A1 c1 w5 (Kd.C_below HC1.out HD5.out)).mono ?_
         rintro e' w6 ⟨rfl, hb6⟩
         have HB6 := q0h (q0e HB5.out hb6)
         have HD6 := q0h (q0e HD5.out hb6)
         have HM6 := q0h ((hb6.block bk (q0c HM5.out)).trans HM5.out)
         clear v0 v1 v2 v3 v4 v5 lb
         have lb := q0c HM6.out
         have v0 : w6.cell? ⟨bk, 0, none⟩ = some (.int .i64 k) := (q0a HM6.out 0).trans rfl
         have v1 : w6.cell? ⟨bk, 1, none⟩ = some (.string ⟨#[]⟩) := (q0a HM6.out 1).trans rfl
         have v2 : w6.cell? ⟨bk, 2, none⟩ = some (.int .i64 t) := (q0a HM6.out 2).trans rfl
         have v3 : w6.cell? ⟨bk, 3, none⟩ = some (.slice A l.length c) := (q0a HM6.out 3).trans rfl
         have v4 : w6.cell? ⟨bk, 4, none⟩ = some (.slice A1 b.length c1) := (q0a HM6.out 4).trans rfl
         have v5 : w6.cell? ⟨bk, 5, none⟩ = some (.slice A2 e.length c2) := (q0a HM6.out 5).trans rfl
         clear hb6
         cases hbb : q0t b with
         | false =>
          have HRX := q0h (show r = false by rw [HRA.out, hbb]; rfl)
          go_wp2_with fail
          go_ret
          exact ⟨q0g HRX.out.symm, HB6.out⟩
         | true =>
          have HRB := q0h (show r = q0t e by rw [HRA.out, hbb]; rfl)
          clear hbb
          go_wp2_with fail
          refine (q3x e HIE.out A2 c2 w6 (Kd.C_below HC2.out HD6.out)).mono ?_
          rintro e' w7 ⟨rfl, hb7⟩
          have HB7 := q0h (q0e HB6.out hb7)
          clear hb7
          rw [<- HRB.out]
          clear v0 v1 v2 v3 v4 v5 lb
          cases r
          ·go_wp2_with fail
           go_ret
           exact ⟨rfl, HB7.out⟩
          ·go_wp2_with fail
           go_ret
           exact ⟨rfl, HB7.out⟩
      | false =>
       by_cases ht : t = 0
       ·have HRT := q0h (show r = (l.all q0x && q0t b && q0t e) by rw [HRN.out]; simp [ht])
        have y : (t != 0) = false := by simpa using ht
        clear ht
        go_wp2_with fail
        refine (q4s 160 (fun x => !q0x x) A c l W z0b (fun x cs w' hx _ hK => z0c x (HIL.out x hx) cs w' hK) (Kd.C_below HC.out (Below.refl W.heap.size W)) (by omega)).mono ?_
        rintro e' w5 ⟨rfl, hb5⟩
        rw [show l.any (fun x => !q0x x) = !l.all q0x by rw [<- q5g, Bool.not_not]]
        have HB5 := q0h (q0e HBW.out hb5)
        have HD5 := q0h (q0e (Below.refl W.heap.size W) hb5)
        have HM5 := q0h ((hb5.block bk (q0c HM.out)).trans HM.out)
        clear v0 v1 v2 v3 v4 v5 lb
        have lb := q0c HM5.out
        have v0 : w5.cell? ⟨bk, 0, none⟩ = some (.int .i64 k) := (q0a HM5.out 0).trans rfl
        have v1 : w5.cell? ⟨bk, 1, none⟩ = some (.string ⟨#[]⟩) := (q0a HM5.out 1).trans rfl
        have v2 : w5.cell? ⟨bk, 2, none⟩ = some (.int .i64 t) := (q0a HM5.out 2).trans rfl
        have v3 : w5.cell? ⟨bk, 3, none⟩ = some (.slice A l.length c) := (q0a HM5.out 3).trans rfl
        have v4 : w5.cell? ⟨bk, 4, none⟩ = some (.slice A1 b.length c1) := (q0a HM5.out 4).trans rfl
        have v5 : w5.cell? ⟨bk, 5, none⟩ = some (.slice A2 e.length c2) := (q0a HM5.out 5).trans rfl
        clear hb5
        cases hal : l.all q0x with
        | false =>
         have HRX := q0h (show r = false by rw [HRT.out, hal]; rfl)
         go_wp2_with fail
         go_ret
         exact ⟨q0g HRX.out.symm, HB5.out⟩
        | true =>
         have HRA := q0h (show r = (q0t b && q0t e) by rw [HRT.out, hal]; rfl)
         clear hal
         go_wp2_with fail
         refine (q3x b HIB.out A1 c1 w5 (Kd.C_below HC1.out HD5.out)).mono ?_
         rintro e' w6 ⟨rfl, hb6⟩
         have HB6 := q0h (q0e HB5.out hb6)
         have HD6 := q0h (q0e HD5.out hb6)
         have HM6 := q0h ((hb6.block bk (q0c HM5.out)).trans HM5.out)
         clear v0 v1 v2 v3 v4 v5 lb
         have lb := q0c HM6.out
         have v0 : w6.cell? ⟨bk, 0, none⟩ = some (.int .i64 k) := (q0a HM6.out 0).trans rfl
         have v1 : w6.cell? ⟨bk, 1, none⟩ = some (.string ⟨#[]⟩) := (q0a HM6.out 1).trans rfl
         have v2 : w6.cell? ⟨bk, 2, none⟩ = some (.int .i64 t) := (q0a HM6.out 2).trans rfl
         have v3 : w6.cell? ⟨bk, 3, none⟩ = some (.slice A l.length c) := (q0a HM6.out 3).trans rfl
         have v4 : w6.cell? ⟨bk, 4, none⟩ = some (.slice A1 b.length c1) := (q0a HM6.out 4).trans rfl
         have v5 : w6.cell? ⟨bk, 5, none⟩ = some (.slice A2 e.length c2) := (q0a HM6.out 5).trans rfl
         clear hb6
         cases hbb : q0t b with
         | false =>
          have HRX := q0h (show r = false by rw [HRA.out, hbb]; rfl)
          go_wp2_with fail
          go_ret
          exact ⟨q0g HRX.out.symm, HB6.out⟩
         | true =>
          have HRB := q0h (show r = q0t e by rw [HRA.out, hbb]; rfl)
          clear hbb
          go_wp2_with fail
          refine (q3x e HIE.out A2 c2 w6 (Kd.C_below HC2.out HD6.out)).mono ?_
          rintro e' w7 ⟨rfl, hb7⟩
          have HB7 := q0h (q0e HB6.out hb7)
          clear hb7
          rw [<- HRB.out]
          clear v0 v1 v2 v3 v4 v5 lb
          cases r
          ·go_wp2_with fail
           go_ret
           exact ⟨rfl, HB7.out⟩
          ·go_wp2_with fail
           go_ret
           exact ⟨rfl, HB7.out⟩
       ·have y : (t != 0) = true := by simpa using ht
        have HRX := q0h (show r = false by rw [HRN.out]; simp [ht])
        go_wp2_with fail
        go_ret
        exact ⟨q0g HRX.out.symm, HBW.out⟩
     ·have hne := q8q s (by omega)
      have hne1 := hne.1
      have hne2 := hne.2
      have HRX := q0h (show r = false by rw [HRY.out, decide_eq_false hz]; simp)
      go_wp2_with fail
      go_ret
      exact ⟨q0g HRX.out.symm, HBW.out⟩
theorem j2l (v : Vr) : q6x v = (let ok := q1p v.name && q1c v.type && decide (0 <= v.size) && decide (v.size <= 256)
 if v.size > 0 \/ v.type = 4 then ok && v.value == 0 else if v.type = 3 then ok && bits .andNot .i64 v.value 1 == 0 else ok && v.value != -9223372036854775808) := rfl
theorem j4f (v : Vr) (hs : v.name.size <= 1000000000) (cs : List Value) (w : World) (h : kVr.K w v cs) : Calls Tryz.prog 36 #[.agg cs.toArray] w fun e' w' => e' = .returned (.bool (q6x v)) /\ Below w.heap.size w w' := by
 obtain rfl := q9z h
 obtain ⟨r, hr⟩ : ∃ r, r = q6x v := ⟨_, rfl⟩
 rw [<- hr]
 rw [j2l] at hr
 obtain ⟨s, ty, sz, vl, a⟩ := v
 simp only at hr hs ⊢
 have HR := q0h hr
 obtain ⟨W, hW⟩ : ∃ W, W = w.alloc (.cells #[.string s, .int .i64 ty, .int .i64 sz, .int .i64 vl, .int .i64 a] 40) := ⟨_, rfl⟩
 obtain ⟨bk, hb⟩ : ∃ b, b = w.heap.size := ⟨_, rfl⟩
 have hm : W.heap[bk]? = some (.cells #[.string s, .int .i64 ty, .int .i64 sz, .int .i64 vl, .int .i64 a] 40 (0, 0)) := by rw [hW, hb]; exact heap_alloc_new _ _
 have HBW := q0h (show Below w.heap.size w W by rw [hW]; exact q0d (Below.refl _ _) _)
 have HM := q0h hm
 have HW := q0h hW
 have HBK := q0h hb
 have v0 : W.cell? ⟨bk, 0, none⟩ = some (.string s) := (q0a hm 0).trans rfl
 have v1 : W.cell? ⟨bk, 1, none⟩ = some (.int .i64 ty) := (q0a hm 1).trans rfl
 have v2 : W.cell? ⟨bk, 2, none⟩ = some (.int .i64 sz) := (q0a hm 2).trans rfl
 have v3 : W.cell? ⟨bk, 3, none⟩ = some (.int .i64 vl) := (q0a hm 3).trans rfl
 have lb := q0c hm
 clear hr hW hb hm h
 obtain ⟨ok, hok⟩ : ∃ x, x = (q1p s && q1c ty && decide (0 <= sz) && decide (sz <= 256)) := ⟨_, rfl⟩
 have HOK := q0h hok
 rw [<- hok] at HR
 clear hok
 go_enter Tryz.func36, Tryz.ntmps36
 go_upto_region 1 with fail
 rw [<- HW.out, <- HBK.out]
 go_cut [3] (fun v3 wc => v3 = .bool ok /\ Hid (Below w.heap.size w wc) /\ Hid (wc.heap[bk]? = some (.cells #[.string s, .int .i64 ty, .int .i64 sz, .int .i64 vl, .int .i64 a] 40 (0, 0))))
 case first =>
  go_wp2_with fail
  refine (q9j s W (by omega)).mono ?_
  rintro e' w3 ⟨rfl, hb3⟩
  have HB3 := q0h (q0e HBW.out hb3)
  have hm3 := (hb3.block bk (q0c HM.out)).trans HM.out
  have HM3 := q0h hm3
  clear v0 v1 v2 v3 lb
  have v1 : w3.cell? ⟨bk, 1, none⟩ = some (.int .i64 ty) := (q0a hm3 1).trans rfl
  have v2 : w3.cell? ⟨bk, 2, none⟩ = some (.int .i64 sz) := (q0a hm3 2).trans rfl
  have v3 : w3.cell? ⟨bk, 3, none⟩ = some (.int .i64 vl) := (q0a hm3 3).trans rfl
  have lb := q0c hm3
  clear hm3 hb3
  cases hnb : q1p s with
  | false =>
   have HO := q0h (show ok = false by rw [HOK.out, hnb]; rfl)
   go_wp2_with fail
   go_meet
   case rel => exact ⟨by rw [HO.out], HB3, HM3⟩
  | true =>
   have HO := q0h (show ok = (q1c ty && decide (0 <= sz) && decide (sz <= 256)) by rw [HOK.out, hnb]; rfl)
   clear hnb
   go_wp2_with fail
   refine (q6r ty w3).mono ?_
   rintro e' w' ⟨rfl, rfl⟩
   cases hty : q1c ty with
   | false =>
    have HO2 := q0h (show ok = false by rw [HO.out, hty]; rfl)
    go_wp2_with fail
    go_meet
    case rel => exact ⟨by rw [HO2.out], HB3, HM3⟩
   | true =>
    have HO2 := q0h (show ok = (decide (0 <= sz) && decide (sz <= 256)) by rw [HO.out, hty]; rfl)
    clear hty
    by_cases x1 : 0 <= sz
    ·by_cases x2 : sz <= 256
     ·have HO3 := q0h (show ok = true by rw [HO2.out, decide_eq_true x1, decide_eq_true x2]; rfl)
      go_wp2_with fail
      go_meet
      case rel => exact ⟨by rw [HO3.out], HB3, HM3⟩
     ·have HO3 := q0h (show ok = false by rw [HO2.out, decide_eq_false x2]; simp)
      go_wp2_with fail
      go_meet
      case rel => exact ⟨by rw [HO3.out]; congr 1; exact decide_eq_false (by omega), HB3, HM3⟩
    ·have HO3 := q0h (show ok = false by rw [HO2.out, decide_eq_false x1]; rfl)
     go_wp2_with fail
     go_meet
     case rel => exact ⟨by rw [HO3.out], HB3, HM3⟩
 case rest =>
  obtain ⟨hv3, HB3, HM3⟩ := hcut
  subst hv3
  clear v0 v1 v2 v3 lb HOK
  have v1 : wc.cell? ⟨bk, 1, none⟩ = some (.int .i64 ty) := (q0a HM3.out 1).trans rfl
  have v2 : wc.cell? ⟨bk, 2, none⟩ = some (.int .i64 sz) := (q0a HM3.out 2).trans rfl
  have v3 : wc.cell? ⟨bk, 3, none⟩ = some (.int .i64 vl) := (q0a HM3.out 3).trans rfl
  have lb := q0c HM3.out
  by_cases x1 : 0 < sz
  ·have HRR := q0h (show r = (ok && vl == 0) by rw [HR.out, if_pos (Or.inl x1)])
   cases ok
   ·go_wp2_with fail
    go_ret
    exact ⟨q0g (by rw [HRR.out]; rfl), HB3.out⟩
   ·go_wp2_with fail
    go_ret
    exact ⟨q0g (by rw [HRR.out]; rfl), HB3.out⟩
  by_cases x2 : ty = 4
  ·have HRR := q0h (show r = (ok && vl == 0) by rw [HR.out, if_pos (Or.inr x2)])
   subst x2
   cases ok
   ·go_wp2_with fail
    go_ret
    exact ⟨q0g (by rw [HRR.out]; rfl), HB3.out⟩
   ·go_wp2_with fail
    go_ret
    exact ⟨q0g (by rw [HRR.out]; rfl), HB3.out⟩
  have HRR := q0h (show r = if ty = 3 then (ok && bits .andNot .i64 vl 1 == 0) else (ok && vl != -9223372036854775808) by rw [HR.out, if_neg (fun q => q.elim x1 x2)])
  have y2 : (ty == 4) = false := by simpa using x2
  by_cases x3 : ty = 3
  ·subst x3
   cases ok
   ·go_wp2_with fail
    go_ret
    exact ⟨q0g (by rw [HRR.out]; rfl), HB3.out⟩
   ·go_wp2_with fail
    go_ret
    exact ⟨q0g (by rw [HRR.out]; rfl), HB3.out⟩
  have y3 : (ty == 3) = false := by simpa using x3
  have HRS := q0h (show r = (ok && vl != -9223372036854775808) by rw [HRR.out, if_neg x3])
  cases ok
  ·go_wp2_with fail
   go_ret
   exact ⟨q0g (by rw [HRS.out]; rfl), HB3.out⟩
  ·go_wp2_with fail
   go_ret
   exact ⟨q0g (by rw [HRS.out]; rfl), HB3.out⟩
theorem j6g (x : Vr) (cs : List Value) (w : World) (h : kVr.K w x cs) (hx : ∀ (w' : World), kVr.K w' x cs -> Calls Tryz.prog 36 #[.agg cs.toArray] w' fun e' w'' => e' = .returned (.bool (q6x x)) /\ Below w'.heap.size w' w'') : q3r 35 #[] (.agg cs.toArray) w (!q6x x) := by
 have HC := q0h (hx (w.alloc (.cells cs.toArray 40)) (kVr.K_below (q0d (Below.refl _ _) _) h))
 have HB := q0h (q0d (Below.refl w.heap.size w) (.cells cs.toArray 40))
 obtain ⟨s, a, b, c, d, rfl⟩ := x6b h
 clear h hx
 unfold q3r
 go_enter Tryz.func35, Tryz.ntmps35
 go_wp2_with fail
 refine HC.out.mono ?_
 rintro e w1 ⟨rfl, hb⟩
 have HB1 := q0h (q0e HB.out hb)
 clear hb
 go_wp2_with fail
 go_ret
 exact ⟨rfl, HB1.out⟩
theorem j4g (x : Fc) (cs : List Value) (w : World) (h : kFc.K w x cs) (hx : ∀ (w' : World), kFc.K w' x cs -> Calls Tryz.prog 39 #[.agg cs.toArray] w' fun e' w'' => e' = .returned (.bool (q6q x)) /\ Below w'.heap.size w' w'') : q3r 38 #[] (.agg cs.toArray) w (!q6q x) := by
 have HC := q0h (hx (w.alloc (.cells cs.toArray 46)) (kFc.K_below (q0d (Below.refl _ _) _) h))
 have HB := q0h (q0d (Below.refl w.heap.size w) (.cells cs.toArray 46))
 obtain ⟨s, A, n, c, t, A1, n1, c1, a, A2, n2, c2, rfl⟩ := x6c h
 clear h hx
 unfold q3r
 go_enter Tryz.func38, Tryz.ntmps38
 go_wp2_with fail
 refine HC.out.mono ?_
 rintro e w1 ⟨rfl, hb⟩
 have HB1 := q0h (q0e HB.out hb)
 clear hb
 go_wp2_with fail
 go_ret
 exact ⟨rfl, HB1.out⟩
theorem j0h : q1k 35 := fun args w => by kernel_rfl
theorem j0i : q1k 38 := fun args w => by kernel_rfl
def smF (f : Fc) : Prop := f.name.size <= 1000000000 /\ f.params.length <= 1000000000 /\ (∀ p ∈ f.params, p.name.size <= 1000000000) /\ j4e f.body
theorem j0j : ∀ (n : Nat) (s : St), SizeOf.sizeOf s <= n -> smS s -> z9r s := by
 intro n
 induction n with
 | zero => intro e h; cases e; simp at h
 | succ n ih =>
  intro s h hs
  obtain ⟨k, nm, t, l, b, e, a, p⟩ := s
  simp only [St.mk.sizeOf_spec] at h
  refine x6k k nm t l b e a p hs.1 (fun x hx => x6j (z0a hs.2.1 x hx)) (fun x hx => ih x ?_ (q6e hs.2.2.1 x hx)) (fun x hx => ih x ?_ (q6e hs.2.2.2 x hx))
  ·have h1 := List.sizeOf_lt_of_mem hx
   omega
  ·have h1 := List.sizeOf_lt_of_mem hx
   omega
theorem z7o {s : St} (h : smS s) : z9r s := j0j _ s (Nat.le_refl _) h
def z1p (p : Pm) : Bool := q1p p.name && q1c p.type
theorem x1f {w : World} {x : Pm} {s : ByteArray} {a : Int} (h : kPm.K w x [.string s, .int .i64 a]) : x = ⟨s, a⟩ := by
 have h2 := z1z h
 obtain ⟨n, t⟩ := x
 injection h2 with h3 h2
 injection h2 with h4 _
 injection h3 with h3
 injection h4 with _ h4
 rw [h3, h4]
theorem j0k (f : Fc) (hs : smF f) (cs : List Value) (w : World) (h : kFc.K w f cs) : Calls Tryz.prog 39 #[.agg cs.toArray] w fun e' w' => e' = .returned (.bool (q6q f)) /\ Below w.heap.size w w' := by
 obtain ⟨A, c, A1, c1, A2, c2, rfl, hP, hB⟩ := q7t h
 obtain ⟨r, hr⟩ : ∃ r, r = q6q f := ⟨_, rfl⟩
 rw [<- hr]
 obtain ⟨nm, ps, ty, bd, at_, lc⟩ := f
 obtain ⟨hs1, hs2, hs3, hs4⟩ := hs
 unfold q6q at hr
 simp only at hr hs1 hs2 hs3 hs4 hP hB ⊢
 obtain ⟨W, hW⟩ : ∃ W, W = w.alloc (.cells #[.string nm, .slice A ps.length c, .int .i64 ty, .slice A1 bd.length c1, .int .i64 at_, .slice A2 lc.length c2] 46) := ⟨_, rfl⟩
 obtain ⟨bk, hb⟩ : ∃ b, b = w.heap.size := ⟨_, rfl⟩
 have hm : W.heap[bk]? = some (.cells #[.string nm, .slice A ps.length c, .int .i64 ty, .slice A1 bd.length c1, .int .i64 at_, .slice A2 lc.length c2] 46 (0, 0)) := by rw [hW, hb]; exact heap_alloc_new _ _
 have hbw : Below w.heap.size w W := by rw [hW]; exact q0d (Below.refl _ _) _
 have HR := q0h (show r = (ps.all z1p && q1p nm && (ty == 0 || q1c ty) && decide (ps.length <= 8) && q0t bd) from hr)
 have HP := q0h (Kd.C_below hP hbw)
 have HBd := q0h (Kd.C_below hB hbw)
 have HBW := q0h hbw
 have HM := q0h hm
 have HW := q0h hW
 have HBK := q0h hb
 have HS3 := q0h hs3
 have HS4 := q0h hs4
 have v1 : W.cell? ⟨bk, 1, none⟩ = some (.slice A ps.length c) := (q0a hm 1).trans rfl
 clear hr hP hB hbw hm hW hb hs3 hs4 h
 go_enter Tryz.func39, Tryz.ntmps39
 go_wp2_with fail
 rw [<- HW.out, <- HBK.out]
 have lb := q0c HM.out
 go_wp2_with fail
 clear lb v1
 go_loopw [8] (fun i w' => ∃ k : Nat, k <= ps.length /\ i = .int .i64 k /\ Hid (∀ j, j < k -> (fun x => !z1p x) (ps.getD j zPm) = false) /\ Hid (Below W.heap.size W w')) (fun i _ => ps.length - (intOf i).toNat)
 case atStart => exact ⟨0, by omega, rfl, fun j hj => by omega, Below.refl _ _⟩
 case round =>
  obtain ⟨k, hk, rfl, HJ, HB⟩ := hrel
  by_cases hlt : k < ps.length
  ·obtain ⟨ad, s, a, rfl, HK, h0, h1⟩ := x9r (Kd.C_below HP.out HB.out) k hlt
   have hxx := x1f HK.out
   have HX := q0h hxx
   have hsz : s.size <= 1000000000 := by
    have h5 := HS3.out _ (q1a ps zPm k hlt _ rfl)
    rw [hxx] at h5
    exact h5
   obtain ⟨pb, hpb⟩ : ∃ b, b = wr.heap.size := ⟨_, rfl⟩
   obtain ⟨W2, hW2⟩ : ∃ W2, W2 = wr.alloc (.cells #[.string s, .int .i64 a] 49) := ⟨_, rfl⟩
   have HM2 := q0h (show W2.heap[pb]? = some (.cells #[.string s, .int .i64 a] 49 (0, 0)) by rw [hW2, hpb]; exact heap_alloc_new _ _)
   have HB2 := q0h (show Below W.heap.size W W2 by rw [hW2]; exact q0e HB.out (q0d (Below.refl _ _) _))
   have HW2 := q0h hW2
   have HPB := q0h hpb
   clear hxx hW2 hpb
   go_wp2_with fail
   rw [<- HW2.out]
   refine (q9j s W2 (by omega)).mono ?_
   rintro e' w3 ⟨rfl, hb3⟩
   have HB3 := q0h (q0e HB2.out hb3)
   have hm3 := (hb3.block pb (q0c HM2.out)).trans HM2.out
   have d1 : w3.cell? ⟨pb, 1, none⟩ = some (.int .i64 a) := (q0a hm3 1).trans rfl
   have lb := q0c hm3
   rw [<- HPB.out]
   clear hm3 hb3
   cases hnb : q1p s with
   | false =>
    have HY := q0h (q8a (fun x => !z1p x) zPm ps k hlt (by rw [HX.out]; unfold z1p; rw [hnb]; rfl))
    have HRX := q0h (show r = false by rw [HR.out, <- q5g z1p ps, HY.out]; rfl)
    go_wp2_with fail
    go_ret
    exact ⟨q0g HRX.out.symm, q0e HBW.out HB3.out⟩
   | true =>
    go_wp2_with fail
    refine (q6r a w3).mono ?_
    rintro e' w' ⟨rfl, rfl⟩
    cases hty : q1c a with
    | false =>
     have HY := q0h (q8a (fun x => !z1p x) zPm ps k hlt (by rw [HX.out]; unfold z1p; rw [hnb, hty]; rfl))
     have HRX := q0h (show r = false by rw [HR.out, <- q5g z1p ps, HY.out]; rfl)
     go_wp2_with fail
     go_ret
     exact ⟨q0g HRX.out.symm, q0e HBW.out HB3.out⟩
    | true =>
     have HY := q0h (q9h (fun x => !z1p x) zPm ps k HJ.out (by rw [HX.out]; unfold z1p; rw [hnb, hty]; rfl))
     clear hnb hty
     go_wp2_with fail
     go_roundw
     case rel => exact ⟨k + 1, by omega, by go_num, HY.out, HB3.out⟩
     case measure => simp [intOf]; omega
  ·obtain rfl : k = ps.length := by omega
   have HRY := q0h (show r = (q1p nm && (ty == 0 || q1c ty) && decide (ps.length <= 8) && q0t bd) by rw [HR.out, <- q5g z1p ps, q9i (fun x => !z1p x) zPm ps HJ.out]; rfl)
   have HM2 := q0h ((HB.out.block bk (q0c HM.out)).trans HM.out)
   have lb := q0c HM2.out
   have v0 : wr.cell? ⟨bk, 0, none⟩ = some (.string nm) := (q0a HM2.out 0).trans rfl
   go_wp2_with fail
   refine (q9j nm wr (by omega)).mono ?_
   rintro e' w3 ⟨rfl, hb3⟩
   have HB3 := q0h (q0e HB.out hb3)
   have hm3 := (hb3.block bk (q0c HM2.out)).trans HM2.out
   clear lb v0
   have lb := q0c hm3
   have v1 : w3.cell? ⟨bk, 1, none⟩ = some (.slice A ps.length c) := (q0a hm3 1).trans rfl
   have v2 : w3.cell? ⟨bk, 2, none⟩ = some (.int .i64 ty) := (q0a hm3 2).trans rfl
   have v3 : w3.cell? ⟨bk, 3, none⟩ = some (.slice A1 bd.length c1) := (q0a hm3 3).trans rfl
   clear hm3 hb3
   cases hnb : q1p nm with
   | false =>
    have HRX := q0h (show r = false by rw [HRY.out, hnb]; rfl)
    go_wp2_with fail
    go_ret
    exact ⟨q0g HRX.out.symm, q0e HBW.out HB3.out⟩
   | true =>
    have HRZ := q0h (show r = ((ty == 0 || q1c ty) && decide (ps.length <= 8) && q0t bd) by rw [HRY.out, hnb]; rfl)
    clear hnb
    by_cases h0 : ty = 0
    ·have HRT := q0h (show r = (decide (ps.length <= 8) && q0t bd) by rw [HRZ.out, h0]; rfl)
     subst h0
     by_cases h8 : ps.length <= 8
     ·have HRU := q0h (show r = q0t bd by rw [HRT.out, decide_eq_true h8]; rfl)
      go_wp2_with fail
      refine (q3x bd (fun x hx => z7o (q6e HS4.out x hx)) A1 c1 w3 (Kd.C_below HBd.out HB3.out)).mono ?_
      rintro e' w4 ⟨rfl, hb4⟩
      have HB4 := q0h (q0e HB3.out hb4)
      clear hb4
      rw [<- HRU.out]
      clear v1 v2 v3 lb
      go_wp2_with fail
      go_ret
      exact ⟨rfl, q0e HBW.out HB4.out⟩
     ·have HRU := q0h (show r = false by rw [HRT.out, decide_eq_false h8]; rfl)
      go_wp2_with fail
      go_ret
      exact ⟨q0g (by rw [HRU.out]; try (simp only [decide_eq_false_iff_not] <;> omega)), q0e HBW.out HB3.out⟩
    ·have y0 : (ty == 0) = false := by simpa using h0
     go_wp2_with fail
     refine (q6r ty w3).mono ?_
     rintro e' w' ⟨rfl, rfl⟩
     cases hty : q1c ty with
     | false =>
      have HRX := q0h (show r = false by rw [HRZ.out, y0, hty]; rfl)
      go_wp2_with fail
      go_ret
      exact ⟨q0g HRX.out.symm, q0e HBW.out HB3.out⟩
     | true =>
      have HRT := q0h (show r = (decide (ps.length <= 8) && q0t bd) by rw [HRZ.out, y0, hty]; rfl)
      clear hty
      by_cases h8 : ps.length <= 8
      ·have HRU := q0h (show r = q0t bd by rw [HRT.out, decide_eq_true h8]; rfl)
       go_wp2_with fail
       refine (q3x bd (fun x hx => z7o (q6e HS4.out x hx)) A1 c1 w3 (Kd.C_below HBd.out HB3.out)).mono ?_
       rintro e' w4 ⟨rfl, hb4⟩
       have HB4 := q0h (q0e HB3.out hb4)
       clear hb4
       rw [<- HRU.out]
       clear v1 v2 v3 lb
       go_wp2_with fail
       go_ret
       exact ⟨rfl, q0e HBW.out HB4.out⟩
      ·have HRU := q0h (show r = false by rw [HRT.out, decide_eq_false h8]; rfl)
       go_wp2_with fail
       go_ret
       exact ⟨q0g (by rw [HRU.out]; try (simp only [decide_eq_false_iff_not] <;> omega)), q0e HBW.out HB3.out⟩
theorem j4h (m : Md) (hv : ∀ v ∈ m.vars, v.name.size <= 1000000000) (hf : ∀ f ∈ m.funcs, smF f) (A A1 : Option Addr) (c c1 : Nat) (w : World) (hV : kVr.C w A m.vars.length m.vars) (hF : kFc.C w A1 m.funcs.length m.funcs) : Calls Tryz.prog 19 #[.agg #[.slice A m.vars.length c, .slice A1 m.funcs.length c1]] w fun e' w' => e' = .returned (.bool (q8l m)) /\ Below w.heap.size w w' := by
 obtain ⟨r, hr⟩ : ∃ r, r = q8l m := ⟨_, rfl⟩
 rw [<- hr]
 obtain ⟨vs, fs⟩ := m
 unfold q8l at hr
 simp only at hr hv hf hV hF ⊢
 obtain ⟨W, hW⟩ : ∃ W, W = w.alloc (.cells #[.slice A vs.length c, .slice A1 fs.length c1] 25) := ⟨_, rfl⟩
 obtain ⟨bk, hb⟩ : ∃ b, b = w.heap.size := ⟨_, rfl⟩
 have hm : W.heap[bk]? = some (.cells #[.slice A vs.length c, .slice A1 fs.length c1] 25 (0, 0)) := by rw [hW, hb]; exact heap_alloc_new _ _
 have hbw : Below w.heap.size w W := by rw [hW]; exact q0d (Below.refl _ _) _
 have HR := q0h hr
 have HV := q0h (Kd.C_below hV hbw)
 have HF := q0h (Kd.C_below hF hbw)
 have HBW := q0h hbw
 have HM := q0h hm
 have HW := q0h hW
 have HBK := q0h hb
 have HVS := q0h hv
 have HFS := q0h hf
 have v0 : W.cell? ⟨bk, 0, none⟩ = some (.slice A vs.length c) := (q0a hm 0).trans rfl
 have v1 : W.cell? ⟨bk, 1, none⟩ = some (.slice A1 fs.length c1) := (q0a hm 1).trans rfl
 have lb := q0c hm
 clear hr hV hF hbw hm hv hf
 by_cases x1 : vs.length <= 64
 ·by_cases x2 : fs.length <= 64
  ·have HRY := q0h (show r = (vs.all q6x && fs.all q6q) by rw [HR.out, decide_eq_true x1, decide_eq_true x2]; rfl)
   go_enter Tryz.func19, Tryz.ntmps19
   go_wp2_with fail
   rw [<- hW, <- hb]
   refine (x3c 35 (fun x => !q6x x) A c vs W j0h (fun x cs w' hx _ hK => j6g x cs w' hK (fun w2 h2 => j4f x (HVS.out x hx) cs w2 h2)) HV.out (by omega)).mono ?_
   rintro e' w3 ⟨rfl, hb3⟩
   rw [show vs.any (fun x => !q6x x) = !vs.all q6x by rw [<- q5g, Bool.not_not]]
   have HB3 := q0h (q0e HBW.out hb3)
   have HD3 := q0h hb3
   have hm3 := (hb3.block bk (q0c HM.out)).trans HM.out
   clear v0 v1 lb
   have v1 : w3.cell? ⟨bk, 1, none⟩ = some (.slice A1 fs.length c1) := (q0a hm3 1).trans rfl
   have lb := q0c hm3
   clear hm3 hb3 hW hb
   cases hva : vs.all q6x with
   | false =>
    have HRX := q0h (show r = false by rw [HRY.out, hva]; rfl)
    go_wp2_with fail
    go_ret
    exact ⟨q0g HRX.out.symm, HB3.out⟩
   | true =>
    have HRX := q0h (show r = fs.all q6q by rw [HRY.out, hva]; rfl)
    clear hva
    go_wp2_with fail
    refine (z9j 38 (fun x => !q6q x) A1 c1 fs w3 j0i (fun x cs w' hx _ hK => j4g x cs w' hK (fun w2 h2 => j0k x (HFS.out x hx) cs w2 h2)) (Kd.C_below HF.out HD3.out) (by omega)).mono ?_
    rintro e' w4 ⟨rfl, hb4⟩
    rw [show fs.any (fun x => !q6q x) = !fs.all q6q by rw [<- q5g, Bool.not_not], <- HRX.out]
    have HB4 := q0h (q0e HB3.out hb4)
    clear hb4
    go_wp2_with fail
    go_ret
    exact ⟨q0g (by cases r <;> rfl), HB4.out⟩
  ·have HRX := q0h (show r = false by rw [HR.out, decide_eq_false x2]; simp)
   go_enter Tryz.func19, Tryz.ntmps19
   go_wp2_with fail
   rw [<- hW]
   go_ret
   exact ⟨q0g (HRX.out.trans (by simp only [decide_eq_false_iff_not] <;> omega)).symm, HBW.out⟩
 ·have HRX := q0h (show r = false by rw [HR.out, decide_eq_false x1]; rfl)
  go_enter Tryz.func19, Tryz.ntmps19
  go_wp2_with fail
  rw [<- hW]
  go_ret
  exact ⟨q0g (HRX.out.trans (by simp only [decide_eq_false_iff_not] <;> omega)).symm, HBW.out⟩
theorem q5y {P : Program} {id : Nat} {Q : Exit -> Act -> World -> Prop} {a : Act} {w : World} {l : List Oper} (hm : P.follows .mixedOrders = true) (hB : Region.lexB .any l.toArray = true)
  (h : wpQuiet P l.toArray (fun w' => Below w.heap.size w w') (fun a' => ∀ w', Below w.heap.size w w' -> Q .normal a' w') l a) : (Code.region id l.toArray true).wp P Q a w :=
 wp_region_quiet (C := fun w' => Below w.heap.size w w') hm hB (q1n (Below.refl _ _)) (by simpa using h)
theorem q8n {P : Program} {ops : Array Oper} {C : World -> Prop} {Q : Act -> Prop} {a : Act} {o : Oper} {rest : List Oper} {v : Value} (hw : Region.wanted o (yielded ops a.tmps) = true) (hr : ∀ w', C w' -> (execOp a.eval o).run P w' = .ok (.value v) w')
  (h : wpQuiet P ops C Q rest (a.put o.dst v)) : wpQuiet P ops C Q (o :: rest) a :=
 wpQuiet_step fun K hK => by rw [if_pos hw]; exact ⟨v, fun w' hC => by unfold Oper.quietAt; rw [hr w' hC]; exact ⟨rfl, rfl⟩, hK _ h⟩
theorem z7p {P : Program} {ops : Array Oper} {C : World -> Prop} {Q : Act -> Prop} {a : Act} {o : Oper} {rest : List Oper} {v : Value} {f : FuncId} {fn : Func} {xs : Array Operand} {ts : Array TypeId} (args : Array Value) (hw : Region.wanted o (yielded ops a.tmps) = true)
  (hf : P.funcs[f]? = some fn) (hname : (fn.name == "runtime.NumGoroutine") = false) (hb : fn.body.isSome = true) (hop : o.op = .call { callee := .value (.func f), args := xs, argTypes := ts }) (hargs : xs.map a.eval = args)
  (hc : ∀ w', C w' -> Calls P f args w' fun e w'' => e = .returned v /\ C w'')
  (h : wpQuiet P ops C Q rest (a.put o.dst v)) : wpQuiet P ops C Q (o :: rest) a :=
 wpQuiet_step fun K hK => by
  rw [if_pos hw]
  refine ⟨v, fun w' hC => ?_, hK _ h⟩
  have he := q5r hf hname hb args w'
  have hrun : (execOp a.eval o).run P w' = .ok (.enter f args) w' := by
   unfold execOp
   simp [hop, resolve, Deferred.ofValue, invoke, Act.eval, hargs, he]
  unfold Oper.quietAt
  rw [hrun]
  exact ⟨rfl, hc w' hC⟩
def Mn (f : List UInt8 -> List UInt8) : Prop := ∀ p, p.length <= (f p).length
theorem Mn.id : Mn id := fun p => Nat.le_refl _
theorem z0v {l : List (List UInt8 -> List UInt8)} (h : ∀ f ∈ l, Mn f) : Mn (l.headD id) := by
 cases l with
 | nil => exact Mn.id
 | cons f l => exact h f (by simp)
theorem x6l {l : List (List UInt8 -> List UInt8)} (h : ∀ f ∈ l, Mn f) : ∀ f ∈ l.tail, Mn f := fun f hf => h f (List.mem_of_mem_tail hf)
theorem z3e {f : List UInt8 -> List UInt8} (h : Mn f) (b : Bool) : Mn (q4k f b) := fun p => by
 unfold q4k
 split
 ·have := h (p ++ [40])
  rw [List.length_append] at this ⊢
  simp only [List.length_cons, List.length_nil] at this ⊢
  omega
 ·exact h p
theorem x1g : ∀ (l : List (List UInt8 -> List UInt8)) (b : Bool), (∀ f ∈ l, Mn f) -> Mn (z9d l b)
 | [], _, _, p => Nat.le_refl _
 | f :: l, b, h, p => by
  unfold z9d
  refine Nat.le_trans ?_ (x1g l true (fun f hf => h f (List.mem_cons_of_mem _ hf)) _)
  refine Nat.le_trans ?_ (h f (by simp) _)
  split
  ·rw [List.length_append]; omega
  ·exact Nat.le_refl _
theorem j0l {k op num : Int} {name : ByteArray} {args : List Ex} {fs : List (List UInt8 -> List UInt8)} (hf : ∀ f ∈ fs, Mn f) : Mn (q5f k op num name args fs) := fun p => by
 unfold q5f
 split
 ·rw [List.length_append]; omega
 split
 ·rw [List.length_append]; omega
 split
 ·rw [List.length_append]; omega
 split
 ·rw [List.length_append]; omega
 split
 ·rw [List.length_append]; omega
 split
 ·have := z0v hf (p ++ toL name ++ [91])
  rw [List.length_append, List.length_append] at this
  rw [List.length_append]; omega
 split
 ·have := x1g fs false hf (p ++ toL name ++ [40])
  rw [List.length_append, List.length_append] at this
  rw [List.length_append]; omega
 split
 ·have := z3e (z0v hf) ((args.headD (.mk 0 0 0 ⟨#[]⟩ [] 0 0 0)).kind == 9) (p ++ sgT op)
  rw [List.length_append] at this
  omega
 split
 ·dsimp only
  refine Nat.le_trans ?_ (z3e (z0v (x6l hf)) _ _)
  rw [List.length_append, List.length_append, List.length_append]
  have := z3e (z0v hf) (decide (q0v (args.headD (.mk 0 0 0 ⟨#[]⟩ [] 0 0 0)) < q0u 9 op) || (q0v (args.headD (.mk 0 0 0 ⟨#[]⟩ [] 0 0 0)) == q0u 9 op && q0u 9 op == 3)) p
  omega
 ·exact Nat.le_refl _
theorem j4i (n : Nat) : ∀ e : Ex, SizeOf.sizeOf e <= n -> Mn (q0q e) := by
 induction n with
 | zero => intro e h; cases e; simp at h
 | succ n ih =>
  intro e h p
  obtain ⟨k, op, num, name, args, a, t, pl⟩ := e
  rw [q3n]
  split
  ·exact Nat.le_refl _
  ·refine j0l ?_ p
   intro f hf
   obtain ⟨x, hx, rfl⟩ := List.mem_map.1 hf
   have h1 := List.sizeOf_lt_of_mem hx
   simp only [Ex.mk.sizeOf_spec] at h
   exact ih x (by omega)
theorem q3p (e : Ex) : Mn (q0q e) := j4i _ e (Nat.le_refl _)
theorem z5i (l : List Ex) : ∀ f ∈ l.map q0q, Mn f := fun f hf => by
 obtain ⟨x, _, rfl⟩ := List.mem_map.1 hf
 exact q3p x
structure GW (w : World) : Prop where
 ge : z8h w
 p10 : P10 w
 ty : ∀ j : Nat, j < 5 -> w.cell? ⟨0, j, none⟩ = some (.string ⟨(tyT j).toArray⟩)
 sg : ∀ j : Nat, j < 16 -> w.cell? ⟨1, j, none⟩ = some (.string ⟨(sgT j).toArray⟩)
theorem GW.below {w w' : World} (h : GW w) (hb : Below w.heap.size w w') : GW w' := ⟨h.ge.below hb, h.p10.below hb, fun j hj => q6u hb (h.ty j hj), fun j hj => q6u hb (h.sg j hj)⟩
abbrev LIM : Nat := 140737488355328
theorem q9a (k o n : Int) (s : ByteArray) (A : Option Addr) (l c : Nat) (a t p : Int) (h : k = 9 -> 1 <= o /\ o <= 13) (w : World) : Calls Tryz.prog 170 #[.agg #[.int .i64 k, .int .i64 o, .int .i64 n, .string s, .slice A l c, .int .i64 a, .int .i64 t, .int .i64 p]] w fun e' w' => e' = .returned (.int .i64 (q0u k o)) /\ Below w.heap.size w w' := by
 have HB := q0h (q0d (Below.refl w.heap.size w) (.cells #[.int .i64 k, .int .i64 o, .int .i64 n, .string s, .slice A l c, .int .i64 a, .int .i64 t, .int .i64 p] 86))
 by_cases hk : k = 9
 ·subst hk
  have h2 := h rfl
  rcases (show o = 1 \/ o = 2 \/ o = 3 \/ o = 4 \/ o = 5 \/ o = 6 \/ o = 7 \/ o = 8 \/ o = 9 \/ o = 10 \/ o = 11 \/ o = 12 \/ o = 13 by omega) with rfl | rfl | rfl | rfl | rfl | rfl | rfl | rfl | rfl | rfl | rfl | rfl | rfl
  ·have hix : ∀ W, (Instr.index 205 (.agg #[.int .i64 0, .int .i64 4, .int .i64 4, .int .i64 5, .int .i64 5, .int .i64 5, .int .i64 3, .int .i64 3, .int .i64 3, .int .i64 3, .int .i64 3, .int .i64 3, .int .i64 2, .int .i64 1]) (.int .i64 1)).run Tryz.prog W = .ok (.int .i64 4) W := fun W => by kernel_rfl
   go_enter Tryz.func170, Tryz.ntmps170
   go_wp2_with fail
   go_ret
   exact ⟨rfl, HB.out⟩
  ·have hix : ∀ W, (Instr.index 205 (.agg #[.int .i64 0, .int .i64 4, .int .i64 4, .int .i64 5, .int .i64 5, .int .i64 5, .int .i64 3, .int .i64 3, .int .i64 3, .int .i64 3, .int .i64 3, .int .i64 3, .int .i64 2, .int .i64 1]) (.int .i64 2)).run Tryz.prog W = .ok (.int .i64 4) W := fun W => by kernel_rfl
   go_enter Tryz.func170, Tryz.ntmps170
   go_wp2_with fail
   go_ret
   exact ⟨rfl, HB.out⟩
  ·have hix : ∀ W, (Instr.index 205 (.agg #[.int .i64 0, .int .i64 4, .int .i64 4, .int .i64 5, .int .i64 5, .int .i64 5, .int .i64 3, .int .i64 3, .int .i64 3, .int .i64 3, .int .i64 3, .int .i64 3, .int .i64 2, .int .i64 1]) (.int .i64 3)).run Tryz.prog W = .ok (.int .i64 5) W := fun W => by kernel_rfl
   go_enter Tryz.func170, Tryz.ntmps170
   go_wp2_with fail
   go_ret
   exact ⟨rfl, HB.out⟩
  ·have hix : ∀ W, (Instr.index 205 (.agg #[.int .i64 0, .int .i64 4, .int .i64 4, .int .i64 5, .int .i64 5, .int .i64 5, .int .i64 3, .int .i64 3, .int .i64 3, .int .i64 3, .int .i64 3, .int .i64 3, .int .i64 2, .int .i64 1]) (.int .i64 4)).run Tryz.prog W = .ok (.int .i64 5) W := fun W => by kernel_rfl
   go_enter Tryz.func170, Tryz.ntmps170
   go_wp2_with fail
   go_ret
   exact ⟨rfl, HB.out⟩
  ·have hix : ∀ W, (Instr.index 205 (.agg #[.int .i64 0, .int .i64 4, .int .i64 4, .int .i64 5, .int .i64 5, .int .i64 5, .int .i64 3, .int .i64 3, .int .i64 3, .int .i64 3, .int .i64 3, .int .i64 3, .int .i64 2, .int .i64 1]) (.int .i64 5)).run Tryz.prog W = .ok (.int .i64 5) W := fun W => by kernel_rfl
   go_enter Tryz.func170, Tryz.ntmps170
   go_wp2_with fail
   go_ret
   exact ⟨rfl, HB.out⟩
  ·have hix : ∀ W, (Instr.index 205 (.agg #[.int .i64 0, .int .i64 4, .int .i64 4, .int .i64 5, .int .i64 5, .int .i64 5, .int .i64 3, .int .i64 3, .int .i64 3, .int .i64 3, .int .i64 3, .int .i64 3, .int .i64 2, .int .i64 1]) (.int .i64 6)).run Tryz.prog W = .ok (.int .i64 3) W := fun W => by kernel_rfl
   go_enter Tryz.func170, Tryz.ntmps170
   go_wp2_with fail
   go_ret
   exact ⟨rfl, HB.out⟩
  ·have hix : ∀ W, (Instr.index 205 (.agg #[.int .i64 0, .int .i64 4, .int .i64 4, .int .i64 5, .int .i64 5, .int .i64 5, .int .i64 3, .int .i64 3, .int .i64 3, .int .i64 3, .int .i64 3, .int .i64 3, .int .i64 2, .int .i64 1]) (.int .i64 7)).run Tryz.prog W = .ok (.int .i64 3) W := fun W => by kernel_rfl
   go_enter Tryz.func170, Tryz.ntmps170
   go_wp2_with fail
   go_ret
   exact ⟨rfl, HB.out⟩
  ·have hix : ∀ W, (Instr.index 205 (.agg #[.int .i64 0, .int .i64 4, .int .i64 4, .int .i64 5, .int .i64 5, .int .i64 5, .int .i64 3, .int .i64 3, .int .i64 3, .int .i64 3, .int .i64 3, .int .i64 3, .int .i64 2, .int .i64 1]) (.int .i64 8)).run Tryz.prog W = .ok (.int .i64 3) W := fun W => by kernel_rfl
   go_enter Tryz.func170, Tryz.ntmps170
   go_wp2_with fail
   go_ret
   exact ⟨rfl, HB.out⟩
  ·have hix : ∀ W, (Instr.index 205 (.agg #[.int .i64 0, .int .i64 4, .int .i64 4, .int .i64 5, .int .i64 5, .int .i64 5, .int .i64 3, .int .i64 3, .int .i64 3, .int .i64 3, .int .i64 3, .int .i64 3, .int .i64 2, .int .i64 1]) (.int .i64 9)).run Tryz.prog W = .ok (.int .i64 3) W := fun W => by kernel_rfl
   go_enter Tryz.func170, Tryz.ntmps170
   go_wp2_with fail
   go_ret
   exact ⟨rfl, HB.out⟩
  ·have hix : ∀ W, (Instr.index 205 (.agg #[.int .i64 0, .int .i64 4, .int .i64 4, .int .i64 5, .int .i64 5, .int .i64 5, .int .i64 3, .int .i64 3, .int .i64 3, .int .i64 3, .int .i64 3, .int .i64 3, .int .i64 2, .int .i64 1]) (.int .i64 10)).run Tryz.prog W = .ok (.int .i64 3) W := fun W => by kernel_rfl
   go_enter Tryz.func170, Tryz.ntmps170
   go_wp2_with fail
   go_ret
   exact ⟨rfl, HB.out⟩
  ·have hix : ∀ W, (Instr.index 205 (.agg #[.int .i64 0, .int .i64 4, .int .i64 4, .int .i64 5, .int .i64 5, .int .i64 5, .int .i64 3, .int .i64 3, .int .i64 3, .int .i64 3, .int .i64 3, .int .i64 3, .int .i64 2, .int .i64 1]) (.int .i64 11)).run Tryz.prog W = .ok (.int .i64 3) W := fun W => by kernel_rfl
   go_enter Tryz.func170, Tryz.ntmps170
   go_wp2_with fail
   go_ret
   exact ⟨rfl, HB.out⟩
  ·have hix : ∀ W, (Instr.index 205 (.agg #[.int .i64 0, .int .i64 4, .int .i64 4, .int .i64 5, .int .i64 5, .int .i64 5, .int .i64 3, .int .i64 3, .int .i64 3, .int .i64 3, .int .i64 3, .int .i64 3, .int .i64 2, .int .i64 1]) (.int .i64 12)).run Tryz.prog W = .ok (.int .i64 2) W := fun W => by kernel_rfl
   go_enter Tryz.func170, Tryz.ntmps170
   go_wp2_with fail
   go_ret
   exact ⟨rfl, HB.out⟩
  ·have hix : ∀ W, (Instr.index 205 (.agg #[.int .i64 0, .int .i64 4, .int .i64 4, .int .i64 5, .int .i64 5, .int .i64 5, .int .i64 3, .int .i64 3, .int .i64 3, .int .i64 3, .int .i64 3, .int .i64 3, .int .i64 2, .int .i64 1]) (.int .i64 13)).run Tryz.prog W = .ok (.int .i64 1) W := fun W => by kernel_rfl
   go_enter Tryz.func170, Tryz.ntmps170
   go_wp2_with fail
   go_ret
   exact ⟨rfl, HB.out⟩
 ·have y : (k != 9) = true := by simpa using hk
  have HR := q0h (show q0u k o = 6 by unfold q0u; rw [if_pos hk])
  go_enter Tryz.func170, Tryz.ntmps170
  go_wp2_with fail
  go_ret
  exact ⟨by rw [HR.out]; rfl, HB.out⟩
def q9d (e : Ex) : Prop := ∀ (w0 : World) (cs : List Value) (B b lv : Nat) (p : List UInt8) (w : World), kEx.K w0 e cs -> GW w0 -> w0.heap.size <= B -> Below w0.heap.size w0 w -> Pg B b p lv w -> (q0q e p).length <= LIM ->
 Calls Tryz.prog 130 #[.pointer (some ⟨b, 0, none⟩), .agg cs.toArray] w fun e' w' => e' = .returned (.tuple #[]) /\ Pg B b (q0q e p) lv w' /\ PF B b w w'
theorem q0j {B b lv : Nat} {bs : List UInt8} {w : World} (h : Pg B b bs lv w) (ss : List ByteArray) (n : Nat) (hn : n = ss.length) (hsl : ss.length <= 1000) (q : List UInt8) (hq : q7k ss = q) (hlen : (bs ++ q).length <= LIM) :
  Calls Tryz.prog 42 #[.pointer (some ⟨b, 0, none⟩), .slice (some ⟨w.heap.size, 0, none⟩) n n] (w.alloc (.cells (ss.map Value.string).toArray 9)) fun e w' => e = .returned (.tuple #[]) /\ Pg B b (bs ++ q) lv w' /\ PF B b w w' := by
 have hba := q0d (Below.refl w.heap.size w) (.cells (ss.map Value.string).toArray 9)
 refine (z9l (h.below hba) (x3e.new ss h.lt n hn) hsl (by rw [hq]; exact hlen)).mono ?_
 rintro e w' ⟨rfl, hp, hf⟩
 rw [hq] at hp
 exact ⟨rfl, hp, (PF.of_below hba h.bw).trans hf⟩
theorem q7a {e : Ex} (he : q9d e) (apart : Bool) (w0 : World) (cs : List Value) (B b lv : Nat) (p : List UInt8) (w : World) (hK : kEx.K w0 e cs) (hg : GW w0) (h0 : w0.heap.size <= B) (hb : Below w0.heap.size w0 w) (hp : Pg B b p lv w) (hl : (q4k (q0q e) apart p).length <= LIM) :
  Calls Tryz.prog 169 #[.pointer (some ⟨b, 0, none⟩), .agg cs.toArray, .bool apart] w fun e' w' => e' = .returned (.tuple #[]) /\ Pg B b (q4k (q0q e) apart p) lv w' /\ PF B b w w' := by
 obtain ⟨W, hW⟩ : ∃ W, W = w.alloc (.cells cs.toArray 86) := ⟨_, rfl⟩
 obtain ⟨bk, hbk⟩ : ∃ x, x = w.heap.size := ⟨_, rfl⟩
 have hba : Below w.heap.size w W := by rw [hW]; exact q0d (Below.refl _ _) _
 have hm : W.heap[bk]? = some (.cells cs.toArray 86 (0, 0)) := by rw [hW, hbk]; exact heap_alloc_new _ _
 have HPW := q0h (hp.below hba)
 have HFW := q0h (PF.of_below (b := b) hba hp.bw)
 have HBW := q0h (hb.trans (hba.mono hb.size))
 have HE := q0h (fun (q : List UInt8) (w1 : World) (h1 : Below w0.heap.size w0 w1) (h2 : Pg B b q lv w1) (h3 : (q0q e q).length <= LIM) => he w0 cs B b lv q w1 hK hg h0 h1 h2 h3)
 have HM := q0h hm
 have HBB := q0h (show bk ≠ b from by have := hp.lt; omega)
 have HW := q0h hW
 have HBK := q0h hbk
 have HL := q0h hl
 have H0 := q0h h0
 obtain ⟨k, o, n, s, A, l, c, a, t, pl, rfl⟩ := z5f hK
 have nby : ∀ w1 : World, w1.heap[bk]? = some (.cells (#[.int .i64 k, .int .i64 o, .int .i64 n, .string s, .slice A l c, .int .i64 a, .int .i64 t, .int .i64 pl]) 86 (0, 0)) -> ¬ j8a w1.heap[bk]? := fun w1 h => by
  rintro ⟨cur, fz, e⟩
  rw [h] at e
  injection e with e
  injection e with _ e _
  exact absurd e (by decide)
 have HNB := q0h nby
 clear nby hK hba hm hW hbk hp hb he hl h0 hg
 cases apart with
 | false =>
  go_enter Tryz.func169, Tryz.ntmps169
  go_wp2_with fail
  rw [<- HW.out]
  refine (HE.out p W HBW.out HPW.out HL.out).mono ?_
  rintro e' w1 ⟨rfl, hp1, hf1⟩
  have HP1 := q0h hp1
  have HF1 := q0h (HFW.out.trans hf1)
  clear hp1 hf1
  go_wp2_with fail
  go_end0
  exact ⟨rfl, HP1.out, HF1.out⟩
 | true =>
  have HL1 := q0h (show (q0q e (p ++ [40])).length + 1 <= LIM by have h := HL.out; unfold q4k at h; rw [if_pos rfl, List.length_append] at h; exact h)
  have HL2 := q0h (show (p ++ [40]).length <= LIM by have := q3p e (p ++ [40]); have := HL1.out; omega)
  go_enter Tryz.func169, Tryz.ntmps169
  go_upto_region 1 with fail
  rw [<- HW.out, <- HBK.out]
  go_wp2_with fail
  refine (q0j HPW.out [⟨#[40]⟩] 1 rfl (by decide) [40] rfl HL2.out).mono ?_
  rintro e' w1 ⟨rfl, hp1, hf1⟩
  have HP1 := q0h hp1
  have HF1 := q0h (HFW.out.trans hf1)
  have HB1 := q0h (HBW.out.trans (hf1.be.mono H0.out))
  have hm1 := (hf1.nb bk (q0c HM.out) HBB.out (HNB.out _ HM.out)).trans HM.out
  have lb := q0c hm1
  have z0 : w1.cell? ⟨bk, 0, none⟩ = some (.int .i64 k) := (q0a hm1 0).trans rfl
  have z1 : w1.cell? ⟨bk, 1, none⟩ = some (.int .i64 o) := (q0a hm1 1).trans rfl
  have z2 : w1.cell? ⟨bk, 2, none⟩ = some (.int .i64 n) := (q0a hm1 2).trans rfl
  have z3 : w1.cell? ⟨bk, 3, none⟩ = some (.string s) := (q0a hm1 3).trans rfl
  have z4 : w1.cell? ⟨bk, 4, none⟩ = some (.slice A l c) := (q0a hm1 4).trans rfl
  have z5 : w1.cell? ⟨bk, 5, none⟩ = some (.int .i64 a) := (q0a hm1 5).trans rfl
  have z6 : w1.cell? ⟨bk, 6, none⟩ = some (.int .i64 t) := (q0a hm1 6).trans rfl
  have z7 : w1.cell? ⟨bk, 7, none⟩ = some (.int .i64 pl) := (q0a hm1 7).trans rfl
  clear hp1 hf1 hm1
  go_wp2_with fail
  refine (HE.out (p ++ [40]) w1 HB1.out HP1.out (by have := HL1.out; omega)).mono ?_
  rintro e' w2 ⟨rfl, hp2, hf2⟩
  have HP2 := q0h hp2
  have HF2 := q0h (HF1.out.trans hf2)
  clear hp2 hf2 lb z0 z1 z2 z3 z4 z5 z6 z7
  go_wp2_with fail
  refine (q0j HP2.out [⟨#[41]⟩] 1 rfl (by decide) [41] rfl HL.out).mono ?_
  rintro e' w3 ⟨rfl, hp3, hf3⟩
  have HP3 := q0h hp3
  have HF3 := q0h (HF2.out.trans hf3)
  clear hp3 hf3
  go_wp2_with fail
  try simp only [Exit.inBlock, Exit.then]
  refine bodyPost_ret (results_none rfl _ _ _) rfl ?_
  exact ⟨rfl, HP3.out, HF3.out⟩
end Go.Proofs.YtpfdhihbecpbeaaGreatDoor.E
