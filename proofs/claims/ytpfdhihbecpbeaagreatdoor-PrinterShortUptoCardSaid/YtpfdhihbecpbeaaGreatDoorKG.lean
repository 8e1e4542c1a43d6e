import Derived.Test.YtpfdhihbecpbeaaGreatDoorKF
import Derived.Test.YtpfdhihbecpbeaaGreatDoorShelf2
import Derived.Test.YtpfdhihbecpbeaaGreatDoorKE
import Derived.Shelf.Strings.Builder1
import Derived.Shelf.Strconv.Itoa3
import Derived.Laws.Bits64b
import Derived.Test.YtpfdhihbecpbeaaGreatDoorKA
import Derived.Laws.EntriesVeiled
import Derived.Deep.DeepCutAuto
import Derived.Deep.CutRange
import Derived.Test.YtpfdhihbecpbeaaGreatDoorKB
/- Contracts of the program's functions, and lemmas: no statement of its own. -/
namespace Go.Proofs.YtpfdhihbecpbeaaGreatDoor.E
open Go Go.RowKit Go.Proofs.YtpfdhihbecpbeaaGreatDoorW.PrintWords Go.Proofs.YtpfdhihbecpbeaaGreatDoorW.PrintLast Go.Proofs.YtpfdhihbecpbeaaGreatDoorW.PrintMore
set_option linter.unusedVariables false
set_option linter.unusedSimpArgs false
set_option maxRecDepth 100000
set_option maxHeartbeats 4000000
theorem infoBuilder : (Tryz.prog.info? 76).map (·.size) = some 2 := by kernel_rfl
theorem infoByte : (Tryz.prog.info? 5).map (fun i => (i.zero, i.size, i.bytes)) = some (some (.int .u8 0), 1, 1) := by kernel_rfl
def isBy (x : Option Obj) : Prop := ∃ cur fz, x = some (.cells cur 5 fz)
structure PF (B b : Nat) (w w' : World) : Prop where
 be : Below B w w'
 nb : ∀ k, k < w.heap.size -> k ≠ b -> ¬ isBy w.heap[k]? -> w'.heap[k]? = w.heap[k]?
theorem PF.refl (B b : Nat) (w : World) : PF B b w w := ⟨Below.refl _ _, fun _ _ _ _ => rfl⟩
theorem PF.trans {B b : Nat} {w w1 w2 : World} (h : PF B b w w1) (k : PF B b w1 w2) : PF B b w w2 :=
 ⟨h.be.trans k.be, fun i hi hb hn => by
  have e := h.nb i hi hb hn
  exact (k.nb i (Nat.lt_of_lt_of_le hi h.be.size) hb (by rw [e]; exact hn)).trans e⟩
theorem PF.of_below {B b : Nat} {w w' : World} (h : Below w.heap.size w w') (hB : B <= w.heap.size) : PF B b w w' := ⟨h.mono hB, fun k hk _ _ => h.block k hk⟩
structure BT (T : TypeId) (n : Nat) : Prop where
 ne : T ≠ 5
 lies : liesAt Tryz.prog Tryz.prog.depth T ((n + 2) / Tryz.prog.cellsOf T) 0 76 1 = true
structure PG (T : TypeId) (rest : List Value) (B b : Nat) (bs : List UInt8) (w : World) : Prop where
 bt : BT T rest.length
 ge : B <= b
 bw : B <= w.heap.size
 mem : ∃ p v, w.heap[b]? = some (.cells (p :: v :: rest).toArray T (0, 0)) /\ (p = .pointer none \/ p = .pointer (some ⟨b, 0, none⟩)) /\ w.ownsRow B 5 1 v bs.length (Lib.byteCells bs)
theorem PG.lt {T : TypeId} {rest : List Value} {B b : Nat} {bs : List UInt8} {w : World} (h : PG T rest B b bs w) : b < w.heap.size := by
 obtain ⟨p, v, hm, _⟩ := h.mem
 exact blk_lt hm
theorem PG.below {T : TypeId} {rest : List Value} {B b : Nat} {bs : List UInt8} {w w' : World} (h : PG T rest B b bs w) (hb : Below w.heap.size w w') : PG T rest B b bs w' := by
 obtain ⟨p, v, hm, hp, ho⟩ := h.mem
 exact ⟨h.bt, h.ge, Nat.le_trans h.bw hb.size, p, v, (hb.block b (blk_lt hm)).trans hm, hp, ho.kept (row := none) ⟨hb.os, hb.tape, hb.output, hb.size, fun k hk _ => hb.block k hk⟩ (by cases v.ownBlock <;> simp)⟩
theorem PG.setRest {T : TypeId} {rest rest' : List Value} {B b : Nat} {bs : List UInt8} {w : World} (h : PG T rest B b bs w) (i : Nat) (u : Value) (hr : rest' = rest.set i u) : PG T rest' B b bs (w.setCell ⟨b, i + 2, none⟩ u) /\ PF B b w (w.setCell ⟨b, i + 2, none⟩ u) := by
 obtain ⟨p, v, hm, hp, ho⟩ := h.mem
 have hne := Lib.ownBlock_ne ho hm h.bt.ne
 refine ⟨⟨by rw [hr, List.length_set]; exact h.bt, h.ge, by simpa using h.bw, p, v, ?_, hp, ?_⟩, ⟨(Below.refl B w).setCell (p := ⟨b, i + 2, none⟩) h.ge u, fun k _ hk _ => Below.heap_setCell _ _ _ _ hk⟩⟩
 ·have := blk_set hm (i + 2) u
  rw [this, hr]
  simp
 ·exact ho.kept (row := some b) ⟨rfl, rfl, rfl, by simp [World.setCell], fun k _ hk => Below.heap_setCell _ _ _ _ (fun e => hk (by simp [e]))⟩ (Or.inr hne)
theorem bCheck_used (b : Nat) (w : World) (h0 : w.cell? ⟨b, 0, none⟩ = some (.pointer (some ⟨b, 0, none⟩))) :
  Calls Tryz.prog 128 #[.pointer (some ⟨b, 0, none⟩)] w fun e w' => e = .returned (.tuple #[]) /\ w' = w := by
 obtain ⟨j, hj, hjs⟩ := Option.map_eq_some_iff.1 infoBuilder
 go_enter Tryz.func128, Tryz.ntmps128
 go_wp2_with fail
 rw [Lib.run_neq_ptr_same w _ Tryz.underlying73 hj]
 go_wp2_with fail
 go_end0
 exact ⟨rfl, rfl⟩
theorem bCheck_fresh {T : TypeId} {n : Nat} (hT : BT T n) (b : Nat) (w : World) (h0 : w.cell? ⟨b, 0, none⟩ = some (.pointer none)) (hsh : w.shape? b = some (T, n + 2)) (hfz : w.frozen? ⟨b, 0, none⟩ = false) :
  Calls Tryz.prog 128 #[.pointer (some ⟨b, 0, none⟩)] w fun e w' => e = .returned (.tuple #[]) /\ w' = w.setCell ⟨b, 0, none⟩ (.pointer (some ⟨b, 0, none⟩)) := by
 obtain ⟨j, hj, hjs⟩ := Option.map_eq_some_iff.1 infoBuilder
 have HL := Lib.hid hT.lies
 clear hT
 go_enter Tryz.func128, Tryz.ntmps128
 go_wp2_with fail
 rw [Lib.run_to_unsafe w ⟨b, 0, none⟩ Tryz.underlying73 Tryz.underlying168 hj (by rw [hjs]; decide) hsh (by show 0 < n + 2; omega)]
 simp only [Result.andThen]
 rw [Oper.upon_value]
 go_wp2_with fail
 rw [run_callFunc_extern Tryz.func164 (by kernel_rfl) (by kernel_rfl) (by kernel_rfl) (e := Extern.AbiNoEscape.same) (by kernel_rfl)]
 rw [Lib.run_noEscape]
 simp only [Result.andThen]
 rw [Oper.upon_value]
 go_wp2_with fail
 rw [Lib.run_from_unsafe w ⟨b, 0, none⟩ Tryz.underlying168 Tryz.underlying73 hj hsh HL.out]
 simp only [Result.andThen]
 rw [Oper.upon_value]
 go_wp2_with fail
 go_end0
 exact ⟨rfl, rfl⟩
theorem bCheck_any {T : TypeId} {rest : List Value} {B b : Nat} {bs : List UInt8} {w : World} (h : PG T rest B b bs w) :
  Calls Tryz.prog 128 #[.pointer (some ⟨b, 0, none⟩)] w fun e w' => e = .returned (.tuple #[]) /\ PF B b w w' /\ ∃ v, w'.heap[b]? = some (.cells (.pointer (some ⟨b, 0, none⟩) :: v :: rest).toArray T (0, 0)) /\ w'.ownsRow B 5 1 v bs.length (Lib.byteCells bs) := by
 obtain ⟨p, v, hm, hp, ho⟩ := h.mem
 have hne := Lib.ownBlock_ne ho hm h.bt.ne
 rcases hp with rfl | rfl
 ·refine (bCheck_fresh h.bt b w ((blk_cell hm 0).trans rfl) (by simp [World.shape?, hm]) (blk_frozen hm 0)).mono ?_
  rintro e w' ⟨rfl, rfl⟩
  refine ⟨rfl, ⟨(Below.refl B w).setCell (p := ⟨b, 0, none⟩) h.ge _, fun k _ hk _ => Below.heap_setCell _ _ _ _ hk⟩, v, blk_put hm 0 _ rfl, ?_⟩
  exact ho.kept (row := some b) ⟨rfl, rfl, rfl, by simp [World.setCell], fun k _ hk => Below.heap_setCell _ _ _ _ (fun e => hk (by simp [e]))⟩ (Or.inr hne)
 ·refine (bCheck_used b w ((blk_cell hm 0).trans rfl)).mono ?_
  rintro e w' ⟨rfl, rfl⟩
  exact ⟨rfl, PF.refl _ _ _, v, hm, ho⟩
theorem PG.grow {T : TypeId} {rest : List Value} {B b : Nat} {bs : List UInt8} {w w1 w2 : World} {v v' : Value} (h : PG T rest B b bs w) (hf : PF B b w w1) (hm : w1.heap[b]? = some (.cells (.pointer (some ⟨b, 0, none⟩) :: v :: rest).toArray T (0, 0))) (ho : w1.ownsRow B 5 1 v bs.length (Lib.byteCells bs)) (bs' : List UInt8) (ho' : w2.ownsRow B 5 1 v' bs'.length (Lib.byteCells bs')) (hg : w1.grownBy w2 v.ownBlock) :
  w2.heap[b]? = some (.cells (.pointer (some ⟨b, 0, none⟩) :: v :: rest).toArray T (0, 0)) /\ PG T rest B b bs' (w2.setCell ⟨b, 1, none⟩ v') /\ PF B b w (w2.setCell ⟨b, 1, none⟩ v') := by
 have hne := Lib.ownBlock_ne ho hm h.bt.ne
 have hb2 := (hg.block b (blk_lt hm) (fun e => hne e.symm)).trans hm
 have hne' := Lib.ownBlock_ne ho' hb2 h.bt.ne
 have hlt : ∀ k, v.ownBlock = some k -> B <= k := fun k hk => (ho.lt k hk).1
 have hsz : (w2.setCell ⟨b, 1, none⟩ v').heap.size = w2.heap.size := by simp
 refine ⟨hb2, ⟨h.bt, h.ge, by rw [hsz]; exact Nat.le_trans h.bw (Nat.le_trans hf.be.size hg.size), _, v', blk_put hb2 1 v' rfl, .inr rfl, ?_⟩, ?_⟩
 ·exact ho'.kept (row := some b) ⟨rfl, rfl, rfl, by simp [World.setCell], fun k _ hk => Below.heap_setCell _ _ _ _ (fun e => hk (by simp [e]))⟩ (Or.inr hne')
 ·refine hf.trans ⟨((Below.refl B w1).grown hg (Nat.le_trans h.bw hf.be.size) hlt).setCell (p := ⟨b, 1, none⟩) h.ge v', fun k hk hb hn => ?_⟩
  refine (Below.heap_setCell _ _ _ _ hb).trans (hg.block k hk (fun e => hn ?_))
  rcases ho.2 with ⟨hv, _⟩ | ⟨g, cap, cur, hv, _, hh, _⟩
  ·rw [hv] at e; cases e
  ·rw [hv] at e
   simp only [Value.ownBlock, Option.some.injEq] at e
   subst e
   exact ⟨cur, _, hh⟩
theorem bLen_any {T : TypeId} {rest : List Value} {B b : Nat} {bs : List UInt8} {w : World} (h : PG T rest B b bs w) : Calls Tryz.prog 86 #[.pointer (some ⟨b, 0, none⟩)] w fun e w' => e = .returned (.int .i64 bs.length) /\ w = w' := by
 obtain ⟨p, v, hm, hp, ho⟩ := h.mem
 obtain ⟨ao, cap, rfl⟩ : ∃ ao cap, v = .slice ao bs.length cap := by
  rcases ho.2 with ⟨hv, h0⟩ | ⟨g, cap, cur, hv, _⟩
  ·exact ⟨none, 0, by rw [hv, h0]⟩
  ·exact ⟨_, _, hv⟩
 have c1 : w.cell? ⟨b, 1, none⟩ = some (.slice ao bs.length cap) := (blk_cell hm 1).trans rfl
 clear h hm hp ho
 go_enter Tryz.func86, Tryz.ntmps86
 go_wp2_with fail
 go_ret
 exact ⟨rfl, rfl⟩
theorem wString_any {T : TypeId} {rest : List Value} {B b : Nat} {bs : List UInt8} {w : World} (h : PG T rest B b bs w) (s : ByteArray) (hlen : (bs ++ toL s).length <= 140737488355328) :
  Calls Tryz.prog 87 #[.pointer (some ⟨b, 0, none⟩), .string s] w fun e w' => e = .returned (.tuple #[.int .i64 s.size, .nilIface]) /\ PG T rest B b (bs ++ toL s) w' /\ PF B b w w' := by
 obtain ⟨i0, hi, hz0, hz1, hz2⟩ := info_parts infoByte
 have hl2 : bs.length + s.size <= 140737488355328 := by
  rw [List.length_append] at hlen
  have : (toL s).length = s.size := by show s.data.toList.length = _; rw [Array.length_toList]; rfl
  omega
 have hll : (bs ++ toL s).length = bs.length + s.size := by
  rw [List.length_append]
  have : (toL s).length = s.size := by show s.data.toList.length = _; rw [Array.length_toList]; rfl
  omega
 have HG := Lib.hid h
 have HC := Lib.hid (bCheck_any h)
 have HLL := Lib.hid hll
 clear h hlen hll
 go_enter Tryz.func87, Tryz.ntmps87
 go_wp2_with fail
 refine HC.out.mono ?_
 rintro e w1 ⟨rfl, hf, v, hm, ho⟩
 have c0 : w1.cell? ⟨b, 0, none⟩ = some (.pointer (some ⟨b, 0, none⟩)) := (blk_cell hm 0).trans rfl
 have c1 : w1.cell? ⟨b, 1, none⟩ = some v := (blk_cell hm 1).trans rfl
 have HF := Lib.hid hf
 have HM := Lib.hid hm
 have HO := Lib.hid ho
 clear hf hm ho HC
 go_wp2_with (at_builtin; refine Lib.wpList_append_own_string _ rfl _ _ 74 9 rfl B 5 i0 Tryz.underlying74 Tryz.underlying9 hi hz0 hz1 hz2 _ _ _ rfl HO.out s rfl ?c3 ?c4 ?c5 ?_)
 case c3 => unfold maxLen; omega
 case c4 => exact hl2
 case c5 => exact Nat.le_trans HG.out.bw HF.out.be.size
 intro v' w2 hown' hgrow _
 have hown2 : w2.ownsRow B 5 1 v' (bs ++ toL s).length (Lib.byteCells (bs ++ toL s)) := by
  rw [HLL.out, Lib.byteCells_append]
  exact hown'
 obtain ⟨hb2, hpg, hpf⟩ := HG.out.grow HF.out HM.out HO.out _ hown2 hgrow
 have d1 : w2.cell? ⟨b, 1, none⟩ = some v := (blk_cell hb2 1).trans rfl
 have f1 : w2.frozen? ⟨b, 1, none⟩ = false := blk_frozen hb2 1
 obtain ⟨ao, n', cp, rfl⟩ : ∃ ao n' cp, v' = .slice ao n' cp := by
  rcases hown2.2 with ⟨hv, _⟩ | ⟨g, cap, cur, hv, _⟩
  ·exact ⟨none, 0, 0, hv⟩
  ·exact ⟨_, _, _, hv⟩
 have HPG := Lib.hid hpg
 have HPF := Lib.hid hpf
 clear hown' hown2 hgrow hb2 hpg hpf c0 c1 hz0 hz1 hz2 hi hl2
 go_wp2_with fail
 go_ret2
 exact ⟨rfl, HPG.out, HPF.out⟩
theorem wByte_any {T : TypeId} {rest : List Value} {B b : Nat} {bs : List UInt8} {w : World} (h : PG T rest B b bs w) (c : UInt8) (hlen : bs.length + 1 <= 140737488355328) :
  Calls Tryz.prog 125 #[.pointer (some ⟨b, 0, none⟩), .int .u8 (c.toNat : Nat)] w fun e w' => e = .returned .nilIface /\ PG T rest B b (bs ++ [c]) w' /\ PF B b w w' := by
 obtain ⟨i0, hi, hz0, hz1, hz2⟩ := info_parts infoByte
 have HG := Lib.hid h
 have HC := Lib.hid (bCheck_any h)
 clear h
 go_enter Tryz.func125, Tryz.ntmps125
 go_wp2_with fail
 refine HC.out.mono ?_
 rintro e w1 ⟨rfl, hf, v, hm, ho⟩
 have c0 : w1.cell? ⟨b, 0, none⟩ = some (.pointer (some ⟨b, 0, none⟩)) := (blk_cell hm 0).trans rfl
 have c1 : w1.cell? ⟨b, 1, none⟩ = some v := (blk_cell hm 1).trans rfl
 have HF := Lib.hid hf
 have HM := Lib.hid hm
 have HO := Lib.hid ho
 clear hf hm ho HC
 go_wp2_with (at_builtin; refine wpList_append_own _ rfl _ _ 74 rfl B 5 i0 (.int .u8 0) 1 1 Tryz.underlying74 hi hz0 hz1 hz2 rfl (by decide) _ _ _ rfl (HO.out.alloc _) ⟨w1.heap.size, 0, none⟩ 1 1 [.int .u8 (c.toNat : Nat)] rfl rfl ?c1 ?c2 ?c3 ?c4 ?c5 ?_)
 case c1 =>
  intro j u hj
  match j, hj with
  | 0, hj => simp at hj; subst hj; simp [Addr.add]
 case c2 => intro u hu; simp at hu; subst hu; rfl
 case c3 => unfold maxLen; omega
 case c4 => omega
 case c5 => have := HF.out.be.size; have := HG.out.bw; simp; omega
 intro v' w2 hown' hgrow _
 have hown2 : w2.ownsRow B 5 1 v' (bs ++ [c]).length (Lib.byteCells (bs ++ [c])) := by
  rw [show (bs ++ [c]).length = bs.length + 1 by simp, Lib.byteCells_append]
  exact hown'
 have hg2 : w1.grownBy w2 v.ownBlock := ⟨hgrow.os, hgrow.tape, hgrow.output, Nat.le_trans (by simp) hgrow.size, fun k hk hne => (hgrow.block k (by simp; omega) hne).trans (Below.heap_alloc _ _ _ hk)⟩
 obtain ⟨hb2, hpg, hpf⟩ := HG.out.grow HF.out HM.out HO.out _ hown2 hg2
 have d1 : w2.cell? ⟨b, 1, none⟩ = some v := (blk_cell hb2 1).trans rfl
 have f1 : w2.frozen? ⟨b, 1, none⟩ = false := blk_frozen hb2 1
 obtain ⟨ao, n', cp, rfl⟩ : ∃ ao n' cp, v' = .slice ao n' cp := by
  rcases hown2.2 with ⟨hv, _⟩ | ⟨g, cap, cur, hv, _⟩
  ·exact ⟨none, 0, 0, hv⟩
  ·exact ⟨_, _, _, hv⟩
 have HPG := Lib.hid hpg
 have HPF := Lib.hid hpf
 clear hown' hown2 hgrow hg2 hb2 hpg hpf c0 c1 hz0 hz1 hz2 hi
 go_wp2_with fail
 go_ret
 exact ⟨rfl, HPG.out, HPF.out⟩
theorem bt_page : BT 78 1 := ⟨by decide, by kernel_rfl⟩
theorem bt_builder : BT 76 0 := ⟨by decide, by kernel_rfl⟩
abbrev Pg (B b : Nat) (bs : List UInt8) (lv : Nat) (w : World) : Prop := PG 78 [.int .i64 (lv : Nat)] B b bs w
theorem wide_any {B b lv : Nat} {bs : List UInt8} {w : World} (h : Pg B b bs lv w) : Calls Tryz.prog 41 #[.pointer (some ⟨b, 0, none⟩)] w fun e w' => e = .returned (.bool (wideB bs)) /\ w = w' := by
 have HC := Lib.hid (bLen_any h)
 clear h
 go_enter Tryz.func41, Tryz.ntmps41
 go_wp2_with fail
 refine HC.out.mono ?_
 rintro e w1 ⟨rfl, rfl⟩
 go_wp2_with fail
 go_ret
 exact ⟨ret_bool (by unfold wideB; simp only [decide_eq_decide]; omega), rfl⟩
def SRow (w : World) (b : Nat) (v : Value) (ss : List ByteArray) : Prop := (ss = [] /\ v = .slice none 0 0) \/ ∃ r cp fz, v = .slice (some ⟨r, 0, none⟩) ss.length cp /\ w.heap[r]? = some (.cells (ss.map Value.string).toArray 9 fz) /\ r ≠ b
def catL (ss : List ByteArray) : List UInt8 := (ss.map toL).flatten
theorem SRow.keep {B b : Nat} {w w' : World} {v : Value} {ss : List ByteArray} (h : SRow w b v ss) (hf : PF B b w w') : SRow w' b v ss := by
 rcases h with h | ⟨r, cp, fz, hv, hm, hr⟩
 ·exact .inl h
 ·refine .inr ⟨r, cp, fz, hv, (hf.nb r (blk_lt hm) hr ?_).trans hm, hr⟩
  rintro ⟨cur, fz2, e⟩
  rw [hm] at e
  injection e with e
  injection e with _ e _
  exact absurd e (by decide)
theorem SRow.below {b : Nat} {w w' : World} {v : Value} {ss : List ByteArray} (h : SRow w b v ss) (hf : Below w.heap.size w w') : SRow w' b v ss := by
 rcases h with h | ⟨r, cp, fz, hv, hm, hr⟩
 ·exact .inl h
 ·exact .inr ⟨r, cp, fz, hv, (hf.block r (blk_lt hm)).trans hm, hr⟩
theorem SRow.new {b : Nat} {w : World} (ss : List ByteArray) (hb : b < w.heap.size) (n : Nat) (hn : n = ss.length) : SRow (w.alloc (.cells (ss.map Value.string).toArray 9)) b (.slice (some ⟨w.heap.size, 0, none⟩) n n) ss :=
 .inr ⟨w.heap.size, n, (0, 0), by rw [hn], heap_alloc_new _ _, by omega⟩
theorem put_any {B b lv : Nat} {bs : List UInt8} {w : World} (h : Pg B b bs lv w) {v : Value} {ss : List ByteArray} (hr : SRow w b v ss) (hsl : ss.length <= 1000) (hlen : (bs ++ catL ss).length <= 140737488355328) :
  Calls Tryz.prog 42 #[.pointer (some ⟨b, 0, none⟩), v] w fun e w' => e = .returned (.tuple #[]) /\ Pg B b (bs ++ catL ss) lv w' /\ PF B b w w' := by
 obtain ⟨A, cp, rfl⟩ : ∃ A cp, v = .slice A ss.length cp := by
  rcases hr with ⟨rfl, rfl⟩ | ⟨r, cp, fz, rfl, _⟩
  ·exact ⟨none, 0, rfl⟩
  ·exact ⟨_, cp, rfl⟩
 have HP := Lib.hid h
 have HR := Lib.hid hr
 have HL := Lib.hid hlen
 clear h hr hlen
 go_enter Tryz.func42, Tryz.ntmps42
 go_wp2_with fail
 go_loopw [8] (fun i w' => ∃ k : Nat, k <= ss.length /\ i = .int .i64 k /\ Hid (Pg B b (bs ++ catL (ss.take k)) lv w') /\ Hid (PF B b w w')) (fun i _ => ss.length - (intOf i).toNat)
 case atStart => exact ⟨0, by omega, rfl, by show Pg B b (bs ++ catL []) lv w; rw [show bs ++ catL [] = bs from List.append_nil _]; exact HP.out, PF.refl _ _ _⟩
 case round =>
  obtain ⟨k, hk, rfl, HQ, HF⟩ := hrel
  by_cases hlt : k < ss.length
  ·obtain ⟨x, hx⟩ : ∃ x, x = ss[k] := ⟨_, rfl⟩
   obtain ⟨r, hA, hrc⟩ : ∃ r, A = some ⟨r, 0, none⟩ /\ wr.cell? ⟨r, k, none⟩ = some (.string x) := by
    rcases HR.out.keep HF.out with ⟨e, _⟩ | ⟨r, cp, fz, e, hm, _⟩
    ·rw [e] at hlt; exact absurd hlt (by simp)
    ·injection e with e _ _
     refine ⟨r, e, ?_⟩
     simp only [World.cell?, hm]
     simp [hx, hlt]
   subst hA
   have hta : catL (ss.take (k + 1)) = catL (ss.take k) ++ toL x := by
    unfold catL
    rw [List.take_succ_eq_append_getElem hlt, List.map_append, List.flatten_append, <- hx]
    simp
   have hle : (bs ++ catL (ss.take k) ++ toL x).length <= 140737488355328 := by
    rw [List.append_assoc, <- hta]
    refine Nat.le_trans ?_ HL.out
    rw [List.length_append, List.length_append]
    refine Nat.add_le_add_left ?_ _
    unfold catL
    conv => rhs; rw [<- List.take_append_drop (k + 1) ss]
    rw [List.map_append, List.flatten_append, List.length_append]
    omega
   have HTA := Lib.hid hta
   have HLE := Lib.hid hle
   have hadd : (⟨r, 0, none⟩ : Addr).add k = ⟨r, k, none⟩ := by unfold Addr.add; split <;> simp_all
   clear hx hta hle
   go_wp2_with fail
   refine (wString_any HQ.out x HLE.out).mono ?_
   rintro e w1 ⟨rfl, hp, hf⟩
   have HP1 := Lib.hid (show Pg B b (bs ++ catL (ss.take (k + 1))) lv w1 by rw [HTA.out, <- List.append_assoc]; exact hp)
   have HF1 := Lib.hid (HF.out.trans hf)
   clear hp hf
   go_wp2_with fail
   go_roundw
   case rel => exact ⟨k + 1, by omega, by go_num, HP1, HF1⟩
   case measure => simp [intOf]; omega
  ·obtain rfl : k = ss.length := by omega
   rw [List.take_length] at HQ
   go_wp2_with fail
   go_end0
   exact ⟨rfl, HQ.out, HF.out⟩
theorem catL_tabs (lv : Nat) (s : ByteArray) (hs : s = ⟨(Lib.repeatL [9] lv).toArray⟩) : catL [s] = tabsT lv := by
 subst hs
 show (Lib.repeatL [9] lv).toArray.toList ++ [] = _
 unfold tabsT
 rw [List.append_nil]
 show Lib.repeatL [9] lv = _
 induction lv with
 | zero => rfl
 | succ n ih => rw [Lib.repeatL, ih, List.replicate_succ]; rfl
theorem start_any {B b lv : Nat} {bs : List UInt8} {w : World} (h : Pg B b bs lv w) {v : Value} {ss : List ByteArray} (hr : SRow w b v ss) (hsl : ss.length <= 1000) (hlv : lv <= 140737488355328) (hlen : (bs ++ tabsT lv ++ catL ss).length <= 140737488355328) :
  Calls Tryz.prog 88 #[.pointer (some ⟨b, 0, none⟩), v] w fun e w' => e = .returned (.tuple #[]) /\ Pg B b (bs ++ tabsT lv ++ catL ss) lv w' /\ PF B b w w' := by
 have HR9 := Lib.hid (Tryz.strings_Repeat ⟨#[9]⟩ lv w (by omega) (by show 1 * lv <= _; omega))
 obtain ⟨p, vb, hm, hpp, ho⟩ := h.mem
 have c2 : w.cell? ⟨b, 2, none⟩ = some (.int .i64 lv) := (blk_cell hm 2).trans rfl
 have HP := Lib.hid h
 have HR := Lib.hid hr
 have HL := Lib.hid hlen
 clear h hr hlen hm hpp ho
 go_enter Tryz.func88, Tryz.ntmps88
 go_wp2_with fail
 refine HR9.out.mono ?_
 rintro e w1 ⟨rfl, hb⟩
 obtain ⟨sx, hsx⟩ : ∃ s : ByteArray, s = ⟨(Lib.repeatL [9] lv).toArray⟩ := ⟨_, rfl⟩
 have hsx2 : (⟨(Lib.repeatL (⟨#[9]⟩ : ByteArray).data.toList lv).toArray⟩ : ByteArray) = sx := hsx.symm
 rw [hsx2]
 have HCT := Lib.hid (catL_tabs lv sx hsx)
 have HP1 := Lib.hid (HP.out.below hb)
 have HR1 := Lib.hid (HR.out.below hb)
 have HF1 := Lib.hid (PF.of_below (b := b) hb HP.out.bw)
 clear hsx hsx2 hb c2
 go_wp2_with fail
 have hba := below_alloc (Below.refl w1.heap.size w1) (.cells #[.string sx] 9)
 refine (put_any (HP1.out.below hba) (SRow.new [sx] HP1.out.lt 1 rfl) (by simp) (by rw [HCT.out]; exact Nat.le_trans (by simp only [List.length_append]; omega) HL.out)).mono ?_
 rintro e w2 ⟨rfl, hp, hf⟩
 rw [HCT.out] at hp
 have HP2 := Lib.hid hp
 have HR2 := Lib.hid ((HR1.out.below hba).keep hf)
 have HF2 := Lib.hid ((HF1.out.trans (PF.of_below hba HP1.out.bw)).trans hf)
 clear hba hp hf
 go_wp2_with fail
 refine (put_any HP2.out HR2.out hsl HL.out).mono ?_
 rintro e w3 ⟨rfl, hp, hf⟩
 have HP3 := Lib.hid hp
 have HF3 := Lib.hid (HF2.out.trans hf)
 clear hp hf
 go_wp2_with fail
 go_end0
 exact ⟨rfl, HP3.out, HF3.out⟩
theorem cellsByte : Tryz.prog.cellsOf 5 = 1 := by kernel_rfl
theorem bString_nil {T : TypeId} {rest : List Value} (B b : Nat) (p : Value) (w : World) (hbk : w.heap[b]? = some (.cells (p :: .slice none 0 0 :: rest).toArray T (0, 0))) :
  Calls Tryz.prog 44 #[.pointer (some ⟨b, 0, none⟩)] w fun e w' => e = .returned (.string ⟨#[]⟩) /\ Below B w w' := by
 have hUS : ∀ (W : World) (q : Option Addr), (Builtin.unsafeString_ #[119, 3] 9 #[.pointer q, .int .i64 0]).run Tryz.prog W = .ok (.string .empty) W := fun W q => Lib.run_unsafeString_none W _ _ _ q
 have c1 : w.drew.cell? ⟨b, 1, none⟩ = some (.slice none 0 0) := (blk_cell (w := w.drew) hbk 1).trans rfl
 have hSD : (Builtin.unsafeSliceData_ #[74] 119 #[.slice none 0 0]).run Tryz.prog w.drew = .ok (.pointer none) w.drew := rfl
 have mixed : Tryz.prog.follows Departure.mixedOrders = true := by kernel_rfl
 go_enter Tryz.func44, Tryz.ntmps44
 go_wp2_with fail
 go_region_o
 all_goals (go_wp2_with fail; go_ret; exact ⟨rfl, Below.drew (Below.refl B w)⟩)
theorem bString_noroom {T : TypeId} {rest : List Value} (B b g : Nat) (p : Value) (cur : Array Value) (w : World) (hBw : B <= w.heap.size) (hg : w.heap[g]? = some (.cells cur 5 (0, 0))) (hbk : w.heap[b]? = some (.cells (p :: .slice (some ⟨g, 0, none⟩) 0 0 :: rest).toArray T (0, 0))) :
  Calls Tryz.prog 44 #[.pointer (some ⟨b, 0, none⟩)] w fun e w' => e = .returned (.string ⟨#[]⟩) /\ Below B w w' := by
 have hUS : ∀ (W : World) (q : Option Addr), (Builtin.unsafeString_ #[119, 3] 9 #[.pointer q, .int .i64 0]).run Tryz.prog W = .ok (.string .empty) W := fun W q => Lib.run_unsafeString_none W _ _ _ q
 have c1 : w.drew.cell? ⟨b, 1, none⟩ = some (.slice (some ⟨g, 0, none⟩) 0 0) := (blk_cell (w := w.drew) hbk 1).trans rfl
 have hlt : b < w.heap.size := blk_lt hbk
 have hSD : (Builtin.unsafeSliceData_ #[74] 119 #[.slice (some ⟨g, 0, none⟩) 0 0]).run Tryz.prog w.drew = .ok (.pointer (some ⟨w.drew.heap.size, 0, none⟩)) (w.drew.alloc (.view ⟨g, 0, none⟩ 5)) :=
  Lib.run_unsafeSliceData_zero w.drew _ _ 5 Tryz.underlying119 ⟨g, 0, none⟩ 0 (5, cur.size) (by have hg' : w.drew.heap[g]? = some (.cells cur 5 (0, 0)) := hg; simp [World.shape?, hg'])
 have c2 : (w.drew.alloc (.view ⟨g, 0, none⟩ 5)).cell? ⟨b, 1, none⟩ = some (.slice (some ⟨g, 0, none⟩) 0 0) := by
  have h2 : (w.drew.alloc (.view ⟨g, 0, none⟩ 5)).heap[b]? = _ := (Lib.alloc_old w.drew _ b hlt).trans hbk
  exact (blk_cell h2 1).trans rfl
 have c3 : (w.alloc (.view ⟨g, 0, none⟩ 5)).drew.cell? ⟨b, 1, none⟩ = some (.slice (some ⟨g, 0, none⟩) 0 0) := c2
 clear hbk hg
 have mixed : Tryz.prog.follows Departure.mixedOrders = true := by kernel_rfl
 go_enter Tryz.func44, Tryz.ntmps44
 go_wp2_with fail
 go_region_o
 all_goals (go_wp2_with fail; go_ret; exact ⟨rfl, (Below.drew (Below.refl B w)).alloc hBw _⟩)
theorem bString_room {T : TypeId} {rest : List Value} (B b g cap : Nat) (p : Value) (w : World) (hc0 : cap ≠ 0) (hbk : w.heap[b]? = some (.cells (p :: .slice (some ⟨g, 0, none⟩) 0 cap :: rest).toArray T (0, 0))) :
  Calls Tryz.prog 44 #[.pointer (some ⟨b, 0, none⟩)] w fun e w' => e = .returned (.string ⟨#[]⟩) /\ Below B w w' := by
 have hUS : ∀ (W : World) (q : Option Addr), (Builtin.unsafeString_ #[119, 3] 9 #[.pointer q, .int .i64 0]).run Tryz.prog W = .ok (.string .empty) W := fun W q => Lib.run_unsafeString_none W _ _ _ q
 have c1 : w.drew.cell? ⟨b, 1, none⟩ = some (.slice (some ⟨g, 0, none⟩) 0 cap) := (blk_cell (w := w.drew) hbk 1).trans rfl
 have hSD : (Builtin.unsafeSliceData_ #[74] 119 #[.slice (some ⟨g, 0, none⟩) 0 cap]).run Tryz.prog w.drew = .ok (.pointer (some ⟨g, 0, none⟩)) w.drew :=
  Lib.run_unsafeSliceData_row _ _ _ _ _ _ hc0
 clear hc0
 have mixed : Tryz.prog.follows Departure.mixedOrders = true := by kernel_rfl
 go_enter Tryz.func44, Tryz.ntmps44
 go_wp2_with fail
 go_region_o
 all_goals (go_wp2_with fail; go_ret; exact ⟨rfl, Below.drew (Below.refl B w)⟩)
theorem bString_row {T : TypeId} {rest : List Value} (B b g cap : Nat) (p : Value) (cur : Array Value) (l : List UInt8) (h0 : l ≠ []) (w : World) (hbg : B <= g) (hg : w.heap[g]? = some (.cells cur 5 (0, 0))) (hnc : l.length <= cap) (hcm : cap <= maxLen) (hcs : cur.size = cap * 1) (hown : w.ownsRow B 5 1 (.slice (some ⟨g, 0, none⟩) l.length cap) l.length (Lib.byteCells l)) (hbk : w.heap[b]? = some (.cells (p :: .slice (some ⟨g, 0, none⟩) l.length cap :: rest).toArray T (0, 0))) :
  Calls Tryz.prog 44 #[.pointer (some ⟨b, 0, none⟩)] w fun e w' => e = .returned (.string ⟨l.toArray⟩) /\ Below B w w' := by
 have hl0 : l.length ≠ 0 := by simpa using h0
 have c1 : w.drew.cell? ⟨b, 1, none⟩ = some (.slice (some ⟨g, 0, none⟩) l.length cap) := (blk_cell (w := w.drew) hbk 1).trans rfl
 have hSD : (Builtin.unsafeSliceData_ #[74] 119 #[.slice (some ⟨g, 0, none⟩) l.length cap]).run Tryz.prog w.drew = .ok (.pointer (some ⟨g, 0, none⟩)) w.drew :=
  Lib.run_unsafeSliceData_row _ _ _ _ _ _ (by omega)
 have hUS : (Builtin.unsafeString_ #[119, 3] 9 #[.pointer (some ⟨g, 0, none⟩), .int .i64 l.length]).run Tryz.prog w.drew = .ok (.string ⟨l.toArray⟩) (w.drew.freeze ⟨g, 0, none⟩ l.length) := by
  refine Lib.run_unsafeString_row w.drew 119 3 9 5 Tryz.underlying119 cellsByte g cur.size (by have hg' : w.drew.heap[g]? = some (.cells cur 5 (0, 0)) := hg; simp [World.shape?, hg']) l h0 (by omega) (by unfold maxLen at hcm; omega) ?_
  intro j x hx
  exact hown.cells (g := g) rfl j (.int .u8 x.toNat) (by simp [Lib.byteCells, hx])
 clear hown hbk hg hcs hcm hnc h0
 have mixed : Tryz.prog.follows Departure.mixedOrders = true := by kernel_rfl
 go_enter Tryz.func44, Tryz.ntmps44
 go_wp2_with fail
 go_region_o
 all_goals (go_wp2_with fail; go_ret; exact ⟨rfl, Lib.below_freeze (Below.drew (Below.refl B w)) (p := ⟨g, 0, none⟩) hbg _⟩)
theorem bString_any {T : TypeId} {rest : List Value} {B b : Nat} {bs : List UInt8} {w : World} (h : PG T rest B b bs w) : Calls Tryz.prog 44 #[.pointer (some ⟨b, 0, none⟩)] w fun e w' => e = .returned (.string ⟨bs.toArray⟩) /\ Below B w w' := by
 obtain ⟨p, v, hm, _, ho⟩ := h.mem
 have ho2 := ho
 rcases ho.2 with ⟨hv, hn⟩ | ⟨g, cap, cur, hv, hbg, hg, hnc, hcm, hcs, _⟩
 ·obtain rfl : bs = [] := List.length_eq_zero_iff.1 hn
  rw [hv] at hm
  exact bString_nil B b p w hm
 ·rw [hv] at hm ho2
  cases bs with
  | nil =>
   by_cases hc0 : cap = 0
   ·subst hc0
    exact bString_noroom B b g p cur w h.bw hg hm
   ·exact bString_room B b g cap p w hc0 hm
  | cons x r => exact bString_row B b g cap p cur (x :: r) (by simp) w hbg hg hnc hcm hcs ho2 hm
def P10 (w : World) : Prop := Lib.TabIs Tryz.prog w "internal/strconv.uint64pow10" .u64 Lib.pow10Tab
theorem P10.below {w w' : World} (h : P10 w) (hb : Below w.heap.size w w') : P10 w' := by
 unfold P10 Lib.TabIs World.var? at h ⊢
 cases hg : Tryz.prog.globalNamed "internal/strconv.uint64pow10" with
 | none => rw [hg] at h; cases h
 | some g =>
  rw [hg] at h
  simp only [Option.bind_some] at h ⊢
  rcases Nat.lt_or_ge g w.heap.size with hlt | hge
  ·rw [hb.block g hlt]; exact h
  ·rw [Array.getElem?_eq_none hge] at h; cases h
open Go.Sort Go.Lib in
theorem holds_zero0 (w : World) (T : TypeId) (nd : Nat) (hs : nd <= 24) : Holds (fun (b : UInt8) => Value.int .u8 (b.toNat : Int)) (w.alloc (.cells Lib.zeros24 T)) w.heap.size 0 (Array.replicate nd (0 : UInt8)) := fun j hj => by
 have hj' : j < nd := by simpa using hj
 refine ⟨?_, World.frozen?_alloc_new _ _ _ _⟩
 rw [World.cell?_alloc_new, Lib.zeros24_at _ (by omega), getElem!_pos _ j hj]
 simp
open Go.Sort Go.Lib in
theorem fin_zero (w : World) (o : Obj) (dk : Array UInt8) (k : Nat) : ∃ os, (putRow (fun (b : UInt8) => Value.int .u8 (b.toNat : Int)) (w.alloc o) w.heap.size 0 dk).drewN k = grow (w.drewN k) os := by
 rw [alloc_eq_grow]
 obtain ⟨os', _, e⟩ := putRow_grow_new (fun (b : UInt8) => Value.int .u8 (b.toNat : Int)) w #[o] w.heap.size 0 dk (Nat.le_refl _)
 exact ⟨os', by rw [e]; rfl⟩
open Go.Sort Go.Lib in
theorem below_growN (w : World) (k : Nat) (os : Array Obj) : Below w.heap.size w (grow (w.drewN k) os) := by
 refine ⟨rfl, rfl, rfl, ?_, fun i hi => ?_⟩
 ·show w.heap.size <= (w.heap ++ os).size
  simp
 ·show (w.heap ++ os)[i]? = w.heap[i]?
  rw [Array.getElem?_append_left hi]
open Go.Sort Go.Lib in
theorem fu10_any (u : Nat) (hu : u < 18446744073709551616) (w : World) (htab : P10 w) :
  Calls Tryz.prog 163 #[.int .u64 u, .int .i64 10] w fun e w' => e = .returned (.string ⟨(Lib.decDigits u).toArray⟩) /\ Below w.heap.size w w' := by
 by_cases hs : u < 100
 ·have HC := Lib.hid (Tryz.internal_strconv_small u hs w)
  go_enter Tryz.func163, Tryz.ntmps163
  go_wp2_with fail
  refine HC.out.mono ?_
  rintro e w1 ⟨rfl, rfl⟩
  go_wp2_with fail
  go_ret
  exact ⟨rfl, Below.refl _ _⟩
 ·have hu1 : 1 <= u := by omega
  have hnd20 : Lib.nDigits u <= 20 := by have := Lib.numDigits_eq u hu1 hu; split at this <;> omega
  have hal : Tryz.prog.arrayLen 195 = 24 := by kernel_rfl
  have hsl1 : ∀ W, (Instr.sliceAt 195 (.pointer (some ⟨w.heap.size, 0, none⟩)) none (some (.int .i64 (Lib.nDigits u : Int))) none).run Tryz.prog W = .ok (.slice (some ⟨w.heap.size, 0, none⟩) (Lib.nDigits u) 24) W := fun W => by
   rw [run_sliceAt_array_h W 195 ⟨w.heap.size, 0, none⟩ (by kernel_rfl) .i64 (Lib.nDigits u : Int) (by omega) (by rw [hal]; omega)]
   go_simp
  have hH0 := holds_zero0 w 195 (Lib.nDigits u) (by omega)
  have hfmt := Tryz.internal_strconv_formatBase10 w.heap.size 0 24 u (Array.replicate (Lib.nDigits u) 0) (w.alloc (.cells Lib.zeros24 195)) hH0 (by rw [Array.size_replicate]; exact Lib.lt_pow_nDigits u) hu (by rw [Array.size_replicate]; omega)
  rw [Array.size_replicate] at hfmt
  have HH0 := Lib.hid hH0
  have HN := Lib.hid (Tryz.internal_strconv_numDigits u hu1 hu (w.alloc (.cells Lib.zeros24 195)) (Lib.tabIs_alloc htab _))
  have HF := Lib.hid hfmt
  clear hH0 hal hfmt htab
  go_enter Tryz.func163, Tryz.ntmps163
  go_wp2_with fail
  refine HN.out.mono ?_
  rintro e w' ⟨rfl, rfl⟩
  go_wp2_with fail
  refine HF.out.mono ?_
  rintro e w' ⟨rfl, k, v', dk, rfl, hF⟩
  have hcv : (convert 74 9 (.slice (some ⟨w.heap.size, 0, none⟩) (Lib.nDigits u) 24)).run Tryz.prog ((putRow (fun (b : UInt8) => Value.int .u8 (b.toNat : Int)) (w.alloc (.cells Lib.zeros24 195)) w.heap.size 0 dk).drewN k) = .ok (.string ⟨(Lib.decDigits u).toArray⟩) ((putRow (fun (b : UInt8) => Value.int .u8 (b.toNat : Int)) (w.alloc (.cells Lib.zeros24 195)) w.heap.size 0 dk).drewN k) := by
   have h := run_convert_bytes_back (P := Tryz.prog) ((putRow (fun (b : UInt8) => Value.int .u8 (b.toNat : Int)) (w.alloc (.cells Lib.zeros24 195)) w.heap.size 0 dk).drewN k) 74 9 5 ⟨w.heap.size, 0, none⟩ 24 (Lib.decDigits u) Tryz.underlying74 Tryz.underlying5 Tryz.underlying9 (fun j hj => by
    rw [Lib.row_is_numeral hF j hj, Lib.add_plain, World.cell?_drewN]
    exact cell?_putRow (fun (b : UInt8) => Value.int .u8 (b.toNat : Int)) _ w.heap.size 0 _ dk HH0.out (by rw [hF.size, Array.size_replicate]) j (by rw [hF.size]; rw [Lib.decDigits_length] at hj; exact hj))
   rw [Lib.decDigits_length] at h
   exact h
  go_wp2_with fail
  go_ret
  obtain ⟨os, eo⟩ := fin_zero w (.cells Lib.zeros24 195) dk k
  exact ⟨rfl, by rw [eo]; exact below_growN w k os⟩
theorem fu_any (u : Nat) (hu : u < 18446744073709551616) (w : World) (htab : P10 w) :
  Calls Tryz.prog 127 #[.int .u64 u, .int .i64 10] w fun e w' => e = .returned (.string ⟨(Lib.decDigits u).toArray⟩) /\ Below w.heap.size w w' := by
 have HC := Lib.hid (fu10_any u hu w htab)
 clear htab
 go_enter Tryz.func127, Tryz.ntmps127
 go_wp2_with fail
 refine HC.out.mono ?_
 rintro e w1 ⟨rfl, hb⟩
 have HB := Lib.hid hb
 clear hb
 go_wp2_with fail
 go_ret
 exact ⟨rfl, HB.out⟩
theorem itoa_any (n : Int) (h0 : -9223372036854775808 <= n) (h1 : n <= 9223372036854775807) (w : World) (htab : P10 w) : Calls Tryz.prog 81 #[.int .i64 n] w fun e w' => e = .returned (.string ⟨(Lib.itoa n).toArray⟩) /\ Below w.heap.size w w' := by
 refine (Tryz.strconv_Itoa n h0 h1 w htab).mono ?_
 rintro e w' ⟨rfl, k, os, rfl⟩
 exact ⟨rfl, below_growN w k os⟩
theorem fsize_any (a : Int) (h0 : -9223372036854775808 <= a) (h1 : a <= 9223372036854775807) (w : World) : Calls Tryz.prog 126 #[.int .i64 a] w fun e w' => e = .returned (.int .u64 (a.natAbs : Nat)) /\ w = w' := by
 by_cases h : a < 0
 ·go_enter Tryz.func126, Tryz.ntmps126
  go_wp2_with fail
  go_ret
  refine ⟨?_, rfl⟩
  show Ending.returned (.int .u64 (IntKind.u64.wrap (-IntKind.u64.wrap a))) = _
  rw [show IntKind.u64.wrap (-IntKind.u64.wrap a) = ((a.natAbs : Nat) : Int) by rw [IntKind.wrap_u64, IntKind.wrap_u64]; omega]
 ·go_enter Tryz.func126, Tryz.ntmps126
  go_wp2_with fail
  go_ret
  refine ⟨?_, rfl⟩
  show Ending.returned (.int .u64 a) = _
  rw [show ((a.natAbs : Nat) : Int) = a by omega]
theorem fracT_step (k u : Nat) : fracT (k + 1) u = UInt8.ofNat (48 + u * 10 / 4294967296) :: if u * 10 % 4294967296 = 0 then [] else fracT k (u * 10 % 4294967296) := rfl
theorem digit_toNat (d : Nat) (h : d < 208) : (UInt8.ofNat (48 + d)).toNat = 48 + d := by
 rw [UInt8.toNat_ofNat']
 omega
theorem toL_app (a b : ByteArray) : toL (a ++ b) = toL a ++ toL b := by
 show (a ++ b).data.toList = _
 rw [ByteArray.data_append, Array.toList_append]
 rfl
theorem mask32 (a : Nat) (ha : a < 18446744073709551616) : bits .and .u64 (a : Int) 4294967295 = ((a % 4294967296 : Nat) : Int) := by
 have h := bits_and_u64_nat a 4294967295 ha (by decide)
 rw [show ((4294967295 : Nat) : Int) = 4294967295 from rfl] at h
 rw [h]
 have h2 := Nat.and_two_pow_sub_one_eq_mod a 32
 rw [show (2 : Nat) ^ 32 - 1 = 4294967295 by decide, show (2 : Nat) ^ 32 = 4294967296 by decide] at h2
 rw [h2]
theorem frac_dvd {j f : Nat} (hj : j + 1 <= 32) (h : 2 ^ j ∣ f) : 2 ^ (j + 1) ∣ f * 10 % 4294967296 := by
 have h1 : 2 ^ (j + 1) ∣ f * 10 := by
  obtain ⟨c, rfl⟩ := h
  exact ⟨c * 5, by rw [Nat.pow_succ]; rw [Nat.mul_assoc, Nat.mul_assoc]; congr 1; omega⟩
 have h2 : 2 ^ (j + 1) ∣ 4294967296 := by
  have e : (4294967296 : Nat) = 2 ^ 32 := by decide
  rw [e]
  exact Nat.pow_dvd_pow 2 hj
 exact (Nat.dvd_mod_iff h2).2 h1
theorem fixPrint_any (a : Int) (h0 : -9223372036854775808 <= a) (h1 : a <= 9223372036854775807) (w : World) (hp : P10 w) : Calls Tryz.prog 84 #[.int .i64 a] w fun e w' => e = .returned (.string ⟨(fixT a).toArray⟩) /\ Below w.heap.size w w' := by
 obtain ⟨u, hu⟩ : ∃ u, u = a.natAbs := ⟨_, rfl⟩
 obtain ⟨B, hB⟩ : ∃ B, B = w.heap.size := ⟨_, rfl⟩
 obtain ⟨W, hW⟩ : ∃ W, W = w.alloc (.cells #[.pointer none, .slice none 0 0] 76) := ⟨_, rfl⟩
 have hg : PG 76 [] B B [] W := ⟨bt_builder, Nat.le_refl _, by rw [hW, hB]; simp, .pointer none, .slice none 0 0, by rw [hW, hB]; exact heap_alloc_new _ _, .inl rfl, World.ownsRow_nil _ _ _ _⟩
 have hbe : Below B w W := by rw [hW, hB]; exact below_alloc (Below.refl _ _) _
 have HP := Lib.hid hp
 have HW := Lib.hid hW
 have HB := Lib.hid hB
 have HG := Lib.hid hg
 have HBE := Lib.hid hbe
 have HU := Lib.hid hu
 have HS := Lib.hid (fun w => fsize_any a h0 h1 w)
 have hul : u <= 9223372036854775808 := by omega
 clear hp hW hB hg hbe hu
 by_cases hneg : a < 0
 ·go_enter Tryz.func84, Tryz.ntmps84
  go_wp2_with fail
  rw [<- HW.out, <- HB.out]
  refine (wByte_any HG.out 45 (by simp)).mono ?_
  rintro e w1 ⟨rfl, hp1, hf1⟩
  have HG1 := Lib.hid hp1
  have HF1 := Lib.hid hf1
  have HPRE := Lib.hid (show fixT a = [] ++ [45] ++ (Lib.decDigits (u / 4294967296) ++ [46] ++ fracT 40 (u % 4294967296)) by unfold fixT; rw [if_pos hneg, <- HU.out]; simp only [List.append_assoc]; rfl)
  obtain ⟨pre, hpre⟩ : ∃ p, p = [] ++ [(45 : UInt8)] := ⟨_, rfl⟩
  have HPL := Lib.hid (show pre.length <= 1 by rw [hpre]; simp)
  rw [<- hpre] at HG1 HPRE
  clear hp1 hf1 hpre
  go_wp2_with fail
  refine (HS.out _).mono ?_
  rintro e w2 ⟨rfl, rfl⟩
  rw [<- HU.out]
  go_wp2_with fail
  have HBW1 := Lib.hid (show Below w.heap.size w w1 by rw [<- HB.out]; exact HBE.out.trans HF1.out.be)
  rw [show ((u : Int) / 4294967296) = ((u / 4294967296 : Nat) : Int) from rfl]
  refine (fu_any (u / 4294967296) (by omega) w1 (HP.out.below HBW1.out)).mono ?_
  rintro e w2 ⟨rfl, hb⟩
  obtain ⟨ds, hds⟩ : ∃ d, d = Lib.decDigits (u / 4294967296) := ⟨_, rfl⟩
  have hdl : ds.length <= 20 := by
   rw [hds, Lib.decDigits_length]
   rcases Nat.eq_zero_or_pos (u / 4294967296) with h | h
   ·rw [h, Lib.nDigits_small (by omega)]; omega
   ·have := Lib.numDigits_eq (u / 4294967296) h (by omega); split at this <;> omega
  have HG2 := Lib.hid (HG1.out.below hb)
  have HF2 := Lib.hid (HF1.out.trans (PF.of_below (b := B) hb HG1.out.bw))
  rw [<- hds] at HPRE ⊢
  clear hds hb
  go_wp2_with fail
  refine (wString_any HG2.out _ (by rw [toL_app, List.length_append, List.length_append]; show pre.length + (ds.length + 1) <= _; have := HPL.out; omega)).mono ?_
  rintro e w3 ⟨rfl, hp3, hf3⟩
  rw [toL_app] at hp3
  have HG3 := Lib.hid (show PG 76 [] B B (pre ++ (ds ++ [46])) w3 from hp3)
  have HF3 := Lib.hid (HF2.out.trans hf3)
  have HL3 := Lib.hid (show (pre ++ (ds ++ [46])).length <= 30 by rw [List.length_append, List.length_append]; show pre.length + (ds.length + 1) <= _; have := HPL.out; omega)
  obtain ⟨tgt, htgt⟩ : ∃ t, t = pre ++ (ds ++ [46]) := ⟨_, rfl⟩
  rw [<- htgt] at HG3 HL3
  have HTG := Lib.hid (show tgt ++ fracT 40 (u % 4294967296) = fixT a by rw [HPRE.out, htgt]; simp only [List.append_assoc])
  clear hp3 hf3 htgt
  go_wp2_with fail
  go_loopg [4] 40 (fun k vu wr => ∃ (f : Nat) (bs : List UInt8), vu = .int .u64 ((f : Nat) : Int) /\ f < 4294967296 /\ 9 <= k /\ k <= 40 /\ bs.length + k <= 80 /\ Hid (2 ^ (40 - k) ∣ f) /\ Hid (PG 76 [] B B bs wr) /\ Hid (PF B B W wr) /\ Hid (bs ++ fracT k f = fixT a))
  case atStart =>
   refine ⟨u % 4294967296, tgt, ?_, Nat.mod_lt _ (by decide), by decide, by decide, by have := HL3.out; omega, Nat.one_dvd _, HG3, HF3, HTG⟩
   rw [mask32 u (by omega)]
  case round =>
   clear HG3 HF3 HTG HL3
   obtain ⟨f, bs, rfl, hf, hk, hk2, hbl, HD, HGr, HFr, HT⟩ := hrel
   cases gk with
   | zero => exact absurd hk (by decide)
   | succ k =>
    have hT := HT.out
    rw [fracT_step] at hT
    have HTR := Lib.hid hT
    obtain ⟨d, hd⟩ : ∃ d, d = f * 10 / 4294967296 := ⟨_, rfl⟩
    have hd10 : d < 10 := by omega
    have HDT := Lib.hid (digit_toNat d (by omega))
    have HDD := Lib.hid hd
    clear hT HT hd
    obtain ⟨g, hg⟩ : ∃ g, g = f * 10 % 4294967296 := ⟨_, rfl⟩
    have hm : bits .and .u64 ((f : Int) * 10) 4294967295 = ((g : Nat) : Int) := by
     have := mask32 (f * 10) (by omega)
     rw [<- hg] at this
     rw [<- this]
     rfl
    have hdv : ∀ (_ : 10 <= k + 1), 2 ^ (40 - k) ∣ g := fun h10 => by
     have := frac_dvd (j := 40 - (k + 1)) (by omega) HD.out
     rw [show 40 - (k + 1) + 1 = 40 - k by omega, <- hg] at this
     exact this
    have hend : k + 1 = 9 -> g = 0 := fun h9 => by
     have := frac_dvd (j := 40 - (k + 1)) (by omega) HD.out
     rw [show 40 - (k + 1) + 1 = 32 by omega, <- hg] at this
     exact Nat.eq_zero_of_dvd_of_lt this (by rw [hg]; exact Nat.mod_lt _ (by decide))
    have hg2 : g < 4294967296 := by rw [hg]; exact Nat.mod_lt _ (by decide)
    have HGG := Lib.hid hg
    have HDV := Lib.hid hdv
    rw [<- HGG.out, <- HDD.out] at HTR
    have HWB := Lib.hid (wByte_any HGr.out (UInt8.ofNat (48 + d)) (by omega))
    rw [HDT.out, show ((48 + d : Nat) : Int) = 48 + (f : Int) * 10 / 4294967296 by rw [HDD.out]; omega] at HWB
    clear hg hdv
    by_cases h0 : g = 0
    ·subst h0
     clear hend
     have HTZ := Lib.hid (show bs ++ [UInt8.ofNat (48 + d)] = fixT a by rw [<- HTR.out, if_pos rfl])
     go_wp2_with fail
     refine HWB.out.mono ?_
     rintro e w4 ⟨rfl, hp4, hf4⟩
     rw [HTZ.out] at hp4
     have HG4 := Lib.hid hp4
     have HF4 := Lib.hid (HFr.out.trans hf4)
     clear hp4 hf4
     go_wp2_with fail
     refine (bString_any HG4.out).mono ?_
     rintro e w5 ⟨rfl, hb⟩
     have HBB := Lib.hid (show Below w.heap.size w w5 by rw [<- HB.out]; exact (HBE.out.trans HF4.out.be).trans hb)
     clear hb
     go_wp2_with fail
     go_ret
     exact ⟨rfl, HBB.out⟩
    ·have y : (((g : Nat) : Int) == 0) = false := by rw [beq_eq_false_iff_ne]; omega
     have HTZ := Lib.hid (show bs ++ [UInt8.ofNat (48 + d)] ++ fracT k g = fixT a by rw [<- HTR.out, if_neg h0, List.append_assoc]; rfl)
     have hk10 : 10 <= k + 1 := by
      rcases Nat.lt_or_ge (k + 1) 10 with h | h
      ·exact absurd (hend (by omega)) h0
      ·exact h
     clear hend
     go_wp2_with fail
     refine HWB.out.mono ?_
     rintro e w4 ⟨rfl, hp4, hf4⟩
     have HG4 := Lib.hid hp4
     have HF4 := Lib.hid (HFr.out.trans hf4)
     clear hp4 hf4
     go_wp2_with fail
     go_roundg k
     case measure => omega
     case rel => exact ⟨g, bs ++ [UInt8.ofNat (48 + d)], rfl, hg2, by omega, by omega, by rw [List.length_append]; simp; omega, HDV.out hk10, HG4, HF4, HTZ⟩
 ·go_enter Tryz.func84, Tryz.ntmps84
  obtain ⟨w1, hw1⟩ : ∃ w1, w1 = W := ⟨_, rfl⟩
  have HF1 := Lib.hid (show PF B B W w1 by rw [hw1]; exact PF.refl _ _ _)
  obtain ⟨pre, hpre⟩ : ∃ p, p = ([] : List UInt8) := ⟨_, rfl⟩
  have HG1 := Lib.hid (show PG 76 [] B B pre w1 by rw [hw1, hpre]; exact HG.out)
  have HPRE := Lib.hid (show fixT a = pre ++ (Lib.decDigits (u / 4294967296) ++ [46] ++ fracT 40 (u % 4294967296)) by rw [hpre]; unfold fixT; rw [if_neg hneg, <- HU.out]; simp only [List.append_assoc, List.nil_append])
  have HPL := Lib.hid (show pre.length <= 1 by rw [hpre]; simp)
  have HW1 := Lib.hid hw1
  clear hpre hw1
  go_wp2_with fail
  rw [<- HW.out, <- HB.out, <- HW1.out]
  refine (HS.out _).mono ?_
  rintro e w2 ⟨rfl, rfl⟩
  rw [<- HU.out]
  go_wp2_with fail
  have HBW1 := Lib.hid (show Below w.heap.size w w1 by rw [<- HB.out]; exact HBE.out.trans HF1.out.be)
  rw [show ((u : Int) / 4294967296) = ((u / 4294967296 : Nat) : Int) from rfl]
  refine (fu_any (u / 4294967296) (by omega) w1 (HP.out.below HBW1.out)).mono ?_
  rintro e w2 ⟨rfl, hb⟩
  obtain ⟨ds, hds⟩ : ∃ d, d = Lib.decDigits (u / 4294967296) := ⟨_, rfl⟩
  have hdl : ds.length <= 20 := by
   rw [hds, Lib.decDigits_length]
   rcases Nat.eq_zero_or_pos (u / 4294967296) with h | h
   ·rw [h, Lib.nDigits_small (by omega)]; omega
   ·have := Lib.numDigits_eq (u / 4294967296) h (by omega); split at this <;> omega
  have HG2 := Lib.hid (HG1.out.below hb)
  have HF2 := Lib.hid (HF1.out.trans (PF.of_below (b := B) hb HG1.out.bw))
  rw [<- hds] at HPRE ⊢
  clear hds hb
  go_wp2_with fail
  refine (wString_any HG2.out _ (by rw [toL_app, List.length_append, List.length_append]; show pre.length + (ds.length + 1) <= _; have := HPL.out; omega)).mono ?_
  rintro e w3 ⟨rfl, hp3, hf3⟩
  rw [toL_app] at hp3
  have HG3 := Lib.hid (show PG 76 [] B B (pre ++ (ds ++ [46])) w3 from hp3)
  have HF3 := Lib.hid (HF2.out.trans hf3)
  have HL3 := Lib.hid (show (pre ++ (ds ++ [46])).length <= 30 by rw [List.length_append, List.length_append]; show pre.length + (ds.length + 1) <= _; have := HPL.out; omega)
  obtain ⟨tgt, htgt⟩ : ∃ t, t = pre ++ (ds ++ [46]) := ⟨_, rfl⟩
  rw [<- htgt] at HG3 HL3
  have HTG := Lib.hid (show tgt ++ fracT 40 (u % 4294967296) = fixT a by rw [HPRE.out, htgt]; simp only [List.append_assoc])
  clear hp3 hf3 htgt
  go_wp2_with fail
  go_loopg [4] 40 (fun k vu wr => ∃ (f : Nat) (bs : List UInt8), vu = .int .u64 ((f : Nat) : Int) /\ f < 4294967296 /\ 9 <= k /\ k <= 40 /\ bs.length + k <= 80 /\ Hid (2 ^ (40 - k) ∣ f) /\ Hid (PG 76 [] B B bs wr) /\ Hid (PF B B W wr) /\ Hid (bs ++ fracT k f = fixT a))
  case atStart =>
   refine ⟨u % 4294967296, tgt, ?_, Nat.mod_lt _ (by decide), by decide, by decide, by have := HL3.out; omega, Nat.one_dvd _, HG3, HF3, HTG⟩
   rw [mask32 u (by omega)]
  case round =>
   clear HG3 HF3 HTG HL3
   obtain ⟨f, bs, rfl, hf, hk, hk2, hbl, HD, HGr, HFr, HT⟩ := hrel
   cases gk with
   | zero => exact absurd hk (by decide)
   | succ k =>
    have hT := HT.out
    rw [fracT_step] at hT
    have HTR := Lib.hid hT
    obtain ⟨d, hd⟩ : ∃ d, d = f * 10 / 4294967296 := ⟨_, rfl⟩
    have hd10 : d < 10 := by omega
    have HDT := Lib.hid (digit_toNat d (by omega))
    have HDD := Lib.hid hd
    clear hT HT hd
    obtain ⟨g, hg⟩ : ∃ g, g = f * 10 % 4294967296 := ⟨_, rfl⟩
    have hm : bits .and .u64 ((f : Int) * 10) 4294967295 = ((g : Nat) : Int) := by
     have := mask32 (f * 10) (by omega)
     rw [<- hg] at this
     rw [<- this]
     rfl
    have hdv : ∀ (_ : 10 <= k + 1), 2 ^ (40 - k) ∣ g := fun h10 => by
     have := frac_dvd (j := 40 - (k + 1)) (by omega) HD.out
     rw [show 40 - (k + 1) + 1 = 40 - k by omega, <- hg] at this
     exact this
    have hend : k + 1 = 9 -> g = 0 := fun h9 => by
     have := frac_dvd (j := 40 - (k + 1)) (by omega) HD.out
     rw [show 40 - (k + 1) + 1 = 32 by omega, <- hg] at this
     exact Nat.eq_zero_of_dvd_of_lt this (by rw [hg]; exact Nat.mod_lt _ (by decide))
    have hg2 : g < 4294967296 := by rw [hg]; exact Nat.mod_lt _ (by decide)
    have HGG := Lib.hid hg
    have HDV := Lib.hid hdv
    rw [<- HGG.out, <- HDD.out] at HTR
    have HWB := Lib.hid (wByte_any HGr.out (UInt8.ofNat (48 + d)) (by omega))
    rw [HDT.out, show ((48 + d : Nat) : Int) = 48 + (f : Int) * 10 / 4294967296 by rw [HDD.out]; omega] at HWB
    clear hg hdv
    by_cases h0 : g = 0
    ·subst h0
     clear hend
     have HTZ := Lib.hid (show bs ++ [UInt8.ofNat (48 + d)] = fixT a by rw [<- HTR.out, if_pos rfl])
     go_wp2_with fail
     refine HWB.out.mono ?_
     rintro e w4 ⟨rfl, hp4, hf4⟩
     rw [HTZ.out] at hp4
     have HG4 := Lib.hid hp4
     have HF4 := Lib.hid (HFr.out.trans hf4)
     clear hp4 hf4
     go_wp2_with fail
     refine (bString_any HG4.out).mono ?_
     rintro e w5 ⟨rfl, hb⟩
     have HBB := Lib.hid (show Below w.heap.size w w5 by rw [<- HB.out]; exact (HBE.out.trans HF4.out.be).trans hb)
     clear hb
     go_wp2_with fail
     go_ret
     exact ⟨rfl, HBB.out⟩
    ·have y : (((g : Nat) : Int) == 0) = false := by rw [beq_eq_false_iff_ne]; omega
     have HTZ := Lib.hid (show bs ++ [UInt8.ofNat (48 + d)] ++ fracT k g = fixT a by rw [<- HTR.out, if_neg h0, List.append_assoc]; rfl)
     have hk10 : 10 <= k + 1 := by
      rcases Nat.lt_or_ge (k + 1) 10 with h | h
      ·exact absurd (hend (by omega)) h0
      ·exact h
     clear hend
     go_wp2_with fail
     refine HWB.out.mono ?_
     rintro e w4 ⟨rfl, hp4, hf4⟩
     have HG4 := Lib.hid hp4
     have HF4 := Lib.hid (HFr.out.trans hf4)
     clear hp4 hf4
     go_wp2_with fail
     go_roundg k
     case measure => omega
     case rel => exact ⟨g, bs ++ [UInt8.ofNat (48 + d)], rfl, hg2, by omega, by omega, by rw [List.length_append]; simp; omega, HDV.out hk10, HG4, HF4, HTZ⟩
theorem ptyped_any (t : Int) (w : World) : Calls Tryz.prog 78 #[.int .i64 t] w fun e w' => e = .returned (.bool (typedB t)) /\ w = w' := by
 go_enter Tryz.func78, Tryz.ntmps78
 go_wp2
 all_goals go_ret
 all_goals exact ⟨ret_bool (by unfold typedB; first | rfl | (simp; omega)), rfl⟩
def NumF (K : Nat) (k : Int) : Prop := Enters K /\ ∀ (n : Int) (w : World), Calls Tryz.prog K #[.int .i64 n] w fun e w' => e = .returned (.bool (numB k n)) /\ w = w'
theorem num_zero (k : Int) (h : k ≠ 1 /\ k ≠ 2 /\ k ≠ 3) : NumF 222 k := ⟨fun args w => by kernel_rfl, fun n w => by
 go_enter Tryz.func222, Tryz.ntmps222
 go_wp2
 go_ret
 exact ⟨ret_bool (by unfold numB; rw [if_neg (fun q => q.elim h.1 h.2.1), if_neg h.2.2]), rfl⟩⟩
theorem num_pos (k : Int) (h : k = 1 \/ k = 2) : NumF 223 k := ⟨fun args w => by kernel_rfl, fun n w => by
 go_enter Tryz.func223, Tryz.ntmps223
 go_wp2
 go_ret
 exact ⟨ret_bool (by unfold numB; rw [if_pos h]), rfl⟩⟩
theorem num_bool : NumF 224 3 := ⟨fun args w => by kernel_rfl, fun n w => by
 by_cases h : n = 0
 ·subst h
  go_enter Tryz.func224, Tryz.ntmps224
  go_wp2
  go_ret
  exact ⟨rfl, rfl⟩
 ·have y : (n == 0) = false := by simpa using h
  go_enter Tryz.func224, Tryz.ntmps224
  go_wp2
  go_ret
  exact ⟨ret_bool (by unfold numB; simp [h]), rfl⟩⟩
def ShAns (k : Int) (e : Ending) : Option (Bool × Int × Int × Int × Int) -> Prop
 | none => e = .returned (.tuple #[.agg #[.bool false, .int .i64 0, .int .i64 0, .int .i64 0, .int .i64 0, .nilFunc], .bool false])
 | some (nm, lo, hi, le, mo) => ∃ K, NumF K k /\ e = .returned (.tuple #[.agg #[.bool nm, .int .i64 lo, .int .i64 hi, .int .i64 le, .int .i64 mo, .func (.func K) #[] #[]], .bool true])
theorem shapes_1 (w : World) : Calls Tryz.prog 199 #[.int .i64 1] w fun e w' => Below w.heap.size w w' /\ ShAns 1 e (shapeS 1) := by
 have HB := Lib.hid (below_alloc (below_alloc (Below.refl w.heap.size w) (.cells #[.bool false, .int .i64 0, .int .i64 0, .int .i64 0, .int .i64 0, .func (.func 223) #[] #[]] 192)) (.cells #[.bool false, .int .i64 0, .int .i64 0, .int .i64 0, .int .i64 0, .func (.func 223) #[] #[]] 192))
 go_enter Tryz.func199, Tryz.ntmps199
 go_wp2_with fail
 refine bodyPost_ret (results_ct rfl _ _ w.heap.size 192 #[.bool false, .int .i64 0, .int .i64 0, .int .i64 0, .int .i64 0, .func (.func 223) #[] #[]] (0, 0) _ rfl ((Below.heap_alloc _ _ _ (by simp)).trans (heap_alloc_new _ _)) Tryz.underlying192 rfl (by kernel_rfl)) rfl ?_
 exact ⟨HB.out, _, num_pos _ (by decide), rfl⟩
theorem shapes_2 (w : World) : Calls Tryz.prog 199 #[.int .i64 2] w fun e w' => Below w.heap.size w w' /\ ShAns 2 e (shapeS 2) := by
 have HB := Lib.hid (below_alloc (below_alloc (Below.refl w.heap.size w) (.cells #[.bool false, .int .i64 0, .int .i64 0, .int .i64 0, .int .i64 0, .func (.func 223) #[] #[]] 192)) (.cells #[.bool false, .int .i64 0, .int .i64 0, .int .i64 0, .int .i64 0, .func (.func 223) #[] #[]] 192))
 go_enter Tryz.func199, Tryz.ntmps199
 go_wp2_with fail
 refine bodyPost_ret (results_ct rfl _ _ w.heap.size 192 #[.bool false, .int .i64 0, .int .i64 0, .int .i64 0, .int .i64 0, .func (.func 223) #[] #[]] (0, 0) _ rfl ((Below.heap_alloc _ _ _ (by simp)).trans (heap_alloc_new _ _)) Tryz.underlying192 rfl (by kernel_rfl)) rfl ?_
 exact ⟨HB.out, _, num_pos _ (by decide), rfl⟩
theorem shapes_3 (w : World) : Calls Tryz.prog 199 #[.int .i64 3] w fun e w' => Below w.heap.size w w' /\ ShAns 3 e (shapeS 3) := by
 have HB := Lib.hid (below_alloc (below_alloc (Below.refl w.heap.size w) (.cells #[.bool false, .int .i64 0, .int .i64 0, .int .i64 0, .int .i64 0, .func (.func 224) #[] #[]] 192)) (.cells #[.bool false, .int .i64 0, .int .i64 0, .int .i64 0, .int .i64 0, .func (.func 224) #[] #[]] 192))
 go_enter Tryz.func199, Tryz.ntmps199
 go_wp2_with fail
 refine bodyPost_ret (results_ct rfl _ _ w.heap.size 192 #[.bool false, .int .i64 0, .int .i64 0, .int .i64 0, .int .i64 0, .func (.func 224) #[] #[]] (0, 0) _ rfl ((Below.heap_alloc _ _ _ (by simp)).trans (heap_alloc_new _ _)) Tryz.underlying192 rfl (by kernel_rfl)) rfl ?_
 exact ⟨HB.out, _, num_bool, rfl⟩
theorem shapes_4 (w : World) : Calls Tryz.prog 199 #[.int .i64 4] w fun e w' => Below w.heap.size w w' /\ ShAns 4 e (shapeS 4) := by
 have HB := Lib.hid (below_alloc (below_alloc (Below.refl w.heap.size w) (.cells #[.bool false, .int .i64 0, .int .i64 0, .int .i64 0, .int .i64 0, .func (.func 222) #[] #[]] 192)) (.cells #[.bool false, .int .i64 0, .int .i64 0, .int .i64 0, .int .i64 0, .func (.func 222) #[] #[]] 192))
 go_enter Tryz.func199, Tryz.ntmps199
 go_wp2_with fail
 refine bodyPost_ret (results_ct rfl _ _ w.heap.size 192 #[.bool false, .int .i64 0, .int .i64 0, .int .i64 0, .int .i64 0, .func (.func 222) #[] #[]] (0, 0) _ rfl ((Below.heap_alloc _ _ _ (by simp)).trans (heap_alloc_new _ _)) Tryz.underlying192 rfl (by kernel_rfl)) rfl ?_
 exact ⟨HB.out, _, num_zero _ (by decide), rfl⟩
theorem shapes_5 (w : World) : Calls Tryz.prog 199 #[.int .i64 5] w fun e w' => Below w.heap.size w w' /\ ShAns 5 e (shapeS 5) := by
 have HB := Lib.hid (below_alloc (below_alloc (Below.refl w.heap.size w) (.cells #[.bool true, .int .i64 0, .int .i64 0, .int .i64 0, .int .i64 0, .func (.func 222) #[] #[]] 192)) (.cells #[.bool true, .int .i64 0, .int .i64 0, .int .i64 0, .int .i64 0, .func (.func 222) #[] #[]] 192))
 go_enter Tryz.func199, Tryz.ntmps199
 go_wp2_with fail
 refine bodyPost_ret (results_ct rfl _ _ w.heap.size 192 #[.bool true, .int .i64 0, .int .i64 0, .int .i64 0, .int .i64 0, .func (.func 222) #[] #[]] (0, 0) _ rfl ((Below.heap_alloc _ _ _ (by simp)).trans (heap_alloc_new _ _)) Tryz.underlying192 rfl (by kernel_rfl)) rfl ?_
 exact ⟨HB.out, _, num_zero _ (by decide), rfl⟩
theorem shapes_6 (w : World) : Calls Tryz.prog 199 #[.int .i64 6] w fun e w' => Below w.heap.size w w' /\ ShAns 6 e (shapeS 6) := by
 have HB := Lib.hid (below_alloc (below_alloc (Below.refl w.heap.size w) (.cells #[.bool true, .int .i64 0, .int .i64 0, .int .i64 1, .int .i64 1, .func (.func 222) #[] #[]] 192)) (.cells #[.bool true, .int .i64 0, .int .i64 0, .int .i64 1, .int .i64 1, .func (.func 222) #[] #[]] 192))
 go_enter Tryz.func199, Tryz.ntmps199
 go_wp2_with fail
 refine bodyPost_ret (results_ct rfl _ _ w.heap.size 192 #[.bool true, .int .i64 0, .int .i64 0, .int .i64 1, .int .i64 1, .func (.func 222) #[] #[]] (0, 0) _ rfl ((Below.heap_alloc _ _ _ (by simp)).trans (heap_alloc_new _ _)) Tryz.underlying192 rfl (by kernel_rfl)) rfl ?_
 exact ⟨HB.out, _, num_zero _ (by decide), rfl⟩
theorem shapes_7 (w : World) : Calls Tryz.prog 199 #[.int .i64 7] w fun e w' => Below w.heap.size w w' /\ ShAns 7 e (shapeS 7) := by
 have HB := Lib.hid (below_alloc (below_alloc (Below.refl w.heap.size w) (.cells #[.bool true, .int .i64 0, .int .i64 0, .int .i64 0, .int .i64 16384, .func (.func 222) #[] #[]] 192)) (.cells #[.bool true, .int .i64 0, .int .i64 0, .int .i64 0, .int .i64 16384, .func (.func 222) #[] #[]] 192))
 go_enter Tryz.func199, Tryz.ntmps199
 go_wp2_with fail
 refine bodyPost_ret (results_ct rfl _ _ w.heap.size 192 #[.bool true, .int .i64 0, .int .i64 0, .int .i64 0, .int .i64 16384, .func (.func 222) #[] #[]] (0, 0) _ rfl ((Below.heap_alloc _ _ _ (by simp)).trans (heap_alloc_new _ _)) Tryz.underlying192 rfl (by kernel_rfl)) rfl ?_
 exact ⟨HB.out, _, num_zero _ (by decide), rfl⟩
theorem shapes_8 (w : World) : Calls Tryz.prog 199 #[.int .i64 8] w fun e w' => Below w.heap.size w w' /\ ShAns 8 e (shapeS 8) := by
 have HB := Lib.hid (below_alloc (below_alloc (Below.refl w.heap.size w) (.cells #[.bool false, .int .i64 14, .int .i64 15, .int .i64 1, .int .i64 1, .func (.func 222) #[] #[]] 192)) (.cells #[.bool false, .int .i64 14, .int .i64 15, .int .i64 1, .int .i64 1, .func (.func 222) #[] #[]] 192))
 go_enter Tryz.func199, Tryz.ntmps199
 go_wp2_with fail
 refine bodyPost_ret (results_ct rfl _ _ w.heap.size 192 #[.bool false, .int .i64 14, .int .i64 15, .int .i64 1, .int .i64 1, .func (.func 222) #[] #[]] (0, 0) _ rfl ((Below.heap_alloc _ _ _ (by simp)).trans (heap_alloc_new _ _)) Tryz.underlying192 rfl (by kernel_rfl)) rfl ?_
 exact ⟨HB.out, _, num_zero _ (by decide), rfl⟩
theorem shapes_9 (w : World) : Calls Tryz.prog 199 #[.int .i64 9] w fun e w' => Below w.heap.size w w' /\ ShAns 9 e (shapeS 9) := by
 have HB := Lib.hid (below_alloc (below_alloc (Below.refl w.heap.size w) (.cells #[.bool false, .int .i64 1, .int .i64 13, .int .i64 2, .int .i64 2, .func (.func 222) #[] #[]] 192)) (.cells #[.bool false, .int .i64 1, .int .i64 13, .int .i64 2, .int .i64 2, .func (.func 222) #[] #[]] 192))
 go_enter Tryz.func199, Tryz.ntmps199
 go_wp2_with fail
 refine bodyPost_ret (results_ct rfl _ _ w.heap.size 192 #[.bool false, .int .i64 1, .int .i64 13, .int .i64 2, .int .i64 2, .func (.func 222) #[] #[]] (0, 0) _ rfl ((Below.heap_alloc _ _ _ (by simp)).trans (heap_alloc_new _ _)) Tryz.underlying192 rfl (by kernel_rfl)) rfl ?_
 exact ⟨HB.out, _, num_zero _ (by decide), rfl⟩
theorem shapes_none (k : Int) (hk : k ≠ 1 /\ k ≠ 2 /\ k ≠ 3 /\ k ≠ 4 /\ k ≠ 5 /\ k ≠ 6 /\ k ≠ 7 /\ k ≠ 8 /\ k ≠ 9) (w : World) : Calls Tryz.prog 199 #[.int .i64 k] w fun e w' => Below w.heap.size w w' /\ ShAns k e none := by
 have HB := Lib.hid (below_alloc (below_alloc (Below.refl w.heap.size w) (.cells #[.bool false, .int .i64 0, .int .i64 0, .int .i64 0, .int .i64 0, .nilFunc] 192)) (.cells #[.bool false, .int .i64 0, .int .i64 0, .int .i64 0, .int .i64 0, .func (.func 222) #[] #[]] 192))
 obtain ⟨k1, k2, k3, k4, k5, k6, k7, k8, k9⟩ := hk
 have y1 : (k == 1) = false := by simpa using k1
 have y2 : (k == 2) = false := by simpa using k2
 have y3 : (k == 3) = false := by simpa using k3
 have y4 : (k == 4) = false := by simpa using k4
 have y5 : (k == 5) = false := by simpa using k5
 have y6 : (k == 6) = false := by simpa using k6
 have y7 : (k == 7) = false := by simpa using k7
 have y8 : (k == 8) = false := by simpa using k8
 have y9 : (k == 9) = false := by simpa using k9
 go_enter Tryz.func199, Tryz.ntmps199
 go_wp2_with fail
 refine bodyPost_ret (results_ct rfl _ _ w.heap.size 192 #[.bool false, .int .i64 0, .int .i64 0, .int .i64 0, .int .i64 0, .nilFunc] (0, 0) _ rfl ((Below.heap_alloc _ _ _ (by simp)).trans (heap_alloc_new _ _)) Tryz.underlying192 rfl (by kernel_rfl)) rfl ?_
 exact ⟨HB.out, rfl⟩
theorem shapes_any (k : Int) (w : World) : Calls Tryz.prog 199 #[.int .i64 k] w fun e w' => Below w.heap.size w w' /\ ShAns k e (shapeS k) := by
 by_cases h1 : k = 1
 ·subst h1; exact shapes_1 w
 by_cases h2 : k = 2
 ·subst h2; exact shapes_2 w
 by_cases h3 : k = 3
 ·subst h3; exact shapes_3 w
 by_cases h4 : k = 4
 ·subst h4; exact shapes_4 w
 by_cases h5 : k = 5
 ·subst h5; exact shapes_5 w
 by_cases h6 : k = 6
 ·subst h6; exact shapes_6 w
 by_cases h7 : k = 7
 ·subst h7; exact shapes_7 w
 by_cases h8 : k = 8
 ·subst h8; exact shapes_8 w
 by_cases h9 : k = 9
 ·subst h9; exact shapes_9 w
 have e : shapeS k = none := by
  unfold shapeS
  rw [if_neg (by omega), if_neg h5, if_neg h6, if_neg h7, if_neg h8, if_neg h9]
 rw [e]
 exact shapes_none k ⟨h1, h2, h3, h4, h5, h6, h7, h8, h9⟩ w
mutual
def smE : Ex -> Prop
 | .mk _ _ n s l _ _ _ => s.size <= 1000000000 /\ n <= 9223372036854775807 /\ smEs l
def smEs : List Ex -> Prop
 | [] => True
 | e :: l => smE e /\ smEs l
end
theorem smEs_mem : ∀ {l : List Ex}, smEs l -> ∀ x ∈ l, smE x
 | e :: l, h, x, hx => by
  rcases List.mem_cons.1 hx with rfl | hx
  ·exact h.1
  ·exact smEs_mem h.2 x hx
theorem size0_eq {s : ByteArray} (h : s.size = 0) : s = ⟨#[]⟩ := by
 obtain ⟨⟨l⟩⟩ := s
 have h2 : l.length = 0 := h
 rw [List.length_eq_zero_iff.1 h2]
theorem shape_most {k : Int} {nm : Bool} {lo hi le mo : Int} (h : shapeS k = some (nm, lo, hi, le, mo)) : mo <= 16384 := by
 unfold shapeS at h
 repeat' split at h
 all_goals first | (cases h; done) | (injection h with h; injection h with _ h; injection h with _ h; injection h with _ h; injection h with _ h; omega)
theorem any_not {α : Type} (p : α -> Bool) (l : List α) : (!l.any (fun x => !p x)) = l.all p := by
 induction l with
 | nil => rfl
 | cons a l ih => rw [List.any_cons, List.all_cons, <- ih]; cases p a <;> simp
def ExChk (e : Ex) : Prop := ∀ (cs : List Value) (w : World), kEx.K w e cs -> Calls Tryz.prog 161 #[.agg cs.toArray] w fun e' w' => e' = .returned (.bool (exprOK e)) /\ Below w.heap.size w w'
theorem en_pExpr1 : Enters 200 := fun args w => by kernel_rfl
theorem en_pStmt1 : Enters 160 := fun args w => by kernel_rfl
theorem expr1_any (x : Ex) (ih : ExChk x) (cs : List Value) (w : World) (h : kEx.K w x cs) : PCalls 200 #[] (.agg cs.toArray) w (!exprOK x) := by
 have HC := Lib.hid (ih cs (w.alloc (.cells cs.toArray 86)) (kEx.K_below (below_alloc (Below.refl _ _) _) h))
 have HB := Lib.hid (below_alloc (Below.refl w.heap.size w) (.cells cs.toArray 86))
 obtain ⟨k, o, n, s, A, l, c, a, t, p, rfl⟩ := kEx_len h
 clear h ih
 unfold PCalls
 go_enter Tryz.func200, Tryz.ntmps200
 go_wp2_with fail
 refine HC.out.mono ?_
 rintro e w1 ⟨rfl, hb⟩
 have HB1 := Lib.hid (below_next HB.out hb)
 clear hb
 go_wp2_with fail
 go_ret
 exact ⟨rfl, HB1.out⟩
theorem stmt1_any (x : Ex) (ih : ExChk x) (cs : List Value) (w : World) (h : kEx.K w x cs) : PCalls 160 #[] (.agg cs.toArray) w (!exprOK x) := by
 have HC := Lib.hid (ih cs (w.alloc (.cells cs.toArray 86)) (kEx.K_below (below_alloc (Below.refl _ _) _) h))
 have HB := Lib.hid (below_alloc (Below.refl w.heap.size w) (.cells cs.toArray 86))
 obtain ⟨k, o, n, s, A, l, c, a, t, p, rfl⟩ := kEx_len h
 clear h ih
 unfold PCalls
 go_enter Tryz.func160, Tryz.ntmps160
 go_wp2_with fail
 refine HC.out.mono ?_
 rintro e w1 ⟨rfl, hb⟩
 have HB1 := Lib.hid (below_next HB.out hb)
 clear hb
 go_wp2_with fail
 go_ret
 exact ⟨rfl, HB1.out⟩
theorem below_alloc2 {w w1 : World} (h : Below w.heap.size w w1) (o : Obj) : Below w.heap.size w (w1.alloc o) := below_next h (below_alloc (Below.refl _ _) o)
theorem expr_step (k o n : Int) (s : ByteArray) (l : List Ex) (a t p : Int) (hs : s.size <= 1000000000) (ih : ∀ x ∈ l, ExChk x) : ExChk (.mk k o n s l a t p) := by
 intro cs w h
 obtain ⟨A, c, rfl, hlc, hC⟩ := kEx_open h
 have HC := Lib.hid hC
 have HI := Lib.hid ih
 have HS := Lib.hid (fun w => shapes_any k w)
 obtain ⟨r, hr⟩ : ∃ r, r = exprOK (.mk k o n s l a t p) := ⟨_, rfl⟩
 rw [<- hr]
 rw [exprOK_eq] at hr
 unfold shapeOK at hr
 have HR := Lib.hid hr
 obtain ⟨W, hW⟩ : ∃ W, W = w.alloc (.cells #[.int .i64 k, .int .i64 o, .int .i64 n, .string s, .slice A l.length c, .int .i64 a, .int .i64 t, .int .i64 p] 86) := ⟨_, rfl⟩
 obtain ⟨b, hb⟩ : ∃ b, b = w.heap.size := ⟨_, rfl⟩
 have HM := Lib.hid (show W.heap[b]? = some (.cells #[.int .i64 k, .int .i64 o, .int .i64 n, .string s, .slice A l.length c, .int .i64 a, .int .i64 t, .int .i64 p] 86 (0, 0)) by rw [hW, hb]; exact heap_alloc_new _ _)
 have HBW := Lib.hid (show Below w.heap.size w W by rw [hW]; exact below_alloc (Below.refl _ _) _)
 have HW := Lib.hid hW
 have HBB := Lib.hid hb
 clear hr hC ih hW hb h
 go_enter Tryz.func161, Tryz.ntmps161
 go_wp2_with fail
 rw [<- HW.out, <- HBB.out]
 refine (HS.out _).mono ?_
 rintro e w1 ⟨hb1, ha⟩
 have HB1 := Lib.hid (below_next HBW.out hb1)
 have hm1 := (hb1.block b (blk_lt HM.out)).trans HM.out
 have HM1 := Lib.hid hm1
 have lb := blk_lt hm1
 have c0 : w1.cell? ⟨b, 0, none⟩ = some (.int .i64 k) := (blk_cell hm1 0).trans rfl
 have c1 : w1.cell? ⟨b, 1, none⟩ = some (.int .i64 o) := (blk_cell hm1 1).trans rfl
 have c2 : w1.cell? ⟨b, 2, none⟩ = some (.int .i64 n) := (blk_cell hm1 2).trans rfl
 have c3 : w1.cell? ⟨b, 3, none⟩ = some (.string s) := (blk_cell hm1 3).trans rfl
 have c4 : w1.cell? ⟨b, 4, none⟩ = some (.slice A l.length c) := (blk_cell hm1 4).trans rfl
 clear hb1 hm1 HS
 cases hsh : shapeS k with
 | none =>
  rw [hsh] at ha
  obtain rfl := ha
  have HRR := Lib.hid (show r = false by have h := HR.out; rw [hsh] at h; exact h)
  clear hsh
  go_wp2_with fail
  go_ret
  exact ⟨ret_bool HRR.out.symm, below_alloc2 HB1.out _⟩
 | some q =>
  obtain ⟨nm, lo, hi, le, mo⟩ := q
  rw [hsh] at ha
  obtain ⟨K, ⟨hE, hN⟩, rfl⟩ := ha
  have hmo := shape_most hsh
  have HRR := Lib.hid (show r = ((decide (lo <= o) && decide (o <= hi) && decide (le <= (l.length : Int)) && decide ((l.length : Int) <= mo) && numB k n && (if nm then nameB s else decide (s.size = 0))) && l.all exprOK) by have h := HR.out; rw [hsh] at h; exact h)
  have HN := Lib.hid hN
  unfold Enters at hE
  clear hsh HR hN
  by_cases x0 : o < lo
  ·have HRX := Lib.hid (show r = false by rw [HRR.out]; have e : decide (lo <= o) = false := decide_eq_false (by omega); rw [e]; rfl)
   clear HRR
   go_wp2_with fail
   go_ret
   exact ⟨ret_bool HRX.out.symm, below_alloc2 HB1.out _⟩
  by_cases x1 : hi < o
  ·have HRX := Lib.hid (show r = false by rw [HRR.out]; have e : decide (o <= hi) = false := decide_eq_false (by omega); rw [e]; simp)
   clear HRR
   go_wp2_with fail
   go_ret
   exact ⟨ret_bool HRX.out.symm, below_alloc2 HB1.out _⟩
  by_cases x2 : (l.length : Int) < le
  ·have HRX := Lib.hid (show r = false by rw [HRR.out]; have e : decide (le <= (l.length : Int)) = false := decide_eq_false (by omega); rw [e]; simp)
   clear HRR
   go_wp2_with fail
   go_ret
   exact ⟨ret_bool HRX.out.symm, below_alloc2 HB1.out _⟩
  by_cases x3 : mo < (l.length : Int)
  ·have HRX := Lib.hid (show r = false by rw [HRR.out]; have e : decide ((l.length : Int) <= mo) = false := decide_eq_false (by omega); rw [e]; simp)
   clear HRR
   go_wp2_with fail
   go_ret
   exact ⟨ret_bool HRX.out.symm, below_alloc2 HB1.out _⟩
  have HRY := Lib.hid (show r = (numB k n && (if nm then nameB s else decide (s.size = 0)) && l.all exprOK) by
   rw [HRR.out, decide_eq_true (show lo <= o by omega), decide_eq_true (show o <= hi by omega), decide_eq_true (show le <= (l.length : Int) by omega), decide_eq_true (show (l.length : Int) <= mo by omega)]; rfl)
  clear HRR
  go_wp2_with fail
  refine (HN.out n _).mono ?_
  rintro e w2 ⟨rfl, rfl⟩
  cases hnb : numB k n with
  | false =>
   have HRX := Lib.hid (show r = false by rw [HRY.out, hnb]; rfl)
   go_wp2_with fail
   go_ret
   exact ⟨ret_bool HRX.out.symm, below_alloc2 HB1.out _⟩
  | true =>
   have HRZ := Lib.hid (show r = ((if nm then nameB s else decide (s.size = 0)) && l.all exprOK) by rw [HRY.out, hnb]; rfl)
   clear hnb HRY
   obtain ⟨W2, hW2⟩ : ∃ W2, W2 = w1.alloc (.cells #[.bool nm, .int .i64 lo, .int .i64 hi, .int .i64 le, .int .i64 mo, .func (.func K) #[] #[]] 192) := ⟨_, rfl⟩
   obtain ⟨b2, hb2⟩ : ∃ b2, b2 = w1.heap.size := ⟨_, rfl⟩
   have HM2 := Lib.hid (show W2.heap[b2]? = some (.cells #[.bool nm, .int .i64 lo, .int .i64 hi, .int .i64 le, .int .i64 mo, .func (.func K) #[] #[]] 192 (0, 0)) by rw [hW2, hb2]; exact heap_alloc_new _ _)
   have hbw2 : Below w1.heap.size w1 W2 := by rw [hW2]; exact below_alloc (Below.refl _ _) _
   have HB2 := Lib.hid (below_next HB1.out hbw2)
   have hmb := (hbw2.block b lb).trans HM1.out
   have HMB := Lib.hid hmb
   rw [<- hW2, <- hb2]
   clear c0 c1 c2 c3 c4 hW2 hb2 hbw2
   have c3 : W2.cell? ⟨b, 3, none⟩ = some (.string s) := (blk_cell hmb 3).trans rfl
   have c4 : W2.cell? ⟨b, 4, none⟩ = some (.slice A l.length c) := (blk_cell hmb 4).trans rfl
   have d0 : W2.cell? ⟨b2, 0, none⟩ = some (.bool nm) := (blk_cell HM2.out 0).trans rfl
   have lb2 := blk_lt hmb
   have lb3 := blk_lt HM2.out
   clear hmb
   cases nm with
   | true =>
    go_wp2_with fail
    refine (Name_any s W2 (by omega)).mono ?_
    rintro e w3 ⟨rfl, hb3⟩
    have HB3 := Lib.hid (below_next HB2.out hb3)
    have hm3 := (hb3.block b (blk_lt HMB.out)).trans HMB.out
    have hm4 := (hb3.block b2 (blk_lt HM2.out)).trans HM2.out
    clear c3 c4 d0 lb2 lb3 hb3
    have c4 : w3.cell? ⟨b, 4, none⟩ = some (.slice A l.length c) := (blk_cell hm3 4).trans rfl
    have d0 : w3.cell? ⟨b2, 0, none⟩ = some (.bool true) := (blk_cell hm4 0).trans rfl
    have lb2 := blk_lt hm3
    have lb3 := blk_lt hm4
    clear hm3 hm4
    cases hnb : nameB s with
    | false =>
     have HRX := Lib.hid (show r = false by rw [HRZ.out, hnb]; simp)
     go_wp2_with fail
     go_ret
     exact ⟨ret_bool HRX.out.symm, HB3.out⟩
    | true =>
     have HRX := Lib.hid (show r = l.all exprOK by rw [HRZ.out, hnb]; simp)
     clear hnb HRZ
     go_wp2_with fail
     refine (conExpr_any 200 (fun x => !exprOK x) A c l w3 en_pExpr1 (fun x cs w' hx _ hK => expr1_any x (HI.out x hx) cs w' hK) (Kd.C_below HC.out HB3.out) (by omega)).mono ?_
     rintro e w4 ⟨rfl, hb4⟩
     have HB4 := Lib.hid (below_next HB3.out hb4)
     clear hb4
     go_wp2_with fail
     go_ret
     exact ⟨ret_bool (by rw [HRX.out]; exact any_not exprOK l), HB4.out⟩
   | false =>
    by_cases hz : s.size = 0
    ·have HRX := Lib.hid (show r = l.all exprOK by rw [HRZ.out, decide_eq_true hz]; simp)
     obtain rfl := size0_eq hz
     clear HRZ
     go_wp2_with fail
     refine (conExpr_any 200 (fun x => !exprOK x) A c l W2 en_pExpr1 (fun x cs w' hx _ hK => expr1_any x (HI.out x hx) cs w' hK) (Kd.C_below HC.out HB2.out) (by omega)).mono ?_
     rintro e w4 ⟨rfl, hb4⟩
     have HB4 := Lib.hid (below_next HB2.out hb4)
     clear hb4
     go_wp2_with fail
     go_ret
     exact ⟨ret_bool (by rw [HRX.out]; exact any_not exprOK l), HB4.out⟩
    ·have HRX := Lib.hid (show r = false by rw [HRZ.out, decide_eq_false hz]; simp)
     have hne := size_pos_ne s (by omega)
     have hne1 := hne.1
     have hne2 := hne.2
     clear HRZ hne
     go_wp2_with fail
     go_ret
     exact ⟨ret_bool HRX.out.symm, HB2.out⟩
theorem expr_chk : ∀ (n : Nat) (e : Ex), SizeOf.sizeOf e <= n -> smE e -> ExChk e := by
 intro n
 induction n with
 | zero => intro e h; cases e; simp at h
 | succ n ih =>
  intro e h hs
  obtain ⟨k, o, m, s, l, a, t, p⟩ := e
  refine expr_step k o m s l a t p hs.1 (fun x hx => ih x ?_ (smEs_mem hs.2.2 x hx))
  have h1 := List.sizeOf_lt_of_mem hx
  simp only [Ex.mk.sizeOf_spec] at h
  omega
theorem expr_chk1 {e : Ex} (h : smE e) : ExChk e := expr_chk _ e (Nat.le_refl _) h
mutual
def smS : St -> Prop
 | .mk _ s _ l b e _ _ => s.size <= 1000000000 /\ smEs l /\ smSs b /\ smSs e
def smSs : List St -> Prop
 | [] => True
 | s :: l => smS s /\ smSs l
end
theorem smSs_mem : ∀ {l : List St}, smSs l -> ∀ x ∈ l, smS x
 | e :: l, h, x, hx => by
  rcases List.mem_cons.1 hx with rfl | hx
  ·exact h.1
  ·exact smSs_mem h.2 x hx
def StChk (s : St) : Prop := ∀ (cs : List Value) (w : World), kSt.K w s cs -> Calls Tryz.prog 123 #[.agg cs.toArray] w fun e' w' => e' = .returned (.bool (stmtOK s)) /\ Below w.heap.size w w'
theorem en_pBlock1 : Enters 122 := fun args w => by kernel_rfl
theorem bChk1 (x : St) (ih : StChk x) (cs : List Value) (w : World) (h : kSt.K w x cs) : PCalls 122 #[] (.agg cs.toArray) w (!stmtOK x) := by
 have HC := Lib.hid (ih cs (w.alloc (.cells cs.toArray 67)) (kSt.K_below (below_alloc (Below.refl _ _) _) h))
 have HB := Lib.hid (below_alloc (Below.refl w.heap.size w) (.cells cs.toArray 67))
 obtain ⟨k, s, t, A, n, c, A1, n1, c1, A2, n2, c2, a, p, rfl⟩ := kSt_len h
 clear h ih
 unfold PCalls
 go_enter Tryz.func122, Tryz.ntmps122
 go_wp2_with fail
 refine HC.out.mono ?_
 rintro e w1 ⟨rfl, hb⟩
 have HB1 := Lib.hid (below_next HB.out hb)
 clear hb
 go_wp2_with fail
 go_ret
 exact ⟨rfl, HB1.out⟩
theorem stmtShape_most {k : Int} {ne nb nl : Nat} {ek : Int} {nm ty : Bool} {le mo : Int} {bare : Bool} (h : stmtShape k ne nb nl ek = some (nm, ty, le, mo, bare)) : mo <= 2 := by
 unfold stmtShape at h
 repeat' split at h
 all_goals first | (cases h; done) | (injection h with h; injection h with _ h; injection h with _ h; injection h with _ h; injection h with h _; omega)
theorem len0 (n : Nat) : (((n : Nat) : Int) == 0) = (n == 0) := by rw [Bool.eq_iff_iff, beq_iff_eq, beq_iff_eq]; omega
theorem block_chk (l : List St) (ih : ∀ x ∈ l, StChk x) (A : Option Addr) (c : Nat) (w : World) (hC : kSt.C w A l.length l) : Calls Tryz.prog 80 #[.slice A l.length c] w fun e' w' => e' = .returned (.bool (blockOK l)) /\ Below w.heap.size w w' := by
 have HI := Lib.hid ih
 have HC := Lib.hid hC
 clear ih hC
 by_cases h : l.length <= 400
 ·have HR := Lib.hid (show blockOK l = l.all stmtOK by unfold blockOK; rw [stmtsOK_all, decide_eq_true h]; rfl)
  go_enter Tryz.func80, Tryz.ntmps80
  go_wp2_with fail
  refine (conStmt_any 122 (fun x => !stmtOK x) A c l w en_pBlock1 (fun x cs w' hx _ hK => bChk1 x (HI.out x hx) cs w' hK) HC.out (by omega)).mono ?_
  rintro e w1 ⟨rfl, hb⟩
  have HB := Lib.hid hb
  clear hb
  go_wp2_with fail
  go_ret
  exact ⟨ret_bool (by rw [HR.out]; exact any_not stmtOK l), HB.out⟩
 ·have HR := Lib.hid (show blockOK l = false by unfold blockOK; rw [decide_eq_false h]; rfl)
  go_enter Tryz.func80, Tryz.ntmps80
  go_wp2_with fail
  go_ret
  exact ⟨ret_bool HR.out.symm, Below.refl _ _⟩
theorem stmt_step (k : Int) (s : ByteArray) (t : Int) (l : List Ex) (b e : List St) (a p : Int) (hs : s.size <= 1000000000) (ihl : ∀ x ∈ l, ExChk x) (ihb : ∀ x ∈ b, StChk x) (ihe : ∀ x ∈ e, StChk x) : StChk (.mk k s t l b e a p) := by
 intro cs w h
 obtain ⟨A, c, A1, c1, A2, c2, rfl, hC, hC1, hC2⟩ := kSt_open h
 obtain ⟨r, hr⟩ : ∃ r, r = stmtOK (.mk k s t l b e a p) := ⟨_, rfl⟩
 rw [<- hr]
 rw [stmtOK_eq] at hr
 unfold stmtHead at hr
 obtain ⟨ek, hek⟩ : ∃ x, x = (l.head?.map Ex.kind |>.getD 0) := ⟨_, rfl⟩
 rw [<- hek] at hr
 have HR := Lib.hid hr
 have HEK := Lib.hid hek
 have HIL := Lib.hid ihl
 have HIB := Lib.hid ihb
 have HIE := Lib.hid ihe
 obtain ⟨W, hW⟩ : ∃ W, W = w.alloc (.cells #[.int .i64 k, .string s, .int .i64 t, .slice A l.length c, .slice A1 b.length c1, .slice A2 e.length c2, .int .i64 a, .int .i64 p] 67) := ⟨_, rfl⟩
 obtain ⟨bk, hb⟩ : ∃ b, b = w.heap.size := ⟨_, rfl⟩
 have hm : W.heap[bk]? = some (.cells #[.int .i64 k, .string s, .int .i64 t, .slice A l.length c, .slice A1 b.length c1, .slice A2 e.length c2, .int .i64 a, .int .i64 p] 67 (0, 0)) := by rw [hW, hb]; exact heap_alloc_new _ _
 have hbw : Below w.heap.size w W := by rw [hW]; exact below_alloc (Below.refl _ _) _
 have HM := Lib.hid hm
 have HC := Lib.hid (Kd.C_below hC hbw)
 have HC1 := Lib.hid (Kd.C_below hC1 hbw)
 have HC2 := Lib.hid (Kd.C_below hC2 hbw)
 have HBW := Lib.hid hbw
 have HW := Lib.hid hW
 have HBK := Lib.hid hb
 have lb := blk_lt hm
 have v0 : W.cell? ⟨bk, 0, none⟩ = some (.int .i64 k) := (blk_cell hm 0).trans rfl
 have v1 : W.cell? ⟨bk, 1, none⟩ = some (.string s) := (blk_cell hm 1).trans rfl
 have v2 : W.cell? ⟨bk, 2, none⟩ = some (.int .i64 t) := (blk_cell hm 2).trans rfl
 have v3 : W.cell? ⟨bk, 3, none⟩ = some (.slice A l.length c) := (blk_cell hm 3).trans rfl
 have v4 : W.cell? ⟨bk, 4, none⟩ = some (.slice A1 b.length c1) := (blk_cell hm 4).trans rfl
 have v5 : W.cell? ⟨bk, 5, none⟩ = some (.slice A2 e.length c2) := (blk_cell hm 5).trans rfl
 clear hr hC hC1 hC2 ihl ihb ihe hW hb h hbw hm hek
 go_enter Tryz.func123, Tryz.ntmps123
 go_upto_region 1 with fail
 rw [<- HW.out, <- HBK.out]
 go_cut [3] (fun v3 wc => v3 = .bool (b.length == 0 && e.length == 0) /\ W = wc)
 case first =>
  by_cases hb0 : b.length = 0
  ·by_cases he0 : e.length = 0
   ·go_wp2_with fail
    go_meet
    case rel => exact ⟨by rw [hb0, he0]; rfl, rfl⟩
   ·go_wp2_with fail
    go_meet
    case rel => exact ⟨by rw [hb0]; simp [he0, len0], rfl⟩
  ·go_wp2_with fail
   go_meet
   case rel => exact ⟨by simp [hb0], rfl⟩
 case rest =>
  obtain ⟨hv3, hwc⟩ := hcut
  subst hv3 hwc
  go_upto_region 3 with fail
  go_cut [3, 4, 5, 6, 7, 20] (fun v3 v4 v5 v6 v7 v20 wc => v3 = .bool (b.length == 0 && e.length == 0) /\ v4 = .bool false /\ v5 = .bool false /\ v6 = .int .i64 1 /\ v7 = .int .i64 1 /\ v20 = .int .i64 k /\ W = wc)
  case first =>
   go_wp2_with fail
   go_meet
   case rel => exact ⟨rfl, rfl, rfl, rfl, rfl, rfl, rfl⟩
  case rest =>
  obtain ⟨hv3, hv4, hv5, hv6, hv7, hv20, hwc⟩ := hcut
  subst hv3 hv4 hv5 hv6 hv7 hv20 hwc
  rename_i K hK
  refine hK _ _ ?_
  clear hK K
  go_cut [3, 4, 5, 6, 7] (fun v3 v4 v5 v6 v7 wc => ∃ (nm ty : Bool) (le mo : Int) (bare : Bool), v3 = .bool bare /\ v4 = .bool nm /\ v5 = .bool ty /\ v6 = .int .i64 le /\ v7 = .int .i64 mo /\ Hid (stmtShape k l.length b.length e.length ek = some (nm, ty, le, mo, bare)) /\ W = wc)
  case first =>
   by_cases h1 : k = 1
   ·subst h1
    go_wp2_with fail
    go_meet
    case rel => exact ⟨true, true, 1, 1, _, rfl, rfl, rfl, rfl, rfl, rfl, rfl⟩
   by_cases h2 : k = 2
   ·subst h2
    go_wp2_with fail
    go_meet
    case rel => exact ⟨true, false, 1, 1, _, rfl, rfl, rfl, rfl, rfl, rfl, rfl⟩
   by_cases h3 : k = 3
   ·subst h3
    go_wp2_with fail
    go_meet
    case rel => exact ⟨true, false, 2, 2, _, rfl, rfl, rfl, rfl, rfl, rfl, rfl⟩
   by_cases h4 : k = 4
   ·subst h4
    go_wp2_with fail
    go_meet
    case rel => exact ⟨false, false, 1, 1, true, rfl, rfl, rfl, rfl, rfl, rfl, rfl⟩
   by_cases h5 : k = 5
   ·subst h5
    go_wp2_with fail
    go_meet
    case rel => exact ⟨false, false, 1, 1, e.length == 0, by first | rfl | rw [len0], rfl, rfl, rfl, rfl, rfl, rfl⟩
   by_cases h6 : k = 6
   ·subst h6
    go_wp2_with fail
    go_meet
    case rel => exact ⟨false, false, 0, 1, _, rfl, rfl, rfl, rfl, rfl, rfl, rfl⟩
   by_cases h7 : k = 7
   ·subst h7
    obtain ⟨br, hbr⟩ : ∃ x, x = (b.length == 0 && e.length == 0) := ⟨_, rfl⟩
    have HBR := Lib.hid hbr
    rw [<- hbr]
    clear hbr
    cases br with
    | false =>
     go_wp2_with fail
     go_meet
     case rel => exact ⟨false, false, 1, 1, false, rfl, rfl, rfl, rfl, rfl, by unfold stmtShape; show some (false, false, (1 : Int), (1 : Int), b.length == 0 && e.length == 0 && _ && _) = _; rw [<- HBR.out]; rfl, rfl⟩
    | true =>
     by_cases hl1 : l.length = 1
     ·obtain ⟨ad, q0, q1, q2, q3, q4, q5, q6, q7, q8, q9, rfl, HK, z0, z1, z2, z3, z4, z5, z6, z7⟩ := at_Ex HC.out 0 (by omega)
      have hk0 : q0 = ek := by
       rw [HEK.out]
       match l, hl1 with
       | [x], _ =>
        obtain ⟨k', o', n', s', l', a', t', p'⟩ := x
        obtain ⟨_, _, h5, _⟩ := kEx_open HK.out
        cases h5
        rfl
      subst hk0
      rw [Nat.zero_mul, addr0] at z0
      clear z1 z2 z3 z4 z5 z6 z7
      have y : ((l.length : Int) == 1) = true := by rw [beq_iff_eq]; omega
      go_wp2_with fail
      go_meet
      case rel => exact ⟨false, false, 1, 1, q0 == 7, by first | rfl | simp, rfl, rfl, rfl, rfl, by unfold stmtShape; show some (false, false, (1 : Int), (1 : Int), b.length == 0 && e.length == 0 && (l.length == 1) && (q0 == 7)) = _; rw [<- HBR.out, hl1]; rfl, rfl⟩
     ·have y : ((l.length : Int) == 1) = false := by rw [beq_eq_false_iff_ne]; omega
      go_wp2_with fail
      go_meet
      case rel => exact ⟨false, false, 1, 1, false, by first | rfl | simp, rfl, rfl, rfl, rfl, by unfold stmtShape; show some (false, false, (1 : Int), (1 : Int), b.length == 0 && e.length == 0 && (l.length == 1) && _) = _; rw [show (l.length == 1) = false by simpa using hl1]; simp, rfl⟩
   ·have HRR := Lib.hid (show r = false by
     have h := HR.out
     have e0 : stmtShape k l.length b.length e.length ek = none := by
      unfold stmtShape
      rw [if_neg h1, if_neg h2, if_neg h3, if_neg h4, if_neg h5, if_neg h6, if_neg h7]
     rw [e0] at h
     exact h)
    have y1 : (k == 1) = false := by simpa using h1
    have y2 : (k == 2) = false := by simpa using h2
    have y3 : (k == 3) = false := by simpa using h3
    have y4 : (k == 4) = false := by simpa using h4
    have y5 : (k == 5) = false := by simpa using h5
    have y6 : (k == 6) = false := by simpa using h6
    have y7 : (k == 7) = false := by simpa using h7
    go_wp2_with fail
    first
    | (go_ret; exact ⟨ret_bool HRR.out.symm, HBW.out⟩)
  case rest =>
   obtain ⟨nm, ty, le, mo, bare, hv3, hv4, hv5, hv6, hv7, HSH, hwc⟩ := hcut
   subst hv3 hv4 hv5 hv6 hv7 hwc
   have hmo := stmtShape_most HSH.out
   have HRR := Lib.hid (show r = ((bare && decide (le <= (l.length : Int)) && decide ((l.length : Int) <= mo) && (if nm then nameB s else decide (s.size = 0)) && (if ty then typedB t else decide (t = 0))) && l.all exprOK && blockOK b && blockOK e) by have h := HR.out; rw [HSH.out] at h; exact h)
   clear HR HSH
   cases bare with
   | false =>
    have HRX := Lib.hid (show r = false by rw [HRR.out]; rfl)
    go_wp2_with fail
    go_ret
    exact ⟨ret_bool HRX.out.symm, HBW.out⟩
   | true =>
    by_cases x1 : (l.length : Int) < le
    ·have HRX := Lib.hid (show r = false by have e : decide (le <= (l.length : Int)) = false := decide_eq_false (by omega); rw [HRR.out, e]; rfl)
     go_wp2_with fail
     go_ret
     exact ⟨ret_bool HRX.out.symm, HBW.out⟩
    by_cases x2 : mo < (l.length : Int)
    ·have HRX := Lib.hid (show r = false by have e : decide ((l.length : Int) <= mo) = false := decide_eq_false (by omega); rw [HRR.out, e]; simp)
     go_wp2_with fail
     go_ret
     exact ⟨ret_bool HRX.out.symm, HBW.out⟩
    have HRY := Lib.hid (show r = (((if nm then nameB s else decide (s.size = 0)) && (if ty then typedB t else decide (t = 0))) && l.all exprOK && blockOK b && blockOK e) by
     rw [HRR.out, decide_eq_true (show le <= (l.length : Int) by omega), decide_eq_true (show (l.length : Int) <= mo by omega)]; rfl)
    clear HRR
    cases nm with
    | true =>
     go_wp2_with fail
     refine (Name_any s W (by omega)).mono ?_
     rintro e' w3 ⟨rfl, hb3⟩
     have HB3 := Lib.hid (below_next HBW.out hb3)
     have HD3 := Lib.hid hb3
     have HM3 := Lib.hid ((hb3.block bk (blk_lt HM.out)).trans HM.out)
     clear v0 v1 v2 v3 v4 v5 lb
     have lb := blk_lt HM3.out
     have v0 : w3.cell? ⟨bk, 0, none⟩ = some (.int .i64 k) := (blk_cell HM3.out 0).trans rfl
     have v1 : w3.cell? ⟨bk, 1, none⟩ = some (.string s) := (blk_cell HM3.out 1).trans rfl
     have v2 : w3.cell? ⟨bk, 2, none⟩ = some (.int .i64 t) := (blk_cell HM3.out 2).trans rfl
     have v3 : w3.cell? ⟨bk, 3, none⟩ = some (.slice A l.length c) := (blk_cell HM3.out 3).trans rfl
     have v4 : w3.cell? ⟨bk, 4, none⟩ = some (.slice A1 b.length c1) := (blk_cell HM3.out 4).trans rfl
     have v5 : w3.cell? ⟨bk, 5, none⟩ = some (.slice A2 e.length c2) := (blk_cell HM3.out 5).trans rfl
     clear hb3
     cases hnb : nameB s with
     | false =>
      have HRX := Lib.hid (show r = false by rw [HRY.out, hnb]; rfl)
      go_wp2_with fail
      go_ret
      exact ⟨ret_bool HRX.out.symm, HB3.out⟩
     | true =>
      have HRN := Lib.hid (show r = ((if ty then typedB t else decide (t = 0)) && l.all exprOK && blockOK b && blockOK e) by rw [HRY.out, hnb]; rfl)
      clear hnb HRY
      cases ty with
      | true =>
       go_wp2_with fail
       refine (ptyped_any t w3).mono ?_
       rintro e' w' ⟨rfl, rfl⟩
       cases hty : typedB t with
       | false =>
        have HRX := Lib.hid (show r = false by rw [HRN.out, hty]; rfl)
        go_wp2_with fail
        go_ret
        exact ⟨ret_bool HRX.out.symm, HB3.out⟩
       | true =>
        have HRT := Lib.hid (show r = (l.all exprOK && blockOK b && blockOK e) by rw [HRN.out, hty]; rfl)
        clear hty
        go_wp2_with fail
        refine (conExpr_any 160 (fun x => !exprOK x) A c l w3 en_pStmt1 (fun x cs w' hx _ hK => stmt1_any x (HIL.out x hx) cs w' hK) (Kd.C_below HC.out HD3.out) (by omega)).mono ?_
        rintro e' w5 ⟨rfl, hb5⟩
        rw [show l.any (fun x => !exprOK x) = !l.all exprOK by rw [<- any_not, Bool.not_not]]
        have HB5 := Lib.hid (below_next HB3.out hb5)
        have HD5 := Lib.hid (below_next HD3.out hb5)
        have HM5 := Lib.hid ((hb5.block bk (blk_lt HM3.out)).trans HM3.out)
        clear v0 v1 v2 v3 v4 v5 lb
        have lb := blk_lt HM5.out
        have v0 : w5.cell? ⟨bk, 0, none⟩ = some (.int .i64 k) := (blk_cell HM5.out 0).trans rfl
        have v1 : w5.cell? ⟨bk, 1, none⟩ = some (.string s) := (blk_cell HM5.out 1).trans rfl
        have v2 : w5.cell? ⟨bk, 2, none⟩ = some (.int .i64 t) := (blk_cell HM5.out 2).trans rfl
        have v3 : w5.cell? ⟨bk, 3, none⟩ = some (.slice A l.length c) := (blk_cell HM5.out 3).trans rfl
        have v4 : w5.cell? ⟨bk, 4, none⟩ = some (.slice A1 b.length c1) := (blk_cell HM5.out 4).trans rfl
        have v5 : w5.cell? ⟨bk, 5, none⟩ = some (.slice A2 e.length c2) := (blk_cell HM5.out 5).trans rfl
        clear hb5
        cases hal : l.all exprOK with
        | false =>
         have HRX := Lib.hid (show r = false by rw [HRT.out, hal]; rfl)
         go_wp2_with fail
         go_ret
         exact ⟨ret_bool HRX.out.symm, HB5.out⟩
        | true =>
         have HRA := Lib.hid (show r = (blockOK b && blockOK e) by rw [HRT.out, hal]; rfl)
         clear hal
         go_wp2_with fail
         refine (block_chk b HIB.out A1 c1 w5 (Kd.C_below HC1.out HD5.out)).mono ?_
         rintro e' w6 ⟨rfl, hb6⟩
         have HB6 := Lib.hid (below_next HB5.out hb6)
         have HD6 := Lib.hid (below_next HD5.out hb6)
         have HM6 := Lib.hid ((hb6.block bk (blk_lt HM5.out)).trans HM5.out)
         clear v0 v1 v2 v3 v4 v5 lb
         have lb := blk_lt HM6.out
         have v0 : w6.cell? ⟨bk, 0, none⟩ = some (.int .i64 k) := (blk_cell HM6.out 0).trans rfl
         have v1 : w6.cell? ⟨bk, 1, none⟩ = some (.string s) := (blk_cell HM6.out 1).trans rfl
         have v2 : w6.cell? ⟨bk, 2, none⟩ = some (.int .i64 t) := (blk_cell HM6.out 2).trans rfl
         have v3 : w6.cell? ⟨bk, 3, none⟩ = some (.slice A l.length c) := (blk_cell HM6.out 3).trans rfl
         have v4 : w6.cell? ⟨bk, 4, none⟩ = some (.slice A1 b.length c1) := (blk_cell HM6.out 4).trans rfl
         have v5 : w6.cell? ⟨bk, 5, none⟩ = some (.slice A2 e.length c2) := (blk_cell HM6.out 5).trans rfl
         clear hb6
         cases hbb : blockOK b with
         | false =>
          have HRX := Lib.hid (show r = false by rw [HRA.out, hbb]; rfl)
          go_wp2_with fail
          go_ret
          exact ⟨ret_bool HRX.out.symm, HB6.out⟩
         | true =>
          have HRB := Lib.hid (show r = blockOK e by rw [HRA.out, hbb]; rfl)
          clear hbb
          go_wp2_with fail
          refine (block_chk e HIE.out A2 c2 w6 (Kd.C_below HC2.out HD6.out)).mono ?_
          rintro e' w7 ⟨rfl, hb7⟩
          have HB7 := Lib.hid (below_next HB6.out hb7)
          clear hb7
          rw [<- HRB.out]
          clear v0 v1 v2 v3 v4 v5 lb
          cases r
          ·go_wp2_with fail
           go_ret
           exact ⟨rfl, HB7.out⟩
          ·go_wp2_with fail
           go_ret
           exact ⟨rfl, HB7.out⟩
      | false =>
       by_cases ht : t = 0
       ·have HRT := Lib.hid (show r = (l.all exprOK && blockOK b && blockOK e) by rw [HRN.out]; simp [ht])
        have y : (t != 0) = false := by simpa using ht
        clear ht
        go_wp2_with fail
        refine (conExpr_any 160 (fun x => !exprOK x) A c l w3 en_pStmt1 (fun x cs w' hx _ hK => stmt1_any x (HIL.out x hx) cs w' hK) (Kd.C_below HC.out HD3.out) (by omega)).mono ?_
        rintro e' w5 ⟨rfl, hb5⟩
        rw [show l.any (fun x => !exprOK x) = !l.all exprOK by rw [<- any_not, Bool.not_not]]
        have HB5 := Lib.hid (below_next HB3.out hb5)
        have HD5 := Lib.hid (below_next HD3.out hb5)
        have HM5 := Lib.hid ((hb5.block bk (blk_lt HM3.out)).trans HM3.out)
        clear v0 v1 v2 v3 v4 v5 lb
        have lb := blk_lt HM5.out
        have v0 : w5.cell? ⟨bk, 0, none⟩ = some (.int .i64 k) := (blk_cell HM5.out 0).trans rfl
        have v1 : w5.cell? ⟨bk, 1, none⟩ = some (.string s) := (blk_cell HM5.out 1).trans rfl
        have v2 : w5.cell? ⟨bk, 2, none⟩ = some (.int .i64 t) := (blk_cell HM5.out 2).trans rfl
        have v3 : w5.cell? ⟨bk, 3, none⟩ = some (.slice A l.length c) := (blk_cell HM5.out 3).trans rfl
        have v4 : w5.cell? ⟨bk, 4, none⟩ = some (.slice A1 b.length c1) := (blk_cell HM5.out 4).trans rfl
        have v5 : w5.cell? ⟨bk, 5, none⟩ = some (.slice A2 e.length c2) := (blk_cell HM5.out 5).trans rfl
        clear hb5
        cases hal : l.all exprOK with
        | false =>
         have HRX := Lib.hid (show r = false by rw [HRT.out, hal]; rfl)
         go_wp2_with fail
         go_ret
         exact ⟨ret_bool HRX.out.symm, HB5.out⟩
        | true =>
         have HRA := Lib.hid (show r = (blockOK b && blockOK e) by rw [HRT.out, hal]; rfl)
         clear hal
         go_wp2_with fail
         refine (block_chk b HIB.out A1 c1 w5 (Kd.C_below HC1.out HD5.out)).mono ?_
         rintro e' w6 ⟨rfl, hb6⟩
         have HB6 := Lib.hid (below_next HB5.out hb6)
         have HD6 := Lib.hid (below_next HD5.out hb6)
         have HM6 := Lib.hid ((hb6.block bk (blk_lt HM5.out)).trans HM5.out)
         clear v0 v1 v2 v3 v4 v5 lb
         have lb := blk_lt HM6.out
         have v0 : w6.cell? ⟨bk, 0, none⟩ = some (.int .i64 k) := (blk_cell HM6.out 0).trans rfl
         have v1 : w6.cell? ⟨bk, 1, none⟩ = some (.string s) := (blk_cell HM6.out 1).trans rfl
         have v2 : w6.cell? ⟨bk, 2, none⟩ = some (.int .i64 t) := (blk_cell HM6.out 2).trans rfl
         have v3 : w6.cell? ⟨bk, 3, none⟩ = some (.slice A l.length c) := (blk_cell HM6.out 3).trans rfl
         have v4 : w6.cell? ⟨bk, 4, none⟩ = some (.slice A1 b.length c1) := (blk_cell HM6.out 4).trans rfl
         have v5 : w6.cell? ⟨bk, 5, none⟩ = some (.slice A2 e.length c2) := (blk_cell HM6.out 5).trans rfl
         clear hb6
         cases hbb : blockOK b with
         | false =>
          have HRX := Lib.hid (show r = false by rw [HRA.out, hbb]; rfl)
          go_wp2_with fail
          go_ret
          exact ⟨ret_bool HRX.out.symm, HB6.out⟩
         | true =>
          have HRB := Lib.hid (show r = blockOK e by rw [HRA.out, hbb]; rfl)
          clear hbb
          go_wp2_with fail
          refine (block_chk e HIE.out A2 c2 w6 (Kd.C_below HC2.out HD6.out)).mono ?_
          rintro e' w7 ⟨rfl, hb7⟩
          have HB7 := Lib.hid (below_next HB6.out hb7)
          clear hb7
          rw [<- HRB.out]
          clear v0 v1 v2 v3 v4 v5 lb
          cases r
          ·go_wp2_with fail
           go_ret
           exact ⟨rfl, HB7.out⟩
          ·go_wp2_with fail
           go_ret
           exact ⟨rfl, HB7.out⟩
       ·have y : (t != 0) = true := by simpa using ht
        have HRX := Lib.hid (show r = false by rw [HRN.out]; simp [ht])
        go_wp2_with fail
        go_ret
        exact ⟨ret_bool HRX.out.symm, HB3.out⟩
    | false =>
     by_cases hz : s.size = 0
     ·have HRN := Lib.hid (show r = ((if ty then typedB t else decide (t = 0)) && l.all exprOK && blockOK b && blockOK e) by rw [HRY.out, decide_eq_true hz]; simp)
      obtain rfl := size0_eq hz
      clear HRY
      cases ty with
      | true =>
       go_wp2_with fail
       refine (ptyped_any t W).mono ?_
       rintro e' w' ⟨rfl, rfl⟩
       cases hty : typedB t with
       | false =>
        have HRX := Lib.hid (show r = false by rw [HRN.out, hty]; rfl)
        go_wp2_with fail
        go_ret
        exact ⟨ret_bool HRX.out.symm, HBW.out⟩
       | true =>
        have HRT := Lib.hid (show r = (l.all exprOK && blockOK b && blockOK e) by rw [HRN.out, hty]; rfl)
        clear hty
        go_wp2_with fail
        refine (conExpr_any 160 (fun x => !exprOK x) A c l W en_pStmt1 (fun x cs w' hx _ hK => stmt1_any x (HIL.out x hx) cs w' hK) (Kd.C_below HC.out (Below.refl W.heap.size W)) (by omega)).mono ?_
        rintro e' w5 ⟨rfl, hb5⟩
        rw [show l.any (fun x => !exprOK x) = !l.all exprOK by rw [<- any_not, Bool.not_not]]
        have HB5 := Lib.hid (below_next HBW.out hb5)
        have HD5 := Lib.hid (below_next (Below.refl W.heap.size W) hb5)
        have HM5 := Lib.hid ((hb5.block bk (blk_lt HM.out)).trans HM.out)
        clear v0 v1 v2 v3 v4 v5 lb
        have lb := blk_lt HM5.out
        have v0 : w5.cell? ⟨bk, 0, none⟩ = some (.int .i64 k) := (blk_cell HM5.out 0).trans rfl
        have v1 : w5.cell? ⟨bk, 1, none⟩ = some (.string ⟨#[]⟩) := (blk_cell HM5.out 1).trans rfl
        have v2 : w5.cell? ⟨bk, 2, none⟩ = some (.int .i64 t) := (blk_cell HM5.out 2).trans rfl
        have v3 : w5.cell? ⟨bk, 3, none⟩ = some (.slice A l.length c) := (blk_cell HM5.out 3).trans rfl
        have v4 : w5.cell? ⟨bk, 4, none⟩ = some (.slice A1 b.length c1) := (blk_cell HM5.out 4).trans rfl
        have v5 : w5.cell? ⟨bk, 5, none⟩ = some (.slice A2 e.length c2) := (blk_cell HM5.out 5).trans rfl
        clear hb5
        cases hal : l.all exprOK with
        | false =>
         have HRX := Lib.hid (show r = false by rw [HRT.out, hal]; rfl)
         go_wp2_with fail
         go_ret
         exact ⟨ret_bool HRX.out.symm, HB5.out⟩
        | true =>
         have HRA := Lib.hid (show r = (blockOK b && blockOK e) by rw [HRT.out, hal]; rfl)
         clear hal
         go_wp2_with fail
         refine (block_chk b HIB.out A1 c1 w5 (Kd.C_below HC1.out HD5.out)).mono ?_
         rintro e' w6 ⟨rfl, hb6⟩
         have HB6 := Lib.hid (below_next HB5.out hb6)
         have HD6 := Lib.hid (below_next HD5.out hb6)
         have HM6 := Lib.hid ((hb6.block bk (blk_lt HM5.out)).trans HM5.out)
         clear v0 v1 v2 v3 v4 v5 lb
         have lb := blk_lt HM6.out
         have v0 : w6.cell? ⟨bk, 0, none⟩ = some (.int .i64 k) := (blk_cell HM6.out 0).trans rfl
         have v1 : w6.cell? ⟨bk, 1, none⟩ = some (.string ⟨#[]⟩) := (blk_cell HM6.out 1).trans rfl
         have v2 : w6.cell? ⟨bk, 2, none⟩ = some (.int .i64 t) := (blk_cell HM6.out 2).trans rfl
         have v3 : w6.cell? ⟨bk, 3, none⟩ = some (.slice A l.length c) := (blk_cell HM6.out 3).trans rfl
         have v4 : w6.cell? ⟨bk, 4, none⟩ = some (.slice A1 b.length c1) := (blk_cell HM6.out 4).trans rfl
         have v5 : w6.cell? ⟨bk, 5, none⟩ = some (.slice A2 e.length c2) := (blk_cell HM6.out 5).trans rfl
         clear hb6
         cases hbb : blockOK b with
         | false =>
          have HRX := Lib.hid (show r = false by rw [HRA.out, hbb]; rfl)
          go_wp2_with fail
          go_ret
          exact ⟨ret_bool HRX.out.symm, HB6.out⟩
         | true =>
          have HRB := Lib.hid (show r = blockOK e by rw [HRA.out, hbb]; rfl)
          clear hbb
          go_wp2_with fail
          refine (block_chk e HIE.out A2 c2 w6 (Kd.C_below HC2.out HD6.out)).mono ?_
          rintro e' w7 ⟨rfl, hb7⟩
          have HB7 := Lib.hid (below_next HB6.out hb7)
          clear hb7
          rw [<- HRB.out]
          clear v0 v1 v2 v3 v4 v5 lb
          cases r
          ·go_wp2_with fail
           go_ret
           exact ⟨rfl, HB7.out⟩
          ·go_wp2_with fail
           go_ret
           exact ⟨rfl, HB7.out⟩
      | false =>
       by_cases ht : t = 0
       ·have HRT := Lib.hid (show r = (l.all exprOK && blockOK b && blockOK e) by rw [HRN.out]; simp [ht])
        have y : (t != 0) = false := by simpa using ht
        clear ht
        go_wp2_with fail
        refine (conExpr_any 160 (fun x => !exprOK x) A c l W en_pStmt1 (fun x cs w' hx _ hK => stmt1_any x (HIL.out x hx) cs w' hK) (Kd.C_below HC.out (Below.refl W.heap.size W)) (by omega)).mono ?_
        rintro e' w5 ⟨rfl, hb5⟩
        rw [show l.any (fun x => !exprOK x) = !l.all exprOK by rw [<- any_not, Bool.not_not]]
        have HB5 := Lib.hid (below_next HBW.out hb5)
        have HD5 := Lib.hid (below_next (Below.refl W.heap.size W) hb5)
        have HM5 := Lib.hid ((hb5.block bk (blk_lt HM.out)).trans HM.out)
        clear v0 v1 v2 v3 v4 v5 lb
        have lb := blk_lt HM5.out
        have v0 : w5.cell? ⟨bk, 0, none⟩ = some (.int .i64 k) := (blk_cell HM5.out 0).trans rfl
        have v1 : w5.cell? ⟨bk, 1, none⟩ = some (.string ⟨#[]⟩) := (blk_cell HM5.out 1).trans rfl
        have v2 : w5.cell? ⟨bk, 2, none⟩ = some (.int .i64 t) := (blk_cell HM5.out 2).trans rfl
        have v3 : w5.cell? ⟨bk, 3, none⟩ = some (.slice A l.length c) := (blk_cell HM5.out 3).trans rfl
        have v4 : w5.cell? ⟨bk, 4, none⟩ = some (.slice A1 b.length c1) := (blk_cell HM5.out 4).trans rfl
        have v5 : w5.cell? ⟨bk, 5, none⟩ = some (.slice A2 e.length c2) := (blk_cell HM5.out 5).trans rfl
        clear hb5
        cases hal : l.all exprOK with
        | false =>
         have HRX := Lib.hid (show r = false by rw [HRT.out, hal]; rfl)
         go_wp2_with fail
         go_ret
         exact ⟨ret_bool HRX.out.symm, HB5.out⟩
        | true =>
         have HRA := Lib.hid (show r = (blockOK b && blockOK e) by rw [HRT.out, hal]; rfl)
         clear hal
         go_wp2_with fail
         refine (block_chk b HIB.out A1 c1 w5 (Kd.C_below HC1.out HD5.out)).mono ?_
         rintro e' w6 ⟨rfl, hb6⟩
         have HB6 := Lib.hid (below_next HB5.out hb6)
         have HD6 := Lib.hid (below_next HD5.out hb6)
         have HM6 := Lib.hid ((hb6.block bk (blk_lt HM5.out)).trans HM5.out)
         clear v0 v1 v2 v3 v4 v5 lb
         have lb := blk_lt HM6.out
         have v0 : w6.cell? ⟨bk, 0, none⟩ = some (.int .i64 k) := (blk_cell HM6.out 0).trans rfl
         have v1 : w6.cell? ⟨bk, 1, none⟩ = some (.string ⟨#[]⟩) := (blk_cell HM6.out 1).trans rfl
         have v2 : w6.cell? ⟨bk, 2, none⟩ = some (.int .i64 t) := (blk_cell HM6.out 2).trans rfl
         have v3 : w6.cell? ⟨bk, 3, none⟩ = some (.slice A l.length c) := (blk_cell HM6.out 3).trans rfl
         have v4 : w6.cell? ⟨bk, 4, none⟩ = some (.slice A1 b.length c1) := (blk_cell HM6.out 4).trans rfl
         have v5 : w6.cell? ⟨bk, 5, none⟩ = some (.slice A2 e.length c2) := (blk_cell HM6.out 5).trans rfl
         clear hb6
         cases hbb : blockOK b with
         | false =>
          have HRX := Lib.hid (show r = false by rw [HRA.out, hbb]; rfl)
          go_wp2_with fail
          go_ret
          exact ⟨ret_bool HRX.out.symm, HB6.out⟩
         | true =>
          have HRB := Lib.hid (show r = blockOK e by rw [HRA.out, hbb]; rfl)
          clear hbb
          go_wp2_with fail
          refine (block_chk e HIE.out A2 c2 w6 (Kd.C_below HC2.out HD6.out)).mono ?_
          rintro e' w7 ⟨rfl, hb7⟩
          have HB7 := Lib.hid (below_next HB6.out hb7)
          clear hb7
          rw [<- HRB.out]
          clear v0 v1 v2 v3 v4 v5 lb
          cases r
          ·go_wp2_with fail
           go_ret
           exact ⟨rfl, HB7.out⟩
          ·go_wp2_with fail
           go_ret
           exact ⟨rfl, HB7.out⟩
       ·have y : (t != 0) = true := by simpa using ht
        have HRX := Lib.hid (show r = false by rw [HRN.out]; simp [ht])
        go_wp2_with fail
        go_ret
        exact ⟨ret_bool HRX.out.symm, HBW.out⟩
     ·have hne := size_pos_ne s (by omega)
      have hne1 := hne.1
      have hne2 := hne.2
      have HRX := Lib.hid (show r = false by rw [HRY.out, decide_eq_false hz]; simp)
      go_wp2_with fail
      go_ret
      exact ⟨ret_bool HRX.out.symm, HBW.out⟩
theorem ok_var (v : Vr) : varOK v = (let ok := nameB v.name && typedB v.type && decide (0 <= v.size) && decide (v.size <= 256)
 if v.size > 0 \/ v.type = 4 then ok && v.value == 0 else if v.type = 3 then ok && bits .andNot .i64 v.value 1 == 0 else ok && v.value != -9223372036854775808) := rfl
theorem var_chk (v : Vr) (hs : v.name.size <= 1000000000) (cs : List Value) (w : World) (h : kVr.K w v cs) : Calls Tryz.prog 36 #[.agg cs.toArray] w fun e' w' => e' = .returned (.bool (varOK v)) /\ Below w.heap.size w w' := by
 obtain rfl := kVr_open h
 obtain ⟨r, hr⟩ : ∃ r, r = varOK v := ⟨_, rfl⟩
 rw [<- hr]
 rw [ok_var] at hr
 obtain ⟨s, ty, sz, vl, a⟩ := v
 simp only at hr hs ⊢
 have HR := Lib.hid hr
 obtain ⟨W, hW⟩ : ∃ W, W = w.alloc (.cells #[.string s, .int .i64 ty, .int .i64 sz, .int .i64 vl, .int .i64 a] 40) := ⟨_, rfl⟩
 obtain ⟨bk, hb⟩ : ∃ b, b = w.heap.size := ⟨_, rfl⟩
 have hm : W.heap[bk]? = some (.cells #[.string s, .int .i64 ty, .int .i64 sz, .int .i64 vl, .int .i64 a] 40 (0, 0)) := by rw [hW, hb]; exact heap_alloc_new _ _
 have HBW := Lib.hid (show Below w.heap.size w W by rw [hW]; exact below_alloc (Below.refl _ _) _)
 have HM := Lib.hid hm
 have HW := Lib.hid hW
 have HBK := Lib.hid hb
 have v0 : W.cell? ⟨bk, 0, none⟩ = some (.string s) := (blk_cell hm 0).trans rfl
 have v1 : W.cell? ⟨bk, 1, none⟩ = some (.int .i64 ty) := (blk_cell hm 1).trans rfl
 have v2 : W.cell? ⟨bk, 2, none⟩ = some (.int .i64 sz) := (blk_cell hm 2).trans rfl
 have v3 : W.cell? ⟨bk, 3, none⟩ = some (.int .i64 vl) := (blk_cell hm 3).trans rfl
 have lb := blk_lt hm
 clear hr hW hb hm h
 obtain ⟨ok, hok⟩ : ∃ x, x = (nameB s && typedB ty && decide (0 <= sz) && decide (sz <= 256)) := ⟨_, rfl⟩
 have HOK := Lib.hid hok
 rw [<- hok] at HR
 clear hok
 go_enter Tryz.func36, Tryz.ntmps36
 go_upto_region 1 with fail
 rw [<- HW.out, <- HBK.out]
 go_cut [3] (fun v3 wc => v3 = .bool ok /\ Hid (Below w.heap.size w wc) /\ Hid (wc.heap[bk]? = some (.cells #[.string s, .int .i64 ty, .int .i64 sz, .int .i64 vl, .int .i64 a] 40 (0, 0))))
 case first =>
  go_wp2_with fail
  refine (Name_any s W (by omega)).mono ?_
  rintro e' w3 ⟨rfl, hb3⟩
  have HB3 := Lib.hid (below_next HBW.out hb3)
  have hm3 := (hb3.block bk (blk_lt HM.out)).trans HM.out
  have HM3 := Lib.hid hm3
  clear v0 v1 v2 v3 lb
  have v1 : w3.cell? ⟨bk, 1, none⟩ = some (.int .i64 ty) := (blk_cell hm3 1).trans rfl
  have v2 : w3.cell? ⟨bk, 2, none⟩ = some (.int .i64 sz) := (blk_cell hm3 2).trans rfl
  have v3 : w3.cell? ⟨bk, 3, none⟩ = some (.int .i64 vl) := (blk_cell hm3 3).trans rfl
  have lb := blk_lt hm3
  clear hm3 hb3
  cases hnb : nameB s with
  | false =>
   have HO := Lib.hid (show ok = false by rw [HOK.out, hnb]; rfl)
   go_wp2_with fail
   go_meet
   case rel => exact ⟨by rw [HO.out], HB3, HM3⟩
  | true =>
   have HO := Lib.hid (show ok = (typedB ty && decide (0 <= sz) && decide (sz <= 256)) by rw [HOK.out, hnb]; rfl)
   clear hnb
   go_wp2_with fail
   refine (ptyped_any ty w3).mono ?_
   rintro e' w' ⟨rfl, rfl⟩
   cases hty : typedB ty with
   | false =>
    have HO2 := Lib.hid (show ok = false by rw [HO.out, hty]; rfl)
    go_wp2_with fail
    go_meet
    case rel => exact ⟨by rw [HO2.out], HB3, HM3⟩
   | true =>
    have HO2 := Lib.hid (show ok = (decide (0 <= sz) && decide (sz <= 256)) by rw [HO.out, hty]; rfl)
    clear hty
    by_cases x1 : 0 <= sz
    ·by_cases x2 : sz <= 256
     ·have HO3 := Lib.hid (show ok = true by rw [HO2.out, decide_eq_true x1, decide_eq_true x2]; rfl)
      go_wp2_with fail
      go_meet
      case rel => exact ⟨by rw [HO3.out], HB3, HM3⟩
     ·have HO3 := Lib.hid (show ok = false by rw [HO2.out, decide_eq_false x2]; simp)
      go_wp2_with fail
      go_meet
      case rel => exact ⟨by rw [HO3.out]; congr 1; exact decide_eq_false (by omega), HB3, HM3⟩
    ·have HO3 := Lib.hid (show ok = false by rw [HO2.out, decide_eq_false x1]; rfl)
     go_wp2_with fail
     go_meet
     case rel => exact ⟨by rw [HO3.out], HB3, HM3⟩
 case rest =>
  obtain ⟨hv3, HB3, HM3⟩ := hcut
  subst hv3
  clear v0 v1 v2 v3 lb HOK
  have v1 : wc.cell? ⟨bk, 1, none⟩ = some (.int .i64 ty) := (blk_cell HM3.out 1).trans rfl
  have v2 : wc.cell? ⟨bk, 2, none⟩ = some (.int .i64 sz) := (blk_cell HM3.out 2).trans rfl
  have v3 : wc.cell? ⟨bk, 3, none⟩ = some (.int .i64 vl) := (blk_cell HM3.out 3).trans rfl
  have lb := blk_lt HM3.out
  by_cases x1 : 0 < sz
  ·have HRR := Lib.hid (show r = (ok && vl == 0) by rw [HR.out, if_pos (Or.inl x1)])
   cases ok
   ·go_wp2_with fail
    go_ret
    exact ⟨ret_bool (by rw [HRR.out]; rfl), HB3.out⟩
   ·go_wp2_with fail
    go_ret
    exact ⟨ret_bool (by rw [HRR.out]; rfl), HB3.out⟩
  by_cases x2 : ty = 4
  ·have HRR := Lib.hid (show r = (ok && vl == 0) by rw [HR.out, if_pos (Or.inr x2)])
   subst x2
   cases ok
   ·go_wp2_with fail
    go_ret
    exact ⟨ret_bool (by rw [HRR.out]; rfl), HB3.out⟩
   ·go_wp2_with fail
    go_ret
    exact ⟨ret_bool (by rw [HRR.out]; rfl), HB3.out⟩
  have HRR := Lib.hid (show r = if ty = 3 then (ok && bits .andNot .i64 vl 1 == 0) else (ok && vl != -9223372036854775808) by rw [HR.out, if_neg (fun q => q.elim x1 x2)])
  have y2 : (ty == 4) = false := by simpa using x2
  by_cases x3 : ty = 3
  ·subst x3
   cases ok
   ·go_wp2_with fail
    go_ret
    exact ⟨ret_bool (by rw [HRR.out]; rfl), HB3.out⟩
   ·go_wp2_with fail
    go_ret
    exact ⟨ret_bool (by rw [HRR.out]; rfl), HB3.out⟩
  have y3 : (ty == 3) = false := by simpa using x3
  have HRS := Lib.hid (show r = (ok && vl != -9223372036854775808) by rw [HRR.out, if_neg x3])
  cases ok
  ·go_wp2_with fail
   go_ret
   exact ⟨ret_bool (by rw [HRS.out]; rfl), HB3.out⟩
  ·go_wp2_with fail
   go_ret
   exact ⟨ret_bool (by rw [HRS.out]; rfl), HB3.out⟩
theorem varOK1 (x : Vr) (cs : List Value) (w : World) (h : kVr.K w x cs) (hx : ∀ (w' : World), kVr.K w' x cs -> Calls Tryz.prog 36 #[.agg cs.toArray] w' fun e' w'' => e' = .returned (.bool (varOK x)) /\ Below w'.heap.size w' w'') : PCalls 35 #[] (.agg cs.toArray) w (!varOK x) := by
 have HC := Lib.hid (hx (w.alloc (.cells cs.toArray 40)) (kVr.K_below (below_alloc (Below.refl _ _) _) h))
 have HB := Lib.hid (below_alloc (Below.refl w.heap.size w) (.cells cs.toArray 40))
 obtain ⟨s, a, b, c, d, rfl⟩ := kVr_len h
 clear h hx
 unfold PCalls
 go_enter Tryz.func35, Tryz.ntmps35
 go_wp2_with fail
 refine HC.out.mono ?_
 rintro e w1 ⟨rfl, hb⟩
 have HB1 := Lib.hid (below_next HB.out hb)
 clear hb
 go_wp2_with fail
 go_ret
 exact ⟨rfl, HB1.out⟩
theorem funcOK1 (x : Fc) (cs : List Value) (w : World) (h : kFc.K w x cs) (hx : ∀ (w' : World), kFc.K w' x cs -> Calls Tryz.prog 39 #[.agg cs.toArray] w' fun e' w'' => e' = .returned (.bool (funcOK x)) /\ Below w'.heap.size w' w'') : PCalls 38 #[] (.agg cs.toArray) w (!funcOK x) := by
 have HC := Lib.hid (hx (w.alloc (.cells cs.toArray 46)) (kFc.K_below (below_alloc (Below.refl _ _) _) h))
 have HB := Lib.hid (below_alloc (Below.refl w.heap.size w) (.cells cs.toArray 46))
 obtain ⟨s, A, n, c, t, A1, n1, c1, a, A2, n2, c2, rfl⟩ := kFc_len h
 clear h hx
 unfold PCalls
 go_enter Tryz.func38, Tryz.ntmps38
 go_wp2_with fail
 refine HC.out.mono ?_
 rintro e w1 ⟨rfl, hb⟩
 have HB1 := Lib.hid (below_next HB.out hb)
 clear hb
 go_wp2_with fail
 go_ret
 exact ⟨rfl, HB1.out⟩
theorem en_pMod1 : Enters 35 := fun args w => by kernel_rfl
theorem en_pMod2 : Enters 38 := fun args w => by kernel_rfl
def smF (f : Fc) : Prop := f.name.size <= 1000000000 /\ f.params.length <= 1000000000 /\ (∀ p ∈ f.params, p.name.size <= 1000000000) /\ smSs f.body
theorem stmt_chk : ∀ (n : Nat) (s : St), SizeOf.sizeOf s <= n -> smS s -> StChk s := by
 intro n
 induction n with
 | zero => intro e h; cases e; simp at h
 | succ n ih =>
  intro s h hs
  obtain ⟨k, nm, t, l, b, e, a, p⟩ := s
  simp only [St.mk.sizeOf_spec] at h
  refine stmt_step k nm t l b e a p hs.1 (fun x hx => expr_chk1 (smEs_mem hs.2.1 x hx)) (fun x hx => ih x ?_ (smSs_mem hs.2.2.1 x hx)) (fun x hx => ih x ?_ (smSs_mem hs.2.2.2 x hx))
  ·have h1 := List.sizeOf_lt_of_mem hx
   omega
  ·have h1 := List.sizeOf_lt_of_mem hx
   omega
theorem stmt_chk1 {s : St} (h : smS s) : StChk s := stmt_chk _ s (Nat.le_refl _) h
def goodP (p : Pm) : Bool := nameB p.name && typedB p.type
theorem kPm_name {w : World} {x : Pm} {s : ByteArray} {a : Int} (h : kPm.K w x [.string s, .int .i64 a]) : x = ⟨s, a⟩ := by
 have h2 := kPm_open h
 obtain ⟨n, t⟩ := x
 injection h2 with h3 h2
 injection h2 with h4 _
 injection h3 with h3
 injection h4 with _ h4
 rw [h3, h4]
theorem func_chk (f : Fc) (hs : smF f) (cs : List Value) (w : World) (h : kFc.K w f cs) : Calls Tryz.prog 39 #[.agg cs.toArray] w fun e' w' => e' = .returned (.bool (funcOK f)) /\ Below w.heap.size w w' := by
 obtain ⟨A, c, A1, c1, A2, c2, rfl, hP, hB⟩ := kFc_openK h
 obtain ⟨r, hr⟩ : ∃ r, r = funcOK f := ⟨_, rfl⟩
 rw [<- hr]
 obtain ⟨nm, ps, ty, bd, at_, lc⟩ := f
 obtain ⟨hs1, hs2, hs3, hs4⟩ := hs
 unfold funcOK at hr
 simp only at hr hs1 hs2 hs3 hs4 hP hB ⊢
 obtain ⟨W, hW⟩ : ∃ W, W = w.alloc (.cells #[.string nm, .slice A ps.length c, .int .i64 ty, .slice A1 bd.length c1, .int .i64 at_, .slice A2 lc.length c2] 46) := ⟨_, rfl⟩
 obtain ⟨bk, hb⟩ : ∃ b, b = w.heap.size := ⟨_, rfl⟩
 have hm : W.heap[bk]? = some (.cells #[.string nm, .slice A ps.length c, .int .i64 ty, .slice A1 bd.length c1, .int .i64 at_, .slice A2 lc.length c2] 46 (0, 0)) := by rw [hW, hb]; exact heap_alloc_new _ _
 have hbw : Below w.heap.size w W := by rw [hW]; exact below_alloc (Below.refl _ _) _
 have HR := Lib.hid (show r = (ps.all goodP && nameB nm && (ty == 0 || typedB ty) && decide (ps.length <= 8) && blockOK bd) from hr)
 have HP := Lib.hid (Kd.C_below hP hbw)
 have HBd := Lib.hid (Kd.C_below hB hbw)
 have HBW := Lib.hid hbw
 have HM := Lib.hid hm
 have HW := Lib.hid hW
 have HBK := Lib.hid hb
 have HS3 := Lib.hid hs3
 have HS4 := Lib.hid hs4
 have v1 : W.cell? ⟨bk, 1, none⟩ = some (.slice A ps.length c) := (blk_cell hm 1).trans rfl
 clear hr hP hB hbw hm hW hb hs3 hs4 h
 go_enter Tryz.func39, Tryz.ntmps39
 go_wp2_with fail
 rw [<- HW.out, <- HBK.out]
 have lb := blk_lt HM.out
 go_wp2_with fail
 clear lb v1
 go_loopw [8] (fun i w' => ∃ k : Nat, k <= ps.length /\ i = .int .i64 k /\ Hid (∀ j, j < k -> (fun x => !goodP x) (ps.getD j zPm) = false) /\ Hid (Below W.heap.size W w')) (fun i _ => ps.length - (intOf i).toNat)
 case atStart => exact ⟨0, by omega, rfl, fun j hj => by omega, Below.refl _ _⟩
 case round =>
  obtain ⟨k, hk, rfl, HJ, HB⟩ := hrel
  by_cases hlt : k < ps.length
  ·obtain ⟨ad, s, a, rfl, HK, h0, h1⟩ := at_Pm (Kd.C_below HP.out HB.out) k hlt
   have hxx := kPm_name HK.out
   have HX := Lib.hid hxx
   have hsz : s.size <= 1000000000 := by
    have h5 := HS3.out _ (getD_mem ps zPm k hlt _ rfl)
    rw [hxx] at h5
    exact h5
   obtain ⟨pb, hpb⟩ : ∃ b, b = wr.heap.size := ⟨_, rfl⟩
   obtain ⟨W2, hW2⟩ : ∃ W2, W2 = wr.alloc (.cells #[.string s, .int .i64 a] 49) := ⟨_, rfl⟩
   have HM2 := Lib.hid (show W2.heap[pb]? = some (.cells #[.string s, .int .i64 a] 49 (0, 0)) by rw [hW2, hpb]; exact heap_alloc_new _ _)
   have HB2 := Lib.hid (show Below W.heap.size W W2 by rw [hW2]; exact below_next HB.out (below_alloc (Below.refl _ _) _))
   have HW2 := Lib.hid hW2
   have HPB := Lib.hid hpb
   clear hxx hW2 hpb
   go_wp2_with fail
   rw [<- HW2.out]
   refine (Name_any s W2 (by omega)).mono ?_
   rintro e' w3 ⟨rfl, hb3⟩
   have HB3 := Lib.hid (below_next HB2.out hb3)
   have hm3 := (hb3.block pb (blk_lt HM2.out)).trans HM2.out
   have d1 : w3.cell? ⟨pb, 1, none⟩ = some (.int .i64 a) := (blk_cell hm3 1).trans rfl
   have lb := blk_lt hm3
   rw [<- HPB.out]
   clear hm3 hb3
   cases hnb : nameB s with
   | false =>
    have HY := Lib.hid (any_some (fun x => !goodP x) zPm ps k hlt (by rw [HX.out]; unfold goodP; rw [hnb]; rfl))
    have HRX := Lib.hid (show r = false by rw [HR.out, <- any_not goodP ps, HY.out]; rfl)
    go_wp2_with fail
    go_ret
    exact ⟨ret_bool HRX.out.symm, below_next HBW.out HB3.out⟩
   | true =>
    go_wp2_with fail
    refine (ptyped_any a w3).mono ?_
    rintro e' w' ⟨rfl, rfl⟩
    cases hty : typedB a with
    | false =>
     have HY := Lib.hid (any_some (fun x => !goodP x) zPm ps k hlt (by rw [HX.out]; unfold goodP; rw [hnb, hty]; rfl))
     have HRX := Lib.hid (show r = false by rw [HR.out, <- any_not goodP ps, HY.out]; rfl)
     go_wp2_with fail
     go_ret
     exact ⟨ret_bool HRX.out.symm, below_next HBW.out HB3.out⟩
    | true =>
     have HY := Lib.hid (any_snoc (fun x => !goodP x) zPm ps k HJ.out (by rw [HX.out]; unfold goodP; rw [hnb, hty]; rfl))
     clear hnb hty
     go_wp2_with fail
     go_roundw
     case rel => exact ⟨k + 1, by omega, by go_num, HY.out, HB3.out⟩
     case measure => simp [intOf]; omega
  ·obtain rfl : k = ps.length := by omega
   have HRY := Lib.hid (show r = (nameB nm && (ty == 0 || typedB ty) && decide (ps.length <= 8) && blockOK bd) by rw [HR.out, <- any_not goodP ps, any_none (fun x => !goodP x) zPm ps HJ.out]; rfl)
   have HM2 := Lib.hid ((HB.out.block bk (blk_lt HM.out)).trans HM.out)
   have lb := blk_lt HM2.out
   have v0 : wr.cell? ⟨bk, 0, none⟩ = some (.string nm) := (blk_cell HM2.out 0).trans rfl
   go_wp2_with fail
   refine (Name_any nm wr (by omega)).mono ?_
   rintro e' w3 ⟨rfl, hb3⟩
   have HB3 := Lib.hid (below_next HB.out hb3)
   have hm3 := (hb3.block bk (blk_lt HM2.out)).trans HM2.out
   clear lb v0
   have lb := blk_lt hm3
   have v1 : w3.cell? ⟨bk, 1, none⟩ = some (.slice A ps.length c) := (blk_cell hm3 1).trans rfl
   have v2 : w3.cell? ⟨bk, 2, none⟩ = some (.int .i64 ty) := (blk_cell hm3 2).trans rfl
   have v3 : w3.cell? ⟨bk, 3, none⟩ = some (.slice A1 bd.length c1) := (blk_cell hm3 3).trans rfl
   clear hm3 hb3
   cases hnb : nameB nm with
   | false =>
    have HRX := Lib.hid (show r = false by rw [HRY.out, hnb]; rfl)
    go_wp2_with fail
    go_ret
    exact ⟨ret_bool HRX.out.symm, below_next HBW.out HB3.out⟩
   | true =>
    have HRZ := Lib.hid (show r = ((ty == 0 || typedB ty) && decide (ps.length <= 8) && blockOK bd) by rw [HRY.out, hnb]; rfl)
    clear hnb
    by_cases h0 : ty = 0
    ·have HRT := Lib.hid (show r = (decide (ps.length <= 8) && blockOK bd) by rw [HRZ.out, h0]; rfl)
     subst h0
     by_cases h8 : ps.length <= 8
     ·have HRU := Lib.hid (show r = blockOK bd by rw [HRT.out, decide_eq_true h8]; rfl)
      go_wp2_with fail
      refine (block_chk bd (fun x hx => stmt_chk1 (smSs_mem HS4.out x hx)) A1 c1 w3 (Kd.C_below HBd.out HB3.out)).mono ?_
      rintro e' w4 ⟨rfl, hb4⟩
      have HB4 := Lib.hid (below_next HB3.out hb4)
      clear hb4
      rw [<- HRU.out]
      clear v1 v2 v3 lb
      go_wp2_with fail
      go_ret
      exact ⟨rfl, below_next HBW.out HB4.out⟩
     ·have HRU := Lib.hid (show r = false by rw [HRT.out, decide_eq_false h8]; rfl)
      go_wp2_with fail
      go_ret
      exact ⟨ret_bool (by rw [HRU.out]; try (simp only [decide_eq_false_iff_not] <;> omega)), below_next HBW.out HB3.out⟩
    ·have y0 : (ty == 0) = false := by simpa using h0
     go_wp2_with fail
     refine (ptyped_any ty w3).mono ?_
     rintro e' w' ⟨rfl, rfl⟩
     cases hty : typedB ty with
     | false =>
      have HRX := Lib.hid (show r = false by rw [HRZ.out, y0, hty]; rfl)
      go_wp2_with fail
      go_ret
      exact ⟨ret_bool HRX.out.symm, below_next HBW.out HB3.out⟩
     | true =>
      have HRT := Lib.hid (show r = (decide (ps.length <= 8) && blockOK bd) by rw [HRZ.out, y0, hty]; rfl)
      clear hty
      by_cases h8 : ps.length <= 8
      ·have HRU := Lib.hid (show r = blockOK bd by rw [HRT.out, decide_eq_true h8]; rfl)
       go_wp2_with fail
       refine (block_chk bd (fun x hx => stmt_chk1 (smSs_mem HS4.out x hx)) A1 c1 w3 (Kd.C_below HBd.out HB3.out)).mono ?_
       rintro e' w4 ⟨rfl, hb4⟩
       have HB4 := Lib.hid (below_next HB3.out hb4)
       clear hb4
       rw [<- HRU.out]
       clear v1 v2 v3 lb
       go_wp2_with fail
       go_ret
       exact ⟨rfl, below_next HBW.out HB4.out⟩
      ·have HRU := Lib.hid (show r = false by rw [HRT.out, decide_eq_false h8]; rfl)
       go_wp2_with fail
       go_ret
       exact ⟨ret_bool (by rw [HRU.out]; try (simp only [decide_eq_false_iff_not] <;> omega)), below_next HBW.out HB3.out⟩
theorem mod_chk (m : Md) (hv : ∀ v ∈ m.vars, v.name.size <= 1000000000) (hf : ∀ f ∈ m.funcs, smF f) (A A1 : Option Addr) (c c1 : Nat) (w : World) (hV : kVr.C w A m.vars.length m.vars) (hF : kFc.C w A1 m.funcs.length m.funcs) : Calls Tryz.prog 19 #[.agg #[.slice A m.vars.length c, .slice A1 m.funcs.length c1]] w fun e' w' => e' = .returned (.bool (modOK m)) /\ Below w.heap.size w w' := by
 obtain ⟨r, hr⟩ : ∃ r, r = modOK m := ⟨_, rfl⟩
 rw [<- hr]
 obtain ⟨vs, fs⟩ := m
 unfold modOK at hr
 simp only at hr hv hf hV hF ⊢
 obtain ⟨W, hW⟩ : ∃ W, W = w.alloc (.cells #[.slice A vs.length c, .slice A1 fs.length c1] 25) := ⟨_, rfl⟩
 obtain ⟨bk, hb⟩ : ∃ b, b = w.heap.size := ⟨_, rfl⟩
 have hm : W.heap[bk]? = some (.cells #[.slice A vs.length c, .slice A1 fs.length c1] 25 (0, 0)) := by rw [hW, hb]; exact heap_alloc_new _ _
 have hbw : Below w.heap.size w W := by rw [hW]; exact below_alloc (Below.refl _ _) _
 have HR := Lib.hid hr
 have HV := Lib.hid (Kd.C_below hV hbw)
 have HF := Lib.hid (Kd.C_below hF hbw)
 have HBW := Lib.hid hbw
 have HM := Lib.hid hm
 have HW := Lib.hid hW
 have HBK := Lib.hid hb
 have HVS := Lib.hid hv
 have HFS := Lib.hid hf
 have v0 : W.cell? ⟨bk, 0, none⟩ = some (.slice A vs.length c) := (blk_cell hm 0).trans rfl
 have v1 : W.cell? ⟨bk, 1, none⟩ = some (.slice A1 fs.length c1) := (blk_cell hm 1).trans rfl
 have lb := blk_lt hm
 clear hr hV hF hbw hm hv hf
 by_cases x1 : vs.length <= 64
 ·by_cases x2 : fs.length <= 64
  ·have HRY := Lib.hid (show r = (vs.all varOK && fs.all funcOK) by rw [HR.out, decide_eq_true x1, decide_eq_true x2]; rfl)
   go_enter Tryz.func19, Tryz.ntmps19
   go_wp2_with fail
   rw [<- hW, <- hb]
   refine (conVar_any 35 (fun x => !varOK x) A c vs W en_pMod1 (fun x cs w' hx _ hK => varOK1 x cs w' hK (fun w2 h2 => var_chk x (HVS.out x hx) cs w2 h2)) HV.out (by omega)).mono ?_
   rintro e' w3 ⟨rfl, hb3⟩
   rw [show vs.any (fun x => !varOK x) = !vs.all varOK by rw [<- any_not, Bool.not_not]]
   have HB3 := Lib.hid (below_next HBW.out hb3)
   have HD3 := Lib.hid hb3
   have hm3 := (hb3.block bk (blk_lt HM.out)).trans HM.out
   clear v0 v1 lb
   have v1 : w3.cell? ⟨bk, 1, none⟩ = some (.slice A1 fs.length c1) := (blk_cell hm3 1).trans rfl
   have lb := blk_lt hm3
   clear hm3 hb3 hW hb
   cases hva : vs.all varOK with
   | false =>
    have HRX := Lib.hid (show r = false by rw [HRY.out, hva]; rfl)
    go_wp2_with fail
    go_ret
    exact ⟨ret_bool HRX.out.symm, HB3.out⟩
   | true =>
    have HRX := Lib.hid (show r = fs.all funcOK by rw [HRY.out, hva]; rfl)
    clear hva
    go_wp2_with fail
    refine (conFunc_any 38 (fun x => !funcOK x) A1 c1 fs w3 en_pMod2 (fun x cs w' hx _ hK => funcOK1 x cs w' hK (fun w2 h2 => func_chk x (HFS.out x hx) cs w2 h2)) (Kd.C_below HF.out HD3.out) (by omega)).mono ?_
    rintro e' w4 ⟨rfl, hb4⟩
    rw [show fs.any (fun x => !funcOK x) = !fs.all funcOK by rw [<- any_not, Bool.not_not], <- HRX.out]
    have HB4 := Lib.hid (below_next HB3.out hb4)
    clear hb4
    go_wp2_with fail
    go_ret
    exact ⟨ret_bool (by cases r <;> rfl), HB4.out⟩
  ·have HRX := Lib.hid (show r = false by rw [HR.out, decide_eq_false x2]; simp)
   go_enter Tryz.func19, Tryz.ntmps19
   go_wp2_with fail
   rw [<- hW]
   go_ret
   exact ⟨ret_bool (HRX.out.trans (by simp only [decide_eq_false_iff_not] <;> omega)).symm, HBW.out⟩
 ·have HRX := Lib.hid (show r = false by rw [HR.out, decide_eq_false x1]; rfl)
  go_enter Tryz.func19, Tryz.ntmps19
  go_wp2_with fail
  rw [<- hW]
  go_ret
  exact ⟨ret_bool (HRX.out.trans (by simp only [decide_eq_false_iff_not] <;> omega)).symm, HBW.out⟩
theorem wp_region_below {P : Program} {id : Nat} {Q : Exit -> Act -> World -> Prop} {a : Act} {w : World} {l : List Oper} (hm : P.follows .mixedOrders = true) (hB : Region.lexB .any l.toArray = true)
  (h : wpQuiet P l.toArray (fun w' => Below w.heap.size w w') (fun a' => ∀ w', Below w.heap.size w w' -> Q .normal a' w') l a) : (Code.region id l.toArray true).wp P Q a w :=
 wp_region_quiet (C := fun w' => Below w.heap.size w w') hm hB (below_drew (Below.refl _ _)) (by simpa using h)
theorem q_run {P : Program} {ops : Array Oper} {C : World -> Prop} {Q : Act -> Prop} {a : Act} {o : Oper} {rest : List Oper} {v : Value} (hw : Region.wanted o (yielded ops a.tmps) = true) (hr : ∀ w', C w' -> (execOp a.eval o).run P w' = .ok (.value v) w')
  (h : wpQuiet P ops C Q rest (a.put o.dst v)) : wpQuiet P ops C Q (o :: rest) a :=
 wpQuiet_step fun K hK => by rw [if_pos hw]; exact ⟨v, fun w' hC => by unfold Oper.quietAt; rw [hr w' hC]; exact ⟨rfl, rfl⟩, hK _ h⟩
theorem q_call {P : Program} {ops : Array Oper} {C : World -> Prop} {Q : Act -> Prop} {a : Act} {o : Oper} {rest : List Oper} {v : Value} {f : FuncId} {fn : Func} {xs : Array Operand} {ts : Array TypeId} (args : Array Value) (hw : Region.wanted o (yielded ops a.tmps) = true)
  (hf : P.funcs[f]? = some fn) (hname : (fn.name == "runtime.NumGoroutine") = false) (hb : fn.body.isSome = true) (hop : o.op = .call { callee := .value (.func f), args := xs, argTypes := ts }) (hargs : xs.map a.eval = args)
  (hc : ∀ w', C w' -> Calls P f args w' fun e w'' => e = .returned v /\ C w'')
  (h : wpQuiet P ops C Q rest (a.put o.dst v)) : wpQuiet P ops C Q (o :: rest) a :=
 wpQuiet_step fun K hK => by
  rw [if_pos hw]
  refine ⟨v, fun w' hC => ?_, hK _ h⟩
  have he := enters_ hf hname hb args w'
  have hrun : (execOp a.eval o).run P w' = .ok (.enter f args) w' := by
   unfold execOp
   simp [hop, resolve, Deferred.ofValue, invoke, Act.eval, hargs, he]
  unfold Oper.quietAt
  rw [hrun]
  exact ⟨rfl, hc w' hC⟩
def Mn (f : List UInt8 -> List UInt8) : Prop := ∀ p, p.length <= (f p).length
theorem Mn.id : Mn id := fun p => Nat.le_refl _
theorem mn_head {l : List (List UInt8 -> List UInt8)} (h : ∀ f ∈ l, Mn f) : Mn (l.headD id) := by
 cases l with
 | nil => exact Mn.id
 | cons f l => exact h f (by simp)
theorem mn_tail {l : List (List UInt8 -> List UInt8)} (h : ∀ f ∈ l, Mn f) : ∀ f ∈ l.tail, Mn f := fun f hf => h f (List.mem_of_mem_tail hf)
theorem mn_oper {f : List UInt8 -> List UInt8} (h : Mn f) (b : Bool) : Mn (operT f b) := fun p => by
 unfold operT
 split
 ·have := h (p ++ [40])
  rw [List.length_append] at this ⊢
  simp only [List.length_cons, List.length_nil] at this ⊢
  omega
 ·exact h p
theorem mn_row : ∀ (l : List (List UInt8 -> List UInt8)) (b : Bool), (∀ f ∈ l, Mn f) -> Mn (rowT l b)
 | [], _, _, p => Nat.le_refl _
 | f :: l, b, h, p => by
  unfold rowT
  refine Nat.le_trans ?_ (mn_row l true (fun f hf => h f (List.mem_cons_of_mem _ hf)) _)
  refine Nat.le_trans ?_ (h f (by simp) _)
  split
  ·rw [List.length_append]; omega
  ·exact Nat.le_refl _
theorem exprK_mn {k op num : Int} {name : ByteArray} {args : List Ex} {fs : List (List UInt8 -> List UInt8)} (hf : ∀ f ∈ fs, Mn f) : Mn (exprK k op num name args fs) := fun p => by
 unfold exprK
 split
 ·rw [List.length_append]; omega
 split
 ·rw [List.length_append]; omega
 split
 ·rw [List.length_append]; omega
 split
 ·rw [List.length_append]; omega
 split
 ·rw [List.length_append]; omega
 split
 ·have := mn_head hf (p ++ toL name ++ [91])
  rw [List.length_append, List.length_append] at this
  rw [List.length_append]; omega
 split
 ·have := mn_row fs false hf (p ++ toL name ++ [40])
  rw [List.length_append, List.length_append] at this
  rw [List.length_append]; omega
 split
 ·have := mn_oper (mn_head hf) ((args.headD (.mk 0 0 0 ⟨#[]⟩ [] 0 0 0)).kind == 9) (p ++ sgT op)
  rw [List.length_append] at this
  omega
 split
 ·dsimp only
  refine Nat.le_trans ?_ (mn_oper (mn_head (mn_tail hf)) _ _)
  rw [List.length_append, List.length_append, List.length_append]
  have := mn_oper (mn_head hf) (decide (strongE (args.headD (.mk 0 0 0 ⟨#[]⟩ [] 0 0 0)) < strongB 9 op) || (strongE (args.headD (.mk 0 0 0 ⟨#[]⟩ [] 0 0 0)) == strongB 9 op && strongB 9 op == 3)) p
  omega
 ·exact Nat.le_refl _
theorem expr_mn (n : Nat) : ∀ e : Ex, SizeOf.sizeOf e <= n -> Mn (exprT e) := by
 induction n with
 | zero => intro e h; cases e; simp at h
 | succ n ih =>
  intro e h p
  obtain ⟨k, op, num, name, args, a, t, pl⟩ := e
  rw [exprT_eq]
  split
  ·exact Nat.le_refl _
  ·refine exprK_mn ?_ p
   intro f hf
   obtain ⟨x, hx, rfl⟩ := List.mem_map.1 hf
   have h1 := List.sizeOf_lt_of_mem hx
   simp only [Ex.mk.sizeOf_spec] at h
   exact ih x (by omega)
theorem expr_mn1 (e : Ex) : Mn (exprT e) := expr_mn _ e (Nat.le_refl _)
theorem exprs_mn (l : List Ex) : ∀ f ∈ l.map exprT, Mn f := fun f hf => by
 obtain ⟨x, _, rfl⟩ := List.mem_map.1 hf
 exact expr_mn1 x
structure GW (w : World) : Prop where
 ge : GErr w
 p10 : P10 w
 ty : ∀ j : Nat, j < 5 -> w.cell? ⟨0, j, none⟩ = some (.string ⟨(tyT j).toArray⟩)
 sg : ∀ j : Nat, j < 16 -> w.cell? ⟨1, j, none⟩ = some (.string ⟨(sgT j).toArray⟩)
theorem GW.below {w w' : World} (h : GW w) (hb : Below w.heap.size w w') : GW w' := ⟨h.ge.below hb, h.p10.below hb, fun j hj => cell_up hb (h.ty j hj), fun j hj => cell_up hb (h.sg j hj)⟩
abbrev LIM : Nat := 140737488355328
theorem pstrong_any (k o n : Int) (s : ByteArray) (A : Option Addr) (l c : Nat) (a t p : Int) (h : k = 9 -> 1 <= o /\ o <= 13) (w : World) : Calls Tryz.prog 170 #[.agg #[.int .i64 k, .int .i64 o, .int .i64 n, .string s, .slice A l c, .int .i64 a, .int .i64 t, .int .i64 p]] w fun e' w' => e' = .returned (.int .i64 (strongB k o)) /\ Below w.heap.size w w' := by
 have HB := Lib.hid (below_alloc (Below.refl w.heap.size w) (.cells #[.int .i64 k, .int .i64 o, .int .i64 n, .string s, .slice A l c, .int .i64 a, .int .i64 t, .int .i64 p] 86))
 by_cases hk : k = 9
 ·subst hk
  have h2 := h rfl
  rcases (show o = 1 \/ o = 2 \/ o = 3 \/ o = 4 \/ o = 5 \/ o = 6 \/ o = 7 \/ o = 8 \/ o = 9 \/ o = 10 \/ o = 11 \/ o = 12 \/ o = 13 by omega) with rfl | rfl | rfl | rfl | rfl | rfl | rfl | rfl | rfl | rfl | rfl | rfl | rfl
  ·have hix : ∀ W, (Instr.index 205 (.agg #[.int .i64 0, .int .i64 4, .int .i64 4, .int .i64 5, .int .i64 5, .int .i64 5, .int .i64 3, .int .i64 3, .int .i64 3, .int .i64 3, .int .i64 3, .int .i64 3, .int .i64 2, .int .i64 1]) (.int .i64 1)).run Tryz.prog W = .ok (.int .i64 4) W := fun W => by kernel_rfl
   go_enter Tryz.func170, Tryz.ntmps170
   go_wp2_with fail
   go_ret
   exact ⟨rfl, HB.out⟩
  ·have hix : ∀ W, (Instr.index 205 (.agg #[.int .i64 0, .int .i64 4, .int .i64 4, .int .i64 5, .int .i64 5, .int .i64 5, .int .i64 3, .int .i64 3, .int .i64 3, .int .i64 3, .int .i64 3, .int .i64 3, .int .i64 2, .int .i64 1]) (.int .i64 2)).run Tryz.prog W = .ok (.int .i64 4) W := fun W => by kernel_rfl
   go_enter Tryz.func170, Tryz.ntmps170
   go_wp2_with fail
   go_ret
   exact ⟨rfl, HB.out⟩
  ·have hix : ∀ W, (Instr.index 205 (.agg #[.int .i64 0, .int .i64 4, .int .i64 4, .int .i64 5, .int .i64 5, .int .i64 5, .int .i64 3, .int .i64 3, .int .i64 3, .int .i64 3, .int .i64 3, .int .i64 3, .int .i64 2, .int .i64 1]) (.int .i64 3)).run Tryz.prog W = .ok (.int .i64 5) W := fun W => by kernel_rfl
   go_enter Tryz.func170, Tryz.ntmps170
   go_wp2_with fail
   go_ret
   exact ⟨rfl, HB.out⟩
  ·have hix : ∀ W, (Instr.index 205 (.agg #[.int .i64 0, .int .i64 4, .int .i64 4, .int .i64 5, .int .i64 5, .int .i64 5, .int .i64 3, .int .i64 3, .int .i64 3, .int .i64 3, .int .i64 3, .int .i64 3, .int .i64 2, .int .i64 1]) (.int .i64 4)).run Tryz.prog W = .ok (.int .i64 5) W := fun W => by kernel_rfl
   go_enter Tryz.func170, Tryz.ntmps170
   go_wp2_with fail
   go_ret
   exact ⟨rfl, HB.out⟩
  ·have hix : ∀ W, (Instr.index 205 (.agg #[.int .i64 0, .int .i64 4, .int .i64 4, .int .i64 5, .int .i64 5, .int .i64 5, .int .i64 3, .int .i64 3, .int .i64 3, .int .i64 3, .int .i64 3, .int .i64 3, .int .i64 2, .int .i64 1]) (.int .i64 5)).run Tryz.prog W = .ok (.int .i64 5) W := fun W => by kernel_rfl
   go_enter Tryz.func170, Tryz.ntmps170
   go_wp2_with fail
   go_ret
   exact ⟨rfl, HB.out⟩
  ·have hix : ∀ W, (Instr.index 205 (.agg #[.int .i64 0, .int .i64 4, .int .i64 4, .int .i64 5, .int .i64 5, .int .i64 5, .int .i64 3, .int .i64 3, .int .i64 3, .int .i64 3, .int .i64 3, .int .i64 3, .int .i64 2, .int .i64 1]) (.int .i64 6)).run Tryz.prog W = .ok (.int .i64 3) W := fun W => by kernel_rfl
   go_enter Tryz.func170, Tryz.ntmps170
   go_wp2_with fail
   go_ret
   exact ⟨rfl, HB.out⟩
  ·have hix : ∀ W, (Instr.index 205 (.agg #[.int .i64 0, .int .i64 4, .int .i64 4, .int .i64 5, .int .i64 5, .int .i64 5, .int .i64 3, .int .i64 3, .int .i64 3, .int .i64 3, .int .i64 3, .int .i64 3, .int .i64 2, .int .i64 1]) (.int .i64 7)).run Tryz.prog W = .ok (.int .i64 3) W := fun W => by kernel_rfl
   go_enter Tryz.func170, Tryz.ntmps170
   go_wp2_with fail
   go_ret
   exact ⟨rfl, HB.out⟩
  ·have hix : ∀ W, (Instr.index 205 (.agg #[.int .i64 0, .int .i64 4, .int .i64 4, .int .i64 5, .int .i64 5, .int .i64 5, .int .i64 3, .int .i64 3, .int .i64 3, .int .i64 3, .int .i64 3, .int .i64 3, .int .i64 2, .int .i64 1]) (.int .i64 8)).run Tryz.prog W = .ok (.int .i64 3) W := fun W => by kernel_rfl
   go_enter Tryz.func170, Tryz.ntmps170
   go_wp2_with fail
   go_ret
   exact ⟨rfl, HB.out⟩
  ·have hix : ∀ W, (Instr.index 205 (.agg #[.int .i64 0, .int .i64 4, .int .i64 4, .int .i64 5, .int .i64 5, .int .i64 5, .int .i64 3, .int .i64 3, .int .i64 3, .int .i64 3, .int .i64 3, .int .i64 3, .int .i64 2, .int .i64 1]) (.int .i64 9)).run Tryz.prog W = .ok (.int .i64 3) W := fun W => by kernel_rfl
   go_enter Tryz.func170, Tryz.ntmps170
   go_wp2_with fail
   go_ret
   exact ⟨rfl, HB.out⟩
  ·have hix : ∀ W, (Instr.index 205 (.agg #[.int .i64 0, .int .i64 4, .int .i64 4, .int .i64 5, .int .i64 5, .int .i64 5, .int .i64 3, .int .i64 3, .int .i64 3, .int .i64 3, .int .i64 3, .int .i64 3, .int .i64 2, .int .i64 1]) (.int .i64 10)).run Tryz.prog W = .ok (.int .i64 3) W := fun W => by kernel_rfl
   go_enter Tryz.func170, Tryz.ntmps170
   go_wp2_with fail
   go_ret
   exact ⟨rfl, HB.out⟩
  ·have hix : ∀ W, (Instr.index 205 (.agg #[.int .i64 0, .int .i64 4, .int .i64 4, .int .i64 5, .int .i64 5, .int .i64 5, .int .i64 3, .int .i64 3, .int .i64 3, .int .i64 3, .int .i64 3, .int .i64 3, .int .i64 2, .int .i64 1]) (.int .i64 11)).run Tryz.prog W = .ok (.int .i64 3) W := fun W => by kernel_rfl
   go_enter Tryz.func170, Tryz.ntmps170
   go_wp2_with fail
   go_ret
   exact ⟨rfl, HB.out⟩
  ·have hix : ∀ W, (Instr.index 205 (.agg #[.int .i64 0, .int .i64 4, .int .i64 4, .int .i64 5, .int .i64 5, .int .i64 5, .int .i64 3, .int .i64 3, .int .i64 3, .int .i64 3, .int .i64 3, .int .i64 3, .int .i64 2, .int .i64 1]) (.int .i64 12)).run Tryz.prog W = .ok (.int .i64 2) W := fun W => by kernel_rfl
   go_enter Tryz.func170, Tryz.ntmps170
   go_wp2_with fail
   go_ret
   exact ⟨rfl, HB.out⟩
  ·have hix : ∀ W, (Instr.index 205 (.agg #[.int .i64 0, .int .i64 4, .int .i64 4, .int .i64 5, .int .i64 5, .int .i64 5, .int .i64 3, .int .i64 3, .int .i64 3, .int .i64 3, .int .i64 3, .int .i64 3, .int .i64 2, .int .i64 1]) (.int .i64 13)).run Tryz.prog W = .ok (.int .i64 1) W := fun W => by kernel_rfl
   go_enter Tryz.func170, Tryz.ntmps170
   go_wp2_with fail
   go_ret
   exact ⟨rfl, HB.out⟩
 ·have y : (k != 9) = true := by simpa using hk
  have HR := Lib.hid (show strongB k o = 6 by unfold strongB; rw [if_pos hk])
  go_enter Tryz.func170, Tryz.ntmps170
  go_wp2_with fail
  go_ret
  exact ⟨by rw [HR.out]; rfl, HB.out⟩
def ExPr (e : Ex) : Prop := ∀ (w0 : World) (cs : List Value) (B b lv : Nat) (p : List UInt8) (w : World), kEx.K w0 e cs -> GW w0 -> w0.heap.size <= B -> Below w0.heap.size w0 w -> Pg B b p lv w -> (exprT e p).length <= LIM ->
 Calls Tryz.prog 130 #[.pointer (some ⟨b, 0, none⟩), .agg cs.toArray] w fun e' w' => e' = .returned (.tuple #[]) /\ Pg B b (exprT e p) lv w' /\ PF B b w w'
theorem put1_any {B b lv : Nat} {bs : List UInt8} {w : World} (h : Pg B b bs lv w) (ss : List ByteArray) (n : Nat) (hn : n = ss.length) (hsl : ss.length <= 1000) (q : List UInt8) (hq : catL ss = q) (hlen : (bs ++ q).length <= LIM) :
  Calls Tryz.prog 42 #[.pointer (some ⟨b, 0, none⟩), .slice (some ⟨w.heap.size, 0, none⟩) n n] (w.alloc (.cells (ss.map Value.string).toArray 9)) fun e w' => e = .returned (.tuple #[]) /\ Pg B b (bs ++ q) lv w' /\ PF B b w w' := by
 have hba := below_alloc (Below.refl w.heap.size w) (.cells (ss.map Value.string).toArray 9)
 refine (put_any (h.below hba) (SRow.new ss h.lt n hn) hsl (by rw [hq]; exact hlen)).mono ?_
 rintro e w' ⟨rfl, hp, hf⟩
 rw [hq] at hp
 exact ⟨rfl, hp, (PF.of_below hba h.bw).trans hf⟩
theorem oper_any {e : Ex} (he : ExPr e) (apart : Bool) (w0 : World) (cs : List Value) (B b lv : Nat) (p : List UInt8) (w : World) (hK : kEx.K w0 e cs) (hg : GW w0) (h0 : w0.heap.size <= B) (hb : Below w0.heap.size w0 w) (hp : Pg B b p lv w) (hl : (operT (exprT e) apart p).length <= LIM) :
  Calls Tryz.prog 169 #[.pointer (some ⟨b, 0, none⟩), .agg cs.toArray, .bool apart] w fun e' w' => e' = .returned (.tuple #[]) /\ Pg B b (operT (exprT e) apart p) lv w' /\ PF B b w w' := by
 obtain ⟨W, hW⟩ : ∃ W, W = w.alloc (.cells cs.toArray 86) := ⟨_, rfl⟩
 obtain ⟨bk, hbk⟩ : ∃ x, x = w.heap.size := ⟨_, rfl⟩
 have hba : Below w.heap.size w W := by rw [hW]; exact below_alloc (Below.refl _ _) _
 have hm : W.heap[bk]? = some (.cells cs.toArray 86 (0, 0)) := by rw [hW, hbk]; exact heap_alloc_new _ _
 have HPW := Lib.hid (hp.below hba)
 have HFW := Lib.hid (PF.of_below (b := b) hba hp.bw)
 have HBW := Lib.hid (hb.trans (hba.mono hb.size))
 have HE := Lib.hid (fun (q : List UInt8) (w1 : World) (h1 : Below w0.heap.size w0 w1) (h2 : Pg B b q lv w1) (h3 : (exprT e q).length <= LIM) => he w0 cs B b lv q w1 hK hg h0 h1 h2 h3)
 have HM := Lib.hid hm
 have HBB := Lib.hid (show bk ≠ b from by have := hp.lt; omega)
 have HW := Lib.hid hW
 have HBK := Lib.hid hbk
 have HL := Lib.hid hl
 have H0 := Lib.hid h0
 obtain ⟨k, o, n, s, A, l, c, a, t, pl, rfl⟩ := kEx_len hK
 have nby : ∀ w1 : World, w1.heap[bk]? = some (.cells (#[.int .i64 k, .int .i64 o, .int .i64 n, .string s, .slice A l c, .int .i64 a, .int .i64 t, .int .i64 pl]) 86 (0, 0)) -> ¬ isBy w1.heap[bk]? := fun w1 h => by
  rintro ⟨cur, fz, e⟩
  rw [h] at e
  injection e with e
  injection e with _ e _
  exact absurd e (by decide)
 have HNB := Lib.hid nby
 clear nby hK hba hm hW hbk hp hb he hl h0 hg
 cases apart with
 | false =>
  go_enter Tryz.func169, Tryz.ntmps169
  go_wp2_with fail
  rw [<- HW.out]
  refine (HE.out p W HBW.out HPW.out HL.out).mono ?_
  rintro e' w1 ⟨rfl, hp1, hf1⟩
  have HP1 := Lib.hid hp1
  have HF1 := Lib.hid (HFW.out.trans hf1)
  clear hp1 hf1
  go_wp2_with fail
  go_end0
  exact ⟨rfl, HP1.out, HF1.out⟩
 | true =>
  have HL1 := Lib.hid (show (exprT e (p ++ [40])).length + 1 <= LIM by have h := HL.out; unfold operT at h; rw [if_pos rfl, List.length_append] at h; exact h)
  have HL2 := Lib.hid (show (p ++ [40]).length <= LIM by have := expr_mn1 e (p ++ [40]); have := HL1.out; omega)
  go_enter Tryz.func169, Tryz.ntmps169
  go_upto_region 1 with fail
  rw [<- HW.out, <- HBK.out]
  go_wp2_with fail
  refine (put1_any HPW.out [⟨#[40]⟩] 1 rfl (by decide) [40] rfl HL2.out).mono ?_
  rintro e' w1 ⟨rfl, hp1, hf1⟩
  have HP1 := Lib.hid hp1
  have HF1 := Lib.hid (HFW.out.trans hf1)
  have HB1 := Lib.hid (HBW.out.trans (hf1.be.mono H0.out))
  have hm1 := (hf1.nb bk (blk_lt HM.out) HBB.out (HNB.out _ HM.out)).trans HM.out
  have lb := blk_lt hm1
  have z0 : w1.cell? ⟨bk, 0, none⟩ = some (.int .i64 k) := (blk_cell hm1 0).trans rfl
  have z1 : w1.cell? ⟨bk, 1, none⟩ = some (.int .i64 o) := (blk_cell hm1 1).trans rfl
  have z2 : w1.cell? ⟨bk, 2, none⟩ = some (.int .i64 n) := (blk_cell hm1 2).trans rfl
  have z3 : w1.cell? ⟨bk, 3, none⟩ = some (.string s) := (blk_cell hm1 3).trans rfl
  have z4 : w1.cell? ⟨bk, 4, none⟩ = some (.slice A l c) := (blk_cell hm1 4).trans rfl
  have z5 : w1.cell? ⟨bk, 5, none⟩ = some (.int .i64 a) := (blk_cell hm1 5).trans rfl
  have z6 : w1.cell? ⟨bk, 6, none⟩ = some (.int .i64 t) := (blk_cell hm1 6).trans rfl
  have z7 : w1.cell? ⟨bk, 7, none⟩ = some (.int .i64 pl) := (blk_cell hm1 7).trans rfl
  clear hp1 hf1 hm1
  go_wp2_with fail
  refine (HE.out (p ++ [40]) w1 HB1.out HP1.out (by have := HL1.out; omega)).mono ?_
  rintro e' w2 ⟨rfl, hp2, hf2⟩
  have HP2 := Lib.hid hp2
  have HF2 := Lib.hid (HF1.out.trans hf2)
  clear hp2 hf2 lb z0 z1 z2 z3 z4 z5 z6 z7
  go_wp2_with fail
  refine (put1_any HP2.out [⟨#[41]⟩] 1 rfl (by decide) [41] rfl HL.out).mono ?_
  rintro e' w3 ⟨rfl, hp3, hf3⟩
  have HP3 := Lib.hid hp3
  have HF3 := Lib.hid (HF2.out.trans hf3)
  clear hp3 hf3
  go_wp2_with fail
  try simp only [Exit.inBlock, Exit.then]
  refine bodyPost_ret (results_none rfl _ _ _) rfl ?_
  exact ⟨rfl, HP3.out, HF3.out⟩
end Go.Proofs.YtpfdhihbecpbeaaGreatDoor.E
