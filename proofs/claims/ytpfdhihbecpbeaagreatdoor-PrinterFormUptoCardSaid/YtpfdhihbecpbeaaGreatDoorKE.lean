import Derived.Test.YtpfdhihbecpbeaaGreatDoorKA
import Derived.Test.YtpfdhihbecpbeaaGreatDoorShelf
import Derived.Test.YtpfdhihbecpbeaaGreatDoorKD
import Derived.Deep.RegionHeld3
import Derived.Deep.QuietTactic
import Derived.Test.YtpfdhihbecpbeaaGreatDoorKB
import Derived.WalkMore
import Derived.ScopeJumps
import Derived.Laws.BitsAllLaws
/- Contracts of the program's functions, and lemmas: no statement of its own. -/
namespace Go.Proofs.YtpfdhihbecpbeaaGreatDoor.E
open Go Go.RowKit Go.Proofs.YtpfdhihbecpbeaaGreatDoorW.PrintWords Go.Proofs.YtpfdhihbecpbeaaGreatDoorW.PrintLast Go.Proofs.YtpfdhihbecpbeaaGreatDoorW.PrintMore
set_option linter.unusedVariables false
set_option linter.unusedSimpArgs false
set_option maxRecDepth 100000
set_option maxHeartbeats 4000000
def z8h (w : World) : Prop := ∃ te pe, w.cell? ⟨4, 0, none⟩ = some (.iface te pe)
theorem z8h.below {w w1 : World} (h : z8h w) (hb : Below w.heap.size w w1) : z8h w1 := by
 obtain ⟨te, pe, h⟩ := h
 exact ⟨te, pe, q6u hb h⟩
theorem x5b (t : ByteArray) (hne : t.size ≠ 0) (hmax : t.size <= 1000000) (hd : z6n t.data.toList) (w : World) (hg : decU t.data.toList <= 9223372036854775807 \/ z8h w) :
  Calls Tryz.prog 144 #[.string t, .int .i64 10, .int .i64 63] w fun e w' => ∃ v er, e = .returned (.tuple #[.int .u64 v, er]) /\ (decU t.data.toList <= 9223372036854775807 -> v = (decU t.data.toList : Nat) /\ er = .nilIface) /\ (9223372036854775807 < decU t.data.toList -> ∃ ty p, er = .iface ty p) /\ Below w.heap.size w w' := by
 have hC := x4i t hne hmax hd w
 have hv := hg.imp id (fun h => h.below (q6v w 5 t))
 have HT := q0h hmax
 obtain ⟨n, hn⟩ : ∃ n, n = decU t.data.toList := ⟨_, rfl⟩
 rw [<- hn] at hC hv ⊢
 have HV := q0h hv
 have HB := q0h (q6v w 5 t)
 clear hd hn hne hmax hv hg
 obtain ⟨W1, hW1⟩ : ∃ W1, W1 = Lib.bytesWorld w 5 t := ⟨_, rfl⟩
 rw [<- hW1] at hC HB HV
 clear hW1
 by_cases h : n <= 9223372036854775807
 ·rw [if_pos h] at hC
  have HC := q0h hC
  have HP := q0h h
  clear hC h
  obtain ⟨a, ha⟩ : ∃ a : Int, a = (n : Int) := ⟨_, rfl⟩
  have HA := q0h ha
  rw [<- ha] at HC
  clear ha
  go_enter Tryz.func144, Tryz.ntmps144
  go_wp2_with fail
  refine HC.out.mono ?_
  rintro e w1 ⟨rfl, rfl⟩
  go_wp2_with fail
  go_ret2
  exact ⟨_, _, rfl, fun _ => ⟨HA.out, rfl⟩, fun h => absurd h (by have := HP.out; omega), HB.out⟩
 ·rw [if_neg h] at hC
  have HC := q0h hC
  have HP := q0h h
  obtain ⟨te, pe, hv⟩ := HV.out.resolve_left h
  have HV := q0h hv
  clear hC h hv
  go_enter Tryz.func144, Tryz.ntmps144
  go_wp2_with fail
  refine HC.out.mono ?_
  rintro e w1 ⟨rfl, rfl⟩
  go_wp2_with fail
  refine (Tryz.strconv_toError_range _ t 10 63 (.iface te pe) _ (by have := HT.out; omega) HV.out (.inr ⟨te, pe, rfl⟩)).mono ?_
  rintro e w2 ⟨N, rfl, _, _, hb⟩
  have HB2 := q0h (q0e HB.out hb)
  clear hb
  go_wp2_with fail
  go_ret2
  exact ⟨_, _, rfl, fun h => absurd h HP.out, fun _ => ⟨_, _, rfl⟩, HB2.out⟩
theorem x5c (t : ByteArray) (hne : t.size ≠ 0) (hmax : t.size <= 1000000) (hd : z6n t.data.toList) (w : World) (hg : decU t.data.toList <= 2147483647 \/ z8h w) :
  Calls Tryz.prog 144 #[.string t, .int .i64 10, .int .i64 31] w fun e w' => ∃ v er, e = .returned (.tuple #[.int .u64 v, er]) /\ (decU t.data.toList <= 2147483647 -> v = (decU t.data.toList : Nat) /\ er = .nilIface) /\ (2147483647 < decU t.data.toList -> ∃ ty p, er = .iface ty p) /\ Below w.heap.size w w' := by
 have hC := x4j t hne hmax hd w
 have hv := hg.imp id (fun h => h.below (q6v w 5 t))
 have HT := q0h hmax
 obtain ⟨n, hn⟩ : ∃ n, n = decU t.data.toList := ⟨_, rfl⟩
 rw [<- hn] at hC hv ⊢
 have HV := q0h hv
 have HB := q0h (q6v w 5 t)
 clear hd hn hne hmax hv hg
 obtain ⟨W1, hW1⟩ : ∃ W1, W1 = Lib.bytesWorld w 5 t := ⟨_, rfl⟩
 rw [<- hW1] at hC HB HV
 clear hW1
 by_cases h : n <= 2147483647
 ·rw [if_pos h] at hC
  have HC := q0h hC
  have HP := q0h h
  clear hC h
  obtain ⟨a, ha⟩ : ∃ a : Int, a = (n : Int) := ⟨_, rfl⟩
  have HA := q0h ha
  rw [<- ha] at HC
  clear ha
  go_enter Tryz.func144, Tryz.ntmps144
  go_wp2_with fail
  refine HC.out.mono ?_
  rintro e w1 ⟨rfl, rfl⟩
  go_wp2_with fail
  go_ret2
  exact ⟨_, _, rfl, fun _ => ⟨HA.out, rfl⟩, fun h => absurd h (by have := HP.out; omega), HB.out⟩
 ·rw [if_neg h] at hC
  have HC := q0h hC
  have HP := q0h h
  obtain ⟨te, pe, hv⟩ := HV.out.resolve_left h
  have HV := q0h hv
  clear hC h hv
  go_enter Tryz.func144, Tryz.ntmps144
  go_wp2_with fail
  refine HC.out.mono ?_
  rintro e w1 ⟨rfl, rfl⟩
  go_wp2_with fail
  refine (Tryz.strconv_toError_range _ t 10 31 (.iface te pe) _ (by have := HT.out; omega) HV.out (.inr ⟨te, pe, rfl⟩)).mono ?_
  rintro e w2 ⟨N, rfl, _, _, hb⟩
  have HB2 := q0h (q0e HB.out hb)
  clear hb
  go_wp2_with fail
  go_ret2
  exact ⟨_, _, rfl, fun h => absurd h HP.out, fun _ => ⟨_, _, rfl⟩, HB2.out⟩
theorem x5d (t : ByteArray) (ht : t.size <= 1000000) (w : World) : Calls Tryz.prog 64 #[.string t] w fun e w' => e = .returned (.string t) /\ Below w.heap.size w w' := by
 have HC := q0h (Tryz.stringslite_Clone t w (by omega))
 clear ht
 go_enter Tryz.func64, Tryz.ntmps64
 go_wp2_with fail
 refine HC.out.mono ?_
 rintro e w1 ⟨rfl, hb⟩
 have HB := q0h hb
 clear hb
 go_wp2_with fail
 go_ret
 exact ⟨rfl, HB.out⟩
theorem j3r : (Tryz.prog.info? 40).map (fun i => (i.zero, i.size, i.bytes)) = some (some (.agg #[.string ⟨#[]⟩, .int .i64 0, .int .i64 0, .int .i64 0, .int .i64 0]), 5, 48) := by kernel_rfl
theorem x9a : (Tryz.prog.info? 46).map (fun i => (i.zero, i.size, i.bytes)) = some (some (.agg #[.string ⟨#[]⟩, .slice none 0 0, .int .i64 0, .slice none 0 0, .int .i64 0, .slice none 0 0]), 6, 104) := by kernel_rfl
def x5e (fx : List UInt8 -> Bool) : Prop := ∀ (s : ByteArray) (w : World), z8h w -> s.size <= 1000000000 -> Calls Tryz.prog 25 #[.string s] w fun e w' => Below w.heap.size w w' /\ match q3j fx s.data.toList with
 | .ok ts => (∃ v, e = .returned (.tuple #[v, .agg #[.int .i64 0, .int .i64 0]]) /\ z5a.R 63 w' w.heap.size (fun k => w.heap.size <= k) v ts) /\ j3f ts /\ ts.length <= 16385 /\ ∀ t ∈ ts, z1o t
 | .error f => e = .returned (.tuple #[.slice none 0 0, .agg #[.int .i64 f.1, .int .i64 f.2]]) /\ f.1 ≠ 0
theorem x5f {α β : Type} {m : PM α} {f : α -> PM β} {ts : List Tok} {r : Except Flt (β × List Tok)} (h : m.bind f ts = some r) : ∃ rm, m ts = some rm := by
 rcases bind_some h with ⟨e, hm, _⟩ | ⟨a, ts', hm, _⟩
 ·exact ⟨_, hm⟩
 ·exact ⟨_, hm⟩
def zMd : Md := ⟨[], []⟩
def q7h (num : Tok -> Int) (fx : List UInt8 -> Bool) (l : List UInt8) : Md × Flt := match q3j fx l with
 | .error f => (zMd, f)
 | .ok ts => match x4g num 60000 ts with
  | some (.ok (m, _)) => (m, (0, 0))
  | some (.error f) => (zMd, f)
  | none => (zMd, (0, 0))
def mdV (base : Nat) (w' : World) (m : Md) (v : Value) : Prop := ∃ cs : List Value, v = .agg cs.toArray /\ kMd.M w' base (fun k => base <= k) m cs
theorem z2t {base : Nat} {w : World} {vs : List Vr} {fs : List Fc} {v v1 : Value} (h : kVr.R 40 w base (fun k => base <= k) v vs) (h1 : kFc.R 46 w base (fun k => base <= k) v1 fs) : mdV base w ⟨vs, fs⟩ (.agg #[v, v1]) := ⟨[v, v1], rfl, [v], [v1], rfl, ⟨v, rfl, h⟩, ⟨v1, rfl, h1⟩⟩
theorem x9b {w : World} {base : Nat} {ok : Nat -> Prop} {x : Fc} {cs : List Value} (h : kFc.M w base ok x cs) : ∃ A c A1 c1 A2 c2, cs = [.string x.name, .slice A x.params.length c, .int .i64 x.type, .slice A1 x.body.length c1, .int .i64 x.at_, .slice A2 x.locals.length c2] := by
 obtain ⟨_, _, rfl, rfl, _, _, rfl, ⟨v, rfl, h1⟩, _, _, rfl, rfl, _, _, rfl, ⟨v1, rfl, h2⟩, _, _, rfl, rfl, ⟨v2, rfl, h3⟩⟩ := h
 obtain ⟨A, c, rfl⟩ := Kd.R_slice h1
 obtain ⟨A1, c1, rfl⟩ := Kd.R_slice h2
 obtain ⟨A2, c2, rfl⟩ := Kd.R_slice h3
 exact ⟨A, c, A1, c1, A2, c2, rfl⟩
theorem RD.setMod {B : Nat} {w : World} {g : Nat} {ts : List Tok} {lv : Nat} (h : RD B w g ts lv) {bm : Nat} {A A' : Option Addr} {n c n' c' : Nat} {t : TypeId} (hm : w.heap[bm]? = some (.cells #[.slice A n c, .slice A' n' c'] t (0, 0))) (hg : bm ≠ g) (i : Nat) (u : Value) : RD B (w.setCell ⟨bm, i, none⟩ u) g ts lv := by
 obtain ⟨ad, cc, h1, h2, h3, h4, h5⟩ := h.mem
 have hne : ad.block ≠ bm := by
  intro e
  obtain ⟨t0, r0, rfl, _⟩ := h.et.cons
  obtain ⟨ad', e1, k0, _, _⟩ := x4h h3
  injection e1 with e1
  subst e1
  unfold World.cell? at k0
  rw [e, hm] at k0
  simp only at k0
  split at k0
  ·cases k0
  ·obtain ⟨bk, off, sp⟩ := ad
   simp only at k0
   rcases off with _ | _ | off
   ·cases k0
   ·cases k0
   ·simp at k0
 exact ⟨⟨ad, cc, (Below.heap_setCell _ _ _ _ (fun e => hg e.symm)).trans h1, h2, z5b h3 (Below.heap_setCell _ _ _ _ hne), h4, h5⟩, h.et, h.ll, h.lv, h.gB, by simpa using h.Bw, h.tk⟩
theorem q8e {w w1 w2 : World} {X : Nat -> Prop} (h : Below w.heap.size w w1) (hx : q1s w1.heap.size X w1 w2) (hX : ∀ k, X k -> w.heap.size <= k) : Below w.heap.size w w2 :=
 ⟨hx.os.trans h.os, hx.tape.trans h.tape, hx.output.trans h.output, Nat.le_trans h.size hx.size, fun k hk => (hx.block k (Nat.lt_of_lt_of_le hk h.size) (fun e => by have := hX k e; omega)).trans (h.block k hk)⟩
theorem z5e {w w1 w2 : World} {row : Option Nat} (h : Below w.heap.size w w1) (hg : w1.grownBy w2 row) (hX : ∀ k, row = some k -> w.heap.size <= k) : Below w.heap.size w w2 :=
 ⟨hg.os.trans h.os, hg.tape.trans h.tape, hg.output.trans h.output, Nat.le_trans h.size hg.size, fun k hk => (hg.block k (Nat.lt_of_lt_of_le hk h.size) (fun e => by have := hX k e.symm; omega)).trans (h.block k hk)⟩
structure PT (B g bm bf : Nat) (w0 w : World) (ts : List Tok) (vv fv : Value) : Prop where
 rd : RD B w g ts 0
 be : Below w0.heap.size w0 w
 hm : w.heap[bm]? = some (.cells #[vv, fv] 25 (0, 0))
 hf : w.heap[bf]? = some (.cells #[.int .i64 0, .int .i64 0] 35 (0, 0))
theorem PT.call {B g bm bf : Nat} {w0 w w1 : World} {ts ts1 : List Tok} {vv fv : Value} (h : PT B g bm bf w0 w ts vv fv) (hr : RD B w1 g ts1 0) (hx : q1s w.heap.size (· = g) w w1) (h1 : w0.heap.size <= g) (h2 : bm ≠ g) (h3 : bf ≠ g) : PT B g bm bf w0 w1 ts1 vv fv :=
 ⟨hr, q8e h.be hx (fun k hk => by rw [hk]; exact h1), (hx.block bm (q0c h.hm) h2).trans h.hm, (hx.block bf (q0c h.hf) h3).trans h.hf⟩
theorem PT.below {B g bm bf : Nat} {w0 w w1 : World} {ts : List Tok} {vv fv : Value} (h : PT B g bm bf w0 w ts vv fv) (hb : Below w.heap.size w w1) : PT B g bm bf w0 w1 ts vv fv :=
 ⟨h.rd.below hb, q0e h.be hb, (hb.block bm (q0c h.hm)).trans h.hm, (hb.block bf (q0c h.hf)).trans h.hf⟩
theorem q6p {bm bf : Nat} {tmps : Array Value} {w0 w : World} {R : Ending -> World -> Prop} {c a : Int} {v0 v1 f0 f1 : Value} (h2 : tmps.getD 2 undef = .pointer (some ⟨bm, 0, none⟩)) (h3 : tmps.getD 3 undef = .pointer (some ⟨bf, 0, none⟩)) (hb : Below w0.heap.size w0 w) (hm : w.heap[bm]? = some (.cells #[v0, v1] 25 (0, 0))) (hf : w.heap[bf]? = some (.cells #[f0, f1] 35 (0, 0))) (h4 : w0.heap.size <= bm) (h5 : w0.heap.size <= bf)
  (hR : ∀ wz, Below w0.heap.size w0 wz -> R (.returned (.tuple #[.agg #[.slice none 0 0, .slice none 0 0], .agg #[.int .i64 c, .int .i64 a]])) wz) :
  Leaves Tryz.prog Tryz.f15 tmps R [{ target := .fn (.func 26) #[.pointer (some ⟨bm, 0, none⟩), .pointer (some ⟨bf, 0, none⟩)], args := #[] }] (.panicking [{ v := .iface 55 (.agg #[.int .i64 c, .int .i64 a]), recovered := false }]) w := by
 refine leaves_cons (f := 26) (args := #[.pointer (some ⟨bm, 0, none⟩), .pointer (some ⟨bf, 0, none⟩)]) (by simp) (by simp [go_sem]) ?_
 refine (z6t bm bf c a [] w _ _ _ _ hm hf).mono ?_
 rintro e u' wz ⟨rfl, rfl, hx, hfz, hmz⟩
 exact ⟨_, z0q rfl _ _ bm bf 25 35 _ _ (0, 0) (0, 0) _ _ h2 hmz Tryz.underlying25 rfl (by kernel_rfl) h3 hfz Tryz.underlying35 rfl (by kernel_rfl), hR _ (q8e hb hx (fun k hk => by rcases hk with rfl | rfl <;> assumption))⟩
def q5a (bm bf : Nat) (w0 : World) (E : Int -> Int -> Prop) (Q : Exit -> Act -> World -> Prop) : Exit -> Act -> World -> Prop
 | .panic ch, a, w => (∃ c at_ v0 v1 f0 f1, ch = [{ v := .iface 55 (.agg #[.int .i64 c, .int .i64 at_]), recovered := false }] /\ E c at_ /\ Below w0.heap.size w0 w /\ w.heap[bm]? = some (.cells #[v0, v1] 25 (0, 0)) /\ w.heap[bf]? = some (.cells #[f0, f1] 35 (0, 0))) /\ a.tmps.getD 2 undef = .pointer (some ⟨bm, 0, none⟩) /\ a.tmps.getD 3 undef = .pointer (some ⟨bf, 0, none⟩) /\ a.defers = [{ target := .fn (.func 26) #[.pointer (some ⟨bm, 0, none⟩), .pointer (some ⟨bf, 0, none⟩)], args := #[] }]
 | e, a, w => Q e a w
theorem z6z {P : Program} {code : Code} {Q : Exit -> Act -> World -> Prop} {a : Act} {w : World} (bm bf : Nat) (w0 : World) (E : Int -> Int -> Prop) (hi : ∀ ch a w, q5a bm bf w0 E Q (.panic ch) a w -> Q (.panic ch) a w) (h : code.wp P (q5a bm bf w0 E Q) a w) : code.wp P Q a w :=
 Code.wp_mono (fun e a w h => by cases e <;> first | exact hi _ _ _ h | exact h) h
theorem q5a.normal {bm bf : Nat} {w0 : World} {E : Int -> Int -> Prop} {Q : Exit -> Act -> World -> Prop} {a : Act} {w : World} (h : Q .normal a w) : q5a bm bf w0 E Q .normal a w := h
theorem q2i.below {α : Type} {d : Kd α} {e lo hi : Nat} {l : List α} {v : Value} {w w1 : World} (h : q2i d e lo hi l v w) (hb : Below w.heap.size w w1) (hh : hi <= w.heap.size) : q2i d e lo hi l v w1 := q1l d e lo hi l v w w1 (fun k _ hl => hb.block k (by omega)) h
theorem q2i.callg {α : Type} {d : Kd α} {e lo hi g : Nat} {l : List α} {v : Value} {w w1 : World} (h : q2i d e lo hi l v w) (hb : q1s w.heap.size (· = g) w w1) (hh : hi <= w.heap.size) (hg : g < lo) : q2i d e lo hi l v w1 := q1l d e lo hi l v w w1 (fun k hl hk => hb.block k (by omega) (by show k ≠ g; omega)) h
theorem q5a.put {bm bf : Nat} {w0 : World} {E : Int -> Int -> Prop} {Q : Exit -> Act -> World -> Prop} {ch : List PanicEntry} {a : Act} {d : Option Tmp} {v : Value} {w : World} (h : q5a bm bf w0 E Q (.panic ch) (a.put d v) w) (hd : d ≠ some 2 /\ d ≠ some 3) : q5a bm bf w0 E Q (.panic ch) a w := by
 obtain ⟨h1, h2, h3, h4⟩ := h
 cases d with
 | none => exact ⟨h1, h2, h3, h4⟩
 | some d =>
  have e2 : ∀ n : Nat, d ≠ n -> (a.put (some d) v).tmps.getD n undef = a.tmps.getD n undef := fun n hn => by
   show (a.tmps.setIfInBounds d v).getD n undef = _
   simp [hn]
  exact ⟨h1, (e2 2 (fun e => hd.1 (by rw [e]))).symm.trans h2, (e2 3 (fun e => hd.2 (by rw [e]))).symm.trans h3, h4⟩
theorem x5g {num : Tok -> Int} (hN : q8v num) {fx : List UInt8 -> Bool} (hT : x5e fx) (s : ByteArray) (hs : s.size <= 1000000000) (w : World) (hg : z8h w) (hmp : ∀ ts, q3j fx s.data.toList = .ok ts -> ∃ r, x4g num 60000 ts = some r) :
  Calls Tryz.prog 15 #[.string s] w fun e w' => Below w.heap.size w w' /\ ∃ v, e = .returned (.tuple #[v, .agg #[.int .i64 (q7h num fx s.data.toList).2.1, .int .i64 (q7h num fx s.data.toList).2.2]]) /\ mdV w.heap.size w' (q7h num fx s.data.toList).1 v := by
 have HN := q0h hN
 obtain ⟨bf, hbf⟩ : ∃ b, b = w.heap.size + 1 := ⟨_, rfl⟩
 obtain ⟨bm, hbm⟩ : ∃ b, b = w.heap.size := ⟨_, rfl⟩
 obtain ⟨W, hW⟩ : ∃ W, W = (w.alloc (.cells #[.slice none 0 0, .slice none 0 0] 25)).alloc (.cells #[.int .i64 0, .int .i64 0] 35) := ⟨_, rfl⟩
 have hbW : Below w.heap.size w W := by rw [hW]; exact q0d (q0d (Below.refl _ _) _) _
 have qm : W.heap[bm]? = some (.cells #[.slice none 0 0, .slice none 0 0] 25 (0, 0)) := by
  rw [hW, hbm]; exact (Below.heap_alloc _ _ _ (by simp)).trans (heap_alloc_new _ _)
 have qf : W.heap[bf]? = some (.cells #[.int .i64 0, .int .i64 0] 35 (0, 0)) := by
  have h2 := heap_alloc_new (w.alloc (.cells #[.slice none 0 0, .slice none 0 0] 25)) (.cells #[.int .i64 0, .int .i64 0] 35)
  rw [show (w.alloc (.cells #[.slice none 0 0, .slice none 0 0] 25)).heap.size = bf by rw [hbf]; simp] at h2
  rw [hW]; exact h2
 have HC := q0h (hT s W (hg.below hbW) hs)
 have HMP := q0h hmp
 have HW := q0h hW
 have HBW := q0h hbW
 have QM := q0h qm
 have QF := q0h qf
 have HBF := q0h hbf
 have HBM := q0h hbm
 have HNE := q0h (show w.heap.size <= bm /\ w.heap.size <= bf /\ bm < bf /\ W.heap.size = bf + 1 from ⟨by omega, by omega, by omega, by rw [hW, hbf]; simp⟩)
 have nmf : ¬ bm = bf := by omega
 have hmf : ∀ (fn : Fn) (first cap : Array Value) (w : World), (Instr.makeFunc fn first cap).run Tryz.prog w = .ok (.func fn first cap) w := fun _ _ _ _ => rfl
 clear hN hT hs hg hmp hW hbW qm qf hbf hbm
 obtain ⟨pr, hpr⟩ : ∃ p, p = q7h num fx s.data.toList := ⟨_, rfl⟩
 rw [<- hpr]
 unfold q7h at hpr
 go_enter_defers Tryz.func15, Tryz.ntmps15
 go_wp2_with fail
 rw [<- HW.out, <- HBF.out, <- HBM.out]
 obtain ⟨tk, htk⟩ : ∃ t, t = q3j fx s.data.toList := ⟨_, rfl⟩
 have HTK := q0h htk
 rw [<- htk] at HC HMP hpr
 have HPR := q0h hpr
 clear htk hpr
 refine HC.out.mono ?_
 cases tk with
 | error f =>
  rintro e w1 ⟨hb1, rfl, hf0⟩
  have i1 := (hb1.block bm (q0c QM.out)).trans QM.out
  have i2 := (hb1.block bf (q0c QF.out)).trans QF.out
  have HB1 := q0h (q0e HBW.out hb1)
  obtain ⟨fc, hfc⟩ : ∃ x, x = f.1 := ⟨_, rfl⟩
  obtain ⟨fa, hfa⟩ : ∃ x, x = f.2 := ⟨_, rfl⟩
  have HPE := q0h (show pr = (zMd, (fc, fa)) by rw [HPR.out, hfc, hfa])
  rw [<- hfc] at hf0
  rw [<- hfc, <- hfa]
  clear hfc hfa
  have hz : (fc != 0) = true := by simpa using hf0
  have y0 : w1.cell? ⟨bf, 0, none⟩ = some (.int .i64 0) := (q0a i2 0).trans rfl
  have y1 : w1.cell? ⟨bf, 1, none⟩ = some (.int .i64 0) := (q0a i2 1).trans rfl
  have f0 : w1.frozen? ⟨bf, 0, none⟩ = false := q0f i2 0
  have f1 : w1.frozen? ⟨bf, 1, none⟩ = false := q0f i2 1
  have I1 := q0h i1
  have I2 := q0h i2
  clear hb1 hf0 i1 i2
  go_wp2_with fail
  obtain ⟨W2, hW2⟩ : ∃ W, W = (w1.setCell ⟨bf, 0, none⟩ (.int .i64 fc)).setCell ⟨bf, 1, none⟩ (.int .i64 fa) := ⟨_, rfl⟩
  have j2 : W2.heap[bf]? = some (.cells #[.int .i64 fc, .int .i64 fa] 35 (0, 0)) := by rw [hW2]; exact q0y (q0y I2.out 0 (.int .i64 fc) rfl) 1 (.int .i64 fa) rfl
  have j1 : W2.heap[bm]? = some (.cells #[.slice none 0 0, .slice none 0 0] 25 (0, 0)) := by rw [hW2]; exact (Below.heap_setCell _ ⟨bf, 1, none⟩ _ bm nmf).trans ((Below.heap_setCell _ ⟨bf, 0, none⟩ _ bm nmf).trans I1.out)
  have HB2 := q0h (show Below w.heap.size w W2 by rw [hW2]; exact q1q (q1q HB1.out (by have := HNE.out; omega)) (by have := HNE.out; omega))
  have J1 := q0h j1
  have J2 := q0h j2
  rw [<- hW2]
  clear j1 j2 hW2 y0 y1 f0 f1
  refine wp_region_noPanic ?_
  refine q2l (fun w' => w'.heap[bf]? = some (.cells #[.int .i64 fc, .int .i64 fa] 35 (0, 0))) 3 (by kernel_rfl) ?_
  intro X HX
  have hbx : Below W2.heap.size W2 X := by rw [HX.out]; exact q1n (Below.refl _ _)
  have HBX := q0h (q0e HB2.out hbx)
  have K1 := q0h ((hbx.block bm (q0c J1.out)).trans J1.out)
  have K2 := q0h ((hbx.block bf (q0c J2.out)).trans J2.out)
  clear hbx
  refine q0m 0 ?v_1 rfl (by kernel_rfl) (fun _ _ _ h => h) K2.out (by rfl) ?h_1 ?r_1
  case h_1 => intro w' hS'; clear hS'; go_simp; try with_reducible rfl
  refine q0m 1 ?v_2 rfl (by kernel_rfl) (fun _ _ _ h => h) K2.out (by rfl) ?h_2 ?r_2
  case h_2 => intro w' hS'; have z0 : w'.cell? ⟨bf, 0, none⟩ = some (.int .i64 fc) := (q0a hS' 0).trans rfl; have z1 : w'.cell? ⟨bf, 1, none⟩ = some (.int .i64 fa) := (q0a hS' 1).trans rfl; have lz := q0c hS'; clear hS'; go_simp; try with_reducible rfl
  have y0 : X.cell? ⟨bm, 0, none⟩ = some (.slice none 0 0) := (q0a K1.out 0).trans rfl
  have y1 : X.cell? ⟨bm, 1, none⟩ = some (.slice none 0 0) := (q0a K1.out 1).trans rfl
  have f0 : X.frozen? ⟨bm, 0, none⟩ = false := q0f K1.out 0
  have f1 : X.frozen? ⟨bm, 1, none⟩ = false := q0f K1.out 1
  refine q0i (i := 2) (by kernel_rfl) rfl (fun K hK => ?_)
  go_simp
  obtain ⟨W3, hW3⟩ : ∃ W, W = (X.setCell ⟨bm, 0, none⟩ (.slice none 0 0)).setCell ⟨bm, 1, none⟩ (.slice none 0 0) := ⟨_, rfl⟩
  have j1 : W3.heap[bm]? = some (.cells #[.slice none 0 0, .slice none 0 0] 25 (0, 0)) := by rw [hW3]; exact q0y (q0y K1.out 0 (.slice none 0 0) rfl) 1 (.slice none 0 0) rfl
  have j2 : W3.heap[bf]? = some (.cells #[.int .i64 fc, .int .i64 fa] 35 (0, 0)) := by rw [hW3]; exact (Below.heap_setCell _ ⟨bm, 1, none⟩ _ bf (fun e => nmf e.symm)).trans ((Below.heap_setCell _ ⟨bm, 0, none⟩ _ bf (fun e => nmf e.symm)).trans K2.out)
  have HB3 := q0h (show Below w.heap.size w W3 by rw [hW3]; exact q1q (q1q HBX.out (by have := HNE.out; omega)) (by have := HNE.out; omega))
  rw [<- hW3]
  have L1 := q0h j1
  have L2 := q0h j2
  clear hW3 y0 y1 f0 f1 j1 j2
  refine hK _ _ (.inr L2.out) ?_
  clear hK K
  have y0 : W3.cell? ⟨bf, 0, none⟩ = some (.int .i64 fc) := (q0a L2.out 0).trans rfl
  have y1 : W3.cell? ⟨bf, 1, none⟩ = some (.int .i64 fa) := (q0a L2.out 1).trans rfl
  have f0 : W3.frozen? ⟨bf, 0, none⟩ = false := q0f L2.out 0
  have f1 : W3.frozen? ⟨bf, 1, none⟩ = false := q0f L2.out 1
  refine q0i (i := 3) (by kernel_rfl) rfl (fun K hK => ?_)
  go_simp
  have j2 := q0y (cs' := #[.int .i64 fc, .int .i64 fa]) (q0y (cs' := #[.int .i64 fc, .int .i64 fa]) L2.out 0 (.int .i64 fc) rfl) 1 (.int .i64 fa) rfl
  have j1 := (Below.heap_setCell _ ⟨bf, 1, none⟩ (.int .i64 fa) bm nmf).trans ((Below.heap_setCell _ ⟨bf, 0, none⟩ (.int .i64 fc) bm nmf).trans L1.out)
  have hb4 := q1q (j := 1) (v := .int .i64 fa) (q1q (j := 0) (v := .int .i64 fc) HB3.out (show w.heap.size <= bf by have := HNE.out; omega)) (show w.heap.size <= bf by have := HNE.out; omega)
  have M1 := q0h j1
  have M2 := q0h j2
  have HB4 := q0h hb4
  clear j1 j2 hb4 y0 y1 f0 f1
  refine hK _ _ (.inl (by kernel_rfl)) ?_
  clear hK K
  refine q1i (by kernel_rfl) ?_ _
  refine NoPanic.normal ?_
  go_wp2_with fail
  exact ⟨_, z0q rfl _ _ bm bf 25 35 _ _ (0, 0) (0, 0) _ _ rfl M1.out Tryz.underlying25 rfl (by kernel_rfl) rfl M2.out Tryz.underlying35 rfl (by kernel_rfl), by rw [HPE.out]; exact ⟨HB4.out, _, rfl, z2t (Kd.R_nil _ _ _ _ _) (Kd.R_nil _ _ _ _ _)⟩⟩
 | ok ts =>
  rintro e w1 ⟨hb1, ⟨v, rfl, hv⟩, het, hlen, hok⟩
  obtain ⟨A, c, rfl⟩ := Kd.R_slice hv
  have i1 := (hb1.block bm (q0c QM.out)).trans QM.out
  have i2 := (hb1.block bf (q0c QF.out)).trans QF.out
  have HB1 := q0h (q0e HBW.out hb1)
  obtain ⟨r, hr⟩ := HMP.out ts rfl
  have y0 : w1.cell? ⟨bf, 0, none⟩ = some (.int .i64 0) := (q0a i2 0).trans rfl
  have y1 : w1.cell? ⟨bf, 1, none⟩ = some (.int .i64 0) := (q0a i2 1).trans rfl
  have f0 : w1.frozen? ⟨bf, 0, none⟩ = false := q0f i2 0
  have f1 : w1.frozen? ⟨bf, 1, none⟩ = false := q0f i2 1
  -- the reader
  obtain ⟨g, hg⟩ : ∃ g, g = w1.heap.size := ⟨_, rfl⟩
  obtain ⟨W1, hW1⟩ : ∃ W, W = (w1.setCell ⟨bf, 0, none⟩ (.int .i64 0)).setCell ⟨bf, 1, none⟩ (.int .i64 0) := ⟨_, rfl⟩
  obtain ⟨W2, hW2⟩ : ∃ W, W = W1.alloc (.cells #[.slice A ts.length c, .int .i64 0] 58) := ⟨_, rfl⟩
  have hs1 : W1.heap.size = w1.heap.size := by rw [hW1]; simp
  have hne := HNE.out
  have hsz := hb1.size
  have k1 : ∀ k, k ≠ bf -> W1.heap[k]? = w1.heap[k]? := fun k hk => by rw [hW1]; exact (Below.heap_setCell _ ⟨bf, 1, none⟩ _ k hk).trans (Below.heap_setCell _ ⟨bf, 0, none⟩ _ k hk)
  have j2 : W1.heap[bf]? = some (.cells #[.int .i64 0, .int .i64 0] 35 (0, 0)) := by rw [hW1]; exact q0y (q0y i2 0 (.int .i64 0) rfl) 1 (.int .i64 0) rfl
  have j1 := (k1 bm nmf).trans i1
  have hbW1 : Below w.heap.size w W1 := by rw [hW1]; exact q1q (q1q HB1.out (by omega)) (by omega)
  have hb2 : Below W1.heap.size W1 W2 := by rw [hW2]; exact q0d (Below.refl _ _) _
  have hv2 : z5a.R 63 W2 W.heap.size (fun k => W.heap.size <= k) (.slice A ts.length c) ts := Kd.R_below (Kd.R_step hv (fun k hk _ => k1 k (by have h5 : W.heap.size <= k := hk; omega))) hb2
  obtain ⟨A0, c0, hAc, hlc, hC⟩ := Kd.R_reads hv2
  injection hAc with hA1 _ hc1
  subst hA1 hc1
  have hng : W2.heap[g]? = some (.cells #[.slice A ts.length c, .int .i64 ((0 : Nat) : Int)] 58 (0, 0)) := by rw [hW2, hg, <- hs1]; exact heap_alloc_new _ _
  obtain ⟨N, hN⟩ : ∃ n, n = W2.heap.size := ⟨_, rfl⟩
  have hgN : g < N := by rw [hN]; exact q0c hng
  have hrd : RD N W2 g ts 0 := by
   obtain ⟨t0, r0, e0, _⟩ := het.cons
   obtain ⟨ad, eA, hcl⟩ := hC.2.2 (by rw [e0]; simp)
   subst eA
   have hbl : ad.block < w1.heap.size := by
    obtain ⟨inner, ho⟩ := Kd.R_own hv
    refine z6e ho ad.block ?_
    rcases ho.2 with ⟨hv0, hn⟩ | ⟨g2, cap', cur, hv0, _⟩
    ·cases hv0
    ·injection hv0 with h1 _ _
     injection h1 with h1
     rw [h1]; simp [Value.ownBlock]
   exact ⟨⟨ad, c, hng, hlc, hC, by omega, by omega⟩, het, by omega, by omega, hgN, by omega, hok⟩
  have HPT := q0h (show PT N g bm bf w W2 ts (.slice none 0 0) (.slice none 0 0) from ⟨hrd, q0e hbW1 hb2, (hb2.block bm (q0c j1)).trans j1, (hb2.block bf (q0c j2)).trans j2⟩)
  have HG := q0h (show w.heap.size <= g /\ bm ≠ g /\ bf ≠ g /\ bm < N /\ bf < N /\ g < N /\ w.heap.size <= N /\ N = W2.heap.size by omega)
  have HW12 := q0h (show W1 = (w1.setCell ⟨bf, 0, none⟩ (.int .i64 0)).setCell ⟨bf, 1, none⟩ (.int .i64 0) /\ W2 = W1.alloc (.cells #[.slice A ts.length c, .int .i64 0] 58) /\ g = w1.heap.size from ⟨hW1, hW2, hg⟩)
  have HPO := q0h (show (∀ c, r = .error c -> pr = (zMd, c)) /\ ∀ m ts', r = .ok (m, ts') -> pr = (m, (0, 0)) by
   have h := HPR.out
   simp only at h
   rw [hr] at h
   exact ⟨fun c e => by rw [e] at h; exact h, fun m ts' e => by rw [e] at h; exact h⟩)
  have HMO := q0h hr
  obtain ⟨rv, hrv⟩ := x5f (show (q8s num 60000 []).bind _ ts = some r from hr)
  have HRV := q0h hrv
  have lf := q0c i2
  clear hb1 hv het hlen hok i1 i2 hg hW1 hW2 hs1 hne hsz k1 j1 j2 hbW1 hb2 hv2 hC hng hN hgN hrd hr hlc hrv
  go_wp2_with fail
  rw [<- HW12.out.2.2, <- HW12.out.1, <- HW12.out.2.1]
  clear y0 y1 f0 f1 lf
  have HBS1 := q0h (show bm < N /\ bf < N /\ g < N /\ w.heap.size <= N /\ N <= N by have := HG.out; omega)
  have HPV := q0h (show ∀ c, rv = .error c -> pr = (zMd, c) from fun c he => HPO.out.1 c (z1u HMO.out (by rw [<- he]; exact HRV.out)))
  go_loopg [] 60000 (fun k wr => ∃ (l : List Vr) (ts : List Tok) (A : Option Addr) (c : Nat), Hid (PT N g bm bf w wr ts (.slice A l.length c) (.slice none 0 0)) /\ Hid (kVr.R 40 wr N (fun k => N <= k) (.slice A l.length c) l) /\ Hid (N <= wr.heap.size) /\ Hid (l.length <= 64) /\ Hid (q8s num k l ts = some rv))
  case atStart => exact ⟨[], ts, none, 0, HPT, Kd.R_nil _ _ _ _ _, by have := HG.out; simp [Hid]; omega, by simp [Hid], HRV⟩
  case round =>
   obtain ⟨l, ts, A, c, HP, HR, HNB, HL, HQ⟩ := hrel
   cases gk with
   | zero => exact absurd HQ.out (by intro h; cases h)
   | succ k =>
    obtain ⟨b, hb⟩ : ∃ b, b = isT (tx [118, 97, 114]) ts := ⟨_, rfl⟩
    have hq := HQ.out
    unfold q8s at hq
    rw [<- hb] at hq
    have HB := q0h hb
    have HQ0 := q0h hq
    clear hq hb HQ
    go_wp2_with fail
    refine (q1t HP.out.rd (tx [118, 97, 114])).mono ?_
    rintro e w1 ⟨rfl, hb1⟩
    rw [<- HB.out]
    have HP1 := q0h (HP.out.below hb1)
    have HR1 := q0h (Kd.R_below HR.out hb1)
    have H51 := q0h hb1.size
    clear hb1
    cases b
    ·have hrv := q0p ((if_neg Bool.false_ne_true).symm.trans HQ0.out)
     have h2 := z8t (show (q8s num 60000 []).bind _ _ = some r from HMO.out) (HRV.out.trans (by rw [hrv]))
     obtain ⟨rf, hrf⟩ := x5f h2
     have HRF := q0h hrf
     have HM2 := q0h h2
     obtain ⟨vs, hvs⟩ : ∃ x, x = l := ⟨_, rfl⟩
     obtain ⟨Av, hAv⟩ : ∃ x, x = A := ⟨_, rfl⟩
     obtain ⟨cv, hcv⟩ : ∃ x, x = c := ⟨_, rfl⟩
     subst hvs hAv hcv
     obtain ⟨N2, hN2⟩ : ∃ n, n = w1.heap.size := ⟨_, rfl⟩
     have HBS2 := q0h (show bm < N2 /\ bf < N2 /\ g < N2 /\ w.heap.size <= N2 /\ N <= N2 by have := HG.out; have := HP1.out.rd.Bw; omega)
     have HV0 := q0h (show q2i kVr 40 N N2 vs (.slice Av vs.length cv) w1 by rw [hN2]; exact q1z HR1.out)
     have HPF := q0h (show ∀ c, rf = .error c -> pr = (zMd, c) from fun c he => HPO.out.1 c (z1u HM2.out (by rw [<- he]; exact HRF.out)))
     have HNW := q0h (show N2 <= w1.heap.size by omega)
     have HP2 := q0h HP1.out
     clear hrv h2 hrf hN2 HRV HR1 HR
     clear HQ0 HB HL HPV HP1 HP
     go_wp2_with fail
     go_loopg [] 60000 (fun k wr => ∃ (l : List Fc) (ts : List Tok) (A : Option Addr) (c : Nat), Hid (PT N g bm bf w wr ts (.slice Av vs.length cv) (.slice A l.length c)) /\ Hid (kFc.R 46 wr N2 (fun k => N2 <= k) (.slice A l.length c) l) /\ Hid (N2 <= wr.heap.size) /\ Hid (l.length <= 64) /\ Hid (q6l 60000 (q2w num 60000) k l ts = some rf) /\ Hid (q2i kVr 40 N N2 vs (.slice Av vs.length cv) wr))
     case atStart => exact ⟨[], ts, none, 0, HP2, Kd.R_nil _ _ _ _ _, HNW, by simp [Hid], HRF, HV0⟩
     case round =>
      clear HP2 HNW HV0
      obtain ⟨l, ts, A, c, HP, HR, HNB, HL, HQ, HV⟩ := hrel
      cases gk with
      | zero => exact absurd HQ.out (by intro h; cases h)
      | succ k =>
       obtain ⟨b, hb⟩ : ∃ b, b = isT (tx [102, 110]) ts := ⟨_, rfl⟩
       have hq := HQ.out
       unfold q6l at hq
       rw [<- hb] at hq
       have HB := q0h hb
       have HQ0 := q0h hq
       clear hq hb HQ
       go_wp2_with fail
       refine (q1t HP.out.rd (tx [102, 110])).mono ?_
       rintro e w1 ⟨rfl, hb1⟩
       rw [<- HB.out]
       have HP1 := q0h (HP.out.below hb1)
       have HR1 := q0h (Kd.R_below HR.out hb1)
       have H61 := q0h hb1.size
       have HV1 := q0h (HV.out.below hb1 HNB.out)
       clear hb1
       cases b
       ·have hrf := q0p ((if_neg Bool.false_ne_true).symm.trans HQ0.out)
        have h3 := z8t HM2.out (HRF.out.trans (by rw [hrf]))
        have h3' : (if (ts.headD q2m).kind = 6 then some (Except.ok ((⟨vs, l⟩ : Md), ts)) else PM.fail 90 ts) = some r := h3
        have H3 := q0h h3'
        obtain ⟨t, r0, ad, cc, hts, z0, z1, k0, k1, k2, hg, ha, hne, hc, hl, HMm⟩ := HP1.out.rd.head
        have HTS := q0h hts
        have HA := q0h (show t.at_ = (ts.headD q2m).at_ by rw [hts]; rfl)
        clear hrf h3 h3' hts
        by_cases h6 : t.kind = 6
        ·have hr := q0p ((if_pos (show (ts.headD q2m).kind = 6 by rw [HTS.out]; exact h6)).symm.trans H3.out)
         have HPE := q0h (HPO.out.2 _ _ hr)
         have y : (t.kind != 6) = false := by simpa using h6
         have o0 : w1.cell? ⟨bm, 0, none⟩ = some (.slice Av vs.length cv) := (q0a HP1.out.hm 0).trans rfl
         have o1 : w1.cell? ⟨bm, 1, none⟩ = some (.slice A l.length c) := (q0a HP1.out.hm 1).trans rfl
         have fo0 : w1.frozen? ⟨bm, 0, none⟩ = false := q0f HP1.out.hm 0
         have fo1 : w1.frozen? ⟨bm, 1, none⟩ = false := q0f HP1.out.hm 1
         have x0 : w1.cell? ⟨bf, 0, none⟩ = some (.int .i64 0) := (q0a HP1.out.hf 0).trans rfl
         have x1 : w1.cell? ⟨bf, 1, none⟩ = some (.int .i64 0) := (q0a HP1.out.hf 1).trans rfl
         have fx0 : w1.frozen? ⟨bf, 0, none⟩ = false := q0f HP1.out.hf 0
         have fx1 : w1.frozen? ⟨bf, 1, none⟩ = false := q0f HP1.out.hf 1
         have lbm := q0c HP1.out.hm
         have lbf := q0c HP1.out.hf
         obtain ⟨wa, hwa⟩ : ∃ W, W = (w1.setCell ⟨bm, 0, none⟩ (.slice Av vs.length cv)).setCell ⟨bm, 1, none⟩ (.slice A l.length c) := ⟨_, rfl⟩
         obtain ⟨wb, hwb⟩ : ∃ W, W = (wa.setCell ⟨bf, 0, none⟩ (.int .i64 0)).setCell ⟨bf, 1, none⟩ (.int .i64 0) := ⟨_, rfl⟩
         have ka : ∀ k, k ≠ bm -> k ≠ bf -> wb.heap[k]? = w1.heap[k]? := fun k h1 h2 => by
          rw [hwb, hwa]; exact (Below.heap_setCell _ ⟨bf, 1, none⟩ _ k h2).trans ((Below.heap_setCell _ ⟨bf, 0, none⟩ _ k h2).trans ((Below.heap_setCell _ ⟨bm, 1, none⟩ _ k h1).trans (Below.heap_setCell _ ⟨bm, 0, none⟩ _ k h1)))
         have ma : wa.heap[bm]? = some (.cells #[.slice Av vs.length cv, .slice A l.length c] 25 (0, 0)) := by rw [hwa]; exact q0y (q0y HP1.out.hm 0 (.slice Av vs.length cv) rfl) 1 (.slice A l.length c) rfl
         have mb : wb.heap[bm]? = some (.cells #[.slice Av vs.length cv, .slice A l.length c] 25 (0, 0)) := by rw [hwb]; exact (Below.heap_setCell _ ⟨bf, 1, none⟩ _ bm nmf).trans ((Below.heap_setCell _ ⟨bf, 0, none⟩ _ bm nmf).trans ma)
         have fa : wa.heap[bf]? = some (.cells #[.int .i64 0, .int .i64 0] 35 (0, 0)) := by rw [hwa]; exact (Below.heap_setCell _ ⟨bm, 1, none⟩ _ bf (fun e => nmf e.symm)).trans ((Below.heap_setCell _ ⟨bm, 0, none⟩ _ bf (fun e => nmf e.symm)).trans HP1.out.hf)
         have fb : wb.heap[bf]? = some (.cells #[.int .i64 0, .int .i64 0] 35 (0, 0)) := by rw [hwb]; exact q0y (q0y fa 0 (.int .i64 0) rfl) 1 (.int .i64 0) rfl
         have hbb : Below w.heap.size w wb := by rw [hwb, hwa]; exact q1q (q1q (q1q (q1q HP1.out.be HNE.out.1) HNE.out.1) HNE.out.2.1) HNE.out.2.1
         have hv := q2i.out (q1l _ _ _ _ _ _ _ wb (fun k h1 h2 => ka k (by have := HG.out; omega) (by have := HG.out; omega)) HV1.out) (show w.heap.size <= N by have := HG.out; omega)
         have hf := Kd.R_step (w1 := wb) HR1.out (fun k hk _ => ka k (by have h5 : N2 <= k := hk; have := HBS2.out; omega) (by have h5 : N2 <= k := hk; have := HBS2.out; omega))
         clear h6 hr
         go_wp2_with fail
         rw [<- hwa, <- hwb]
         clear z0 z1 k0 k1 k2 hg ha hc hl o0 o1 fo0 fo1 x0 x1 fx0 fx1 lbm lbf
         show Leaves Tryz.prog Tryz.f15 _ _ _ _ _
         refine leaves_cons (f := 26) (args := #[.pointer (some ⟨bm, 0, none⟩), .pointer (some ⟨bf, 0, none⟩)]) (by simp) (by simp [go_sem]) ?_
         refine (z8s ⟨bm, 0, none⟩ ⟨bf, 0, none⟩ _).mono ?_
         rintro e u' wz ⟨rfl, rfl, rfl⟩
         exact ⟨_, z0q rfl _ _ bm bf 25 35 _ _ (0, 0) (0, 0) _ _ (by kernel_rfl) mb Tryz.underlying25 rfl (by kernel_rfl) (by kernel_rfl) fb Tryz.underlying35 rfl (by kernel_rfl), by rw [HPE.out]; exact ⟨hbb, _, rfl, z2t hv (Kd.R_mono (Kd.R_lower hf (show w.heap.size <= N2 by have := HBS2.out; omega)) (fun k hk => by have h5 : N2 <= k := hk; have := HBS2.out; show w.heap.size <= k; omega))⟩⟩
        ·have hr := q0p (show some (Except.error (90, t.at_)) = some r from by rw [<- H3.out, if_neg (show ¬ (ts.headD q2m).kind = 6 by rw [HTS.out]; exact h6), HA.out]; rfl)
         have HPE := q0h (HPO.out.1 _ hr)
         have y : (t.kind != 6) = true := by simpa using h6
         clear h6 hr
         go_wp2_with fail
         refine (q4a HP1.out.rd 90 t.at_ HA).mono ?_
         rintro e w2 ⟨rfl, rfl⟩
         go_wp2_with fail
         show Leaves Tryz.prog Tryz.f15 _ _ _ _ _
         refine q6p (by kernel_rfl) (by kernel_rfl) HP1.out.be HP1.out.hm HP1.out.hf HNE.out.1 HNE.out.2.1 (fun wz hbz => ?_)
         rw [HPE.out]
         exact ⟨hbz, _, rfl, z2t (Kd.R_nil _ _ _ _ _) (Kd.R_nil _ _ _ _ _)⟩
       ·have HQ1 := q0h (show (if l.length = 64 then PM.fail 113 ts else (q3i 60000 (q2w num 60000) 0).bind (fun v => q6l 60000 (q2w num 60000) k (l ++ [v])) ts) = some rf from HQ0.out)
        have o0 : w1.cell? ⟨bm, 1, none⟩ = some (.slice A l.length c) := (q0a HP1.out.hm 1).trans rfl
        have lo := q0c HP1.out.hm
        by_cases h64 : l.length = 64
        ·obtain ⟨a, ha⟩ : ∃ a, a = (ts.headD q2m).at_ := ⟨_, rfl⟩
         have hr := q0p (show some (Except.error (113, a)) = some rf from by rw [<- HQ1.out, if_pos h64, ha]; rfl)
         have hpr := HPF.out (113, a) hr
         have HPE := q0h hpr
         have y : ((l.length : Int) == 64) = true := by simp; omega
         have HA := q0h ha
         clear h64 ha hr hpr
         go_wp2_with fail
         refine (q4a HP1.out.rd 113 a HA.out).mono ?_
         rintro e w2 ⟨rfl, rfl⟩
         go_wp2_with fail
         show Leaves Tryz.prog Tryz.f15 _ _ _ _ _
         refine q6p (by kernel_rfl) (by kernel_rfl) HP1.out.be HP1.out.hm HP1.out.hf HNE.out.1 HNE.out.2.1 (fun wz hbz => ?_)
         rw [HPE.out]
         exact ⟨hbz, _, rfl, z2t (Kd.R_nil _ _ _ _ _) (Kd.R_nil _ _ _ _ _)⟩
        have HQ2 := q0h (show (q3i 60000 (q2w num 60000) 0).bind (fun v => q6l 60000 (q2w num 60000) k (l ++ [v])) ts = some rf from by rw [<- HQ1.out, if_neg h64])
        have HL5 := q0h (show l.length + 1 <= 64 by have := HL.out; omega)
        have y : ((l.length : Int) == 64) = false := by simp; omega
        clear h64
        go_wp2_with fail
        clear y o0 lo
        refine z6z bm bf w (fun c a => rf = .error (c, a)) (fun ch a w' h => ?_) ?_
        ·obtain ⟨⟨c, at_, v0, v1, f0, f1, rfl, he, hb, hm, hf⟩, h2, h3, h4⟩ := h
         show Leaves Tryz.prog Tryz.f15 a.tmps _ a.defers (.panicking _) w'
         rw [h4]
         refine q6p h2 h3 hb hm hf HNE.out.1 HNE.out.2.1 (fun wz hbz => ?_)
         rw [HPF.out _ he]
         exact ⟨hbz, _, rfl, z2t (Kd.R_nil _ _ _ _ _) (Kd.R_nil _ _ _ _ _)⟩
        refine q2l (fun w' => w'.heap[bm]? = some (.cells #[.slice Av vs.length cv, .slice A l.length c] 25 (0, 0))) 7 (by kernel_rfl) ?_
        intro X HX
        have hbx : Below w1.heap.size w1 X := by rw [HX.out]; exact q1n (Below.refl _ _)
        have HPX := q0h (HP1.out.below hbx)
        have HRX := q0h (Kd.R_below HR1.out hbx)
        have HNX := q0h (show N2 <= X.heap.size from Nat.le_trans (Nat.le_trans HNB.out H61.out) hbx.size)
        have HV2 := q0h (HV1.out.below hbx (Nat.le_trans HNB.out H61.out))
        clear hbx
        have HLX := q0h HPX.out.hm
        refine q0m 0 ?v_3 rfl (by kernel_rfl) (fun _ _ _ h => q5a.put h (by decide)) HLX.out (by rfl) ?h_3 ?r_3
        case h_3 => intro w' hS'; clear hS'; go_simp; try with_reducible rfl
        refine q0m 1 ?v_4 rfl (by kernel_rfl) (fun _ _ _ h => q5a.put h (by decide)) HLX.out (by rfl) ?h_4 ?r_4
        case h_4 => intro w' hS'; have s0 : w'.cell? ⟨bm, 1, none⟩ = some (.slice A l.length c) := (q0a hS' 1).trans rfl; have ls := q0c hS'; clear hS'; go_simp; try with_reducible rfl
        refine q0m 2 ?v_5 rfl (by kernel_rfl) (fun _ _ _ h => q5a.put h (by decide)) HLX.out (by rfl) ?h_5 ?r_5
        case h_5 => intro w' hS'; clear hS'; go_simp; try with_reducible rfl
        refine q0i (i := 3) (by kernel_rfl) rfl (fun K hK => ?_)
        go_simp
        rcases bind_some HQ2.out with ⟨e, hm, he⟩ | ⟨x, ts2, hm, hq⟩
        ·refine (z1h (j3q HN.out N g 60000 (by decide)) HPX.out.rd hm).mono ?_
         rintro e' w' ⟨rfl, hx⟩
         have hb := q8e HPX.out.be hx (fun k hk => by have h5 : k = g := hk; rw [h5]; exact HG.out.1)
         exact ⟨⟨_, _, _, _, _, _, rfl, he, hb, (hx.block bm (q0c HPX.out.hm) HG.out.2.1).trans HPX.out.hm, (hx.block bf (q0c HPX.out.hf) HG.out.2.2.1).trans HPX.out.hf⟩, by kernel_rfl, by kernel_rfl, by kernel_rfl⟩
        refine (z1h (j3q HN.out N g 60000 (by decide)) HPX.out.rd hm).mono ?_
        rintro e' w6 ⟨v, rfl, ⟨cs, rfl, hM⟩, hr, hx⟩
        obtain ⟨B1, e1, B2, e2, B3, e3, rfl⟩ := x9b hM
        have HM := q0h hM
        have HP6 := q0h (HPX.out.call hr hx HG.out.1 HG.out.2.1 HG.out.2.2.1)
        have HR6 := q0h (Kd.R_step HRX.out (fun k hk hlt => hx.block k hlt (by have h5 : N2 <= k := hk; have := HG.out; have := HBS2.out; show k ≠ g; omega)))
        have HXX := q0h hx.size
        have HQ6 := q0h hq
        have HV3 := q0h (HV2.out.callg hx HNX.out HG.out.2.2.2.2.2.1)
        clear hm hr hx hq hM
        refine hK _ _ (.inr HP6.out.hm) ?_
        clear hK K
        refine q0i (i := 4) (by kernel_rfl) rfl (fun K hK => ?_)
        go_simp
        have hba : Below w6.heap.size w6 (w6.alloc (.cells #[.string x.name, .slice B1 x.params.length e1, .int .i64 x.type, .slice B2 x.body.length e2, .int .i64 x.at_, .slice B3 x.locals.length e3] 46)) := q0d (Below.refl _ _) _
        refine hK _ _ (.inr (HP6.out.below hba).hm) ?_
        clear hK K hba
        refine q0i (i := 5) (by kernel_rfl) rfl (fun K hK => ?_)
        have hnn := HBS2.out
        have hng := HG.out
        have hsx := HXX.out
        have hsn := HNX.out
        have hne := HNE.out
        have hlt : ∀ k, (Value.slice A l.length c).ownBlock = some k -> k < X.heap.size := fun k hk => by
         obtain ⟨i, ho⟩ := Kd.R_own HRX.out
         exact z6e ho k hk
        refine Kd.R_append_step kFc (w0 := w6) N2 (by rfl) _ _ 23 46 (.agg #[.string ⟨#[]⟩, .slice none 0 0, .int .i64 0, .slice none 0 0, .int .i64 0, .slice none 0 0]) 104 rfl Tryz.underlying23 x9a rfl (show 0 < 6 by decide) (by decide) (.slice A l.length c) l x [.string x.name, .slice B1 x.params.length e1, .int .i64 x.type, .slice B2 x.body.length e2, .int .i64 x.at_, .slice B3 x.locals.length e3] (fun k => N2 <= k) (fun k => X.heap.size <= k) rfl rfl (kFc.M_lower (by omega) HM.out) (fun k hk => ⟨by omega, fun e => by have := hlt k e.symm; omega⟩) (fun k hk => by omega) HR6.out (Below.refl _ _) (by omega) (by have := HL5.out; omega) ?_
        intro v1 w7 hv1 hb1 hg1 hat1
        obtain ⟨A', c', rfl⟩ := Kd.R_slice hv1
        have hl1 : (l ++ [x]).length = l.length + 1 := by simp
        rw [hl1] at hv1 hat1
        have hrw : ∀ k, (Value.slice A l.length c).ownBlock = some k -> N2 <= k := fun k hk => HR6.out.1 k hk
        have hp7 : PT N g bm bf w w7 ts2 (.slice Av vs.length cv) (.slice A l.length c) := ⟨HP6.out.rd.keep hg1.size (fun k hk => hg1.block k (Nat.lt_of_lt_of_le hk HP6.out.rd.Bw) (fun e => by have := hrw k e.symm; omega)), z5e HP6.out.be hg1 (fun k hk => by have := hrw k hk; omega), (hg1.block bm (q0c HP6.out.hm) (fun e => by have := hrw bm e.symm; omega)).trans HP6.out.hm, (hg1.block bf (q0c HP6.out.hf) (fun e => by have := hrw bf e.symm; omega)).trans HP6.out.hf⟩
        have HP7 := q0h hp7
        have HR7 := q0h hv1
        have HN7 := q0h (show N2 <= w7.heap.size by have := hg1.size; omega)
        have HV4 := q0h (q1l _ _ _ _ _ _ _ _ (fun k h1 h2 => hg1.block k (by omega) (fun e => by have := hrw k e.symm; omega)) HV3.out)
        clear hlt hnn hng hsx hsn hne hv1 hb1 hg1 hat1 hrw hp7 hl1
        refine hK _ _ (.inr HP7.out.hm) ?_
        clear hK K
        refine q0m 6 ?v_6 rfl (by kernel_rfl) (fun _ _ _ h => q5a.put h (by decide)) (q0h HP7.out.hm).out (by rfl) ?h_6 ?r_6
        case h_6 => intro w' hS'; clear hS'; go_simp; try with_reducible rfl
        have y0 : w7.cell? ⟨bm, 1, none⟩ = some (.slice A l.length c) := (q0a HP7.out.hm 1).trans rfl
        have yf : w7.frozen? ⟨bm, 1, none⟩ = false := q0f HP7.out.hm 1
        refine q0i (i := 7) (by kernel_rfl) rfl (fun K hK => ?_)
        go_simp
        obtain ⟨w8, hw8⟩ : ∃ W, W = w7.setCell ⟨bm, 1, none⟩ (.slice A' (l.length + 1) c') := ⟨_, rfl⟩
        have hp8 : PT N g bm bf w w8 ts2 (.slice Av vs.length cv) (.slice A' (l.length + 1) c') := by
         rw [hw8]
         exact ⟨HP7.out.rd.setMod HP7.out.hm HG.out.2.1 1 _, q1q HP7.out.be HNE.out.1, q0y HP7.out.hm 1 _ rfl, (Below.heap_setCell _ ⟨bm, 1, none⟩ _ bf (fun e => nmf e.symm)).trans HP7.out.hf⟩
        have hr8 : kFc.R 46 w8 N2 (fun k => N2 <= k) (.slice A' (l.length + 1) c') (l ++ [x]) := Kd.R_step HR7.out (fun k hk _ => by rw [hw8]; exact Below.heap_setCell _ _ _ _ (by have h5 : N2 <= k := hk; have := HG.out; have := HBS2.out; show k ≠ bm; omega))
        rw [<- hw8]
        have HP8 := q0h hp8
        have HR8 := q0h hr8
        have HN8 := q0h (show N2 <= w8.heap.size by rw [hw8]; simp; exact HN7.out)
        have HV5 := q0h (q1l _ _ _ _ _ _ _ w8 (fun k h1 h2 => by rw [hw8]; exact Below.heap_setCell _ _ _ _ (by have := HG.out; show k ≠ bm; omega)) HV4.out)
        clear y0 yf hp8 hr8 hw8
        refine hK _ _ (.inl (by kernel_rfl)) ?_
        clear hK K
        refine q1i (by kernel_rfl) ?_ _
        refine q5a.normal ?_
        go_wp2_with fail
        go_roundg k
        case measure => omega
        case rel =>
         refine ⟨l ++ [x], ts2, A', c', ?_, ?_, HN8, ?_, HQ6.out, HV5⟩
         ·rw [show (l ++ [x]).length = l.length + 1 by simp]; exact HP8.out
         ·rw [show (l ++ [x]).length = l.length + 1 by simp]; exact HR8.out
         ·have := HL5.out; simp [Hid]; omega
    ·have HQ1 := q0h (show (if l.length = 64 then PM.fail 113 ts else (q3h num).bind (fun v => q8s num k (l ++ [v])) ts) = some rv from HQ0.out)
     have o0 : w1.cell? ⟨bm, 0, none⟩ = some (.slice A l.length c) := (q0a HP1.out.hm 0).trans rfl
     have lo := q0c HP1.out.hm
     by_cases h64 : l.length = 64
     ·obtain ⟨a, ha⟩ : ∃ a, a = (ts.headD q2m).at_ := ⟨_, rfl⟩
      have hr := q0p (show some (Except.error (113, a)) = some rv from by rw [<- HQ1.out, if_pos h64, ha]; rfl)
      have hpr := HPV.out (113, a) hr
      have HPE := q0h hpr
      have y : ((l.length : Int) == 64) = true := by simp; omega
      have HA := q0h ha
      clear h64 ha hr hpr
      go_wp2_with fail
      refine (q4a HP1.out.rd 113 a HA.out).mono ?_
      rintro e w2 ⟨rfl, rfl⟩
      go_wp2_with fail
      show Leaves Tryz.prog Tryz.f15 _ _ _ _ _
      refine q6p (by kernel_rfl) (by kernel_rfl) HP1.out.be HP1.out.hm HP1.out.hf HNE.out.1 HNE.out.2.1 (fun wz hbz => ?_)
      rw [HPE.out]
      exact ⟨hbz, _, rfl, z2t (Kd.R_nil _ _ _ _ _) (Kd.R_nil _ _ _ _ _)⟩
     have HQ2 := q0h (show (q3h num).bind (fun v => q8s num k (l ++ [v])) ts = some rv from by rw [<- HQ1.out, if_neg h64])
     have HL5 := q0h (show l.length + 1 <= 64 by have := HL.out; omega)
     have y : ((l.length : Int) == 64) = false := by simp; omega
     clear h64
     go_wp2_with fail
     clear y o0 lo
     refine z6z bm bf w (fun c a => rv = .error (c, a)) (fun ch a w' h => ?_) ?_
     ·obtain ⟨⟨c, at_, v0, v1, f0, f1, rfl, he, hb, hm, hf⟩, h2, h3, h4⟩ := h
      show Leaves Tryz.prog Tryz.f15 a.tmps _ a.defers (.panicking _) w'
      rw [h4]
      refine q6p h2 h3 hb hm hf HNE.out.1 HNE.out.2.1 (fun wz hbz => ?_)
      rw [HPV.out _ he]
      exact ⟨hbz, _, rfl, z2t (Kd.R_nil _ _ _ _ _) (Kd.R_nil _ _ _ _ _)⟩
     refine q2l (fun w' => w'.heap[bm]? = some (.cells #[.slice A l.length c, .slice none 0 0] 25 (0, 0))) 7 (by kernel_rfl) ?_
     intro X HX
     have hbx : Below w1.heap.size w1 X := by rw [HX.out]; exact q1n (Below.refl _ _)
     have HPX := q0h (HP1.out.below hbx)
     have HRX := q0h (Kd.R_below HR1.out hbx)
     have HNX := q0h (show N <= X.heap.size from Nat.le_trans (Nat.le_trans HNB.out H51.out) hbx.size)
     clear hbx
     have HLX := q0h HPX.out.hm
     refine q0m 0 ?v_7 rfl (by kernel_rfl) (fun _ _ _ h => q5a.put h (by decide)) HLX.out (by rfl) ?h_7 ?r_7
     case h_7 => intro w' hS'; clear hS'; go_simp; try with_reducible rfl
     refine q0m 1 ?v_8 rfl (by kernel_rfl) (fun _ _ _ h => q5a.put h (by decide)) HLX.out (by rfl) ?h_8 ?r_8
     case h_8 => intro w' hS'; have s0 : w'.cell? ⟨bm, 0, none⟩ = some (.slice A l.length c) := (q0a hS' 0).trans rfl; have ls := q0c hS'; clear hS'; go_simp; try with_reducible rfl
     refine q0m 2 ?v_9 rfl (by kernel_rfl) (fun _ _ _ h => q5a.put h (by decide)) HLX.out (by rfl) ?h_9 ?r_9
     case h_9 => intro w' hS'; clear hS'; go_simp; try with_reducible rfl
     refine q0i (i := 3) (by kernel_rfl) rfl (fun K hK => ?_)
     go_simp
     rcases bind_some HQ2.out with ⟨e, hm, he⟩ | ⟨x, ts2, hm, hq⟩
     ·refine (z1g HN.out HPX.out.rd hm).mono ?_
      rintro e' w' ⟨rfl, hx⟩
      have hb := q8e HPX.out.be hx (fun k hk => by have h5 : k = g := hk; rw [h5]; exact HG.out.1)
      exact ⟨⟨_, _, _, _, _, _, rfl, he, hb, (hx.block bm (q0c HPX.out.hm) HG.out.2.1).trans HPX.out.hm, (hx.block bf (q0c HPX.out.hf) HG.out.2.2.1).trans HPX.out.hf⟩, by kernel_rfl, by kernel_rfl, by kernel_rfl⟩
     refine (z1g HN.out HPX.out.rd hm).mono ?_
     rintro e' w6 ⟨v, rfl, rfl, hr, hx⟩
     unfold j9d
     have HP6 := q0h (HPX.out.call hr hx HG.out.1 HG.out.2.1 HG.out.2.2.1)
     have HR6 := q0h (Kd.R_step HRX.out (fun k hk hlt => hx.block k hlt (by have h5 : N <= k := hk; have := HG.out; have := HBS1.out; show k ≠ g; omega)))
     have HXX := q0h hx.size
     have HQ6 := q0h hq
     clear hm hr hx hq
     refine hK _ _ (.inr HP6.out.hm) ?_
     clear hK K
     refine q0i (i := 4) (by kernel_rfl) rfl (fun K hK => ?_)
     go_simp
     have hba : Below w6.heap.size w6 (w6.alloc (.cells #[.string x.name, .int .i64 x.type, .int .i64 x.size, .int .i64 x.value, .int .i64 x.at_] 40)) := q0d (Below.refl _ _) _
     refine hK _ _ (.inr (HP6.out.below hba).hm) ?_
     clear hK K hba
     refine q0i (i := 5) (by kernel_rfl) rfl (fun K hK => ?_)
     have hnn := HBS1.out
     have hng := HG.out
     have hsx := HXX.out
     have hsn := HNX.out
     have hne := HNE.out
     have hlt : ∀ k, (Value.slice A l.length c).ownBlock = some k -> k < X.heap.size := fun k hk => by
      obtain ⟨i, ho⟩ := Kd.R_own HRX.out
      exact z6e ho k hk
     refine Kd.R_append_step kVr (w0 := w6) N (by rfl) _ _ 22 40 (.agg #[.string ⟨#[]⟩, .int .i64 0, .int .i64 0, .int .i64 0, .int .i64 0]) 48 rfl Tryz.underlying22 j3r rfl (show 0 < 5 by decide) (by decide) (.slice A l.length c) l x [.string x.name, .int .i64 x.type, .int .i64 x.size, .int .i64 x.value, .int .i64 x.at_] (fun k => N <= k) (fun _ => False) rfl rfl ⟨[.string x.name], _, rfl, rfl, [.int .i64 x.type], _, rfl, rfl, [.int .i64 x.size], _, rfl, rfl, [.int .i64 x.value], [.int .i64 x.at_], rfl, rfl, rfl⟩ (fun _ h => h.elim) (fun k hk => by omega) HR6.out (Below.refl _ _) (by omega) (by have := HL5.out; omega) ?_
     intro v1 w7 hv1 hb1 hg1 hat1
     obtain ⟨A', c', rfl⟩ := Kd.R_slice hv1
     have hl1 : (l ++ [x]).length = l.length + 1 := by simp
     rw [hl1] at hv1 hat1
     have hrw : ∀ k, (Value.slice A l.length c).ownBlock = some k -> N <= k := fun k hk => HR6.out.1 k hk
     have hp7 : PT N g bm bf w w7 ts2 (.slice A l.length c) (.slice none 0 0) := ⟨HP6.out.rd.keep hg1.size (fun k hk => hg1.block k (Nat.lt_of_lt_of_le hk HP6.out.rd.Bw) (fun e => by have := hrw k e.symm; omega)), z5e HP6.out.be hg1 (fun k hk => by have := hrw k hk; omega), (hg1.block bm (q0c HP6.out.hm) (fun e => by have := hrw bm e.symm; omega)).trans HP6.out.hm, (hg1.block bf (q0c HP6.out.hf) (fun e => by have := hrw bf e.symm; omega)).trans HP6.out.hf⟩
     have HP7 := q0h hp7
     have HR7 := q0h hv1
     have HN7 := q0h (show N <= w7.heap.size by have := hg1.size; omega)
     clear hlt hnn hng hsx hsn hne hv1 hb1 hg1 hat1 hrw hp7 hl1
     refine hK _ _ (.inr HP7.out.hm) ?_
     clear hK K
     refine q0m 6 ?v_10 rfl (by kernel_rfl) (fun _ _ _ h => q5a.put h (by decide)) (q0h HP7.out.hm).out (by rfl) ?h_10 ?r_10
     case h_10 => intro w' hS'; clear hS'; go_simp; try with_reducible rfl
     have y0 : w7.cell? ⟨bm, 0, none⟩ = some (.slice A l.length c) := (q0a HP7.out.hm 0).trans rfl
     have yf : w7.frozen? ⟨bm, 0, none⟩ = false := q0f HP7.out.hm 0
     refine q0i (i := 7) (by kernel_rfl) rfl (fun K hK => ?_)
     go_simp
     obtain ⟨w8, hw8⟩ : ∃ W, W = w7.setCell ⟨bm, 0, none⟩ (.slice A' (l.length + 1) c') := ⟨_, rfl⟩
     have hp8 : PT N g bm bf w w8 ts2 (.slice A' (l.length + 1) c') (.slice none 0 0) := by
      rw [hw8]
      exact ⟨HP7.out.rd.setMod HP7.out.hm HG.out.2.1 0 _, q1q HP7.out.be HNE.out.1, q0y HP7.out.hm 0 _ rfl, (Below.heap_setCell _ ⟨bm, 0, none⟩ _ bf (fun e => nmf e.symm)).trans HP7.out.hf⟩
     have hr8 : kVr.R 40 w8 N (fun k => N <= k) (.slice A' (l.length + 1) c') (l ++ [x]) := Kd.R_step HR7.out (fun k hk _ => by rw [hw8]; exact Below.heap_setCell _ _ _ _ (by have h5 : N <= k := hk; have := HG.out; have := HBS1.out; show k ≠ bm; omega))
     rw [<- hw8]
     have HP8 := q0h hp8
     have HR8 := q0h hr8
     have HN8 := q0h (show N <= w8.heap.size by rw [hw8]; simp; exact HN7.out)
     clear y0 yf hp8 hr8 hw8
     refine hK _ _ (.inl (by kernel_rfl)) ?_
     clear hK K
     refine q1i (by kernel_rfl) ?_ _
     refine q5a.normal ?_
     go_wp2_with fail
     go_roundg k
     case measure => omega
     case rel =>
      refine ⟨l ++ [x], ts2, A', c', ?_, ?_, HN8, ?_, HQ6.out⟩
      ·rw [show (l ++ [x]).length = l.length + 1 by simp]; exact HP8.out
      ·rw [show (l ++ [x]).length = l.length + 1 by simp]; exact HR8.out
      ·have := HL5.out; simp [Hid]; omega
theorem z7a {u : ByteArray} (h : z6n u.data.toList) (a b : Nat) : z6n (u.extract a b).data.toList := by
 intro c hc
 refine h c ?_
 have h1 : (u.extract a b).data.toList = (u.data.extract a b).toList := by simp [ByteArray.data_extract]
 rw [h1, Array.toList_extract] at hc
 simp only [List.extract_eq_take_drop] at hc
 exact List.mem_of_mem_drop (List.mem_of_mem_take hc)
theorem x5h (s : ByteArray) (b : Nat) (w : World) (hs : s.size <= 1000000) (hd : z6n s.data.toList) (hset : ∀ x : UInt8, 48 <= x.toNat -> x.toNat <= 57 -> w.cell? ⟨b, x.toNat, none⟩ = some (.bool true)) :
  Calls Tryz.prog 186 #[.string s, .pointer (some ⟨b, 0, none⟩)] w fun e w' => e = .returned (.string ⟨#[]⟩) /\ w' = w := by
 have HD := q0h hd
 have HSET := q0h hset
 clear hd hset
 go_enter Tryz.func186, Tryz.ntmps186
 go_wp2_with fail
 go_loopw [0] (fun v w' => ∃ u : ByteArray, v = .string u /\ u.size <= 1000000 /\ Hid (z6n u.data.toList) /\ w' = w) (fun v _ => match v with | .string u => u.size | _ => 0)
 case atStart => exact ⟨s, rfl, hs, HD, rfl⟩
 case round =>
  obtain ⟨u, rfl, hu, HU, rfl⟩ := hrel
  by_cases h0 : 0 < u.size
  ·have hlt : u.size - 1 < u.size := by omega
   have hdg : 48 <= (u[u.size - 1]'hlt).toNat /\ (u[u.size - 1]'hlt).toNat <= 57 := HU.out _ (by
    have h2 : u[u.size - 1]'hlt = u.data.toList[u.size - 1]'(by rw [Array.length_toList]; exact hlt) := by simp [ByteArray.getElem_eq_getElem_data]
    rw [h2]; exact List.getElem_mem _)
   have HC := q0h (Tryz.asciiSet_contains b (u[u.size - 1]'hlt) true wr (HSET.out _ hdg.1 hdg.2))
   clear hdg
   go_wp2_with fail
   refine HC.out.mono ?_
   rintro e w2 ⟨rfl, rfl⟩
   go_wp2_with fail
   refine ⟨⟨u.extract 0 (u.size - 1), rfl, by simp; omega, q0h (z7a HU.out _ _), by trivial⟩, by simp; omega⟩
  ·have hz : u = ⟨#[]⟩ := by
    have h1 : u.size = 0 := by omega
    obtain ⟨d⟩ := u
    have h2 : d.size = 0 := h1
    rw [Array.eq_empty_of_size_eq_zero h2]
   subst hz
   clear hu h0
   go_wp2_with fail
   go_ret
   exact ⟨rfl, rfl⟩
theorem x2v (b : Nat) (w : World) : Calls Tryz.prog 185 #[.string ⟨#[]⟩, .pointer (some ⟨b, 0, none⟩)] w fun e w' => e = .returned (.string ⟨#[]⟩) /\ w' = w := by
 go_enter Tryz.func185, Tryz.ntmps185
 go_wp2_with fail
 go_loopw [0] (fun v w' => v = .string ⟨#[]⟩ /\ w' = w) (fun _ _ => 0)
 case atStart => exact ⟨rfl, rfl⟩
 case round =>
  obtain ⟨rfl, rfl⟩ := hrel
  go_wp2_with fail
  go_ret
  exact ⟨rfl, rfl⟩
theorem x9c (s : ByteArray) (w : World) (hne : s.size ≠ 0) (hs : s.size <= 1000000) (hd : z6n s.data.toList) :
  Calls Tryz.prog 147 #[.string s, .string ⟨#[48, 49, 50, 51, 52, 53, 54, 55, 56, 57]⟩] w fun e w' => e = .returned (.string ⟨#[]⟩) /\ Below w.heap.size w w' := by
 have hemp : s.toList.isEmpty = false := by
  rw [<- decide_eq_emptyBytes]
  exact decide_eq_false (fun h => hne (by rw [h]; rfl))
 have HZ := q0h (Tryz.strings_makeASCIISet (by intro w; kernel_rfl) ⟨#[48, 49, 50, 51, 52, 53, 54, 55, 56, 57]⟩ w (by decide) (by
  intro j x hj
  have hm := List.mem_of_getElem? hj
  simp at hm
  rcases hm with rfl | rfl | rfl | rfl | rfl | rfl | rfl | rfl | rfl | rfl <;> decide))
 have HD := q0h hd
 clear hd
 obtain ⟨cs, hcs⟩ : ∃ c, c = Lib.setCells [48, 49, 50, 51, 52, 53, 54, 55, 56, 57] := ⟨_, rfl⟩
 have HZ2 := q0h (show Calls Tryz.prog 184 #[.string ⟨#[48, 49, 50, 51, 52, 53, 54, 55, 56, 57]⟩] w fun e w' => e = .returned (.tuple #[.agg cs, .bool true]) /\ w' = w.alloc (.cells cs 180) from by rw [hcs]; exact HZ.out)
 have hzv : ∀ w, Sem.run Tryz.prog (zeroValue 180) w = .ok (.agg (Array.replicate 256 (.bool false))) w := fun w => by kernel_rfl
 have hat : ∀ x : UInt8, cs[x.toNat]? = some (.bool ([48, 49, 50, 51, 52, 53, 54, 55, 56, 57].contains x)) := fun x => by rw [hcs]; exact Lib.setCells_at _ x
 have hsz : cs.size = 256 := by rw [hcs]; decide
 have hone : ∀ v ∈ cs.toList, v.oneCell' = true := fun v hv => by
  obtain ⟨i, hi, rfl⟩ := List.mem_iff_getElem.1 hv
  have hi2 : i < 256 := by rw [Array.length_toList, hsz] at hi; exact hi
  have h1 := hat (UInt8.ofNat i)
  have h2 : (UInt8.ofNat i).toNat = i := by simp; omega
  rw [h2, Array.getElem?_eq_getElem (by omega)] at h1
  injection h1 with h1
  rw [Array.getElem_toList, h1]; rfl
 obtain ⟨W1, hW1⟩ : ∃ W, W = (w.alloc (.cells cs 180)).alloc (.cells (Array.replicate 256 (.bool false)) 180) := ⟨_, rfl⟩
 have hb1 : Below w.heap.size w W1 := by rw [hW1]; exact q0d (q0d (Below.refl _ _) _) _
 have hq : W1.heap[w.heap.size + 1]? = some (.cells (Array.replicate 256 (.bool false)) 180 (0, 0)) := by
  have h2 := heap_alloc_new (w.alloc (.cells cs 180)) (.cells (Array.replicate 256 (.bool false)) 180)
  rw [show (w.alloc (.cells cs 180)).heap.size = w.heap.size + 1 by simp] at h2
  rw [hW1]; exact h2
 have hlen : cs.toList.length = 256 := by rw [Array.length_toList, hsz]
 have hst := run_storeCells_cells (P := Tryz.prog) (w.heap.size + 1) 0 cs.toList 0 W1 (fun j hj => by simp only [Nat.zero_add]; rw [q0a hq j, Array.getElem?_replicate, if_pos (by omega)]; rfl) (fun j _ => q0f hq _) hone
 obtain ⟨W2, hW2⟩ : ∃ W, W = W1.setCells (w.heap.size + 1) (0 + 0) cs.toList := ⟨_, rfl⟩
 rw [<- hW2] at hst
 obtain ⟨cur, hcur, hcs1, hcs2⟩ := q6c cs.toList (0 + 0) W1 _ hq (by rw [hlen]; simp)
 obtain ⟨s1, s2, s3, s4⟩ := q5m (w.heap.size + 1) cs.toList (0 + 0) W1
 rw [<- hW2] at hcur s1 s2 s3 s4
 have hbb : Below w.heap.size w W2 := ⟨s1.trans hb1.os, s2.trans hb1.tape, s3.trans hb1.output, by rw [s4]; exact hb1.size, fun k hk => (show W2.heap[k]? = W1.heap[k]? by rw [hW2]; exact q6b _ _ _ (by omega)).trans (hb1.block k hk)⟩
 have hcu : ∀ x : UInt8, cur[x.toNat]? = cs[x.toNat]? := fun x => by
  have h1 : cur.toList = cs.toList := by rw [hcs2]; simp [hsz]
  rw [<- Array.getElem?_toList, h1, Array.getElem?_toList]
 have HSET := q0h (show ∀ x : UInt8, 48 <= x.toNat -> x.toNat <= 57 -> W2.cell? ⟨w.heap.size + 1, x.toNat, none⟩ = some (.bool true) from fun x h1 h2 => by
  rw [q0a hcur x.toNat, hcu x, hat x]
  have : [48, 49, 50, 51, 52, 53, 54, 55, 56, 57].contains x = true := by
   have h3 : x = 48 \/ x = 49 \/ x = 50 \/ x = 51 \/ x = 52 \/ x = 53 \/ x = 54 \/ x = 55 \/ x = 56 \/ x = 57 := by
    have e : ∀ n : Nat, x.toNat = n -> x = UInt8.ofNat n := fun n hn => by rw [<- hn]; simp
    have h4 : x.toNat = 48 \/ x.toNat = 49 \/ x.toNat = 50 \/ x.toNat = 51 \/ x.toNat = 52 \/ x.toNat = 53 \/ x.toNat = 54 \/ x.toNat = 55 \/ x.toNat = 56 \/ x.toNat = 57 := by omega
    rcases h4 with h | h | h | h | h | h | h | h | h | h <;> rw [e _ h] <;> decide
   rcases h3 with rfl | rfl | rfl | rfl | rfl | rfl | rfl | rfl | rfl | rfl <;> rfl
  rw [this])
 have HBB := q0h hbb
 have HW1 := q0h hW1
 have hst2 : Sem.run Tryz.prog (storeCells ⟨w.heap.size + 1, 0, none⟩ cs.toList) ((w.alloc (.cells cs 180)).alloc (.cells (Array.replicate 256 (.bool false)) 180)) = .ok () W2 := by rw [<- hW1]; exact hst
 clear hcs HZ hat hone hW1 hb1 hq hlen hst hW2 hcur hcs1 hcs2 s1 s2 s3 s4 hbb hcu
 go_enter Tryz.func147, Tryz.ntmps147
 go_wp2_with fail
 refine HZ2.out.mono ?_
 rintro e w1 ⟨rfl, rfl⟩
 go_wp2_with fail
 refine (x5h s _ W2 hs HD.out HSET.out).mono ?_
 rintro e w1 ⟨rfl, hw⟩
 rw [hw]
 clear hw
 go_wp2_with fail
 refine (x2v _ W2).mono ?_
 rintro e w1 ⟨rfl, hw⟩
 rw [hw]
 clear hw
 go_wp2_with fail
 go_ret
 exact ⟨rfl, HBB.out⟩
theorem j2f : ∀ (ws ps : List UInt8), (∀ c ∈ ws, c ≠ 46) -> Lib.indexByte (ws ++ 46 :: ps) 46 = (ws.length : Int)
 | [], ps, _ => rfl
 | b :: ws, ps, h => by
  have ih := j2f ws ps (fun c hc => h c (List.mem_cons_of_mem _ hc))
  have hb : (b == 46) = false := by simpa using h b List.mem_cons_self
  show (if (b == 46) = true then (0 : Int) else if (Lib.indexByte (ws ++ 46 :: ps) 46 == -1) = true then -1 else Lib.indexByte (ws ++ 46 :: ps) 46 + 1) = _
  rw [hb, ih, if_neg (by decide), if_neg (by simp <;> omega)]
  simp
theorem q4c (s : ByteArray) (a b : Nat) : s.extract a b = ⟨((s.data.toList.drop a).take (b - a)).toArray⟩ := by
 have h1 : (s.extract a b).data = s.data.extract a b := by simp [ByteArray.data_extract]
 have h2 : (s.extract a b).data = ((s.data.toList.drop a).take (b - a)).toArray := by
  rw [h1]
  apply Array.ext'
  rw [Array.toList_extract, List.extract_eq_take_drop]
 cases h : s.extract a b
 rw [h] at h2
 rw [<- h2]
theorem x2w (ws ps : List UInt8) : (ws ++ 46 :: ps).drop (ws.length + 1) = ps := by
 rw [<- List.drop_drop, List.drop_left]; rfl
theorem x5i (s : ByteArray) (ws ps : List UInt8) (hs : s.data.toList = ws ++ 46 :: ps) (h46 : ∀ c ∈ ws, c ≠ 46) (hz : s.size <= 1000000) (w : World) :
  Calls Tryz.prog 181 #[.string s, .string ⟨#[46]⟩] w fun e w' => e = .returned (.tuple #[.string ⟨ws.toArray⟩, .string ⟨ps.toArray⟩, .bool true]) /\ Below w.heap.size w w' := by
 have HC := q0h (Tryz.stringslite_Index_one s 46 w)
 have hi : Lib.indexByte s.data.toList 46 = (ws.length : Int) := by
  rw [hs]
  exact j2f ws ps h46
 rw [hi] at HC
 have hsz : s.size = ws.length + 1 + ps.length := by
  have h1 : s.data.toList.length = s.size := Array.length_toList
  have h2 := congrArg List.length hs
  rw [h1, List.length_append, List.length_cons] at h2
  omega
 have h1 : (0 : Int) <= (ws.length : Int) := by omega
 have h2 : (ws.length : Int) <= (s.size : Int) := by omega
 have h3 : (ws.length : Int) + 1 <= (s.size : Int) := by omega
 clear h46 hi
 go_enter Tryz.func181, Tryz.ntmps181
 go_wp2_with fail
 refine HC.out.mono ?_
 rintro e w1 ⟨rfl, rfl⟩
 go_wp2_with fail
 go_quiet (fail)
 go_wp2_with fail
 have e1 : s.extract 0 ws.length = ⟨ws.toArray⟩ := by rw [q4c, hs]; simp
 have e2 : s.extract (ws.length + 1) (ws.length + 1 + ps.length) = ⟨ps.toArray⟩ := by
  rw [q4c, hs, show ws.length + 1 + ps.length - (ws.length + 1) = ps.length by omega, x2w ws ps]
  simp
 rw [e1, e2]
 refine bodyPost_ret (results_tmp3 rfl _ _ _) rfl ?_
 exact ⟨rfl, ⟨rfl, rfl, rfl, Nat.le_refl _, fun _ _ => rfl⟩⟩
theorem j3s (s : ByteArray) (ws ps : List UInt8) (hs : s.data.toList = ws ++ 46 :: ps) (h46 : ∀ c ∈ ws, c ≠ 46) (hz : s.size <= 1000000) (w : World) :
  Calls Tryz.prog 146 #[.string s, .string ⟨#[46]⟩] w fun e w' => e = .returned (.tuple #[.string ⟨ws.toArray⟩, .string ⟨ps.toArray⟩, .bool true]) /\ Below w.heap.size w w' := by
 have HC := q0h (x5i s ws ps hs h46 hz w)
 clear hs h46 hz
 go_enter Tryz.func146, Tryz.ntmps146
 go_wp2_with fail
 refine HC.out.mono ?_
 rintro e w1 ⟨rfl, hb⟩
 have HB := q0h hb
 clear hb
 go_wp2_with fail
 refine bodyPost_ret (results_tmp3 rfl _ _ _) rfl ?_
 exact ⟨rfl, HB.out⟩
def bAt (b : Nat) (ds : List Nat) (w : World) : Prop := b < w.heap.size /\ ∀ j, j < ds.length -> w.cell? ⟨b, j, none⟩ = some (.int .u8 ((ds.getD j 0 : Nat) : Int)) /\ w.frozen? ⟨b, j, none⟩ = false
theorem bAt.set {b : Nat} {ds : List Nat} {w : World} (h : bAt b ds w) (k v : Nat) (hk : k < ds.length) : bAt b (ds.set k v) (w.setCell ⟨b, k, none⟩ (.int .u8 (v : Nat))) := by
 refine ⟨by simpa using h.1, fun j hj => ?_⟩
 rw [List.length_set] at hj
 refine ⟨?_, by rw [World.frozen?_setCell]; exact (h.2 j hj).2⟩
 by_cases hjk : j = k
 ·subst hjk
  rw [World.cell?_setCell_same _ _ _ (h.2 j hj).1]
  simp [List.getD, hj]
 ·rw [World.cell?_setCell_other _ _ _ _ (by intro e; injection e with _ e2; exact hjk e2.symm), (h.2 j hj).1]
  simp [List.getD, List.getElem?_set, Ne.symm hjk]
theorem bAt.eq {b : Nat} {ds : List Nat} {w w' : World} (h : bAt b ds w) (hs : w.heap.size <= w'.heap.size) (hq : w'.heap[b]? = w.heap[b]?) : bAt b ds w' := by
 refine ⟨Nat.lt_of_lt_of_le h.1 hs, fun j hj => ?_⟩
 have h1 := h.2 j hj
 refine ⟨by rw [<- h1.1]; simp [World.cell?, hq], by rw [<- h1.2]; simp [World.frozen?, hq]⟩
theorem z1x : ∀ ds : List Nat, (q4v ds).2.length = ds.length
 | [] => rfl
 | d :: ds => by simp [q4v, z1x ds]
theorem q5t : ∀ ds : List Nat, (∀ d ∈ ds, d <= 9) -> (q4v ds).1 <= 1 /\ ∀ d ∈ (q4v ds).2, d <= 9
 | [], _ => ⟨Nat.zero_le _, fun d hd => by cases hd⟩
 | d :: ds, h => by
  have ih := q5t ds (fun x hx => h x (List.mem_cons_of_mem _ hx))
  have hd := h d List.mem_cons_self
  refine ⟨?_, fun x hx => ?_⟩
  ·show (2 * d + (q4v ds).1) / 10 <= 1
   omega
  ·rcases List.mem_cons.1 hx with rfl | hx
   ·omega
   ·exact ih.2 x hx
def z2u (ds : List Nat) (m : Nat) : List Nat := ds.take m ++ (q4v (ds.drop m)).2
theorem z7b (ds : List Nat) (m : Nat) : (z2u ds m).length = ds.length := by
 unfold z2u
 rw [List.length_append, z1x, List.length_take, List.length_drop]
 omega
theorem x5j (ds : List Nat) (k : Nat) (hk : k < ds.length) : (z2u ds (k + 1)).getD k 0 = ds.getD k 0 := by
 unfold z2u
 have h1 : k < (ds.take (k + 1)).length := by rw [List.length_take]; omega
 simp only [List.getD]
 rw [List.getElem?_append_left h1, List.getElem?_take, if_pos (by omega)]
theorem x2x (ds : List Nat) (k : Nat) (hk : k < ds.length) : z2u ds k = (z2u ds (k + 1)).set k ((2 * ds.getD k 0 + (q4v (ds.drop (k + 1))).1) % 10) /\ (q4v (ds.drop k)).1 = (2 * ds.getD k 0 + (q4v (ds.drop (k + 1))).1) / 10 := by
 have h1 : ds.drop k = ds.getD k 0 :: ds.drop (k + 1) := by
  rw [List.drop_eq_getElem_cons hk]
  simp [List.getD, hk]
 have h2 : ds.take (k + 1) = ds.take k ++ [ds.getD k 0] := by
  rw [List.take_succ_eq_append_getElem hk]
  simp [List.getD, hk]
 refine ⟨?_, by rw [h1]; rfl⟩
 unfold z2u
 rw [h1, h2]
 obtain ⟨d, hd⟩ : ∃ d, d = ds.getD k 0 := ⟨_, rfl⟩
 rw [<- hd, List.append_assoc]
 have hl : (ds.take k).length = k := by rw [List.length_take]; omega
 have h3 : ∀ v, (ds.take k ++ ([d] ++ (q4v (ds.drop (k + 1))).2)).set k v = ds.take k ++ ([d] ++ (q4v (ds.drop (k + 1))).2).set (k - (ds.take k).length) v := fun v => List.set_append_right k v (by omega)
 rw [h3, hl, Nat.sub_self]
 rfl
set_option maxHeartbeats 32000000 in
theorem z4h (b cp : Nat) (ds : List Nat) (w : World) (hd : ∀ d ∈ ds, d <= 9) (hl : ds.length <= 32) (hb : bAt b ds w) :
  Calls Tryz.prog 148 #[.slice (some ⟨b, 0, none⟩) ds.length cp] w fun e w' => e = .returned (.int .u64 ((q4v ds).1 : Nat)) /\ bAt b (q4v ds).2 w' /\ q1s w.heap.size (· = b) w w' := by
 have HD := q0h hd
 have HB := q0h hb
 clear hd hb
 go_enter Tryz.func148, Tryz.ntmps148
 go_wp2_with fail
 go_loopw [3, 4] (fun c i wr => ∃ m : Nat, ∃ cc : Int, c = .int .u8 cc /\ i = .int .i64 ((m : Int) - 1) /\ m <= ds.length /\ Hid (cc = ((q4v (ds.drop m)).1 : Nat)) /\ Hid (bAt b (z2u ds m) wr) /\ Hid (q1s w.heap.size (· = b) w wr)) (fun _ i _ => (intOf i + 1).toNat)
 case atStart =>
  refine ⟨ds.length, 0, rfl, rfl, Nat.le_refl _, q0h (by rw [List.drop_length]; rfl), q0h (by unfold z2u; rw [List.drop_length, List.take_length]; simpa [q4v] using HB.out), q0h (q1s.refl _ _ _)⟩
 case round =>
  obtain ⟨m, cc, rfl, rfl, hm, HC, HR, HX⟩ := hrel
  cases m with
  | zero =>
   go_wp2_with fail
   go_ret
   have hc := HC.out
   have e0 : z2u ds 0 = (q4v ds).2 := by unfold z2u; rw [List.take_zero, List.drop_zero]; rfl
   have ho := (q5t ds HD.out).1
   rw [List.drop_zero] at hc
   have hr := HR.out
   rw [e0] at hr
   refine ⟨?_, hr, HX.out⟩
   have e1 : IntKind.u64.wrap cc = ((q4v ds).1 : Nat) := by rw [hc, IntKind.wrap_u64]; omega
   show Ending.returned (.int .u64 (IntKind.u64.wrap cc)) = _
   rw [e1]
  | succ k =>
   have hk : k < ds.length := hm
   have e1 : ((k + 1 : Nat) : Int) - 1 = (k : Int) := by omega
   rw [e1]
   have hr := HR.out.2 k (by rw [z7b]; exact hk)
   rw [x5j ds k hk] at hr
   obtain ⟨dn, hdn⟩ : ∃ d, d = ds.getD k 0 := ⟨_, rfl⟩
   rw [<- hdn] at hr
   obtain ⟨d, hdd⟩ : ∃ d : Int, d = (dn : Int) := ⟨_, rfl⟩
   rw [<- hdd] at hr
   have HO := q0h (q5t (ds.drop (k + 1)) (fun x hx => HD.out x (List.mem_of_mem_drop hx))).1
   have HD9 := q0h (show dn <= 9 from by rw [hdn]; simp only [List.getD, List.getElem?_eq_getElem hk, Option.getD_some]; exact HD.out _ (List.getElem_mem hk))
   have d0 : 0 <= d := by omega
   have d9 : d <= 9 := by have := HD9.out; omega
   have c0 : 0 <= cc := by have := HC.out; omega
   have c1 : cc <= 1 := by have := HC.out; have := HO.out; omega
   have HDN := q0h (And.intro hdn hdd)
   have HR2 := q0h hr
   clear hdn hdd hr e1 hm
   go_wp2_with fail
   have w1 : IntKind.u8.wrap (2 * d) = 2 * d := by rw [IntKind.wrap_u8]; omega
   have w2 : IntKind.u8.wrap (2 * d + cc) = 2 * d + cc := by rw [IntKind.wrap_u8]; omega
   refine q2l (fun w' => w'.cell? ⟨b, k, none⟩ = some (.int .u8 d) /\ w'.frozen? ⟨b, k, none⟩ = false) 19 (by kernel_rfl) ?_
   intro X HX2
   have HLX0 := q0h (show X.cell? ⟨b, k, none⟩ = some (.int .u8 d) /\ X.frozen? ⟨b, k, none⟩ = false from by rw [HX2.out]; simpa using HR2.out)
   have HLX := q0h (show (false : Bool) = true \/ (X.cell? ⟨b, k, none⟩ = some (.int .u8 d) /\ X.frozen? ⟨b, k, none⟩ = false) from .inr HLX0.out)
   refine q1h 0 ?v_1 rfl (by kernel_rfl) (fun _ _ _ h => h) HLX.out (by rfl) ?h_1 ?r_1
   case h_1 => intro w' _; go_simp; try with_reducible rfl
   refine q1h 1 ?v_2 rfl (by kernel_rfl) (fun _ _ _ h => h) HLX.out (by rfl) ?h_2 ?r_2
   case h_2 => intro w' _; go_simp; try with_reducible rfl
   refine q1h 2 ?v_3 rfl (by kernel_rfl) (fun _ _ _ h => h) HLX.out (by rfl) ?h_3 ?r_3
   case h_3 => intro w' _; go_simp; try with_reducible rfl
   refine q1h 3 ?v_4 rfl (by kernel_rfl) (fun _ _ _ h => h) HLX.out (by rfl) ?h_4 ?r_4
   case h_4 => intro w' _; go_simp; try with_reducible rfl
   refine q1h 4 ?v_5 rfl (by kernel_rfl) (fun _ _ _ h => h) HLX.out (by rfl) ?h_5 ?r_5
   case h_5 => intro w' _; go_simp; try with_reducible rfl
   refine q0m 5 ?v_6 rfl (by kernel_rfl) (fun _ _ _ h => h) HLX0.out (by rfl) ?h_6 ?r_6
   case h_6 => intro w' hS'; obtain ⟨s1, s2⟩ := hS'; go_simp; try with_reducible rfl
   refine q1h 6 ?v_7 rfl (by kernel_rfl) (fun _ _ _ h => h) HLX.out (by rfl) ?h_7 ?r_7
   case h_7 => intro w' _; go_simp; try with_reducible rfl
   refine q1h 7 ?v_8 rfl (by kernel_rfl) (fun _ _ _ h => h) HLX.out (by rfl) ?h_8 ?r_8
   case h_8 => intro w' _; go_simp; try with_reducible rfl
   refine q1h 8 ?v_9 rfl (by kernel_rfl) (fun _ _ _ h => h) HLX.out (by rfl) ?h_9 ?r_9
   case h_9 => intro w' _; go_simp; try with_reducible rfl
   refine q1h 9 ?v_10 rfl (by kernel_rfl) (fun _ _ _ h => h) HLX.out (by rfl) ?h_10 ?r_10
   case h_10 => intro w' _; go_simp; try with_reducible rfl
   refine q1h 10 ?v_11 rfl (by kernel_rfl) (fun _ _ _ h => h) HLX.out (by rfl) ?h_11 ?r_11
   case h_11 => intro w' _; go_simp; try with_reducible rfl
   refine q1h 11 ?v_12 rfl (by kernel_rfl) (fun _ _ _ h => h) HLX.out (by rfl) ?h_12 ?r_12
   case h_12 => intro w' _; go_simp; try with_reducible rfl
   refine q1h 12 ?v_13 rfl (by kernel_rfl) (fun _ _ _ h => h) HLX.out (by rfl) ?h_13 ?r_13
   case h_13 => intro w' _; go_simp; try with_reducible rfl
   refine q0m 13 ?v_14 rfl (by kernel_rfl) (fun _ _ _ h => h) HLX0.out (by rfl) ?h_14 ?r_14
   case h_14 => intro w' hS'; obtain ⟨s1, s2⟩ := hS'; go_simp; try with_reducible rfl
   refine q1h 14 ?v_15 rfl (by kernel_rfl) (fun _ _ _ h => h) HLX.out (by rfl) ?h_15 ?r_15
   case h_15 => intro w' _; go_simp; try with_reducible rfl
   refine q1h 15 ?v_16 rfl (by kernel_rfl) (fun _ _ _ h => h) HLX.out (by rfl) ?h_16 ?r_16
   case h_16 => intro w' _; go_simp; try with_reducible rfl
   refine q1h 16 ?v_17 rfl (by kernel_rfl) (fun _ _ _ h => h) HLX.out (by rfl) ?h_17 ?r_17
   case h_17 => intro w' _; go_simp; try with_reducible rfl
   refine q1h 17 ?v_18 rfl (by kernel_rfl) (fun _ _ _ h => h) HLX.out (by rfl) ?h_18 ?r_18
   case h_18 => intro w' _; go_simp; try with_reducible rfl
   refine q1h 18 ?v_19 rfl (by kernel_rfl) (fun _ _ _ h => h) HLX.out (by rfl) ?h_19 ?r_19
   case h_19 => intro w' _; go_simp; try with_reducible rfl
   clear HLX0 HLX
   have hfz : X.frozen? ⟨b, k, none⟩ = false := by rw [HX2.out]; exact HR2.out.2
   have hce : X.cell? ⟨b, k, none⟩ = some (.int .u8 d) := by rw [HX2.out]; simpa using HR2.out.1
   refine q0i (i := 19) (by kernel_rfl) rfl (fun K hK => ?_)
   go_simp
   refine hK _ _ (.inl rfl) ?_
   clear hK K
   refine q0i (i := 20) (by kernel_rfl) rfl (fun K hK => ?_)
   go_simp
   refine hK _ _ (.inl rfl) ?_
   clear hK K
   refine q1i (by kernel_rfl) ?_ _
   go_wp2_with fail
   have hs := x2x ds k hk
   have hdn := HDN.out
   rw [<- hdn.1] at hs
   have hc := HC.out
   have hX : X = wr.drew := HX2.out
   refine ⟨⟨k, ((2 * d + cc).tdiv 10), ?_, rfl, by omega, ?_, ?_, ?_⟩, by simp [intOf]⟩
   ·have e1 : IntKind.u8.wrap ((2 * d + cc).tdiv 10) = (2 * d + cc).tdiv 10 := by
     rw [Int.tdiv_eq_ediv_of_nonneg (by omega), IntKind.wrap_u8]; omega
    rw [e1]
   ·refine q0h ?_
    rw [hs.2, Int.tdiv_eq_ediv_of_nonneg (by omega), hc, hdn.2]
    omega
   ·refine q0h ?_
    have h1 := (HR.out.eq (w' := X) (by rw [hX]; simp) (by rw [hX]; rfl)).set k ((2 * dn + (q4v (ds.drop (k + 1))).1) % 10) (by rw [z7b]; exact hk)
    rw [<- hs.1] at h1
    have e1 : (2 * d + cc) % 10 = (((2 * dn + (q4v (ds.drop (k + 1))).1) % 10 : Nat) : Int) := by rw [hc, hdn.2]; omega
    rw [e1]
    exact h1
   ·refine q0h ?_
    rw [hX]
    exact (HX.out.step (q1m (X := (· = b)) (q1n (Below.refl _ _))) (fun _ h => h)).set (.inr rfl) _ _
theorem j2g {l : List UInt8} (h : z6n l) : ∀ c ∈ l, c ≠ 46 := fun c hc e => by
 have := (h c hc).1
 rw [e] at this
 exact absurd this (by decide)
theorem j2h : ∀ (ws ps : List UInt8), (∀ c ∈ ws, c ≠ 46) -> (ws ++ 46 :: ps).takeWhile (· != 46) = ws /\ (ws ++ 46 :: ps).dropWhile (· != 46) = 46 :: ps
 | [], ps, _ => ⟨rfl, rfl⟩
 | b :: ws, ps, h => by
  have ih := j2h ws ps (fun c hc => h c (List.mem_cons_of_mem _ hc))
  have hb : (b != 46) = true := by simpa using h b List.mem_cons_self
  rw [List.cons_append, List.takeWhile_cons, List.dropWhile_cons, hb, if_pos rfl, if_pos rfl, ih.1, ih.2]
  exact ⟨rfl, rfl⟩
def q4q (ps : List UInt8) : List Nat := ps.map (fun c => c.toNat - 48)
theorem x5k (ws ps : List UInt8) (h1 : ws ≠ []) (h2 : ps ≠ []) (hd : ∀ c ∈ ws ++ ps, 48 <= c.toNat /\ c.toNat <= 57) :
  z8g (ws ++ 46 :: ps) = if 10 < ws.length \/ 32 < ps.length \/ (ws.headD 0 = 48 /\ 1 < ws.length) then none else if 2147483647 < decU ws then none else some (q6k 32 (decU ws) (q4q ps) : Int) := by
 have ht := j2h ws ps (j2g (fun c hc => hd c (List.mem_append_left _ hc)))
 have l1 : ¬ ws.length < 1 := by have := List.length_pos_iff.2 h1; omega
 have l2 : ¬ ps.length < 1 := by have := List.length_pos_iff.2 h2; omega
 have ha : ((ws ++ ps).all (fun c => decide (48 <= c.toNat) && decide (c.toNat <= 57))) = true := by
  rw [List.all_eq_true]
  intro c hc
  simp [hd c hc]
 unfold z8g
 simp only [ht.1, ht.2, List.tail_cons, ha, Bool.not_true, l1, l2, reduceCtorEq, false_or, Bool.false_eq_true, if_false]
 rfl
theorem x0w (ps : List UInt8) (hd : z6n ps) : ∀ d ∈ q4q ps, d <= 9 := fun d h => by
 obtain ⟨c, hc, rfl⟩ := List.mem_map.1 h
 have := hd c hc
 omega
theorem z1i {P : Program} {a : Act} {w : World} {Q : Exit -> Act -> World -> Prop} {c r : Code} (l : Nat) (hf : findLabel c l = some r)
  (h : c.wp P (Exit.jump l (fun a w => r.wp P (Exit.noGoto Q) a w) Q) a w) : (Code.scope c).wp P Q a w := by
 refine wp_scope_jumps l _ (fun _ _ => 0) hf h (fun a w h => Code.wp_mono ?_ h)
 intro e a w h
 cases e <;> first | exact h | exact h.elim
theorem j2i (w c : Nat) (hc : c <= 1) : 2 * w ||| c = 2 * w + c := by
 have := Nat.two_pow_add_eq_or_of_lt (i := 1) (b := c) (by omega) w
 simpa using this.symm
def x9d (l : List UInt8) : Value := match z8g l with
 | some v => .tuple #[.int .i64 v, .int .i64 0]
 | none => .tuple #[.int .i64 0, .int .i64 20]
theorem x5l (w : World) (e : TypeId) (s : ByteArray) (j : Nat) (hj : j < s.size) : (Lib.bytesWorld w e s).frozen? ⟨w.heap.size, j, none⟩ = false := by
 have h1 : s.size <= (Lib.bytesCells w e s).size := by
  have h2 : s.data.toList.length = s.size := Array.length_toList
  simp only [Lib.bytesCells, Array.size_append, Array.size_map]
  exact Nat.le_add_right _ _
 simp only [World.frozen?, Lib.bytesWorld_at_new]
 rw [decide_eq_false (by omega)]
 rfl
theorem j6c (w : World) (e : TypeId) (s : ByteArray) : bAt w.heap.size (s.data.toList.map (·.toNat)) (Lib.bytesWorld w e s) := by
 refine ⟨by rw [Lib.bytesWorld_size]; omega, fun j hj => ?_⟩
 have h3 : s.data.toList.length = s.size := Array.length_toList
 have hj2 : j < s.size := by rw [List.length_map, h3] at hj; exact hj
 refine ⟨?_, x5l w e s j hj2⟩
 rw [Lib.bytesWorld_cell w e s j hj2]
 have h4 : j < s.data.toList.length := by omega
 simp only [List.getD, List.getElem?_map, List.getElem?_eq_getElem h4, Option.map_some, Option.getD_some]
def x3y (ps : List UInt8) (k : Nat) : List Nat := q4q (ps.take k) ++ (ps.drop k).map (·.toNat)
theorem z1y (ps : List UInt8) (k : Nat) : (x3y ps k).length = ps.length := by
 simp only [x3y, q4q, List.length_append, List.length_map, List.length_take, List.length_drop]
 omega
theorem q9o (ps : List UInt8) (k : Nat) (hk : k < ps.length) : (x3y ps k).getD k 0 = (ps.getD k 0).toNat /\ x3y ps (k + 1) = (x3y ps k).set k ((ps.getD k 0).toNat - 48) := by
 have h1 : ps.drop k = ps.getD k 0 :: ps.drop (k + 1) := by
  rw [List.drop_eq_getElem_cons hk]
  simp [List.getD, hk]
 have h2 : ps.take (k + 1) = ps.take k ++ [ps.getD k 0] := by
  rw [List.take_succ_eq_append_getElem hk]
  simp [List.getD, hk]
 have hl : (q4q (ps.take k)).length = k := by rw [q4q, List.length_map, List.length_take]; omega
 unfold x3y
 rw [h1, h2]
 obtain ⟨d, hd⟩ : ∃ d, d = ps.getD k 0 := ⟨_, rfl⟩
 rw [<- hd]
 refine ⟨?_, ?_⟩
 ·simp only [List.getD, List.map_cons]
  rw [List.getElem?_append_right (by omega), hl, Nat.sub_self]
  rfl
 ·have h3 : ∀ v, (q4q (ps.take k) ++ (d :: ps.drop (k + 1)).map (·.toNat)).set k v = q4q (ps.take k) ++ ((d :: ps.drop (k + 1)).map (·.toNat)).set (k - (q4q (ps.take k)).length) v := fun v => List.set_append_right k v (by omega)
  rw [h3, hl, Nat.sub_self]
  simp [q4q]
set_option maxHeartbeats 32000000 in
theorem z1j (s : ByteArray) (hf : j7t s.data.toList) (hz : s.size <= 1000000) (w : World) (hg : (z8g s.data.toList).isSome = true \/ z8h w) :
  Calls Tryz.prog 115 #[.string s] w fun e w' => e = .returned (x9d s.data.toList) /\ Below w.heap.size w w' := by
 obtain ⟨ws, ps, hs, hne, hpe, hd⟩ := hf
 have dw : z6n ws := fun c hc => hd c (List.mem_append_left _ hc)
 have dp : z6n ps := fun c hc => hd c (List.mem_append_right _ hc)
 have HC := q0h (j3s s ws ps hs (j2g dw) hz w)
 obtain ⟨RV, hrv⟩ : ∃ v, v = x9d s.data.toList := ⟨_, rfl⟩
 rw [<- hrv]
 rw [hs, x9d, x5k ws ps hne hpe hd] at hrv
 have hg2 : decU ws <= 2147483647 \/ z8h w := by
  rcases hg with hg | hg
  ·refine .inl ?_
   rw [hs, x5k ws ps hne hpe hd] at hg
   split at hg
   ·cases hg
   ·split at hg
    ·cases hg
    ·omega
  ·exact .inr hg
 clear hg
 have hsz : s.size = ws.length + 1 + ps.length := by
  have h1 : s.data.toList.length = s.size := Array.length_toList
  have h2 := congrArg List.length hs
  rw [h1, List.length_append, List.length_cons] at h2
  omega
 obtain ⟨W, hW⟩ : ∃ W : ByteArray, W = ⟨ws.toArray⟩ := ⟨_, rfl⟩
 obtain ⟨Pt, hP⟩ : ∃ W : ByteArray, W = ⟨ps.toArray⟩ := ⟨_, rfl⟩
 rw [<- hW, <- hP] at HC
 have eW : W.data.toList = ws := by rw [hW]
 have eP : Pt.data.toList = ps := by rw [hP]
 have nW : ws.length = W.size := by rw [hW]; simp [ByteArray.size]
 have nP : ps.length = Pt.size := by rw [hP]; simp [ByteArray.size]
 have zW : 1 <= W.size := by have := List.length_pos_iff.2 hne; omega
 have zP : 1 <= Pt.size := by have := List.length_pos_iff.2 hpe; omega
 have h0 : ws.headD 0 = W[0]'(by omega) := by
  rw [ByteArray.getElem_eq_getElem_data]
  subst hW
  cases ws with
  | nil => exact absurd rfl hne
  | cons c ws => rfl
 rw [nW, nP, h0] at hrv
 have mW : W.size <= 1000000 := by omega
 have mP : Pt.size <= 1000000 := by omega
 have HS := q0h (And.intro eW eP)
 have HDW := q0h dw
 have HDP := q0h dp
 have HRV := q0h hrv
 have HG := q0h hg2
 have HNW := q0h nW
 have HNP := q0h nP
 clear hd dw dp hW hP hs hsz hrv h0 eW eP nW nP hne hpe hg2 hz
 go_enter Tryz.func115, Tryz.ntmps115
 go_wp2_with fail
 refine z1i 0 rfl ?_
 go_wp2_with fail
 refine HC.out.mono ?_
 rintro e w1 ⟨rfl, hb⟩
 have HB := q0h hb
 clear hb HC
 have hbad : (10 < W.size \/ 32 < Pt.size \/ (W[0]'(by omega) = 48 /\ 1 < W.size)) -> RV = .tuple #[.int .i64 0, .int .i64 20] := fun h => by
  rw [HRV.out, if_pos h]
 by_cases h1 : 10 < W.size
 ·have hrv := hbad (.inl h1)
  have HRV2 := q0h hrv
  clear hrv hbad HRV
  go_wp2_with fail
  refine wp_goto ⟨rfl, ?_⟩
  go_wp2_with fail
  simp only [Exit.noGoto]
  refine bodyPost_ret (results_tmp2 rfl _ _ _) rfl ?_
  exact ⟨by rw [HRV2.out]; rfl, HB.out⟩
 by_cases h2 : 32 < Pt.size
 ·have hrv := hbad (.inr (.inl h2))
  have HRV2 := q0h hrv
  clear hrv hbad HRV
  go_wp2_with fail
  refine wp_goto ⟨rfl, ?_⟩
  go_wp2_with fail
  simp only [Exit.noGoto]
  refine bodyPost_ret (results_tmp2 rfl _ _ _) rfl ?_
  exact ⟨by rw [HRV2.out]; rfl, HB.out⟩
 by_cases h3 : W[0]'(by omega) = 48 /\ 1 < W.size
 ·obtain ⟨h3, h4⟩ := h3
  have hrv := hbad (.inr (.inr ⟨h3, h4⟩))
  have HRV2 := q0h hrv
  clear hrv hbad HRV
  go_wp2_with fail
  refine wp_goto ⟨rfl, ?_⟩
  go_wp2_with fail
  simp only [Exit.noGoto]
  refine bodyPost_ret (results_tmp2 rfl _ _ _) rfl ?_
  exact ⟨by rw [HRV2.out]; rfl, HB.out⟩
 have HT := q0h (fun w => x9c (W ++ Pt) w (by rw [ByteArray.size_append]; omega) (by rw [ByteArray.size_append]; omega) (by
  have h1 := HDW.out
  have h2 := HDP.out
  rw [<- HS.out.1] at h1
  rw [<- HS.out.2] at h2
  intro c hc
  have e : (W ++ Pt).data.toList = W.data.toList ++ Pt.data.toList := by simp
  rw [e] at hc
  rcases List.mem_append.1 hc with hc | hc
  ·exact h1 c hc
  ·exact h2 c hc))
 have hU := x5c W (by omega) mW (by rw [HS.out.1]; exact HDW.out)
 rw [HS.out.1] at hU
 have HU := q0h hU
 clear hU
 have hgood : RV = (if 2147483647 < decU ws then .tuple #[.int .i64 0, .int .i64 20] else .tuple #[.int .i64 (q6k 32 (decU ws) (q4q ps) : Nat), .int .i64 0]) := by
  have h5 : ¬ (10 < W.size \/ 32 < Pt.size \/ (W[0]'(by omega) = 48 /\ 1 < W.size)) := by
   rintro (h | h | h)
   ·exact h1 h
   ·exact h2 h
   ·exact h3 h
  rw [HRV.out, if_neg h5]
  split <;> split <;> simp_all
 have HGD := q0h hgood
 clear hgood hbad HRV
 have again : ∀ A : Prop, ((W[0]'(by omega) = 48 -> ¬ 1 < W.size -> A) -> (¬ (W[0]'(by omega) = 48) -> A) -> A) := fun A hx hy => by
  by_cases h4 : W[0]'(by omega) = 48
  ·exact hx h4 (fun h5 => h3 ⟨h4, h5⟩)
  ·exact hy h4
 clear h3
 refine again _ ?_ ?_
 ·clear again
  intro h3 h4
  go_wp2_with fail
  refine (HT.out w1).mono ?_
  rintro e w2 ⟨rfl, hb⟩
  have HB2 := q0h (q0e HB.out hb)
  clear hb HT HB
  go_wp2_with fail
  refine (HU.out w2 (HG.out.imp id (fun h => h.below HB2.out))).mono ?_
  rintro e w3 ⟨v, er, rfl, hv, hx, hb⟩
  have HB3 := q0h (q0e HB2.out hb)
  clear hb HU HB2
  by_cases h31 : 2147483647 < decU ws
  ·obtain ⟨ty, p, rfl⟩ := hx h31
   have hrv : RV = .tuple #[.int .i64 0, .int .i64 20] := by rw [HGD.out, if_pos h31]
   have HRV2 := q0h hrv
   clear hrv HGD hv hx h31
   go_wp2_with fail
   refine wp_goto ⟨rfl, ?_⟩
   go_wp2_with fail
   simp only [Exit.noGoto]
   refine bodyPost_ret (results_tmp2 rfl _ _ _) rfl ?_
   exact ⟨by rw [HRV2.out]; rfl, HB3.out⟩
  obtain ⟨hv1, rfl⟩ := hv (by omega)
  have HV := q0h hv1
  have HRV2 := q0h (show RV = .tuple #[.int .i64 (q6k 32 (decU ws) (q4q ps) : Nat), .int .i64 0] from by rw [HGD.out, if_neg h31])
  have HN31 := q0h (show decU ws < 2147483648 from by omega)
  clear hv1 hv hx h31 HGD
  have hcv := Lib.run_convert_string_bytes (P := Tryz.prog) w3 9 74 5 Pt (u := .string) Tryz.underlying9 Tryz.underlying74 Tryz.underlying5
  have HBA := q0h (j6c w3 5 Pt)
  rw [HS.out.2] at HBA
  have HB4 := q0h (q0e HB3.out (q6v w3 5 Pt))
  obtain ⟨b, hb⟩ : ∃ b, b = w3.heap.size := ⟨_, rfl⟩
  obtain ⟨cp, hcp⟩ : ∃ c, c = grownCap w3 Pt.size 0 5 := ⟨_, rfl⟩
  obtain ⟨w4, hw4⟩ : ∃ x, x = Lib.bytesWorld w3 5 Pt := ⟨_, rfl⟩
  rw [<- hb, <- hcp, <- hw4] at hcv
  rw [<- hb, <- hw4] at HBA
  rw [<- hw4] at HB4
  have HLB := q0h (show w.heap.size <= b from by rw [hb]; exact HB3.out.size)
  clear hb hcp hw4 HB3
  go_wp2_with fail
  go_loopw [65] (fun i wr => ∃ k : Nat, i = .int .i64 k /\ k <= Pt.size /\ Hid (bAt b (x3y ps k) wr) /\ Hid (Below w.heap.size w wr)) (fun i _ => Pt.size - (intOf i).toNat)
  case atStart => exact ⟨0, rfl, Nat.zero_le _, q0h (by simpa [x3y, q4q] using HBA.out), HB4⟩
  case round =>
   obtain ⟨k, rfl, hk, HR, HX⟩ := hrel
   by_cases hkn : k < Pt.size
   ·have hkl : k < ps.length := by rw [HNP.out]; exact hkn
    have hr := HR.out.2 k (by rw [z1y]; exact hkl)
    rw [(q9o ps k hkl).1] at hr
    obtain ⟨d, hdd⟩ : ∃ d : Int, d = ((ps.getD k 0).toNat : Int) := ⟨_, rfl⟩
    rw [<- hdd] at hr
    have hdig : 48 <= (ps.getD k 0).toNat /\ (ps.getD k 0).toNat <= 57 := by
     have h5 := HDP.out (ps[k]) (List.getElem_mem hkl)
     simpa [List.getD, hkl] using h5
    have d0 : 48 <= d := by omega
    have d9 : d <= 57 := by omega
    have HDD := q0h hdd
    obtain ⟨hr1, hr2⟩ := hr
    clear hdig hdd
    have w48 : IntKind.u8.wrap (d - 48) = d - 48 := by rw [IntKind.wrap_u8]; omega
    go_wp2_with fail
    refine ⟨⟨k + 1, by simp, by omega, ?_, ?_⟩, by simp only [intOf]; omega⟩
    ·refine q0h ?_
     have h5 := HR.out.set k ((ps.getD k 0).toNat - 48) (by rw [z1y]; exact hkl)
     rw [<- (q9o ps k hkl).2] at h5
     have h6 : d - 48 = (((ps.getD k 0).toNat - 48 : Nat) : Int) := by have := HDD.out; omega
     rw [h6]
     exact h5
    ·exact q0h (HX.out.setCell HLB.out _)
   ·obtain rfl : k = Pt.size := by omega
    have HM := q0h (show bAt b (q4q ps) wr from by
     have h5 := HR.out
     rw [x3y, <- HNP.out, List.take_length, List.drop_length] at h5
     simpa using h5)
    clear HR hk HBA HB4 hcv
    go_wp2_with fail
    go_loopw [4, 75] (fun v i wr => ∃ (k : Nat) (vi : Int) (wn : Nat) (ds : List Nat), v = .int .u64 vi /\ i = .int .i64 k /\ k <= 32 /\ Hid (vi = wn /\ wn < 2147483648 * 2 ^ k) /\ Hid (q6k (32 - k) wn ds = q6k 32 (decU ws) (q4q ps)) /\ Hid (∀ d ∈ ds, d <= 9) /\ Hid (ds.length = Pt.size) /\ Hid (bAt b ds wr) /\ Hid (Below w.heap.size w wr)) (fun _ i _ => 32 - (intOf i).toNat)
    case atStart => exact ⟨0, v, decU ws, q4q ps, rfl, rfl, by omega, q0h ⟨HV.out, by have := HN31.out; omega⟩, q0h rfl, q0h (x0w ps HDP.out), q0h (by rw [q4q, List.length_map]; exact HNP.out), HM, HX⟩
    case round =>
     obtain ⟨k, vi, wn, ds, rfl, rfl, hk, HVI, HF, HD, HL, HR, HX⟩ := hrel
     by_cases hk32 : k < 32
     ·have hl32 : ds.length <= 32 := by have := HL.out; omega
      have HDB := q0h (z4h b cp ds wr HD.out hl32 HR.out)
      rw [HL.out] at HDB
      have hb2 : wn < 4611686018427387904 := by
       have h5 : 2 ^ k <= 2 ^ 31 := Nat.pow_le_pow_right (by omega) (by omega)
       have h6 : 2147483648 * 2 ^ k <= 2147483648 * 2 ^ 31 := Nat.mul_le_mul_left _ h5
       exact Nat.lt_of_lt_of_le HVI.out.2 (Nat.le_trans h6 (by decide))
      have v0 : 0 <= vi := by have := HVI.out.1; omega
      have v1 : vi < 4611686018427387904 := by have := HVI.out.1; omega
      obtain ⟨cc, hcc⟩ : ∃ c : Int, c = ((q4v ds).1 : Nat) := ⟨_, rfl⟩
      rw [<- hcc] at HDB
      have HCC := q0h (And.intro hcc (q5t ds HD.out).1)
      have c0 : 0 <= cc := by omega
      have c1 : cc <= 1 := by have := HCC.out.2; omega
      clear hcc hb2 hl32
      go_wp2_with fail
      refine HDB.out.mono ?_
      rintro e w5 ⟨rfl, hb5, hx5⟩
      have HB5 := q0h hb5
      have HX5 := q0h hx5
      clear hb5 hx5
      go_wp2_with fail
      have hvi := HVI.out
      have hcc := HCC.out
      have e1 : bits BinOp.or IntKind.u64 (vi * 2) cc = ((2 * wn + (q4v ds).1 : Nat) : Int) := by
       rw [u64_or _ _ (by omega) (by omega) c0 (by omega)]
       have e2 : (vi * 2).toNat = 2 * wn := by omega
       have e3 : cc.toNat = (q4v ds).1 := by omega
       rw [e2, e3, j2i _ _ hcc.2]
      rw [e1]
      refine ⟨⟨k + 1, _, 2 * wn + (q4v ds).1, (q4v ds).2, rfl, by simp, by omega, q0h ⟨rfl, ?_⟩, q0h ?_, q0h (q5t ds HD.out).2, q0h ((z1x ds).trans HL.out), HB5, q0h ?_⟩, by simp only [intOf]; omega⟩
      ·have h5 := hvi.2
       have h6 := hcc.2
       rw [Nat.pow_succ]
       generalize 2 ^ k = X at h5 ⊢
       omega
      ·have h5 := HF.out
       have e4 : 32 - k = (32 - (k + 1)) + 1 := by omega
       rw [e4] at h5
       exact h5
      ·exact q8e HX.out HX5.out (fun i hi => by rw [hi]; exact HLB.out)
     ·obtain rfl : k = 32 := by omega
      go_wp2_with fail
      have hvi := HVI.out
      have hf : wn = q6k 32 (decU ws) (q4q ps) := HF.out
      have e1 : wrap64 vi = ((q6k 32 (decU ws) (q4q ps) : Nat) : Int) := by
       have h5 := hvi.2
       have h6 : 2147483648 * 2 ^ 32 = 9223372036854775808 := by decide
       rw [h6] at h5
       rw [hvi.1, <- hf]
       clear hf hvi h6 HF
       unfold wrap64
       omega
      simp only [Exit.jump]
      refine bodyPost_ret (results_tmp2 rfl _ _ _) rfl ?_
      refine ⟨?_, HX.out⟩
      rw [HRV2.out, <- e1]
      rfl
 ·clear again
  intro h3
  have h3b : ¬ (((W[0]'(by omega)).toNat : Nat) : Int) = 48 := fun h => h3 (UInt8.toNat_inj.1 (by have e : (48 : UInt8).toNat = 48 := rfl; omega))
  have h3c : ((((W[0]'(by omega)).toNat : Nat) : Int) == 48) = false := by rw [beq_eq_false_iff_ne]; exact h3b
  go_wp2_with fail
  refine (HT.out w1).mono ?_
  rintro e w2 ⟨rfl, hb⟩
  have HB2 := q0h (q0e HB.out hb)
  clear hb HT HB
  go_wp2_with fail
  refine (HU.out w2 (HG.out.imp id (fun h => h.below HB2.out))).mono ?_
  rintro e w3 ⟨v, er, rfl, hv, hx, hb⟩
  have HB3 := q0h (q0e HB2.out hb)
  clear hb HU HB2
  by_cases h31 : 2147483647 < decU ws
  ·obtain ⟨ty, p, rfl⟩ := hx h31
   have hrv : RV = .tuple #[.int .i64 0, .int .i64 20] := by rw [HGD.out, if_pos h31]
   have HRV2 := q0h hrv
   clear hrv HGD hv hx h31
   go_wp2_with fail
   refine wp_goto ⟨rfl, ?_⟩
   go_wp2_with fail
   simp only [Exit.noGoto]
   refine bodyPost_ret (results_tmp2 rfl _ _ _) rfl ?_
   exact ⟨by rw [HRV2.out]; rfl, HB3.out⟩
  obtain ⟨hv1, rfl⟩ := hv (by omega)
  have HV := q0h hv1
  have HRV2 := q0h (show RV = .tuple #[.int .i64 (q6k 32 (decU ws) (q4q ps) : Nat), .int .i64 0] from by rw [HGD.out, if_neg h31])
  have HN31 := q0h (show decU ws < 2147483648 from by omega)
  clear hv1 hv hx h31 HGD
  have hcv := Lib.run_convert_string_bytes (P := Tryz.prog) w3 9 74 5 Pt (u := .string) Tryz.underlying9 Tryz.underlying74 Tryz.underlying5
  have HBA := q0h (j6c w3 5 Pt)
  rw [HS.out.2] at HBA
  have HB4 := q0h (q0e HB3.out (q6v w3 5 Pt))
  obtain ⟨b, hb⟩ : ∃ b, b = w3.heap.size := ⟨_, rfl⟩
  obtain ⟨cp, hcp⟩ : ∃ c, c = grownCap w3 Pt.size 0 5 := ⟨_, rfl⟩
  obtain ⟨w4, hw4⟩ : ∃ x, x = Lib.bytesWorld w3 5 Pt := ⟨_, rfl⟩
  rw [<- hb, <- hcp, <- hw4] at hcv
  rw [<- hb, <- hw4] at HBA
  rw [<- hw4] at HB4
  have HLB := q0h (show w.heap.size <= b from by rw [hb]; exact HB3.out.size)
  clear hb hcp hw4 HB3
  go_wp2_with fail
  go_loopw [65] (fun i wr => ∃ k : Nat, i = .int .i64 k /\ k <= Pt.size /\ Hid (bAt b (x3y ps k) wr) /\ Hid (Below w.heap.size w wr)) (fun i _ => Pt.size - (intOf i).toNat)
  case atStart => exact ⟨0, rfl, Nat.zero_le _, q0h (by simpa [x3y, q4q] using HBA.out), HB4⟩
  case round =>
   obtain ⟨k, rfl, hk, HR, HX⟩ := hrel
   by_cases hkn : k < Pt.size
   ·have hkl : k < ps.length := by rw [HNP.out]; exact hkn
    have hr := HR.out.2 k (by rw [z1y]; exact hkl)
    rw [(q9o ps k hkl).1] at hr
    obtain ⟨d, hdd⟩ : ∃ d : Int, d = ((ps.getD k 0).toNat : Int) := ⟨_, rfl⟩
    rw [<- hdd] at hr
    have hdig : 48 <= (ps.getD k 0).toNat /\ (ps.getD k 0).toNat <= 57 := by
     have h5 := HDP.out (ps[k]) (List.getElem_mem hkl)
     simpa [List.getD, hkl] using h5
    have d0 : 48 <= d := by omega
    have d9 : d <= 57 := by omega
    have HDD := q0h hdd
    obtain ⟨hr1, hr2⟩ := hr
    clear hdig hdd
    have w48 : IntKind.u8.wrap (d - 48) = d - 48 := by rw [IntKind.wrap_u8]; omega
    go_wp2_with fail
    refine ⟨⟨k + 1, by simp, by omega, ?_, ?_⟩, by simp only [intOf]; omega⟩
    ·refine q0h ?_
     have h5 := HR.out.set k ((ps.getD k 0).toNat - 48) (by rw [z1y]; exact hkl)
     rw [<- (q9o ps k hkl).2] at h5
     have h6 : d - 48 = (((ps.getD k 0).toNat - 48 : Nat) : Int) := by have := HDD.out; omega
     rw [h6]
     exact h5
    ·exact q0h (HX.out.setCell HLB.out _)
   ·obtain rfl : k = Pt.size := by omega
    have HM := q0h (show bAt b (q4q ps) wr from by
     have h5 := HR.out
     rw [x3y, <- HNP.out, List.take_length, List.drop_length] at h5
     simpa using h5)
    clear HR hk HBA HB4 hcv
    go_wp2_with fail
    go_loopw [4, 75] (fun v i wr => ∃ (k : Nat) (vi : Int) (wn : Nat) (ds : List Nat), v = .int .u64 vi /\ i = .int .i64 k /\ k <= 32 /\ Hid (vi = wn /\ wn < 2147483648 * 2 ^ k) /\ Hid (q6k (32 - k) wn ds = q6k 32 (decU ws) (q4q ps)) /\ Hid (∀ d ∈ ds, d <= 9) /\ Hid (ds.length = Pt.size) /\ Hid (bAt b ds wr) /\ Hid (Below w.heap.size w wr)) (fun _ i _ => 32 - (intOf i).toNat)
    case atStart => exact ⟨0, v, decU ws, q4q ps, rfl, rfl, by omega, q0h ⟨HV.out, by have := HN31.out; omega⟩, q0h rfl, q0h (x0w ps HDP.out), q0h (by rw [q4q, List.length_map]; exact HNP.out), HM, HX⟩
    case round =>
     obtain ⟨k, vi, wn, ds, rfl, rfl, hk, HVI, HF, HD, HL, HR, HX⟩ := hrel
     by_cases hk32 : k < 32
     ·have hl32 : ds.length <= 32 := by have := HL.out; omega
      have HDB := q0h (z4h b cp ds wr HD.out hl32 HR.out)
      rw [HL.out] at HDB
      have hb2 : wn < 4611686018427387904 := by
       have h5 : 2 ^ k <= 2 ^ 31 := Nat.pow_le_pow_right (by omega) (by omega)
       have h6 : 2147483648 * 2 ^ k <= 2147483648 * 2 ^ 31 := Nat.mul_le_mul_left _ h5
       exact Nat.lt_of_lt_of_le HVI.out.2 (Nat.le_trans h6 (by decide))
      have v0 : 0 <= vi := by have := HVI.out.1; omega
      have v1 : vi < 4611686018427387904 := by have := HVI.out.1; omega
      obtain ⟨cc, hcc⟩ : ∃ c : Int, c = ((q4v ds).1 : Nat) := ⟨_, rfl⟩
      rw [<- hcc] at HDB
      have HCC := q0h (And.intro hcc (q5t ds HD.out).1)
      have c0 : 0 <= cc := by omega
      have c1 : cc <= 1 := by have := HCC.out.2; omega
      clear hcc hb2 hl32
      go_wp2_with fail
      refine HDB.out.mono ?_
      rintro e w5 ⟨rfl, hb5, hx5⟩
      have HB5 := q0h hb5
      have HX5 := q0h hx5
      clear hb5 hx5
      go_wp2_with fail
      have hvi := HVI.out
      have hcc := HCC.out
      have e1 : bits BinOp.or IntKind.u64 (vi * 2) cc = ((2 * wn + (q4v ds).1 : Nat) : Int) := by
       rw [u64_or _ _ (by omega) (by omega) c0 (by omega)]
       have e2 : (vi * 2).toNat = 2 * wn := by omega
       have e3 : cc.toNat = (q4v ds).1 := by omega
       rw [e2, e3, j2i _ _ hcc.2]
      rw [e1]
      refine ⟨⟨k + 1, _, 2 * wn + (q4v ds).1, (q4v ds).2, rfl, by simp, by omega, q0h ⟨rfl, ?_⟩, q0h ?_, q0h (q5t ds HD.out).2, q0h ((z1x ds).trans HL.out), HB5, q0h ?_⟩, by simp only [intOf]; omega⟩
      ·have h5 := hvi.2
       have h6 := hcc.2
       rw [Nat.pow_succ]
       generalize 2 ^ k = X at h5 ⊢
       omega
      ·have h5 := HF.out
       have e4 : 32 - k = (32 - (k + 1)) + 1 := by omega
       rw [e4] at h5
       exact h5
      ·exact q8e HX.out HX5.out (fun i hi => by rw [hi]; exact HLB.out)
     ·obtain rfl : k = 32 := by omega
      go_wp2_with fail
      have hvi := HVI.out
      have hf : wn = q6k 32 (decU ws) (q4q ps) := HF.out
      have e1 : wrap64 vi = ((q6k 32 (decU ws) (q4q ps) : Nat) : Int) := by
       have h5 := hvi.2
       have h6 : 2147483648 * 2 ^ 32 = 9223372036854775808 := by decide
       rw [h6] at h5
       rw [hvi.1, <- hf]
       clear hf hvi h6 HF
       unfold wrap64
       omega
      simp only [Exit.jump]
      refine bodyPost_ret (results_tmp2 rfl _ _ _) rfl ?_
      refine ⟨?_, HX.out⟩
      rw [HRV2.out, <- e1]
      rfl
set_option maxHeartbeats 8000000 in
theorem x2y : q8v q1v := by
 intro t w hok hk
 obtain ⟨k, tx, a⟩ := t
 obtain ⟨hz, h3, h4⟩ := hok
 obtain ⟨n, hn⟩ : ∃ n, n = q1v ⟨k, tx, a⟩ := ⟨_, rfl⟩
 rw [<- hn]
 rcases hk with hk | hk
 ·obtain rfl : k = 3 := hk
  obtain ⟨h5, h6, h7⟩ := h3 rfl
  have HC := q0h (fun w => j3l tx h5 (Nat.le_trans hz (by decide)) h6 h7 w)
  have e : n = (decU tx.data.toList : Nat) := hn
  rw [<- e] at HC
  clear hn h3 h4 h5 h6 h7 hz e
  unfold x4l
  go_enter Tryz.func68, Tryz.ntmps68
  go_wp2_with fail
  refine (HC.out _).mono ?_
  rintro e w1 ⟨rfl, hb⟩
  have HB := q0h hb
  clear hb
  go_wp2_with fail
  go_ret
  exact ⟨rfl, q0e (q0d (Below.refl _ _) _) HB.out⟩
 ·obtain rfl : k = 4 := hk
  obtain ⟨h5, h6⟩ := h4 rfl
  have HC := q0h (fun w => z1j tx h5 (Nat.le_trans hz (by decide)) w (.inl h6))
  have e : x9d tx.data.toList = .tuple #[.int .i64 n, .int .i64 0] := by
   cases hf : z8g tx.data.toList with
   | none => rw [hf] at h6; cases h6
   | some v =>
    have e2 : n = v := by rw [hn]; show (z8g tx.data.toList).getD 0 = v; rw [hf]; rfl
    unfold x9d
    rw [hf, e2]
  rw [e] at HC
  clear hn h3 h4 h5 h6 hz e
  unfold x4l
  go_enter Tryz.func68, Tryz.ntmps68
  go_wp2_with fail
  refine (HC.out _).mono ?_
  rintro e w1 ⟨rfl, hb⟩
  have HB := q0h hb
  clear hb
  go_wp2_with fail
  go_ret
  exact ⟨rfl, q0e (q0d (Below.refl _ _) _) HB.out⟩
def fxB (l : List UInt8) : Bool := (z8g l).isSome
theorem z7c (p : Int -> Bool) : ∀ l : List UInt8, ∀ c ∈ l.take (q2a p l), p c.toNat = true
 | [], c, h => by cases h
 | d :: l, c, h => by
  unfold q2a at h
  by_cases hp : p d.toNat = true
  ·rw [if_pos hp] at h
   rcases List.mem_cons.1 h with rfl | h
   ·exact hp
   ·exact z7c p l c h
  ·rw [if_neg hp] at h
   cases h
theorem q9p (l : List UInt8) : z6n (l.take (q2a q0k l)) := fun c hc => by
 have h := z7c q0k l c hc
 unfold q0k at h
 simp at h
 omega
theorem q5u (s : ByteArray) (a b : Nat) : (s.extract a b).data.toList = (s.data.toList.drop a).take (b - a) := by rw [q4c]
theorem j6d : q1k 111 := fun args w => by kernel_rfl
theorem j7z (x : Int) (w : World) : q3r 111 #[] (.int .u8 x) w (q0k x) := (q3u x w).mono fun e w' h => ⟨h.1, by rw [<- h.2]; exact Below.refl _ _⟩
theorem j2j (s : ByteArray) (w : World) (hs : s.size <= 1000000) : Calls Tryz.prog 61 #[.string s, .func (.func 111) #[] #[]] w fun e w' => e = .returned (.int .i64 (q2a q0k s.data.toList)) /\ Below w.heap.size w w' :=
 z4z 111 #[] q0k s w j6d j7z (Nat.le_trans hs (by decide))
theorem x5m (l : List UInt8) (n m : Nat) (hn : n = q2a q0k l) (h0 : n ≠ 0) (hm : m = q2a q0k (l.drop (n + 1))) (hm0 : m ≠ 0) (hl : n < l.length) (h46 : l.getD n 0 = 46) : j7t (l.take (n + 1 + m)) := by
 have h1 : l.drop n = 46 :: l.drop (n + 1) := by
  rw [List.drop_eq_getElem_cons hl]
  have : l[n] = 46 := by simpa [List.getD, hl] using h46
  rw [this]
 have hmL : m <= (l.drop (n + 1)).length := by rw [hm]; exact q4d _ _
 rw [List.length_drop] at hmL
 have h2 : l.take (n + 1 + m) = l.take n ++ 46 :: (l.drop (n + 1)).take m := by
  have h3 : l.take (n + 1 + m) = l.take n ++ (l.drop n).take (1 + m) := by rw [<- List.take_add, Nat.add_assoc]
  rw [h3, h1, Nat.add_comm 1 m]
  rfl
 refine ⟨_, _, h2, ?_, ?_, ?_⟩
 ·intro e
  have := congrArg List.length e
  rw [List.length_take, List.length_nil] at this
  omega
 ·intro e
  have := congrArg List.length e
  rw [List.length_take, List.length_drop, List.length_nil] at this
  omega
 ·intro c hc
  rcases List.mem_append.1 hc with hc | hc
  ·rw [hn] at hc; exact q9p l c hc
  ·rw [hm] at hc; exact q9p _ c hc
set_option maxHeartbeats 32000000 in
theorem z8x (s : ByteArray) (hs : s.size <= 1000000) (h0 : q2a q0k s.data.toList ≠ 0) (w : World) (hg : z8h w) :
  Calls Tryz.prog 112 #[.string s] w fun e w' => e = .returned (.tuple #[.int .i64 (z6m fxB s.data.toList).1, .int .i64 (z6m fxB s.data.toList).2]) /\ Below w.heap.size w w' := by
 obtain ⟨l, hl⟩ : ∃ l, l = s.data.toList := ⟨_, rfl⟩
 have hll : l.length = s.size := by rw [hl]; exact Array.length_toList
 have HR1 := q0h (j2j s w hs)
 rw [<- hl] at HR1 h0 ⊢
 obtain ⟨n, hn⟩ : ∃ n, n = q2a q0k l := ⟨_, rfl⟩
 rw [<- hn] at HR1 h0
 have hnl : n <= s.size := by rw [hn, <- hll]; exact q4d _ _
 obtain ⟨R, hR⟩ : ∃ R, R = z6m fxB l := ⟨_, rfl⟩
 rw [<- hR]
 have hR2 : R = if n = l.length \/ l.getD n 0 ≠ 46 then q3v l n else if 0 < q2a q0k (l.drop (n + 1)) then if fxB (l.take (n + 1 + q2a q0k (l.drop (n + 1)))) then (n + 1 + q2a q0k (l.drop (n + 1)), 4) else (0, 0) else q3v l n := by rw [hR, hn]; rfl
 have hU := fun w => x5b (s.extract 0 n) (by rw [ByteArray.size_extract]; omega) (by rw [ByteArray.size_extract]; omega) (by rw [q5u, <- hl, List.drop_zero, Nat.sub_zero, hn]; exact q9p l) w
 have e1 : (s.extract 0 n).data.toList = l.take n := by rw [q5u, <- hl, List.drop_zero, Nat.sub_zero]
 rw [e1] at hU
 have hat : ∀ j (hj : j < s.size), l.getD j 0 = s[j]'hj := fun j hj => by
  subst hl
  have : j < s.data.toList.length := by rw [Array.length_toList]; exact hj
  simp only [List.getD, List.getElem?_eq_getElem this, Option.getD_some, ByteArray.getElem_eq_getElem_data, Array.getElem_toList]
 have hpos : 0 < s.size := by omega
 have hh : l.headD 0 = s[0]'hpos := by rw [<- hat 0 hpos]; cases l <;> rfl
 have HU := q0h hU
 have HH := q0h hh
 have HAT := q0h hat
 have HR2 := q0h hR2
 have HN := q0h hn
 have HL := q0h hl
 have HLL := q0h hll
 have HG := q0h hg
 clear hR2 hR hU hh hl hll hn hat e1 hg
 go_enter Tryz.func112, Tryz.ntmps112
 go_wp2_with fail
 refine z1i 0 rfl ?_
 go_wp2_with fail
 refine HR1.out.mono ?_
 rintro e w1 ⟨rfl, hb⟩
 have HB := q0h hb
 clear hb HR1
 by_cases hz : n = s.size
 ·have HW := q0h (show R = q3v l n from by rw [HR2.out, if_pos (.inl (hz.trans HLL.out.symm))])
  clear HR2 HAT
  subst hz
  have ex : s.extract 0 s.size = s := by
   have h1 : s.data.toList.length = s.size := Array.length_toList
   rw [q4c, List.drop_zero, Nat.sub_zero, <- h1, List.take_length]
  rw [ex] at HU
  clear ex
  go_wp2_with fail
  refine wp_goto ⟨rfl, ?_⟩
  go_wp2_with fail
  refine (HU.out _ (.inr (HG.out.below HB.out))).mono ?_
  rintro e w5 ⟨v, er, rfl, hv, hx, hb⟩
  have HB5 := q0h (q0e HB.out hb)
  clear hb HU
  have hw2 := HW.out
  unfold q3v at hw2
  rw [HH.out] at hw2
  by_cases h63 : 9223372036854775808 <= decU (l.take s.size)
  ·obtain ⟨ty, p, rfl⟩ := hx (by omega)
   rw [if_pos (.inl h63)] at hw2
   have HRV := q0h hw2
   clear hv hx h63 hw2
   go_wp2_with fail
   simp only [Exit.noGoto]
   refine bodyPost_ret (results_tmp2 rfl _ _ _) rfl ?_
   exact ⟨by rw [HRV.out]; rfl, HB5.out⟩
  obtain ⟨rfl, rfl⟩ := hv (by omega)
  clear hv hx
  by_cases h48 : s[0]'hpos = 48
  ·by_cases h1 : 1 < s.size
   ·rw [if_pos (.inr ⟨h48, h1⟩)] at hw2
    have HRV := q0h hw2
    clear hw2 h63
    go_wp2_with fail
    simp only [Exit.noGoto]
    refine bodyPost_ret (results_tmp2 rfl _ _ _) rfl ?_
    exact ⟨by rw [HRV.out]; rfl, HB5.out⟩
   ·rw [if_neg (by rintro (h | h); exact h63 h; exact h1 h.2)] at hw2
    have HRV := q0h hw2
    clear hw2 h63
    go_wp2_with fail
    simp only [Exit.noGoto]
    refine bodyPost_ret (results_tmp2 rfl _ _ _) rfl ?_
    exact ⟨by rw [HRV.out]; rfl, HB5.out⟩
  rw [if_neg (by rintro (h | h); exact h63 h; exact h48 h.1)] at hw2
  have HRV := q0h hw2
  have h48b : ¬ (((s[0]'hpos).toNat : Nat) : Int) = 48 := fun h => h48 (UInt8.toNat_inj.1 (by have e : (48 : UInt8).toNat = 48 := rfl; omega))
  have h48c : ((((s[0]'hpos).toNat : Nat) : Int) == 48) = false := by rw [beq_eq_false_iff_ne]; exact h48b
  clear hw2 h63
  go_wp2_with fail
  simp only [Exit.noGoto]
  refine bodyPost_ret (results_tmp2 rfl _ _ _) rfl ?_
  exact ⟨by rw [HRV.out]; rfl, HB5.out⟩
 have hlt : n < s.size := by omega
 have hzz : ((n : Int) == (s.size : Int)) = false := by rw [beq_eq_false_iff_ne]; omega
 by_cases h46 : s[n]'hlt = 46
 rotate_left
 ·have HW := q0h (show R = q3v l n from by rw [HR2.out, if_pos (.inr (by rw [HAT.out n hlt]; exact h46))])
  clear HR2 HAT
  have h46b : ¬ (((s[n]'hlt).toNat : Nat) : Int) = 46 := fun h => h46 (UInt8.toNat_inj.1 (by have e : (46 : UInt8).toNat = 46 := rfl; omega))
  have h46c : ((((s[n]'hlt).toNat : Nat) : Int) != 46) = true := by rw [bne_iff_ne]; exact h46b
  go_wp2_with fail
  refine wp_goto ⟨rfl, ?_⟩
  go_wp2_with fail
  refine (HU.out _ (.inr (HG.out.below HB.out))).mono ?_
  rintro e w5 ⟨v, er, rfl, hv, hx, hb⟩
  have HB5 := q0h (q0e HB.out hb)
  clear hb HU
  have hw2 := HW.out
  unfold q3v at hw2
  rw [HH.out] at hw2
  by_cases h63 : 9223372036854775808 <= decU (l.take n)
  ·obtain ⟨ty, p, rfl⟩ := hx (by omega)
   rw [if_pos (.inl h63)] at hw2
   have HRV := q0h hw2
   clear hv hx h63 hw2
   go_wp2_with fail
   simp only [Exit.noGoto]
   refine bodyPost_ret (results_tmp2 rfl _ _ _) rfl ?_
   exact ⟨by rw [HRV.out]; rfl, HB5.out⟩
  obtain ⟨rfl, rfl⟩ := hv (by omega)
  clear hv hx
  by_cases h48 : s[0]'hpos = 48
  ·by_cases h1 : 1 < n
   ·rw [if_pos (.inr ⟨h48, h1⟩)] at hw2
    have HRV := q0h hw2
    clear hw2 h63
    go_wp2_with fail
    simp only [Exit.noGoto]
    refine bodyPost_ret (results_tmp2 rfl _ _ _) rfl ?_
    exact ⟨by rw [HRV.out]; rfl, HB5.out⟩
   ·rw [if_neg (by rintro (h | h); exact h63 h; exact h1 h.2)] at hw2
    have HRV := q0h hw2
    clear hw2 h63
    go_wp2_with fail
    simp only [Exit.noGoto]
    refine bodyPost_ret (results_tmp2 rfl _ _ _) rfl ?_
    exact ⟨by rw [HRV.out]; rfl, HB5.out⟩
  rw [if_neg (by rintro (h | h); exact h63 h; exact h48 h.1)] at hw2
  have HRV := q0h hw2
  have h48b : ¬ (((s[0]'hpos).toNat : Nat) : Int) = 48 := fun h => h48 (UInt8.toNat_inj.1 (by have e : (48 : UInt8).toNat = 48 := rfl; omega))
  have h48c : ((((s[0]'hpos).toNat : Nat) : Int) == 48) = false := by rw [beq_eq_false_iff_ne]; exact h48b
  clear hw2 h63
  go_wp2_with fail
  simp only [Exit.noGoto]
  refine bodyPost_ret (results_tmp2 rfl _ _ _) rfl ?_
  exact ⟨by rw [HRV.out]; rfl, HB5.out⟩
 have h46c : ((((s[n]'hlt).toNat : Nat) : Int) != 46) = false := by rw [h46]; rfl
 have hx := HAT.out n hlt
 rw [h46] at hx
 have hne : ¬ (n = l.length \/ l.getD n 0 ≠ 46) := by
  rintro (h | h)
  ·exact hz (h.trans HLL.out)
  ·exact h hx
 have HR3 := q0h (HR2.out.trans (if_neg hne))
 have HX := q0h hx
 have hd := fun w => j2j (s.extract (n + 1) s.size) w (by rw [ByteArray.size_extract]; omega)
 have e1 : (s.extract (n + 1) s.size).data.toList = l.drop (n + 1) := by
  rw [q5u, <- HL.out, <- HLL.out, <- List.length_drop, List.take_length]
 rw [e1] at hd
 have HDG := q0h hd
 clear hd e1 hne hx HAT HR2 h46
 obtain ⟨m, hm⟩ : ∃ m, m = q2a q0k (l.drop (n + 1)) := ⟨_, rfl⟩
 rw [<- hm] at HDG HR3
 have hml : n + 1 + m <= s.size := by
  have := q4d q0k (l.drop (n + 1))
  rw [<- hm, List.length_drop, HLL.out] at this
  omega
 have HM := q0h hm
 clear hm
 go_wp2_with fail
 refine (HDG.out w1).mono ?_
 rintro e w2 ⟨rfl, hb⟩
 have HB2 := q0h (q0e HB.out hb)
 clear hb HDG HB
 by_cases hm0 : m = 0
 ·subst hm0
  have HW := q0h (show R = q3v l n from HR3.out.trans (if_neg (by omega)))
  clear HR3
  go_wp2_with fail
  go_step3
  rename_i K hK
  refine hK _ _ ?_
  clear hK K
  go_wp2_with fail
  refine (HU.out _ (.inr (HG.out.below HB2.out))).mono ?_
  rintro e w5 ⟨v, er, rfl, hv, hx, hb⟩
  have HB5 := q0h (q0e HB2.out hb)
  clear hb HU
  have hw2 := HW.out
  unfold q3v at hw2
  rw [HH.out] at hw2
  by_cases h63 : 9223372036854775808 <= decU (l.take n)
  ·obtain ⟨ty, p, rfl⟩ := hx (by omega)
   rw [if_pos (.inl h63)] at hw2
   have HRV := q0h hw2
   clear hv hx h63 hw2
   go_wp2_with fail
   simp only [Exit.jump]
   refine bodyPost_ret (results_tmp2 rfl _ _ _) rfl ?_
   exact ⟨by rw [HRV.out]; rfl, HB5.out⟩
  obtain ⟨rfl, rfl⟩ := hv (by omega)
  clear hv hx
  by_cases h48 : s[0]'hpos = 48
  ·by_cases h1 : 1 < n
   ·rw [if_pos (.inr ⟨h48, h1⟩)] at hw2
    have HRV := q0h hw2
    clear hw2 h63
    go_wp2_with fail
    simp only [Exit.jump]
    refine bodyPost_ret (results_tmp2 rfl _ _ _) rfl ?_
    exact ⟨by rw [HRV.out]; rfl, HB5.out⟩
   ·rw [if_neg (by rintro (h | h); exact h63 h; exact h1 h.2)] at hw2
    have HRV := q0h hw2
    clear hw2 h63
    go_wp2_with fail
    simp only [Exit.jump]
    refine bodyPost_ret (results_tmp2 rfl _ _ _) rfl ?_
    exact ⟨by rw [HRV.out]; rfl, HB5.out⟩
  rw [if_neg (by rintro (h | h); exact h63 h; exact h48 h.1)] at hw2
  have HRV := q0h hw2
  have h48b : ¬ (((s[0]'hpos).toNat : Nat) : Int) = 48 := fun h => h48 (UInt8.toNat_inj.1 (by have e : (48 : UInt8).toNat = 48 := rfl; omega))
  have h48c : ((((s[0]'hpos).toNat : Nat) : Int) == 48) = false := by rw [beq_eq_false_iff_ne]; exact h48b
  clear hw2 h63
  go_wp2_with fail
  simp only [Exit.jump]
  refine bodyPost_ret (results_tmp2 rfl _ _ _) rfl ?_
  exact ⟨by rw [HRV.out]; rfl, HB5.out⟩
 have hf := x5m l n m HN.out h0 HM.out hm0 (by rw [HLL.out]; exact hlt) HX.out
 have e1 : (s.extract 0 (n + (1 + m))).data.toList = l.take (n + 1 + m) := by
  rw [q5u, <- HL.out, List.drop_zero, Nat.sub_zero, Nat.add_assoc]
 rw [<- e1] at hf
 have hF := z1j (s.extract 0 (n + (1 + m))) hf (by rw [ByteArray.size_extract]; omega) w2 (.inr (HG.out.below HB2.out))
 rw [e1] at hF
 have hr := HR3.out
 rw [if_pos (by omega)] at hr
 have HF := q0h hF
 have mp : 0 < m := by omega
 clear hf e1 hF hm0 HR3 HU
 cases hfx : z8g (l.take (n + 1 + m)) with
 | none =>
  have HRV := q0h (show R = (0, 0) from by rw [hr, fxB, hfx]; rfl)
  have e2 : x9d (l.take (n + 1 + m)) = .tuple #[.int .i64 0, .int .i64 20] := by unfold x9d; rw [hfx]
  rw [e2] at HF
  clear hr hfx e2
  go_wp2_with fail
  refine HF.out.mono ?_
  rintro e w3 ⟨rfl, hb⟩
  have HB3 := q0h (q0e HB2.out hb)
  clear hb
  go_wp2_with fail
  simp only [Exit.jump]
  refine bodyPost_ret (results_tmp2 rfl _ _ _) rfl ?_
  exact ⟨by rw [HRV.out]; rfl, HB3.out⟩
 | some v =>
  have HRV := q0h (show R = (n + 1 + m, 4) from by rw [hr, fxB, hfx]; rfl)
  have e2 : x9d (l.take (n + 1 + m)) = .tuple #[.int .i64 v, .int .i64 0] := by unfold x9d; rw [hfx]
  rw [e2] at HF
  clear hr hfx e2
  go_wp2_with fail
  refine HF.out.mono ?_
  rintro e w3 ⟨rfl, hb⟩
  have HB3 := q0h (q0e HB2.out hb)
  clear hb
  go_wp2_with fail
  simp only [Exit.jump]
  refine bodyPost_ret (results_tmp2 rfl _ _ _) rfl ?_
  refine ⟨?_, HB3.out⟩
  rw [HRV.out]
  have e3 : (n : Int) + (1 + (m : Int)) = ((n + 1 + m : Nat) : Int) := by omega
  rw [<- e3]
  rfl
theorem j3t (s : ByteArray) (w : World) (hs : s.size <= 1000000) : Calls Tryz.prog 61 #[.string s, .func (.func 109) #[] #[]] w fun e w' => e = .returned (.int .i64 (q2a q0s s.data.toList)) /\ Below w.heap.size w w' :=
 z4z 109 #[] q0s s w z6k x0n (Nat.le_trans hs (by decide))
def q2d (s : ByteArray) (w : World) : Prop := Calls Tryz.prog 63 #[.string s] w fun e w' => e = .returned (.tuple #[.int .i64 (q1b fxB s.data.toList).1, .int .i64 (q1b fxB s.data.toList).2]) /\ Below w.heap.size w w'
set_option maxHeartbeats 32000000 in
theorem z7d (s : ByteArray) (hs : s.size <= 1000000) (hpos : 0 < s.size) (w : World) (hl : q1g (s[0]'hpos).toNat = true) : q2d s w := by
 unfold q2d
 obtain ⟨l, hll⟩ : ∃ l, l = s.data.toList := ⟨_, rfl⟩
 have hlen : l.length = s.size := by rw [hll]; exact Array.length_toList
 have hh : l.headD 0 = s[0]'hpos := by
  subst hll
  rw [ByteArray.getElem_eq_getElem_data]
  obtain ⟨⟨d⟩⟩ := s
  cases d with
  | nil => exact absurd hpos (by decide)
  | cons c d => rfl
 obtain ⟨R, hR⟩ : ∃ R, R = q1b fxB l := ⟨_, rfl⟩
 have HR1 := q0h (j3t s w hs)
 rw [<- hll] at HR1 ⊢
 rw [<- hR]
 obtain ⟨n, hn⟩ : ∃ n, n = q2a q0s l := ⟨_, rfl⟩
 rw [<- hn] at HR1
 have hnl : n <= s.size := by rw [hn, <- hlen]; exact q4d _ _
 have hR2 : R = if 24 < n then (0, 0) else if z4y ⟨(l.take n).toArray⟩ then (n, 2) else (n, 1) := by
  rw [hR]
  unfold q1b
  simp only [hh, hl, if_true, <- hn]
 have e1 : s.extract 0 n = ⟨(l.take n).toArray⟩ := by rw [q4c, <- hll, List.drop_zero, Nat.sub_zero]
 rw [<- e1] at hR2
 have HLB := q0h (fun w => q2q ((s[0]'hpos).toNat : Nat) w)
 rw [hl] at HLB
 have HW := q0h (fun w => x0m (s.extract 0 n) w)
 have HR2 := q0h hR2
 have HE := q0h (And.intro hll hlen)
 clear hR hR2 e1 hn hl hh hll hlen
 go_enter Tryz.func63, Tryz.ntmps63
 go_wp2_with fail
 refine (HLB.out _).mono ?_
 rintro e w1 ⟨rfl, rfl⟩
 go_wp2_with fail
 refine HR1.out.mono ?_
 rintro e w1 ⟨rfl, hb⟩
 have HB := q0h hb
 clear hb HR1 HLB
 by_cases h24 : 24 < n
 ·have HRV := q0h (show R = (0, 0) from by rw [HR2.out, if_pos h24])
  clear HR2 HW
  go_wp2_with fail
  go_ret2
  exact ⟨by rw [HRV.out]; rfl, HB.out⟩
 have hr := HR2.out
 rw [if_neg h24] at hr
 clear HR2
 cases hwb : z4y (s.extract 0 n)
 all_goals
  rw [hwb] at HW hr
  have HRV := q0h hr
  clear hwb hr
  go_wp2_with fail
  refine (HW.out _).mono ?_
  rintro e w2 ⟨rfl, rfl⟩
  go_wp2_with fail
  go_ret2
  exact ⟨by rw [HRV.out]; rfl, HB.out⟩
set_option maxHeartbeats 32000000 in
theorem z8y (s : ByteArray) (hs : s.size <= 1000000) (hpos : 0 < s.size) (w : World) (hg : z8h w) (hl : q1g (s[0]'hpos).toNat = false) (hd : q0k (s[0]'hpos).toNat = true) : q2d s w := by
 unfold q2d
 have hh : s.data.toList = s[0]'hpos :: s.data.toList.tail := by
  rw [ByteArray.getElem_eq_getElem_data]
  obtain ⟨⟨d⟩⟩ := s
  cases d with
  | nil => exact absurd hpos (by decide)
  | cons c d => rfl
 have h0 : q2a q0k s.data.toList ≠ 0 := by
  rw [hh]
  unfold q2a
  rw [if_pos hd]
  omega
 have HN := q0h (z8x s hs h0 w hg)
 obtain ⟨R, hR⟩ : ∃ R, R = q1b fxB s.data.toList := ⟨_, rfl⟩
 have hR2 : R = z6m fxB s.data.toList := by
  rw [hR]
  unfold q1b
  have h1 : s.data.toList.headD 0 = s[0]'hpos := by rw [hh]; rfl
  simp only [h1, hl, hd, if_true, Bool.false_eq_true, if_false]
 rw [<- hR]
 rw [<- hR2] at HN
 have HLB := q0h (fun w => q2q ((s[0]'hpos).toNat : Nat) w)
 have HDB := q0h (fun w => q3u ((s[0]'hpos).toNat : Nat) w)
 rw [hl] at HLB
 rw [hd] at HDB
 clear hR hR2 hl hh hd h0 hg
 go_enter Tryz.func63, Tryz.ntmps63
 go_wp2_with fail
 refine (HLB.out _).mono ?_
 rintro e w1 ⟨rfl, rfl⟩
 go_wp2_with fail
 refine (HDB.out _).mono ?_
 rintro e w1 ⟨rfl, rfl⟩
 go_wp2_with fail
 refine HN.out.mono ?_
 rintro e w1 ⟨rfl, hb⟩
 have HB := q0h hb
 clear hb HN HLB HDB
 go_wp2_with fail
 go_ret2
 exact ⟨rfl, HB.out⟩
theorem q8w (s : ByteArray) (hpos : 0 < s.size) : s.data.toList.headD 0 = s[0]'hpos := by
 rw [ByteArray.getElem_eq_getElem_data]
 obtain ⟨⟨d⟩⟩ := s
 cases d with
 | nil => exact absurd hpos (by decide)
 | cons c d => rfl
theorem q8x (s : ByteArray) (j : Nat) (hj : j < s.size) : s.data.toList.getD j 0 = s[j]'hj := by
 have : j < s.data.toList.length := by rw [Array.length_toList]; exact hj
 simp only [List.getD, List.getElem?_eq_getElem this, Option.getD_some, ByteArray.getElem_eq_getElem_data, Array.getElem_toList]
set_option maxHeartbeats 32000000 in
theorem x9e (s : ByteArray) (hs : s.size <= 1000000) (hpos : 0 < s.size) (w : World) (h : s[0]'hpos = 38) : q2d s w := by
 unfold q2d
 have hlen : s.data.toList.length = s.size := Array.length_toList
 obtain ⟨R, hR⟩ : ∃ R, R = q1b fxB s.data.toList := ⟨_, rfl⟩
 have hR2 : R = if s.data.toList.getD 1 0 = 38 /\ 1 < s.size then (2, 5) else (0, 0) := by
  rw [hR]
  unfold q1b
  rw [q8w s hpos, h, hlen]
  rfl
 rw [<- hR]
 have hL := fun w => q2q 38 w
 have hD := fun w => q3u 38 w
 rw [show q1g 38 = false from by decide] at hL
 rw [show q0k 38 = false from by decide] at hD
 have HLB := q0h hL
 have HDB := q0h hD
 clear hR hL hD hlen
 by_cases h1 : 1 < s.size
 ·rw [q8x s 1 h1] at hR2
  by_cases h2 : s[1]'h1 = 38
  ·have HRV := q0h (hR2.trans (if_pos ⟨h2, h1⟩))
   clear hR2
   go_enter Tryz.func63, Tryz.ntmps63
   go_wp2_with fail
   refine (HLB.out _).mono ?_
   rintro e w1 ⟨rfl, rfl⟩
   go_wp2_with fail
   refine (HDB.out _).mono ?_
   rintro e w1 ⟨rfl, rfl⟩
   go_wp2_with fail
   go_ret2
   exact ⟨by rw [HRV.out]; rfl, Below.refl _ _⟩
  ·have HRV := q0h (hR2.trans (if_neg (fun h => h2 h.1)))
   have h2b : ¬ (((s[1]'h1).toNat : Nat) : Int) = 38 := fun h => h2 (UInt8.toNat_inj.1 (by have e : (38 : UInt8).toNat = 38 := rfl; omega))
   have h2c : ((((s[1]'h1).toNat : Nat) : Int) != 38) = true := by rw [bne_iff_ne]; exact h2b
   clear hR2
   go_enter Tryz.func63, Tryz.ntmps63
   go_wp2_with fail
   refine (HLB.out _).mono ?_
   rintro e w1 ⟨rfl, rfl⟩
   go_wp2_with fail
   refine (HDB.out _).mono ?_
   rintro e w1 ⟨rfl, rfl⟩
   go_wp2_with fail
   go_ret2
   exact ⟨by rw [HRV.out]; rfl, Below.refl _ _⟩
 ·have HRV := q0h (hR2.trans (if_neg (fun h => h1 h.2)))
  clear hR2
  go_enter Tryz.func63, Tryz.ntmps63
  go_wp2_with fail
  refine (HLB.out _).mono ?_
  rintro e w1 ⟨rfl, rfl⟩
  go_wp2_with fail
  refine (HDB.out _).mono ?_
  rintro e w1 ⟨rfl, rfl⟩
  go_wp2_with fail
  go_ret2
  exact ⟨by rw [HRV.out]; rfl, Below.refl _ _⟩
set_option maxHeartbeats 32000000 in
theorem x5n (s : ByteArray) (hs : s.size <= 1000000) (hpos : 0 < s.size) (w : World) (h : s[0]'hpos = 124) : q2d s w := by
 unfold q2d
 have hlen : s.data.toList.length = s.size := Array.length_toList
 obtain ⟨R, hR⟩ : ∃ R, R = q1b fxB s.data.toList := ⟨_, rfl⟩
 have hR2 : R = if s.data.toList.getD 1 0 = 124 /\ 1 < s.size then (2, 5) else (0, 0) := by
  rw [hR]
  unfold q1b
  rw [q8w s hpos, h, hlen]
  rfl
 rw [<- hR]
 have hL := fun w => q2q 124 w
 have hD := fun w => q3u 124 w
 rw [show q1g 124 = false from by decide] at hL
 rw [show q0k 124 = false from by decide] at hD
 have HLB := q0h hL
 have HDB := q0h hD
 clear hR hL hD hlen
 by_cases h1 : 1 < s.size
 ·rw [q8x s 1 h1] at hR2
  by_cases h2 : s[1]'h1 = 124
  ·have HRV := q0h (hR2.trans (if_pos ⟨h2, h1⟩))
   clear hR2
   go_enter Tryz.func63, Tryz.ntmps63
   go_wp2_with fail
   refine (HLB.out _).mono ?_
   rintro e w1 ⟨rfl, rfl⟩
   go_wp2_with fail
   refine (HDB.out _).mono ?_
   rintro e w1 ⟨rfl, rfl⟩
   go_wp2_with fail
   go_ret2
   exact ⟨by rw [HRV.out]; rfl, Below.refl _ _⟩
  ·have HRV := q0h (hR2.trans (if_neg (fun h => h2 h.1)))
   have h2b : ¬ (((s[1]'h1).toNat : Nat) : Int) = 124 := fun h => h2 (UInt8.toNat_inj.1 (by have e : (124 : UInt8).toNat = 124 := rfl; omega))
   have h2c : ((((s[1]'h1).toNat : Nat) : Int) != 124) = true := by rw [bne_iff_ne]; exact h2b
   clear hR2
   go_enter Tryz.func63, Tryz.ntmps63
   go_wp2_with fail
   refine (HLB.out _).mono ?_
   rintro e w1 ⟨rfl, rfl⟩
   go_wp2_with fail
   refine (HDB.out _).mono ?_
   rintro e w1 ⟨rfl, rfl⟩
   go_wp2_with fail
   go_ret2
   exact ⟨by rw [HRV.out]; rfl, Below.refl _ _⟩
 ·have HRV := q0h (hR2.trans (if_neg (fun h => h1 h.2)))
  clear hR2
  go_enter Tryz.func63, Tryz.ntmps63
  go_wp2_with fail
  refine (HLB.out _).mono ?_
  rintro e w1 ⟨rfl, rfl⟩
  go_wp2_with fail
  refine (HDB.out _).mono ?_
  rintro e w1 ⟨rfl, rfl⟩
  go_wp2_with fail
  go_ret2
  exact ⟨by rw [HRV.out]; rfl, Below.refl _ _⟩
end Go.Proofs.YtpfdhihbecpbeaaGreatDoor.E
