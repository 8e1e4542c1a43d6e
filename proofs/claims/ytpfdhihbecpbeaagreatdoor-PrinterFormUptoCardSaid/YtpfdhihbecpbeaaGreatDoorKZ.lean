import Derived.Test.YtpfdhihbecpbeaaGreatDoorKI
import Derived.Lib.LaidU8
import Derived.Stop.LaidErr
import Derived.Lib.LaidIn
import Derived.Lib.LaidTab
import Derived.Lay
import Derived.Deep.DeepWitnessRef
import Derived.Deep.DeepHandedRow
import Derived.Test.YtpfdhihbecpbeaaGreatDoorKK
import Derived.Test.YtpfdhihbecpbeaaGreatDoorCards
import Derived.Test.YtpfdhihbecpbeaaGreatDoorTie
import Derived.WalkKit
import Derived.ProofKit
import Derived.OpenShut
import Derived.Carry
/- The law PrinterForm returns true at every argument, and leaves what was there as it was; on the condition that the argument is of bulk 1048576 at most, and that the variables which the program lays at its start hold what it lays there. -/
namespace Go.Proofs.YtpfdhihbecpbeaaGreatDoor.E
open Go Go.Proofs Go.RowKit Go.ChangeShapes Go.WideShapes Go.Proofs.YtpfdhihbecpbeaaGreatDoorW.PrintWords Go.Proofs.YtpfdhihbecpbeaaGreatDoorW.PrintLast Go.Proofs.YtpfdhihbecpbeaaGreatDoorW.PrintMore
set_option linter.unusedVariables false
set_option linter.unusedSimpArgs false
set_option maxRecDepth 100000
set_option maxHeartbeats 4000000
def laidL : List (String × DataW Unit) := [("math/bits.deBruijn32tab", Rows.laid_math_bits_deBruijn32tab), ("math/bits.deBruijn64tab", Rows.laid_math_bits_deBruijn64tab), ("internal/strconv.uint64pow10", Rows.laid_internal_strconv_uint64pow10), ("unicode/utf8.acceptRanges", Rows.laid_unicode_utf8_acceptRanges), ("strconv.ErrRange", Rows.laid_strconv_ErrRange), ("strconv.ErrSyntax", Rows.laid_strconv_ErrSyntax), ("tiltyard/printer.types", Rows.laid_tiltyard_printer_types), ("tiltyard/printer.signs", Rows.laid_tiltyard_printer_signs), ("unicode/utf8.first", Rows.laid_unicode_utf8_first)]
theorem gER : Tryz.prog.globalNamed "strconv.ErrRange" = some 4 := by kernel_rfl
theorem j9w : (Tryz.prog.globals[4]?).map (·.type) = some 115 := by kernel_rfl
theorem j9x : Tryz.prog.globalNamed "internal/strconv.uint64pow10" = some 5 := by kernel_rfl
theorem j8v : (Tryz.prog.globals[5]?).map (·.type) = some 216 := by kernel_rfl
theorem gTY : Tryz.prog.globalNamed "tiltyard/printer.types" = some 0 := by kernel_rfl
theorem j9y : (Tryz.prog.globals[0]?).map (·.type) = some 81 := by kernel_rfl
theorem gSG : Tryz.prog.globalNamed "tiltyard/printer.signs" = some 1 := by kernel_rfl
theorem j9z : (Tryz.prog.globals[1]?).map (·.type) = some 174 := by kernel_rfl
theorem j7r : "*" ++ "errors.errorString" = "*errors.errorString" := by decide
theorem k0a (u : TypeId) (h : Tryz.prog.typeName? 3 u = some "*errors.errorString") : u = 221 :=
 typeName_ptr_named (nm := "errors.errorString") (by rw [j7r]; kernel_rfl) (by kernel_rfl) (by decide) u (by rw [j7r]; exact h)
theorem x8k {W : World} {n : String} {d : List (List UInt8)} {g t N : Nat} (hm : (n, DataW.agg (d.map fun s => DataW.lit (.string s))) ∈ laidL) (h : laidMet Tryz.prog laidL W) (hg0 : Tryz.prog.globalNamed n = some g) (ht0 : (Tryz.prog.globals[g]?).map (·.type) = some t) (hu : Tryz.prog.underlying t = some (.array N 9)) (hN : d.length = N) :
  ∀ j, j < N -> W.cell? ⟨g, j, none⟩ = some (.string ⟨(d.getD j []).toArray⟩) := by
 obtain ⟨g', t', cs, fuel, p, hg, ht, hv, hd⟩ := Lib.laidMet.reads h hm
 obtain rfl := Option.some.inj (hg0.symm.trans hg)
 obtain rfl := Option.some.inj (ht0.symm.trans ht)
 intro j hj
 obtain ⟨f1, d1, q1, e1, t1⟩ := Lib.array_elem hu hd j hj
 have hjl : j < d.length := by omega
 rw [List.getElem?_map, List.getElem?_eq_getElem hjl] at e1
 obtain ⟨s2, u2, x2, _⟩ := DataW.trod_string Tryz.underlying9 t1
 have x2' := congrArg Prod.fst x2
 simp only at x2'
 have k2 : d[j] = s2.data.toList := by
  have : d1 = .lit (.string d[j]) := by simpa using e1.symm
  rw [this] at x2'
  injection x2' with h; injection h
 rw [z7t] at u2
 have w2 : cs[j]? = some (.string s2) := by
  have := congrArg (·[0]?) u2
  simp [List.getElem?_take, List.getElem?_drop] at this
  simpa using this
 have hgd : d.getD j [] = d[j] := by rw [List.getD_eq_getElem?_getD, List.getElem?_eq_getElem hjl]; rfl
 rw [hgd, k2]
 exact (World.var?_cell hg0 hv j).trans w2
theorem gw_of {W : World} (hL : laidMetH Tryz.prog laidL W) : GW W := by
 have h : laidMet Tryz.prog laidL W := hL
 refine ⟨?_, ?_, fun j hj => ?_, fun j hj => ?_⟩
 ·obtain ⟨a1, s1, hv1, -, -, -⟩ := laid_sentinel (h.tail.tail.tail.tail) gER j9w Tryz.underlying115 k0a Tryz.underlying221 Tryz.underlying223 rfl rfl Tryz.underlying9 (by kernel_rfl) z7t
  exact ⟨_, _, by have h0 := World.var?_cell gER hv1 0; simpa using h0⟩
 ·exact Lib.tabIs_of_head (k := .u64) (zs := Lib.pow10Tab) j9x j8v Tryz.underlying216 Tryz.underlying126 (by kernel_rfl) (by kernel_rfl) h.tail.tail
 ·have := x8k (d := [[], [105, 110, 116], [102, 105, 120], [98, 111, 111, 108], [101, 110, 116]]) (.tail _ (.tail _ (.tail _ (.tail _ (.tail _ (.tail _ (.head _))))))) h gTY j9y Tryz.underlying81 rfl j hj
  rw [this]
  rcases (show j = 0 \/ j = 1 \/ j = 2 \/ j = 3 \/ j = 4 by omega) with rfl | rfl | rfl | rfl | rfl <;> rfl
 ·have := x8k (d := sgL) (.tail _ (.tail _ (.tail _ (.tail _ (.tail _ (.tail _ (.tail _ (.head _)))))))) h gSG j9z Tryz.underlying174 rfl j hj
  exact this
theorem witness_laid {H : Type} {enc : TypeId × Value -> H} {C : Checked} {os : Os} {f : FuncId} {fn : Func} {s : OpenSpec} {conds : List PathCond} {apart : Bool} {laid : List (String × DataW Unit)} (modest : Bool) (w0 : World) (args : Array Value) (hos : w0.os = os)
  (hsh : (w0.forCall (fun _ _ => 0) ⟨#[], args, []⟩).Shaped C.prog)
  (hok : Input.okWideB C.prog (w0.forCall (fun _ _ => 0) ⟨#[], args, []⟩) f ⟨#[], args, []⟩ = true)
  (hrow : s.preRow enc C.prog fn conds apart laid (w0.forCall (fun _ _ => 0) ⟨#[], args, []⟩).memory args) :
  ∃ (w : World) (tape : Tape) (i : Input), w.os = os /\ (w.forCall tape i).Shaped C.prog /\ i.vars = [] /\ Input.okWide C.prog (w.forCall tape i) .any w.heap.size f i /\
   s.preRow enc C.prog fn conds apart laid (w.forCall tape i).memory i.args /\ ({ modest := modest } : Assume).holds C.prog (lone (Frame.enter C.prog f i.args .normal) [] (w.forCall tape i)) :=
 ⟨w0, fun _ _ => 0, ⟨#[], args, []⟩, hos, hsh, (Input.okWide_of_okWideB (base := 0) hok).1, (Input.okWide_of_okWideB hok).2, hrow, by
  simp only [Assume.holds]
  exact ⟨by simp, by simp, fun _ => Modest.zero, by simp, by simp⟩⟩
theorem z8e (e : Ex) : q0v (q2c e) = q0v e /\ (q2c e).kind = e.kind := by cases e; exact ⟨rfl, rfl⟩
theorem z4r (l : List Ex) : q0v ((l.map q2c).headD (.mk 0 0 0 ⟨#[]⟩ [] 0 0 0)) = q0v (l.headD (.mk 0 0 0 ⟨#[]⟩ [] 0 0 0)) /\ ((l.map q2c).headD (.mk 0 0 0 ⟨#[]⟩ [] 0 0 0)).kind = (l.headD (.mk 0 0 0 ⟨#[]⟩ [] 0 0 0)).kind := by
 cases l with
 | nil => exact ⟨rfl, rfl⟩
 | cons e l => exact z8e e
theorem z4s : ∀ (N : Nat) (e : Ex), SizeOf.sizeOf e <= N -> q0q (q2c e) = q0q e
 | 0, e, h => by cases e; simp at h
 | N + 1, .mk k o n s l a t p, h => by
  funext q
  have hl : (l.map q2c).map q0q = l.map q0q := by
   rw [List.map_map]
   refine List.map_congr_left (fun x hx => z4s N x ?_)
   have := List.sizeOf_lt_of_mem hx
   simp only [Ex.mk.sizeOf_spec] at h
   omega
  show q0q (.mk k o n s (q2t l) 0 0 0) q = _
  rw [q3n, q3n, q5p, hl]
  have e1 := z4r l
  have e2 := z4r l.tail
  rw [List.map_tail] at e2
  unfold q5f
  rw [e1.1, e1.2, e2.1]
theorem x3u (l : List Ex) : (l.map q2c).map q0q = l.map q0q := by
 rw [List.map_map]
 exact List.map_congr_left (fun x hx => z4s _ x (Nat.le_refl _))
theorem z1f : ∀ (N : Nat) (s : St), SizeOf.sizeOf s <= N -> q1f (q6s s) = q1f s
 | 0, e, h => by cases e; simp at h
 | N + 1, .mk k s t es b l a p, h => by
  funext lv q
  simp only [St.mk.sizeOf_spec] at h
  have hb : (b.map q6s).map q1f = b.map q1f := by
   rw [List.map_map]
   exact List.map_congr_left (fun x hx => z1f N x (by have := List.sizeOf_lt_of_mem hx; omega))
  have hl : (l.map q6s).map q1f = l.map q1f := by
   rw [List.map_map]
   exact List.map_congr_left (fun x hx => z1f N x (by have := List.sizeOf_lt_of_mem hx; omega))
  show q1f (.mk k s t (q2t es) (q2h b) (q2h l) 0 0) lv q = _
  rw [q4i, q4i, q5p, q4u, q4u, x3u, hb, hl]
  unfold q8m
  have e1 : ((l.map q6s).headD (.mk 0 ⟨#[]⟩ 0 [] [] [] 0 0)).kind = (l.headD (.mk 0 ⟨#[]⟩ 0 [] [] [] 0 0)).kind := by
   cases l with
   | nil => rfl
   | cons x l => cases x; rfl
  rw [e1, List.length_map]
theorem x3v (f : Fc) : q6i (q8o f) = q6i f := by
 funext p
 unfold q6i q8o
 dsimp only
 rw [q4r, q4r, q4u, List.map_map]
 rw [show f.body.map (q1f ∘ q6s) = f.body.map q1f from List.map_congr_left (fun x hx => z1f _ x (Nat.le_refl _))]
theorem z3v : ∀ (l : List Fc) (p : List UInt8), q5w (l.map q8o) p = q5w l p
 | [], p => rfl
 | f :: l, p => by
  show (if q1w p then p else q5w (l.map q8o) (q6i (q8o f) p)) = if q1w p then p else q5w l (q6i f p)
  rw [x3v, z3v l]
theorem z4t : ∀ (l : List Vr) (p : List UInt8), (l.map z0m).foldl (fun p v => z0n v p) p = l.foldl (fun p v => z0n v p) p
 | [], p => rfl
 | v :: l, p => z4t l (z0n v p)
theorem z8f (m : Md) : q5l (z7x m) = q5l m := by
 unfold q5l z7x
 dsimp only
 rw [z4t, z3v]
theorem x8l (l : List UInt8) : SmM (q2p l).1 /\ MOK True (q2p l).1 /\ ((q5x q7c (q2p l).1 = ([], 2)) \/ ∃ t x, q5x q7c (q2p l).1 = (t, 0) /\ t.length <= 16384 /\ q2p t = (x, (0, 0)) /\ SmM x /\ MOK True x /\ q5x q7c x = (t, 0) /\ z7x x = z7x (q2p l).1) := by
 obtain ⟨h1, h2, h3, h4⟩ := z4q l
 refine ⟨x8h h1 (by omega), h1, ?_⟩
 generalize (q2p l).1 = m at *
 by_cases hw : q1w (q5l m) = true
 ·refine .inl ?_
  unfold q5x
  rw [h1.ok, hw]; rfl
 ·have hw2 : q1w (q5l m) = false := by simpa using hw
  rcases x3p h1 hw2 with ⟨x, q1, q2⟩ | ⟨q1, _⟩
  ·obtain ⟨k1, k2, k3, k4⟩ := z4q (q5l m)
   rw [q1] at k1 k2
   have k2' : q7j (csV 0) x.vars + q7j (csF 1 0) x.funcs <= 16385 := k2
   have ha : q7c (q5l m) = 0 := by unfold q7c; rw [q1]
   have ht : q5l x = q5l m := by rw [<- z8f x, q2, z8f]
   refine .inr ⟨q5l m, x, z2c h1.ok rfl hw2 ha, ?_, q1, x8h (m := x) k1 (by omega), k1, z2c k1.ok ht hw2 ha, q2⟩
   unfold q1w at hw2
   simpa using hw2
  ·omega
theorem form_any (s : ByteArray) (hsz : s.size <= 1048576) (w : World) (hg : GW w) :
  Calls Tryz.prog 5 #[.string s] w fun e w' => e = .returned (.bool true) /\ Below w.heap.size w w' := by
 obtain ⟨m, hm⟩ : ∃ m, m = (q2p s.data.toList).1 := ⟨_, rfl⟩
 obtain ⟨fc, hfc⟩ : ∃ x, x = (q2p s.data.toList).2.1 := ⟨_, rfl⟩
 obtain ⟨fa, hfa⟩ : ∃ x, x = (q2p s.data.toList).2.2 := ⟨_, rfl⟩
 have hpm := x8l s.data.toList
 rw [<- hm] at hpm
 have HPM := q0h hpm
 have HG := q0h hg
 have HB := q0h (Below.refl w.heap.size w)
 have HMM := q0h hm
 have HFC := q0h hfc
 have HFA := q0h hfa
 clear hm hfc hfa hpm hg
 go_enter Tryz.func5, Tryz.ntmps5
 go_wp2_with fail
 refine (x6x w HG.out).mono ?_
 rintro e w1 ⟨rfl, hb1⟩
 have HB1 := q0h (q0e HB.out hb1)
 have HG1 := q0h (HG.out.below hb1)
 clear hb1
 go_wp2_with fail
 refine (q9t s (by omega) w1 HG1.out.ge).mono ?_
 rintro e wa ⟨hb, v, rfl, hv⟩
 rw [<- HMM.out] at hv
 rw [<- HFC.out, <- HFA.out]
 obtain ⟨A, c, A1, c1, rfl, hV, hF⟩ := z5p hv
 obtain ⟨W1, hW1⟩ : ∃ x, x = (wa.alloc (.cells #[.slice A m.vars.length c, .slice A1 m.funcs.length c1] 25)).alloc (.cells #[.int .i64 fc, .int .i64 fa] 35) := ⟨_, rfl⟩
 obtain ⟨mb1, hmb1⟩ : ∃ x, x = wa.heap.size := ⟨_, rfl⟩
 obtain ⟨fb1, hfb1⟩ : ∃ x, x = wa.heap.size + 1 := ⟨_, rfl⟩
 have hb2 : Below wa.heap.size wa W1 := by rw [hW1]; exact q0d (q0d (Below.refl _ _) _) _
 have HM1 := q0h (show W1.heap[mb1]? = some (.cells #[.slice A m.vars.length c, .slice A1 m.funcs.length c1] 25 (0, 0)) by rw [hW1, hmb1]; exact (Below.heap_alloc _ _ _ (by simp)).trans (heap_alloc_new _ _))
 have HFT1 := q0h (show W1.heap[fb1]? = some (.cells #[.int .i64 fc, .int .i64 fa] 35 (0, 0)) by
  have h := heap_alloc_new (wa.alloc (.cells #[.slice A m.vars.length c, .slice A1 m.funcs.length c1] 25)) (.cells #[.int .i64 fc, .int .i64 fa] 35)
  rw [show (wa.alloc (.cells #[.slice A m.vars.length c, .slice A1 m.funcs.length c1] 25)).heap.size = fb1 by rw [hfb1]; simp] at h
  rw [hW1]; exact h)
 have HVV1 := q0h (Kd.C_below hV hb2)
 have HFF1 := q0h (Kd.C_below hF hb2)
 have HBW1 := q0h (q0e HB1.out (q0e hb hb2))
 have HGW1 := q0h ((HG1.out.below hb).below hb2)
 have HW1 := q0h hW1
 have HMB1 := q0h hmb1
 have HFB1 := q0h hfb1
 clear hb hb2 hV hF hW1 hmb1 hfb1 hv
 go_upto_region 3 with fail
 rw [<- HW1.out, <- HFB1.out, <- HMB1.out]
 have z0 : W1.cell? ⟨fb1, 0, none⟩ = some (.int .i64 fc) := (q0a HFT1.out 0).trans rfl
 have lz := q0c HFT1.out
 by_cases h0 : fc = 0
 ·have HF0 := q0h h0
  have y : (fc != 0) = false := by rw [h0]; rfl
  clear h0
  have y0 : W1.cell? ⟨mb1, 0, none⟩ = some (.slice A m.vars.length c) := (q0a HM1.out 0).trans rfl
  have y1 : W1.cell? ⟨mb1, 1, none⟩ = some (.slice A1 m.funcs.length c1) := (q0a HM1.out 1).trans rfl
  have ly := q0c HM1.out
  go_wp2_with fail
  clear z0 lz y y0 y1 ly
  refine (q7v m HPM.out.1 A A1 c c1 W1 HVV1.out HFF1.out HGW1.out).mono ?_
  rintro e w3 ⟨hb3, rfl⟩
  have HB3 := q0h (q0e HBW1.out hb3)
  have HG3 := q0h (HGW1.out.below hb3)
  have HVV3 := q0h (Kd.C_below HVV1.out hb3)
  have HFF3 := q0h (Kd.C_below HFF1.out hb3)
  have HM3 := q0h ((hb3.block mb1 (q0c HM1.out)).trans HM1.out)
  clear hb3
  rcases HPM.out.2.2 with q | ⟨t, x, q1, q2, q3, q4, q5, q6, q7⟩
  ·rw [q]
   go_wp2_with fail
   go_ret
   exact ⟨rfl, HB3.out⟩
  ·rw [q1]
   obtain ⟨tb, htb⟩ : ∃ tb : ByteArray, tb = ⟨t.toArray⟩ := ⟨_, rfl⟩
   have HSX := q0h q4
   have HTB := q0h htb
   have HPX := q0h q6
   have HSA := q0h (show ∀ (B B1 : Option Addr) (k k1 : Nat) (w : World), kVr.C w A m.vars.length m.vars -> kFc.C w A1 m.funcs.length m.funcs -> kVr.C w B x.vars.length x.vars -> kFc.C w B1 x.funcs.length x.funcs -> Calls Tryz.prog 13 #[.agg #[.slice B x.vars.length k, .slice B1 x.funcs.length k1], .agg #[.slice A m.vars.length c, .slice A1 m.funcs.length c1], .bool false] w fun r w' => r = .returned (.bool true) /\ Below w.heap.size w w' from
    fun B B1 k k1 w p1 p2 p3 p4 => j1r x.vars m.vars x.funcs m.funcs q5.vl q5.fl q5.fs HPM.out.2.1.fs (congrArg Md.vars q7) (congrArg Md.funcs q7) B B1 A A1 k k1 c c1 w p3 p4 p1 p2)
   have HPT := q0h (show tb.size <= 16384 /\ q2p tb.data.toList = (x, (0, 0)) from by rw [htb]; exact ⟨by show t.toArray.size <= 16384; rw [List.size_toArray]; exact q2, q3⟩)
   rw [show (⟨((t, (0 : Int)).1).toArray⟩ : ByteArray) = tb from htb.symm]
   clear q1 q2 q3 q4 q5 q6 q7 htb
   go_wp2_with fail
   refine (q9t tb (by have := HPT.out.1; omega) w3 HG3.out.ge).mono ?_
   rintro e wb ⟨hb, v, rfl, hv⟩
   rw [HPT.out.2] at hv ⊢
   have hv' : mdV w3.heap.size wb x v := hv
   obtain ⟨B, k, B1, k1, rfl, hV, hF⟩ := z5p hv'
   obtain ⟨W2, hW2⟩ : ∃ y, y = (wb.alloc (.cells #[.slice B x.vars.length k, .slice B1 x.funcs.length k1] 25)).alloc (.cells #[.int .i64 0, .int .i64 0] 35) := ⟨_, rfl⟩
   obtain ⟨mb2, hmb2⟩ : ∃ y, y = wb.heap.size := ⟨_, rfl⟩
   obtain ⟨fb2, hfb2⟩ : ∃ y, y = wb.heap.size + 1 := ⟨_, rfl⟩
   have hb2 : Below wb.heap.size wb W2 := by rw [hW2]; exact q0d (q0d (Below.refl _ _) _) _
   have HM2 := q0h (show W2.heap[mb2]? = some (.cells #[.slice B x.vars.length k, .slice B1 x.funcs.length k1] 25 (0, 0)) by rw [hW2, hmb2]; exact (Below.heap_alloc _ _ _ (by simp)).trans (heap_alloc_new _ _))
   have HFT2 := q0h (show W2.heap[fb2]? = some (.cells #[.int .i64 0, .int .i64 0] 35 (0, 0)) by
    have h := heap_alloc_new (wb.alloc (.cells #[.slice B x.vars.length k, .slice B1 x.funcs.length k1] 25)) (.cells #[.int .i64 0, .int .i64 0] 35)
    rw [show (wb.alloc (.cells #[.slice B x.vars.length k, .slice B1 x.funcs.length k1] 25)).heap.size = fb2 by rw [hfb2]; simp] at h
    rw [hW2]; exact h)
   have hB := q0e (Below.refl _ _) (q0e hb hb2)
   have HBB2 := q0h hB
   have HBW2 := q0h (q0e HB3.out hB)
   have HGW2 := q0h (HG3.out.below hB)
   have HVX := q0h (Kd.C_below hV hb2)
   have HFX := q0h (Kd.C_below hF hb2)
   have HVM := q0h (Kd.C_below HVV3.out hB)
   have HFM := q0h (Kd.C_below HFF3.out hB)
   have HMM2 := q0h ((hB.block mb1 (q0c HM3.out)).trans HM3.out)
   have HW2 := q0h hW2
   have HMB2 := q0h hmb2
   have HFB2 := q0h hfb2
   clear hb hb2 hV hF hW2 hmb2 hfb2 hv hv' hB
   go_upto_region 9 with fail
   rw [<- HW2.out, <- HFB2.out, <- HMB2.out]
   have y0 : W2.cell? ⟨mb2, 0, none⟩ = some (.slice B x.vars.length k) := (q0a HM2.out 0).trans rfl
   have y1 : W2.cell? ⟨mb2, 1, none⟩ = some (.slice B1 x.funcs.length k1) := (q0a HM2.out 1).trans rfl
   have ly := q0c HM2.out
   go_wp2_with fail
   clear y0 y1 ly
   refine (q7v x HSX.out B B1 k k1 W2 HVX.out HFX.out HGW2.out).mono ?_
   rintro e w4 ⟨hb4, rfl⟩
   rw [HPX.out, show (⟨((t, (0 : Int)).1).toArray⟩ : ByteArray) = tb from HTB.out.symm]
   have HBW4 := q0h (q0e HBW2.out hb4)
   have HVX4 := q0h (Kd.C_below HVX.out hb4)
   have HFX4 := q0h (Kd.C_below HFX.out hb4)
   have HVM4 := q0h (Kd.C_below HVM.out hb4)
   have HFM4 := q0h (Kd.C_below HFM.out hb4)
   have hm1 := (hb4.block mb1 (q0c HMM2.out)).trans HMM2.out
   have hm2 := (hb4.block mb2 (q0c HM2.out)).trans HM2.out
   have HFT4 := q0h ((hb4.block fb2 (q0c HFT2.out)).trans HFT2.out)
   clear hb4
   have y0 : w4.cell? ⟨mb2, 0, none⟩ = some (.slice B x.vars.length k) := (q0a hm2 0).trans rfl
   have y1 : w4.cell? ⟨mb2, 1, none⟩ = some (.slice B1 x.funcs.length k1) := (q0a hm2 1).trans rfl
   have z0 : w4.cell? ⟨mb1, 0, none⟩ = some (.slice A m.vars.length c) := (q0a hm1 0).trans rfl
   have z1 : w4.cell? ⟨mb1, 1, none⟩ = some (.slice A1 m.funcs.length c1) := (q0a hm1 1).trans rfl
   have ly := q0c hm2
   have lz := q0c hm1
   clear hm1 hm2
   go_wp2_with fail
   clear y0 y1 z0 z1 ly lz
   refine (HSA.out B B1 k k1 w4 HVM4.out HFM4.out HVX4.out HFX4.out).mono ?_
   rintro e w5 ⟨rfl, hb5⟩
   have HBW5 := q0h (q0e HBW4.out hb5)
   have hf := (hb5.block fb2 (q0c HFT4.out)).trans HFT4.out
   have z0 : w5.cell? ⟨fb2, 0, none⟩ = some (.int .i64 0) := (q0a hf 0).trans rfl
   have lz := q0c hf
   clear hb5 hf
   go_wp2_with fail
   go_ret
   exact ⟨rfl, HBW5.out⟩
 ·have y : (fc != 0) = true := by simpa using h0
  clear h0
  go_wp2_with fail
  go_ret
  exact ⟨rfl, HBW1.out⟩
end Go.Proofs.YtpfdhihbecpbeaaGreatDoor.E
namespace Go.Proofs.YtpfdhihbecpbeaaGreatDoor.printerForm
open Go Go.Proofs.YtpfdhihbecpbeaaGreatDoor Go.ChangeShapes Go.WideShapes Go.ChangeAt Go.RowKit
set_option linter.unusedVariables false
theorem own : ownKnob Tryz.prog.godebug = none := by kernel_rfl
theorem j5q : laidOutB Tryz.prog = true := by kernel_rfl
set_option maxRecDepth 100000 in
theorem j1s (H : Type) (enc : TypeId × Value -> H) (W : World) (base : Nat) (args : Array Value) (ds gs : List (DataW H)) (before : List MemPlace)
  (hval : ∀ (j : Nat) t v, Tryz.f5.params[j]? = some t -> args[j]? = some v -> Value.okWide Tryz.prog W .any base t v)
  (hW : DataW.Whole enc Tryz.prog Tryz.f5.params.toList Rows.printerFormSpec.vars false W args.toList ds gs before) (hL : laidMetH Tryz.prog E.laidL W) (hk : Rows.uptoBulkAll (ds ++ gs) <= 1048576) :
  Calls Tryz.prog 5 args W fun e W' => ∃ v, e = .returned v /\ Rows.printerFormSpec.post enc Tryz.prog Tryz.f5 false true false false W args v W' := by
 have hW' := hW
 obtain ⟨p, q, hA0, hV, rfl, hfz, hnd⟩ := hW
 have hA : DataW.TrodAll enc Tryz.prog W 0 (fun _ => true) true Tryz.f5.params.toList args.toList ds p := hA0
 rw [Tryz.params5] at hA hval
 obtain ⟨v0, vs0, d0, ds0, p0, q0, hargs, rfl, rfl, h0, r0⟩ := trodAll_cons hA
 obtain ⟨rfl, rfl, rfl⟩ := trodAll_nil r0
 obtain rfl : args = #[v0] := by cases args; simp_all
 obtain ⟨rfl, rfl⟩ := trodVars_none hV
 have k0 := h0
 have lt0 : ∀ x ∈ p0, x.block < W.heap.size := by obtain ⟨m, hm⟩ := k0; exact DataW.trod_lt m _ _ _ hm
 obtain ⟨fuel, hf⟩ := h0
 have hbk : Rows.uptoBulk d0 <= 1048576 := by simp only [List.append_nil, Rows.uptoBulkAll] at hk; omega
 obtain ⟨s, rfl⟩ := okWide_string Tryz.underlying9 (hval 0 _ _ rfl rfl)
 obtain ⟨s', hcs, hd0, _⟩ := DataW.trod_string Tryz.underlying9 hf
 obtain rfl : s = s' := by
  have h1 : ([.string s] : List Value) = [.string s'] := hcs
  injection h1 with h1; injection h1
 have hd1 : d0 = .lit (.string s.data.toList) := congrArg Prod.fst hd0
 have hsz : s.size <= 1048576 := by
  rw [hd1] at hbk
  have h1 : s.data.toList.length + 1 <= 1048576 := hbk
  rw [Array.length_toList] at h1
  have h2 : s.data.size = s.size := rfl
  omega
 clear hA0
 refine (E.form_any s hsz W (E.gw_of hL)).mono fun e W' ⟨he, bel⟩ => ?_
 subst he
 exact ⟨_, rfl, _, _, _, [], _, [], hW', trodAll_mk1 (shut_bool Tryz.underlying4 _), trodAll_cons_mk (Below.trod j5q (by kernel_rfl) (of_decide_eq_true (by kernel_rfl)) k0 bel lt0) trodAll_mk0, rfl, bel.frame _, fun h => by cases h⟩
theorem j1t (os : Os) (args : Array Value) : laidMetH Tryz.prog Rows.printerFormRow.laid ((World.laidAll Tryz.prog os Rows.printerFormRow.laid).forCall (fun _ _ => 0) ⟨#[], args, []⟩).memory := by
 rw [MakeChecks.laidMetH_plain _ _ _ (by kernel_rfl)]
 exact laidMet_laidAll _ (by kernel_rfl) (by kernel_rfl)
theorem reads (os : Os) {H : Type} (enc : TypeId × Value -> H) : ∃ places, DataW.whole enc Tryz.prog ((World.laidAll Tryz.prog os Rows.printerFormRow.laid).forCall (fun _ _ => 0) ⟨#[], #[.string ⟨#[]⟩], []⟩).memory Tryz.f5.params.toList Rows.printerFormSpec.vars false #[Value.string ⟨#[]⟩].toList 8 = some ([.lit (.string [])], [], places) :=
 ⟨[], by kernel_rfl⟩
set_option maxRecDepth 100000 in
theorem x3w (os : Os) (started : os.Started) (H : Type) (enc : TypeId × Value -> H) (F : Stop.Interp) :
  ReturnsInHanded {} Tryz.checked os 5 .any ((Rows.OpenSpec.upto Rows.printerFormSpec).preRow enc Tryz.prog Tryz.f5 Rows.printerFormUptoRow.domain false Rows.printerFormUptoRow.laid) (((Rows.OpenSpec.upto Rows.printerFormSpec).at F).post enc Tryz.prog Tryz.f5 false true false false) := by
 obtain ⟨places, hx⟩ := reads os enc
 refine returnsInHanded_of_row (C := Tryz.checked) (s := Rows.OpenSpec.upto Rows.printerFormSpec) own started (by kernel_rfl) Tryz.func5
  (E.witness_laid (enc := enc) (C := Tryz.checked) false (World.laidAll Tryz.prog os Rows.printerFormRow.laid) #[.string ⟨#[]⟩] (World.laidAll_os _ _ _) (World.shaped_of_ZipB (by kernel_rfl) (by kernel_rfl)) (by kernel_rfl)
   (OpenSpec.preRow_of_cond 8 hx (by kernel_rfl) (fun k hk => by cases hk; kernel_rfl) (by kernel_rfl) (j1t os _))) ?_
 intro W base args ds gs before hval hW h1 hcond h2 hL h3 h4
 exact j1s H enc W base args ds gs before hval hW hL (of_decide_eq_true (hcond _ rfl))
theorem j1u : Rows.PrinterFormUptoSaid :=
 OpenClaim.holds_of_cond 5 Tryz.f5 rfl rfl rfl rfl rfl rfl rfl ⟨rfl, rfl, rfl, rfl, rfl⟩ rfl rfl rfl rfl rfl (by kernel_rfl) Tryz.func5 (by kernel_rfl)
  (of_decide_eq_true (by kernel_rfl)) (by unfold Func.isWrapper; first | (rw [if_pos (by decide +kernel)]; kernel_rfl) | (rw [if_neg (by decide +kernel)]; exact ⟨rfl, rfl⟩))
  (fun os started H enc _ F => by rw [OpenClaim.pre_eq_preRow]; exact x3w os started H enc F)
theorem j8w (f : FuncId) (fn : Func) (hf : Tryz.pinned.checked.prog.funcNamed "tiltyard/tiltyardlaw10.PrinterForm" = some f) (hfn : Tryz.pinned.checked.prog.funcs[f]? = some fn) :
  true = Tryz.pinned.checked.prog.looks [] /\ ∀ (j : Nat) t, fn.params[j]? = some t -> Tryz.pinned.checked.prog.wantsStandIn t = false := by
 obtain rfl : f = 5 := Option.some.inj ((show Tryz.prog.funcNamed "tiltyard/tiltyardlaw10.PrinterForm" = some 5 by kernel_rfl).symm.trans hf) |>.symm
 obtain rfl : fn = Tryz.f5 := (Option.some.inj (Tryz.func5.symm.trans hfn)).symm
 refine ⟨by kernel_rfl, fun j t ht => ?_⟩
 rw [Tryz.params5] at ht
 obtain rfl : t = 9 := by simpa using Array.mem_of_getElem? ht
 exact (show Tryz.prog.wantsStandIn 9 = false by kernel_rfl)
theorem cardUpto : Rows.PrinterFormUptoCardSaid :=
 Claim7.holds_tied_plain_at .later [] _ _ _ _ j1u (fun _ h => by cases h) (by kernel_rfl) (fun _ h => by cases h) printerFormUpto_row_tie rfl ⟨rfl, rfl⟩ (by kernel_rfl) rfl j8w (by kernel_rfl)
end Go.Proofs.YtpfdhihbecpbeaaGreatDoor.printerForm
