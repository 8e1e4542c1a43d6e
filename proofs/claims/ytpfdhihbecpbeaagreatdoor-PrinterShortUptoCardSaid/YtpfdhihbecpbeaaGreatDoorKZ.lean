import Derived.Test.YtpfdhihbecpbeaaGreatDoorKI
import Derived.Lib.LaidU8
import Derived.Stop.LaidErr
import Derived.Lib.LaidIn
import Derived.Lib.LaidTab
import Derived.Lay
import Derived.Deep.DeepWitnessRef
import Derived.Deep.DeepHandedRow
import Derived.Test.YtpfdhihbecpbeaaGreatDoorKK
import Derived.Test.YtpfdhihbecpbeaaGreatDoorCards
import Derived.Test.YtpfdhihbecpbeaaGreatDoorTie
import Derived.WalkKit
import Derived.ProofKit
import Derived.OpenShut
import Derived.Carry
/- The law PrinterShort returns true at every argument, and leaves what was there as it was; on the condition that the argument is of bulk 1048576 at most, and that the variables which the program lays at its start hold what it lays there. -/
namespace Go.Proofs.YtpfdhihbecpbeaaGreatDoor.E
open Go Go.Proofs Go.RowKit Go.ChangeShapes Go.WideShapes Go.Proofs.YtpfdhihbecpbeaaGreatDoorW.PrintWords Go.Proofs.YtpfdhihbecpbeaaGreatDoorW.PrintLast Go.Proofs.YtpfdhihbecpbeaaGreatDoorW.PrintMore
set_option linter.unusedVariables false
set_option linter.unusedSimpArgs false
set_option maxRecDepth 100000
set_option maxHeartbeats 4000000
def laidL : List (String × DataW Unit) := [("math/bits.deBruijn32tab", Rows.laid_math_bits_deBruijn32tab), ("math/bits.deBruijn64tab", Rows.laid_math_bits_deBruijn64tab), ("internal/strconv.uint64pow10", Rows.laid_internal_strconv_uint64pow10), ("unicode/utf8.acceptRanges", Rows.laid_unicode_utf8_acceptRanges), ("strconv.ErrRange", Rows.laid_strconv_ErrRange), ("strconv.ErrSyntax", Rows.laid_strconv_ErrSyntax), ("tiltyard/printer.types", Rows.laid_tiltyard_printer_types), ("tiltyard/printer.signs", Rows.laid_tiltyard_printer_signs), ("unicode/utf8.first", Rows.laid_unicode_utf8_first)]
theorem gER : Tryz.prog.globalNamed "strconv.ErrRange" = some 4 := by kernel_rfl
theorem gERT : (Tryz.prog.globals[4]?).map (·.type) = some 115 := by kernel_rfl
theorem gP10 : Tryz.prog.globalNamed "internal/strconv.uint64pow10" = some 5 := by kernel_rfl
theorem gP10T : (Tryz.prog.globals[5]?).map (·.type) = some 216 := by kernel_rfl
theorem gTY : Tryz.prog.globalNamed "tiltyard/printer.types" = some 0 := by kernel_rfl
theorem gTYT : (Tryz.prog.globals[0]?).map (·.type) = some 81 := by kernel_rfl
theorem gSG : Tryz.prog.globalNamed "tiltyard/printer.signs" = some 1 := by kernel_rfl
theorem gSGT : (Tryz.prog.globals[1]?).map (·.type) = some 174 := by kernel_rfl
theorem starE : "*" ++ "errors.errorString" = "*errors.errorString" := by decide
theorem rowE (u : TypeId) (h : Tryz.prog.typeName? 3 u = some "*errors.errorString") : u = 221 :=
 typeName_ptr_named (nm := "errors.errorString") (by rw [starE]; kernel_rfl) (by kernel_rfl) (by decide) u (by rw [starE]; exact h)
theorem strs_of {W : World} {n : String} {d : List (List UInt8)} {g t N : Nat} (hm : (n, DataW.agg (d.map fun s => DataW.lit (.string s))) ∈ laidL) (h : laidMet Tryz.prog laidL W) (hg0 : Tryz.prog.globalNamed n = some g) (ht0 : (Tryz.prog.globals[g]?).map (·.type) = some t) (hu : Tryz.prog.underlying t = some (.array N 9)) (hN : d.length = N) :
  ∀ j, j < N -> W.cell? ⟨g, j, none⟩ = some (.string ⟨(d.getD j []).toArray⟩) := by
 obtain ⟨g', t', cs, fuel, p, hg, ht, hv, hd⟩ := Lib.laidMet.reads h hm
 obtain rfl := Option.some.inj (hg0.symm.trans hg)
 obtain rfl := Option.some.inj (ht0.symm.trans ht)
 intro j hj
 obtain ⟨f1, d1, q1, e1, t1⟩ := Lib.array_elem hu hd j hj
 have hjl : j < d.length := by omega
 rw [List.getElem?_map, List.getElem?_eq_getElem hjl] at e1
 obtain ⟨s2, u2, x2, _⟩ := DataW.trod_string Tryz.underlying9 t1
 have x2' := congrArg Prod.fst x2
 simp only at x2'
 have k2 : d[j] = s2.data.toList := by
  have : d1 = .lit (.string d[j]) := by simpa using e1.symm
  rw [this] at x2'
  injection x2' with h; injection h
 rw [c1_string] at u2
 have w2 : cs[j]? = some (.string s2) := by
  have := congrArg (·[0]?) u2
  simp [List.getElem?_take, List.getElem?_drop] at this
  simpa using this
 have hgd : d.getD j [] = d[j] := by rw [List.getD_eq_getElem?_getD, List.getElem?_eq_getElem hjl]; rfl
 rw [hgd, k2]
 exact (World.var?_cell hg0 hv j).trans w2
theorem gw_of {W : World} (hL : laidMetH Tryz.prog laidL W) : GW W := by
 have h : laidMet Tryz.prog laidL W := hL
 refine ⟨?_, ?_, fun j hj => ?_, fun j hj => ?_⟩
 ·obtain ⟨a1, s1, hv1, -, -, -⟩ := laid_sentinel (h.tail.tail.tail.tail) gER gERT Tryz.underlying115 rowE Tryz.underlying221 Tryz.underlying223 rfl rfl Tryz.underlying9 (by kernel_rfl) c1_string
  exact ⟨_, _, by have h0 := World.var?_cell gER hv1 0; simpa using h0⟩
 ·exact Lib.tabIs_of_head (k := .u64) (zs := Lib.pow10Tab) gP10 gP10T Tryz.underlying216 Tryz.underlying126 (by kernel_rfl) (by kernel_rfl) h.tail.tail
 ·have := strs_of (d := [[], [105, 110, 116], [102, 105, 120], [98, 111, 111, 108], [101, 110, 116]]) (.tail _ (.tail _ (.tail _ (.tail _ (.tail _ (.tail _ (.head _))))))) h gTY gTYT Tryz.underlying81 rfl j hj
  rw [this]
  rcases (show j = 0 \/ j = 1 \/ j = 2 \/ j = 3 \/ j = 4 by omega) with rfl | rfl | rfl | rfl | rfl <;> rfl
 ·have := strs_of (d := sgL) (.tail _ (.tail _ (.tail _ (.tail _ (.tail _ (.tail _ (.tail _ (.head _)))))))) h gSG gSGT Tryz.underlying174 rfl j hj
  exact this
theorem witness_laid {H : Type} {enc : TypeId × Value -> H} {C : Checked} {os : Os} {f : FuncId} {fn : Func} {s : OpenSpec} {conds : List PathCond} {apart : Bool} {laid : List (String × DataW Unit)} (modest : Bool) (w0 : World) (args : Array Value) (hos : w0.os = os)
  (hsh : (w0.forCall (fun _ _ => 0) ⟨#[], args, []⟩).Shaped C.prog)
  (hok : Input.okWideB C.prog (w0.forCall (fun _ _ => 0) ⟨#[], args, []⟩) f ⟨#[], args, []⟩ = true)
  (hrow : s.preRow enc C.prog fn conds apart laid (w0.forCall (fun _ _ => 0) ⟨#[], args, []⟩).memory args) :
  ∃ (w : World) (tape : Tape) (i : Input), w.os = os /\ (w.forCall tape i).Shaped C.prog /\ i.vars = [] /\ Input.okWide C.prog (w.forCall tape i) .any w.heap.size f i /\
   s.preRow enc C.prog fn conds apart laid (w.forCall tape i).memory i.args /\ ({ modest := modest } : Assume).holds C.prog (lone (Frame.enter C.prog f i.args .normal) [] (w.forCall tape i)) :=
 ⟨w0, fun _ _ => 0, ⟨#[], args, []⟩, hos, hsh, (Input.okWide_of_okWideB (base := 0) hok).1, (Input.okWide_of_okWideB hok).2, hrow, by
  simp only [Assume.holds]
  exact ⟨by simp, by simp, fun _ => Modest.zero, by simp, by simp⟩⟩
theorem b2f (c : UInt8) (n : Nat) (hn : n < 256) (h : ¬ c = UInt8.ofNat n) : (((c.toNat : Nat) : Int) == (n : Int)) = false := by
 rw [beq_eq_false_iff_ne]
 intro e
 exact h (by rw [<- show c.toNat = n by omega, UInt8.ofNat_toNat])
def bcs (s : ByteArray) (k : Nat) : Nat := brc (s.data.toList.take k)
theorem bcs_step (s : ByteArray) (k : Nat) (hk : k < s.size) : bcs s (k + 1) = bcs s k + if ((s[k]'hk == 40 || s[k]'hk == 91 || s[k]'hk == 123) = true) then 1 else 0 := by
 have hl : k < s.data.toList.length := by rw [Array.length_toList]; exact hk
 unfold bcs
 rw [List.take_succ_eq_append_getElem hl, brc_app]
 have e : s.data.toList[k]'hl = s[k]'hk := rfl
 rw [e]
 unfold brc
 rw [List.countP_singleton]
theorem bcs_all (s : ByteArray) : bcs s s.size = brc s.data.toList := by
 unfold bcs
 rw [List.take_of_length_le (by rw [Array.length_toList]; exact Nat.le_refl _)]
theorem short_any (s : ByteArray) (hsz : s.size <= 1048576) (w : World) (hg : GW w) :
  Calls Tryz.prog 7 #[.string s] w fun e w' => e = .returned (.bool true) /\ Below w.heap.size w w' := by
 obtain ⟨m, hm⟩ : ∃ m, m = (PARSE s.data.toList).1 := ⟨_, rfl⟩
 obtain ⟨fc, hfc⟩ : ∃ x, x = (PARSE s.data.toList).2.1 := ⟨_, rfl⟩
 obtain ⟨fa, hfa⟩ : ∃ x, x = (PARSE s.data.toList).2.2 := ⟨_, rfl⟩
 have hpm := print_made s.data.toList
 rw [<- hm] at hpm
 have HPM := Lib.hid hpm
 have HG := Lib.hid hg
 have HB := Lib.hid (Below.refl w.heap.size w)
 have HMM := Lib.hid hm
 have HFC := Lib.hid hfc
 have HFA := Lib.hid hfa
 clear hm hfc hfa hpm hg
 go_enter Tryz.func7, Tryz.ntmps7
 go_wp2_with fail
 refine (awake_any w HG.out).mono ?_
 rintro e w1 ⟨rfl, hb1⟩
 have HB1 := Lib.hid (below_next HB.out hb1)
 have HG1 := Lib.hid (HG.out.below hb1)
 clear hb1
 go_wp2_with fail
 refine (parse_all s (by omega) w1 HG1.out.ge).mono ?_
 rintro e wa ⟨hb, v, rfl, hv⟩
 rw [<- HMM.out] at hv
 rw [<- HFC.out, <- HFA.out]
 obtain ⟨A, c, A1, c1, rfl, hV, hF⟩ := mdV_open hv
 obtain ⟨W1, hW1⟩ : ∃ x, x = (wa.alloc (.cells #[.slice A m.vars.length c, .slice A1 m.funcs.length c1] 25)).alloc (.cells #[.int .i64 fc, .int .i64 fa] 35) := ⟨_, rfl⟩
 obtain ⟨mb1, hmb1⟩ : ∃ x, x = wa.heap.size := ⟨_, rfl⟩
 obtain ⟨fb1, hfb1⟩ : ∃ x, x = wa.heap.size + 1 := ⟨_, rfl⟩
 have hb2 : Below wa.heap.size wa W1 := by rw [hW1]; exact below_alloc (below_alloc (Below.refl _ _) _) _
 have hm : W1.heap[mb1]? = some (.cells #[.slice A m.vars.length c, .slice A1 m.funcs.length c1] 25 (0, 0)) := by rw [hW1, hmb1]; exact (Below.heap_alloc _ _ _ (by simp)).trans (heap_alloc_new _ _)
 have hf : W1.heap[fb1]? = some (.cells #[.int .i64 fc, .int .i64 fa] 35 (0, 0)) := by
  have h := heap_alloc_new (wa.alloc (.cells #[.slice A m.vars.length c, .slice A1 m.funcs.length c1] 25)) (.cells #[.int .i64 fc, .int .i64 fa] 35)
  rw [show (wa.alloc (.cells #[.slice A m.vars.length c, .slice A1 m.funcs.length c1] 25)).heap.size = fb1 by rw [hfb1]; simp] at h
  rw [hW1]; exact h
 have HM1 := Lib.hid hm
 have HFT1 := Lib.hid hf
 have HVV1 := Lib.hid (Kd.C_below hV hb2)
 have HFF1 := Lib.hid (Kd.C_below hF hb2)
 have HBW1 := Lib.hid (below_next HB1.out (below_next hb hb2))
 have HGW1 := Lib.hid ((HG1.out.below hb).below hb2)
 have HW1 := Lib.hid hW1
 have HMB1 := Lib.hid hmb1
 have HFB1 := Lib.hid hfb1
 clear hb hb2 hV hF hm hf hW1 hmb1 hfb1 hv
 go_upto_region 3 with fail
 rw [<- HW1.out, <- HFB1.out, <- HMB1.out]
 have z0 : W1.cell? ⟨fb1, 0, none⟩ = some (.int .i64 fc) := (blk_cell HFT1.out 0).trans rfl
 have lz := blk_lt HFT1.out
 by_cases h0 : fc = 0
 ·have HF0 := Lib.hid h0
  have y : (fc != 0) = false := by rw [h0]; rfl
  clear h0
  have y0 : W1.cell? ⟨mb1, 0, none⟩ = some (.slice A m.vars.length c) := (blk_cell HM1.out 0).trans rfl
  have y1 : W1.cell? ⟨mb1, 1, none⟩ = some (.slice A1 m.funcs.length c1) := (blk_cell HM1.out 1).trans rfl
  have ly := blk_lt HM1.out
  go_wp2_with fail
  clear z0 lz y y0 y1 ly
  refine (print_any m HPM.out.1 A A1 c c1 W1 HVV1.out HFF1.out HGW1.out).mono ?_
  rintro e w3 ⟨hb3, rfl⟩
  have HB3 := Lib.hid (below_next HBW1.out hb3)
  clear hb3
  obtain ⟨rc, hrc⟩ : ∃ x, x = (printS AGAIN m).2 := ⟨_, rfl⟩
  obtain ⟨t, ht⟩ : ∃ t : ByteArray, t = ⟨(printS AGAIN m).1.toArray⟩ := ⟨_, rfl⟩
  have HPS := Lib.hid (show (rc = 2) \/ (rc = 0 /\ t.size <= 16384 /\ bcs t t.size <= bcs s s.size) from by
   rw [hrc, ht]
   rcases HPM.out.2 with q | ⟨q, q2, q3⟩
   ·rw [q]; exact .inl rfl
   ·rw [q]
    refine .inr ⟨rfl, ?_, ?_⟩
    ·show (modT m).toArray.size <= 16384
     rw [List.size_toArray]
     unfold wideB at q2
     simpa using q2
    ·rw [bcs_all, bcs_all]; exact q3)
  rw [<- hrc, <- ht]
  clear hrc ht
  rcases HPS.out with rfl | ⟨rfl, ht, hle⟩
  ·clear HPS
   go_wp2_with fail
   go_ret
   exact ⟨rfl, HB3.out⟩
  ·have HLE := Lib.hid hle
   clear HPS hle
   go_wp2_with fail
   go_loopw [8, 9] (fun v8 v9 wr => ∃ (k n : Nat), k <= t.size /\ n <= k /\ v8 = .int .i64 n /\ v9 = .int .i64 k /\ Hid (n = bcs t k) /\ w3 = wr) (fun _ v9 _ => t.size - (intOf v9).toNat)
   case atStart => exact ⟨0, 0, by omega, by omega, rfl, rfl, Lib.hid rfl, rfl⟩
   case round =>
    obtain ⟨k, n, hk, hn, rfl, rfl, HN, rfl⟩ := hrel
    by_cases hlt : k < t.size
    ·have HST := Lib.hid (bcs_step t k hlt)
     by_cases x40 : t[k]'hlt = 40
     ·have HN2 := Lib.hid (show n + 1 = bcs t (k + 1) from by rw [HST.out, <- HN.out, x40]; rfl)
      clear HST
      go_wp2_with fail
      go_roundw
      case rel => exact ⟨k + 1, n + 1, by omega, by omega, by go_num, by go_num, HN2, trivial⟩
      case measure => simp [intOf]; omega
     by_cases x123 : t[k]'hlt = 123
     ·have HN2 := Lib.hid (show n + 1 = bcs t (k + 1) from by rw [HST.out, <- HN.out, x123]; rfl)
      clear HST x40
      go_wp2_with fail
      go_roundw
      case rel => exact ⟨k + 1, n + 1, by omega, by omega, by go_num, by go_num, HN2, trivial⟩
      case measure => simp [intOf]; omega
     by_cases x91 : t[k]'hlt = 91
     ·have HN2 := Lib.hid (show n + 1 = bcs t (k + 1) from by rw [HST.out, <- HN.out, x91]; rfl)
      clear HST x40 x123
      go_wp2_with fail
      go_roundw
      case rel => exact ⟨k + 1, n + 1, by omega, by omega, by go_num, by go_num, HN2, trivial⟩
      case measure => simp [intOf]; omega
     ·have HN2 := Lib.hid (show n = bcs t (k + 1) from by rw [HST.out, <- HN.out]; simp [x40, x123, x91])
      have m40 : ((((t[k]'hlt).toNat : Nat) : Int) == 40) = false := b2f _ 40 (by decide) x40
      have m123 : ((((t[k]'hlt).toNat : Nat) : Int) == 123) = false := b2f _ 123 (by decide) x123
      have m91 : ((((t[k]'hlt).toNat : Nat) : Int) == 91) = false := b2f _ 91 (by decide) x91
      clear HST x40 x123 x91
      go_wp2_with fail
      go_roundw
      case rel => exact ⟨k + 1, n, by omega, by omega, by go_num, by go_num, HN2, trivial⟩
      case measure => simp [intOf]; omega
    ·have hke : k = t.size := by omega
     have HNT := Lib.hid (show n <= bcs s s.size from by have := HN.out; rw [hke] at this; have := HLE.out; omega)
     go_wp2_with fail
     go_loopw [10, 11] (fun v8 v9 wr => ∃ (j q : Nat), j <= s.size /\ q <= j /\ v8 = .int .i64 q /\ v9 = .int .i64 j /\ Hid (q = bcs s j) /\ w3 = wr) (fun _ v9 _ => s.size - (intOf v9).toNat)
     case atStart => exact ⟨0, 0, by omega, by omega, rfl, rfl, Lib.hid rfl, rfl⟩
     case round =>
      obtain ⟨j, q, hj, hq, rfl, rfl, HQ, rfl⟩ := hrel
      by_cases hls : j < s.size
      ·have HST := Lib.hid (bcs_step s j hls)
       by_cases x40 : s[j]'hls = 40
       ·have HN2 := Lib.hid (show q + 1 = bcs s (j + 1) from by rw [HST.out, <- HQ.out, x40]; rfl)
        clear HST
        go_wp2_with fail
        go_roundw
        case rel => exact ⟨j + 1, q + 1, by omega, by omega, by go_num, by go_num, HN2, trivial⟩
        case measure => simp [intOf]; omega
       by_cases x123 : s[j]'hls = 123
       ·have HN2 := Lib.hid (show q + 1 = bcs s (j + 1) from by rw [HST.out, <- HQ.out, x123]; rfl)
        clear HST x40
        go_wp2_with fail
        go_roundw
        case rel => exact ⟨j + 1, q + 1, by omega, by omega, by go_num, by go_num, HN2, trivial⟩
        case measure => simp [intOf]; omega
       by_cases x91 : s[j]'hls = 91
       ·have HN2 := Lib.hid (show q + 1 = bcs s (j + 1) from by rw [HST.out, <- HQ.out, x91]; rfl)
        clear HST x40 x123
        go_wp2_with fail
        go_roundw
        case rel => exact ⟨j + 1, q + 1, by omega, by omega, by go_num, by go_num, HN2, trivial⟩
        case measure => simp [intOf]; omega
       ·have HN2 := Lib.hid (show q = bcs s (j + 1) from by rw [HST.out, <- HQ.out]; simp [x40, x123, x91])
        have m40 : ((((s[j]'hls).toNat : Nat) : Int) == 40) = false := b2f _ 40 (by decide) x40
        have m123 : ((((s[j]'hls).toNat : Nat) : Int) == 123) = false := b2f _ 123 (by decide) x123
        have m91 : ((((s[j]'hls).toNat : Nat) : Int) == 91) = false := b2f _ 91 (by decide) x91
        clear HST x40 x123 x91
        go_wp2_with fail
        go_roundw
        case rel => exact ⟨j + 1, q, by omega, by omega, by go_num, by go_num, HN2, trivial⟩
        case measure => simp [intOf]; omega
      ·have hje : j = s.size := by omega
       have hnq : (n : Int) <= (q : Int) := by have h1 := HQ.out; rw [hje] at h1; have := HNT.out; omega
       go_wp2_with fail
       go_ret
       exact ⟨rfl, HB3.out⟩
 ·have y : (fc != 0) = true := by simpa using h0
  clear h0
  go_wp2_with fail
  go_ret
  exact ⟨rfl, HBW1.out⟩
end Go.Proofs.YtpfdhihbecpbeaaGreatDoor.E
namespace Go.Proofs.YtpfdhihbecpbeaaGreatDoor.printerShort
open Go Go.Proofs.YtpfdhihbecpbeaaGreatDoor Go.ChangeShapes Go.WideShapes Go.ChangeAt Go.RowKit
set_option linter.unusedVariables false
theorem own : ownKnob Tryz.prog.godebug = none := by kernel_rfl
theorem laidOut : laidOutB Tryz.prog = true := by kernel_rfl
set_option maxRecDepth 100000 in
theorem contract (H : Type) (enc : TypeId × Value -> H) (W : World) (base : Nat) (args : Array Value) (ds gs : List (DataW H)) (before : List MemPlace)
  (hval : ∀ (j : Nat) t v, Tryz.f7.params[j]? = some t -> args[j]? = some v -> Value.okWide Tryz.prog W .any base t v)
  (hW : DataW.Whole enc Tryz.prog Tryz.f7.params.toList Rows.printerShortSpec.vars false W args.toList ds gs before) (hL : laidMetH Tryz.prog E.laidL W) (hk : Rows.uptoBulkAll (ds ++ gs) <= 1048576) :
  Calls Tryz.prog 7 args W fun e W' => ∃ v, e = .returned v /\ Rows.printerShortSpec.post enc Tryz.prog Tryz.f7 false true false false W args v W' := by
 have hW' := hW
 obtain ⟨p, q, hA0, hV, rfl, hfz, hnd⟩ := hW
 have hA : DataW.TrodAll enc Tryz.prog W 0 (fun _ => true) true Tryz.f7.params.toList args.toList ds p := hA0
 rw [Tryz.params7] at hA hval
 obtain ⟨v0, vs0, d0, ds0, p0, q0, hargs, rfl, rfl, h0, r0⟩ := trodAll_cons hA
 obtain ⟨rfl, rfl, rfl⟩ := trodAll_nil r0
 obtain rfl : args = #[v0] := by cases args; simp_all
 obtain ⟨rfl, rfl⟩ := trodVars_none hV
 have k0 := h0
 have lt0 : ∀ x ∈ p0, x.block < W.heap.size := by obtain ⟨m, hm⟩ := k0; exact DataW.trod_lt m _ _ _ hm
 obtain ⟨fuel, hf⟩ := h0
 have hbk : Rows.uptoBulk d0 <= 1048576 := by simp only [List.append_nil, Rows.uptoBulkAll] at hk; omega
 obtain ⟨s, rfl⟩ := okWide_string Tryz.underlying9 (hval 0 _ _ rfl rfl)
 obtain ⟨s', hcs, hd0, _⟩ := DataW.trod_string Tryz.underlying9 hf
 obtain rfl : s = s' := by
  have h1 : ([.string s] : List Value) = [.string s'] := hcs
  injection h1 with h1; injection h1
 have hd1 : d0 = .lit (.string s.data.toList) := congrArg Prod.fst hd0
 have hsz : s.size <= 1048576 := by
  rw [hd1] at hbk
  have h1 : s.data.toList.length + 1 <= 1048576 := hbk
  rw [Array.length_toList] at h1
  have h2 : s.data.size = s.size := rfl
  omega
 clear hA0
 refine (E.short_any s hsz W (E.gw_of hL)).mono fun e W' ⟨he, bel⟩ => ?_
 subst he
 exact ⟨_, rfl, _, _, _, [], _, [], hW', trodAll_mk1 (shut_bool Tryz.underlying4 _), trodAll_cons_mk (Below.trod laidOut (by kernel_rfl) (of_decide_eq_true (by kernel_rfl)) k0 bel lt0) trodAll_mk0, rfl, bel.frame _, fun h => by cases h⟩
theorem laid_met (os : Os) (args : Array Value) : laidMetH Tryz.prog Rows.printerShortRow.laid ((World.laidAll Tryz.prog os Rows.printerShortRow.laid).forCall (fun _ _ => 0) ⟨#[], args, []⟩).memory := by
 rw [MakeChecks.laidMetH_plain _ _ _ (by kernel_rfl)]
 exact laidMet_laidAll _ (by kernel_rfl) (by kernel_rfl)
theorem reads (os : Os) {H : Type} (enc : TypeId × Value -> H) : ∃ places, DataW.whole enc Tryz.prog ((World.laidAll Tryz.prog os Rows.printerShortRow.laid).forCall (fun _ _ => 0) ⟨#[], #[.string ⟨#[]⟩], []⟩).memory Tryz.f7.params.toList Rows.printerShortSpec.vars false #[Value.string ⟨#[]⟩].toList 8 = some ([.lit (.string [])], [], places) :=
 ⟨[], by kernel_rfl⟩
set_option maxRecDepth 100000 in
theorem liftedUpto (os : Os) (started : os.Started) (H : Type) (enc : TypeId × Value -> H) (F : Stop.Interp) :
  ReturnsInHanded {} Tryz.checked os 7 .any ((Rows.OpenSpec.upto Rows.printerShortSpec).preRow enc Tryz.prog Tryz.f7 Rows.printerShortUptoRow.domain false Rows.printerShortUptoRow.laid) (((Rows.OpenSpec.upto Rows.printerShortSpec).at F).post enc Tryz.prog Tryz.f7 false true false false) := by
 obtain ⟨places, hx⟩ := reads os enc
 refine returnsInHanded_of_row (C := Tryz.checked) (s := Rows.OpenSpec.upto Rows.printerShortSpec) own started (by kernel_rfl) Tryz.func7
  (E.witness_laid (enc := enc) (C := Tryz.checked) false (World.laidAll Tryz.prog os Rows.printerShortRow.laid) #[.string ⟨#[]⟩] (World.laidAll_os _ _ _) (World.shaped_of_ZipB (by kernel_rfl) (by kernel_rfl)) (by kernel_rfl)
   (OpenSpec.preRow_of_cond 8 hx (by kernel_rfl) (fun k hk => by cases hk; kernel_rfl) (by kernel_rfl) (laid_met os _))) ?_
 intro W base args ds gs before hval hW h1 hcond h2 hL h3 h4
 exact contract H enc W base args ds gs before hval hW hL (of_decide_eq_true (hcond _ rfl))
theorem saidUpto : Rows.PrinterShortUptoSaid :=
 OpenClaim.holds_of_cond 7 Tryz.f7 rfl rfl rfl rfl rfl rfl rfl ⟨rfl, rfl, rfl, rfl, rfl⟩ rfl rfl rfl rfl rfl (by kernel_rfl) Tryz.func7 (by kernel_rfl)
  (of_decide_eq_true (by kernel_rfl)) (by unfold Func.isWrapper; first | (rw [if_pos (by decide +kernel)]; kernel_rfl) | (rw [if_neg (by decide +kernel)]; exact ⟨rfl, rfl⟩))
  (fun os started H enc _ F => by rw [OpenClaim.pre_eq_preRow]; exact liftedUpto os started H enc F)
theorem plain (f : FuncId) (fn : Func) (hf : Tryz.pinned.checked.prog.funcNamed "tiltyard/tiltyardlaw10.PrinterShort" = some f) (hfn : Tryz.pinned.checked.prog.funcs[f]? = some fn) :
  true = Tryz.pinned.checked.prog.looks [] /\ ∀ (j : Nat) t, fn.params[j]? = some t -> Tryz.pinned.checked.prog.wantsStandIn t = false := by
 obtain rfl : f = 7 := Option.some.inj ((show Tryz.prog.funcNamed "tiltyard/tiltyardlaw10.PrinterShort" = some 7 by kernel_rfl).symm.trans hf) |>.symm
 obtain rfl : fn = Tryz.f7 := (Option.some.inj (Tryz.func7.symm.trans hfn)).symm
 refine ⟨by kernel_rfl, fun j t ht => ?_⟩
 rw [Tryz.params7] at ht
 obtain rfl : t = 9 := by simpa using Array.mem_of_getElem? ht
 exact (show Tryz.prog.wantsStandIn 9 = false by kernel_rfl)
theorem cardUpto : Rows.PrinterShortUptoCardSaid :=
 Claim7.holds_tied_plain_at .later [] _ _ _ _ saidUpto (fun _ h => by cases h) (by kernel_rfl) (fun _ h => by cases h) printerShortUpto_row_tie rfl ⟨rfl, rfl⟩ (by kernel_rfl) rfl plain (by kernel_rfl)
end Go.Proofs.YtpfdhihbecpbeaaGreatDoor.printerShort
