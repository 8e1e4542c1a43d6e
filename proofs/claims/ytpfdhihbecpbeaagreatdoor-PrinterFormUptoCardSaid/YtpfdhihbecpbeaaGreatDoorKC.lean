import Derived.Test.YtpfdhihbecpbeaaGreatDoorKB
/- Contracts of the program's functions, and lemmas: no statement of its own. -/
namespace Go.Proofs.YtpfdhihbecpbeaaGreatDoor.E
open Go Go.RowKit Go.Proofs.YtpfdhihbecpbeaaGreatDoorW.PrintWords Go.Proofs.YtpfdhihbecpbeaaGreatDoorW.PrintLast Go.Proofs.YtpfdhihbecpbeaaGreatDoorW.PrintMore
set_option linter.unusedVariables false
set_option linter.unusedSimpArgs false
set_option maxRecDepth 100000
set_option maxHeartbeats 4000000
def j2e (b1 ob g : Nat) (w : World) : Prop := w.heap[b1]? = some (.cells #[.pointer (some ⟨g, 0, none⟩)] 56 (0, 0)) /\ w.heap[ob]? = some (.cells #[.slice none 0 0] 43 (0, 0))
def j9e (ob : Nat) (w : World) (l : List St) : Prop := ∃ A c, w.heap[ob]? = some (.cells #[.slice A l.length c] 43 (0, 0)) /\ j5z (ob + 1) w l (.slice A l.length c)
theorem x4v : q1k 118 := fun args w => q5r Tryz.func118 (by kernel_rfl) rfl args w
theorem x2q {B g : Nat} {R : q4e} (hR : q7i B g R) (n : Nat) (w0 : World) (lv b1 ob : Nat) (hb1 : B <= b1) (hob : B <= ob) (h12 : b1 ≠ ob) :
  z5c B w0 (fun k => k = g \/ k = ob) g lv 118 #[.pointer (some ⟨b1, 0, none⟩), .pointer (some ⟨ob, 0, none⟩)] (q5i R lv n []) (j9e ob) (j2e b1 ob g) := by
 intro w ts hx0 hpre h r hp
 obtain ⟨q1, q2⟩ := hpre
 have HP := q0h hp
 have HR := q0h hR
 have hs : ST B g lv (fun k => k = g \/ k = ob) w w ts [(ob, #[.slice none 0 0], 43), (b1, #[.pointer (some ⟨g, 0, none⟩)], 56)] [(w.heap.size, w.heap.size, q2i kSt 67 w.heap.size w.heap.size [] (.slice none 0 0))] :=
  (((ST.start (X := fun k => k = g \/ k = ob) h (.inl rfl)).add b1 _ _ hb1 q1 (fun q hq => by cases hq)).add ob _ _ hob q2 (fun q hq => by cases hq)).holdAt w.heap.size w.heap.size h.Bw (Nat.le_refl _) (Kd.R_nil _ _ _ _ _) (q1l _ _ _ _ _ _) (fun p hp => .inl (by
   rcases List.mem_cons.1 hp with rfl | hp
   ·exact q0c q2
   ·obtain rfl : p = _ := by simpa using hp
    exact q0c q1))
 have HS := q0h hs
 have HE := q0h (show b1 ≠ ob /\ B <= b1 /\ B <= ob /\ b1 < w.heap.size /\ ob < w.heap.size /\ g < B from ⟨h12, hb1, hob, q0c q1, q0c q2, h.gB⟩)
 obtain ⟨N, hN⟩ : ∃ N, N = w.heap.size := ⟨_, rfl⟩
 rw [<- hN] at HS
 have HN := q0h hN
 clear hp hR hs q1 q2 h hx0 hb1 hob h12 hN
 go_enter Tryz.func118, Tryz.ntmps118
 go_wp2_with fail
 go_loopg [] n (fun k wr => ∃ (l : List St) (ts : List Tok) (A : Option Addr) (c hi : Nat), Hid (ST B g lv (fun k => k = g \/ k = ob) w wr ts [(ob, #[.slice A l.length c], 43), (b1, #[.pointer (some ⟨g, 0, none⟩)], 56)] [(N, hi, q2i kSt 67 N hi l (.slice A l.length c))]) /\ Hid (l.length <= 400) /\ Hid (q5i R lv k l ts = some r))
 case atStart => exact ⟨[], ts, none, 0, N, HS, by simp [Hid], HP.out⟩
 case round =>
  obtain ⟨l, ts, A, c, hi, HSl, HL, HQ⟩ := hrel
  cases gk with
  | zero => exact absurd HQ.out (by intro h; cases h)
  | succ k =>
   have hq := HQ.out
   unfold q5i at hq
   obtain ⟨b, hb⟩ : ∃ b, b = q6h ts := ⟨_, rfl⟩
   rw [<- hb] at hq
   have HB := q0h hb
   have HQ1 := q0h hq
   have c1 : wr.cell? ⟨b1, 0, none⟩ = some (.pointer (some ⟨g, 0, none⟩)) := (q0a HSl.out.q1 0).trans rfl
   have l1 := q0c HSl.out.q1
   clear hq HQ hb
   go_wp2_with fail
   clear c1 l1
   refine (x2o HSl.out.rd).mono ?_
   rintro e w1 ⟨rfl, hb1⟩
   rw [<- HB.out]
   have HS1 := q0h (HSl.out.below hb1)
   clear hb1
   cases b
   ·have hr := q0p HQ1.out
    subst hr
    go_wp2_with fail
    go_end0
    have hee := HE.out
    have hs := HS1.out
    exact ⟨_, rfl, ⟨rfl, A, c, hs.q0, q2i.out hs.k0 (by have := HN.out; omega)⟩, hs.rd, hs.bx⟩
   ·have HQ2 := q0h (show (if l.length = 400 then PM.fail 113 ts else (R.stmt lv).bind (fun s => q5i R lv k (l ++ [s])) ts) = some r from HQ1.out)
    have o0 : w1.cell? ⟨ob, 0, none⟩ = some (.slice A l.length c) := (q0a HS1.out.q0 0).trans rfl
    have lo0 := q0c HS1.out.q0
    have c1 : w1.cell? ⟨b1, 0, none⟩ = some (.pointer (some ⟨g, 0, none⟩)) := (q0a HS1.out.q1 0).trans rfl
    have l1 := q0c HS1.out.q1
    by_cases h400 : l.length = 400
    ·obtain ⟨a, ha⟩ : ∃ a, a = (ts.headD q2m).at_ := ⟨_, rfl⟩
     have hr := q0p (show some (Except.error (113, a)) = some r from by rw [<- HQ2.out, if_pos h400, ha]; rfl)
     subst hr
     have y : ((l.length : Int) == 400) = true := by simp; omega
     have HA := q0h ha
     clear h400 ha
     go_wp2_with fail
     refine (q4a HS1.out.rd 113 a HA.out).mono ?_
     rintro e w2 ⟨rfl, rfl⟩
     go_wp2_with fail
     exact ⟨rfl, rfl, HS1.out.bx⟩
    ·have HQ3 := q0h (show (R.stmt lv).bind (fun s => q5i R lv k (l ++ [s])) ts = some r from by rw [<- HQ2.out, if_neg h400])
     have y : ((l.length : Int) == 400) = false := by simp; omega
     have HL4 := q0h (show l.length + 1 <= 400 by have := HL.out; omega)
     clear h400
     go_wp2_with fail
     clear y o0 lo0 c1 l1
     refine q2l (fun w' => w'.cell? ⟨ob, 0, none⟩ = some (.slice A l.length c) /\ w'.cell? ⟨b1, 0, none⟩ = some (.pointer (some ⟨g, 0, none⟩))) 8 (by kernel_rfl) ?_
     intro X HX
     have HSX := q0h (show ST B g lv (fun k => k = g \/ k = ob) w X ts _ _ from HS1.out.below (by rw [HX.out]; exact q1n (Below.refl _ _)))
     have up : ∀ (W : World) (ts : List Tok) (z : Blk) (ks : List x0q), ST B g lv (fun k => k = g \/ k = ob) w W ts [z, (ob, #[.slice A l.length c], 43), (b1, #[.pointer (some ⟨g, 0, none⟩)], 56)] ks -> W.cell? ⟨ob, 0, none⟩ = some (.slice A l.length c) /\ W.cell? ⟨b1, 0, none⟩ = some (.pointer (some ⟨g, 0, none⟩)) := fun _ _ _ _ h => ⟨(q0a h.q1 0).trans rfl, (q0a h.q2 0).trans rfl⟩
     have HUP := q0h up
     have HLX := q0h (show X.cell? ⟨ob, 0, none⟩ = some (.slice A l.length c) /\ X.cell? ⟨b1, 0, none⟩ = some (.pointer (some ⟨g, 0, none⟩)) from ⟨(q0a HSX.out.q0 0).trans rfl, (q0a HSX.out.q1 0).trans rfl⟩)
     clear up
     refine q0m 0 ?v_1 rfl (by kernel_rfl) (fun _ _ _ h => h) HLX.out (by rfl) ?h_1 ?r_1
     case h_1 => intro w' hS'; obtain ⟨s1, s2⟩ := hS'; go_simp; try with_reducible rfl
     refine q0m 1 ?v_2 rfl (by kernel_rfl) (fun _ _ _ h => h) HLX.out (by rfl) ?h_2 ?r_2
     case h_2 => intro w' hS'; obtain ⟨s1, s2⟩ := hS'; go_simp; try with_reducible rfl
     refine q0m 3 ?v_3 rfl (by kernel_rfl) (fun _ _ _ h => h) HLX.out (by rfl) ?h_3 ?r_3
     case h_3 => intro w' hS'; obtain ⟨s1, s2⟩ := hS'; go_simp; try with_reducible rfl
     refine q5n (i1 := 2) (i2 := 4) (by kernel_rfl) rfl rfl (fun K hK => ?_) (fun K hK => ?_)
     ·go_simp
      refine Res.seq HQ3.out HSX.out (fun _ hm => HR.out.stmt _ _ _ _ HSX.out.rd hm) ?_ ?_
      ·rintro f w' rfl hx
       have HX := q0h hx
       clear hx hK
       exact ⟨rfl, rfl, HX.out⟩
      rintro x ts2 v w2 hm hs ⟨cs, rfl, hM⟩ hx hq
      have hh := HSX.out.hold hs hx.size (q7r hM) (q7q _ _ _ _ _)
      obtain ⟨lo, hlo⟩ : ∃ n, n = X.heap.size := ⟨_, rfl⟩
      obtain ⟨hu, hh2⟩ : ∃ n, n = w2.heap.size := ⟨_, rfl⟩
      rw [<- hlo, <- hh2] at hh
      have HS2 := q0h hh
      have HQ4 := q0h hq
      have HLO := q0h (show X.heap.size <= lo /\ lo <= hu from ⟨by rw [hlo]; exact Nat.le_refl _, by rw [hlo, hh2]; exact hx.size⟩)
      clear hm hs hM hx hq hh hlo hh2
      refine hK _ _ (.inr ⟨(q0a HS2.out.q0 0).trans rfl, (q0a HS2.out.q1 0).trans rfl⟩) ?_
      clear hK K
      refine q0i (i := 4) (by kernel_rfl) rfl (fun K hK => ?_)
      go_simp
      obtain ⟨W3, hW, hs⟩ := HS2.out.push #[.int .i64 0, .string ⟨#[]⟩, .int .i64 0, .slice none 0 0, .slice none 0 0, .slice none 0 0, .int .i64 0, .int .i64 0] 67
      obtain ⟨zb, hzb⟩ : ∃ b, b = w2.heap.size := ⟨_, rfl⟩
      rw [<- hzb] at hs
      rw [<- hW, <- hzb]
      have HS3 := q0h hs
      have HZB := q0h hzb
      have HZW := q0h hW
      clear hs hzb hW
      refine hK _ _ (.inr (HUP.out _ _ _ _ HS3.out)) ?_
      clear hK K
      refine q0i (i := 5) (by kernel_rfl) rfl (fun K hK => ?_)
      have hs := HS3.out
      have hrow := q2i.out hs.k1 (Nat.le_refl N)
      obtain ⟨inner, hown⟩ := Kd.R_own hs.k1
      have hlt : ∀ k, (Value.slice A l.length c).ownBlock = some k -> N <= k /\ k < hi := fun k hk => hs.k1.1 k hk
      have HLT := q0h hlt
      have hki : hi <= X.heap.size := (HSX.out.kp _ List.mem_cons_self).2.1
      have hn := HN.out
      have hlo := HLO.out
      have hsw := hs.bx.size
      have hxw := HSX.out.bx.size
      refine Kd.R_append_rows_step kSt (w0 := W3) N (by rfl) _ _ 43 67 (.agg #[.int .i64 0, .string ⟨#[]⟩, .int .i64 0, .slice none 0 0, .slice none 0 0, .slice none 0 0, .int .i64 0, .int .i64 0]) 120 rfl Tryz.underlying43 x0r rfl (show 0 < 8 by decide) (by decide) (.slice A l.length c) l [zSt] (some ⟨zb, 0, none⟩) 1 1 (fun k => N <= k) (fun _ => False) rfl rfl hrow (z1w (cs := [.int .i64 0, .string ⟨#[]⟩, .int .i64 0, .slice none 0 0, .slice none 0 0, .slice none 0 0, .int .i64 0, .int .i64 0]) zSt hs.q0) (fun x cs hx => by rw [hx.1, hx.2]; exact x0s _ _ _) (fun _ h => h.elim) (fun k hk => by omega) (Below.refl _ _) (by omega) (by have := HL4.out; omega) ?_
      intro v1 w5 hv1 hb1 hg1 hat1
      obtain ⟨A', c', rfl⟩ := Kd.R_slice hv1
      have hl1 : (l ++ [zSt]).length = l.length + 1 := by simp
      rw [hl1] at hv1 hat1
      have hne := HE.out
      have hzl := hs.lt _ List.mem_cons_self
      have hel := (hs.kp _ List.mem_cons_self)
      have hs5 := (show ST B g lv (fun k => k = g \/ k = ob) w W3 ts2 _ [(lo, hu, z4g kSt lo hu x cs)] from ⟨hs.rd, hs.bx, hs.xg, hs.bl, fun q hq => hs.kp q (by
        obtain rfl : q = _ := by simpa using hq
        exact List.mem_cons_self)⟩).drop0.grown hg1 (fun k hk => by have := hlt k hk; exact ⟨by omega, .inl (by omega)⟩) (fun p hp => by
       have h5 : p.1 = ob \/ p.1 = b1 := by
        rcases List.mem_cons.1 hp with rfl | hp
        ·exact .inl rfl
        ·obtain rfl : p = _ := by simpa using hp
         exact .inr rfl
       intro e
       have := hlt p.1 e.symm
       omega) (fun q hq k h1 h2 e => by
       obtain rfl : q = _ := by simpa using hq
       have h3 := hlt k e.symm
       have h1' : lo <= k := h1
       omega)
      have HV1 := q0h hv1
      have HAT := q0h (show ∀ k, lo <= k /\ k < hu -> N <= k /\ some k ≠ (Value.slice A' (l.length + 1) c').ownBlock from fun k hk => ⟨by omega, fun e => by
       rcases hat1 with h1 | ⟨b, h1, h2⟩
       ·have h3 := hlt k (by rw [<- h1, e])
        omega
       ·rw [h1] at e
        injection e with e
        have h4 : hu <= W3.heap.size := hel.2.1
        omega⟩)
      have HGO := q0h (show ∀ k, (Value.slice A' (l.length + 1) c').ownBlock = some k -> N <= k /\ k ≠ ob /\ k ≠ b1 from fun k hk => by have h1 : N <= k := hv1.1 k hk; omega)
      obtain ⟨gb, hA', hgb⟩ : ∃ gb, A' = some ⟨gb, 0, none⟩ /\ (Value.slice A' (l.length + 1) c').ownBlock = some gb := by
       obtain ⟨gb, h1, h2, _⟩ := q7f (P := Tryz.prog) hv1 (x0s w5 N (fun _ => False)) (fun _ h => h.elim) 67 (by kernel_rfl)
       exact ⟨gb, h1, h2⟩
      subst hA'
      have HGB := q0h hgb
      have HS5 := q0h hs5
      have HLW := q0h (show N <= w5.heap.size by have := hg1.size; omega)
      have z5 : ((l.length : Int) < (l.length : Int) + 1) := by omega
      clear hl1 hs hrow hown hlt hki hn hlo hsw hxw hv1 hb1 hg1 hat1 hne hzl hel hs5 hgb
      refine hK _ _ (.inr ⟨(q0a HS5.out.q0 0).trans rfl, (q0a HS5.out.q1 0).trans rfl⟩) ?_
      clear hK K
      refine q1h 6 ?v_4 rfl (by kernel_rfl) (fun _ _ _ h => h) (.inr ⟨(q0a HS5.out.q0 0).trans rfl, (q0a HS5.out.q1 0).trans rfl⟩) (by rfl) ?h_4 ?r_4
      case h_4 => intro w' hS'; clear hS'; go_simp; try with_reducible rfl
      refine q5n (i1 := 7) (i2 := 8) (by kernel_rfl) rfl rfl (fun K hK => ?_) (fun K hK => ?_)
      ·obtain ⟨gb', hg1, hgo, hrun, hv2, hg2⟩ := q7f (P := Tryz.prog) HV1.out (x := x) (cs := cs) (okp := fun k => lo <= k /\ k < hu) (kSt.M_lower (by have := HLO.out; have := HN.out; have := HSX.out.bx.size; omega) HS5.out.k0) HAT.out 67 (by kernel_rfl)
       have eg : gb' = gb := Option.some.inj (hgo.symm.trans HGB.out)
       rw [eg] at hrun hv2 hg2
       clear hg1 hgo eg
       obtain ⟨w6, hw6⟩ : ∃ W, W = w5.setCells gb (l.length * kSt.sz) cs := ⟨_, rfl⟩
       rw [<- hw6] at hrun hv2 hg2
       have hs6 := HS5.out.dropk.grown hg2 (fun k hk => by have h1 := HGO.out k (by rw [HGB.out]; exact hk); have := HE.out; have := HN.out; exact ⟨by omega, .inl (by omega)⟩) (fun p hp => by
        have h5 : p.1 = ob \/ p.1 = b1 := by
         rcases List.mem_cons.1 hp with rfl | hp
         ·exact .inl rfl
         ·obtain rfl : p = _ := by simpa using hp
          exact .inr rfl
        have h6 := HGO.out gb HGB.out
        intro e
        injection e with e
        omega) (fun q hq => by cases hq)
       refine q4b (t := 67) (p := .tmp 15) (x := .tmp 11) (u := .pointer (some ⟨gb, l.length * kSt.sz, none⟩)) (v := .agg cs.toArray) (by kernel_rfl) (by kernel_rfl) (by kernel_rfl) (by kernel_rfl) (by kernel_rfl) hrun ?_
       have HS6 := q0h hs6
       have HV2 := q0h hv2
       clear hrun hv2 hg2 hs6 hw6
       refine hK _ _ (.inr ⟨(q0a HS6.out.q0 0).trans rfl, (q0a HS6.out.q1 0).trans rfl⟩) ?_
       clear hK K
       refine q0i (i := 8) (by kernel_rfl) rfl (fun K hK => ?_)
       have y0 : w6.cell? ⟨ob, 0, none⟩ = some (.slice A l.length c) := (q0a HS6.out.q0 0).trans rfl
       have yf : w6.frozen? ⟨ob, 0, none⟩ = false := q0f HS6.out.q0 0
       go_simp
       have hs7 := HS6.out.set0 0 (.slice (some ⟨gb, 0, none⟩) (l.length + 1) c') (.inr (.inr rfl)) (fun p hp => by
        obtain rfl : p = _ := by simpa using hp
        exact HE.out.1) rfl
       obtain ⟨w7, hw7⟩ : ∃ W, W = w6.setCell ⟨ob, 0, none⟩ (.slice (some ⟨gb, 0, none⟩) (l.length + 1) c') := ⟨_, rfl⟩
       rw [<- hw7] at hs7
       rw [<- hw7]
       have HV7 := q0h (show kSt.R 67 w7 N (fun k => N <= k) (.slice (some ⟨gb, 0, none⟩) (l.length + 1) c') (l ++ [x]) from Kd.R_step HV2.out (fun k hk _ => by rw [hw7]; exact Below.heap_setCell _ _ _ _ (by have h1 : N <= k := hk; have := HE.out; have := HN.out; show k ≠ ob; omega)))
       have HS7 := q0h hs7
       clear y0 yf hs7 hw7
       refine hK _ _ (.inl (by kernel_rfl)) ?_
       clear hK K
       refine q1i (by kernel_rfl) ?_ _
       go_wp2_with fail
       go_roundg k
       case measure => omega
       case rel =>
        refine ⟨l ++ [x], ts2, some ⟨gb, 0, none⟩, c', w7.heap.size, ?_, by have := HL4.out; simp [Hid]; omega, HQ4.out⟩
        have hl1 : (l ++ [x]).length = l.length + 1 := by simp
        rw [hl1]
        exact HS7.out.holdAt N w7.heap.size (by have := HE.out; have := HN.out; omega) (Nat.le_refl _) (q1z HV7.out) (q1l _ _ _ _ _ _) (fun p hp => .inl (by
         have := HE.out
         have := HN.out
         rcases List.mem_cons.1 hp with rfl | hp
         ·show ob < N; omega
         ·obtain rfl : p = _ := by simpa using hp
          show b1 < N; omega))
      ·have y0 : w5.cell? ⟨ob, 0, none⟩ = some (.slice A l.length c) := (q0a HS5.out.q0 0).trans rfl
       have yf : w5.frozen? ⟨ob, 0, none⟩ = false := q0f HS5.out.q0 0
       go_simp
       have hs6 := HS5.out.set0 0 (.slice (some ⟨gb, 0, none⟩) (l.length + 1) c') (.inr (.inr rfl)) (fun p hp => by
        obtain rfl : p = _ := by simpa using hp
        exact HE.out.1) rfl
       obtain ⟨w6, hw6⟩ : ∃ W, W = w5.setCell ⟨ob, 0, none⟩ (.slice (some ⟨gb, 0, none⟩) (l.length + 1) c') := ⟨_, rfl⟩
       rw [<- hw6] at hs6
       rw [<- hw6]
       have HV6 := q0h (show kSt.R 67 w6 N (fun k => N <= k) (.slice (some ⟨gb, 0, none⟩) (l.length + 1) c') (l ++ [zSt]) from Kd.R_step HV1.out (fun k hk _ => by rw [hw6]; exact Below.heap_setCell _ _ _ _ (by have h1 : N <= k := hk; have := HE.out; have := HN.out; show k ≠ ob; omega)))
       have HS6 := q0h hs6
       clear y0 yf hs6 hw6
       refine hK _ _ (.inl (by kernel_rfl)) ?_
       clear hK K
       refine q0i (i := 7) (by kernel_rfl) rfl (fun K hK => ?_)
       obtain ⟨gb', hg1, hgo, hrun, hv2, hg2⟩ := q7f (P := Tryz.prog) HV6.out (x := x) (cs := cs) (okp := fun k => lo <= k /\ k < hu) (kSt.M_lower (by have := HLO.out; have := HN.out; have := HSX.out.bx.size; omega) HS6.out.k0) HAT.out 67 (by kernel_rfl)
       have eg : gb' = gb := Option.some.inj (hgo.symm.trans HGB.out)
       rw [eg] at hrun hv2 hg2
       clear hg1 hgo eg
       obtain ⟨w7, hw7⟩ : ∃ W, W = w6.setCells gb (l.length * kSt.sz) cs := ⟨_, rfl⟩
       rw [<- hw7] at hrun hv2 hg2
       have hs7 := HS6.out.dropk.grown hg2 (fun k hk => by have h1 := HGO.out k (by rw [HGB.out]; exact hk); have := HE.out; have := HN.out; exact ⟨by omega, .inl (by omega)⟩) (fun p hp => by
        have h5 : p.1 = ob \/ p.1 = b1 := by
         rcases List.mem_cons.1 hp with rfl | hp
         ·exact .inl rfl
         ·obtain rfl : p = _ := by simpa using hp
          exact .inr rfl
        have h6 := HGO.out gb HGB.out
        intro e
        injection e with e
        omega) (fun q hq => by cases hq)
       refine q4b (t := 67) (p := .tmp 15) (x := .tmp 11) (u := .pointer (some ⟨gb, l.length * kSt.sz, none⟩)) (v := .agg cs.toArray) (by kernel_rfl) (by kernel_rfl) (by kernel_rfl) (by kernel_rfl) (by kernel_rfl) hrun ?_
       have HS7 := q0h hs7
       have HV7 := q0h hv2
       clear hrun hv2 hg2 hs7 hw7
       refine hK _ _ (.inl (by kernel_rfl)) ?_
       clear hK K
       refine q1i (by kernel_rfl) ?_ _
       go_wp2_with fail
       go_roundg k
       case measure => omega
       case rel =>
        refine ⟨l ++ [x], ts2, some ⟨gb, 0, none⟩, c', w7.heap.size, ?_, by have := HL4.out; simp [Hid]; omega, HQ4.out⟩
        have hl1 : (l ++ [x]).length = l.length + 1 := by simp
        rw [hl1]
        exact HS7.out.holdAt N w7.heap.size (by have := HE.out; have := HN.out; omega) (Nat.le_refl _) (q1z HV7.out) (q1l _ _ _ _ _ _) (fun p hp => .inl (by
         have := HE.out
         have := HN.out
         rcases List.mem_cons.1 hp with rfl | hp
         ·show ob < N; omega
         ·obtain rfl : p = _ := by simpa using hp
          show b1 < N; omega))
     ·go_simp
      obtain ⟨W2, hW, hs⟩ := HSX.out.push #[.int .i64 0, .string ⟨#[]⟩, .int .i64 0, .slice none 0 0, .slice none 0 0, .slice none 0 0, .int .i64 0, .int .i64 0] 67
      obtain ⟨zb, hzb⟩ : ∃ b, b = X.heap.size := ⟨_, rfl⟩
      rw [<- hzb] at hs
      rw [<- hW, <- hzb]
      have HS2 := q0h hs
      have HZB := q0h hzb
      have HZW := q0h hW
      clear hs hzb hW
      refine hK _ _ (.inr (HUP.out _ _ _ _ HS2.out)) ?_
      clear hK K
      refine q0i (i := 2) (by kernel_rfl) rfl (fun K hK => ?_)
      go_simp
      refine Res.seq HQ3.out HS2.out (fun _ hm => HR.out.stmt _ _ _ _ HS2.out.rd hm) ?_ ?_
      ·rintro f w' rfl hx
       have HX := q0h hx
       clear hx hK
       exact ⟨rfl, rfl, HX.out⟩
      rintro x ts2 v w3 hm hs ⟨cs, rfl, hM⟩ hx hq
      have hh := HS2.out.hold hs hx.size (q7r hM) (q7q _ _ _ _ _)
      obtain ⟨lo, hlo⟩ : ∃ n, n = W2.heap.size := ⟨_, rfl⟩
      obtain ⟨hu, hh2⟩ : ∃ n, n = w3.heap.size := ⟨_, rfl⟩
      rw [<- hlo, <- hh2] at hh
      have HS3 := q0h hh
      have HQ4 := q0h hq
      have HLO := q0h (show X.heap.size <= lo /\ lo <= hu from ⟨by rw [hlo]; rw [HZW.out]; simp, by rw [hlo, hh2]; exact hx.size⟩)
      clear hm hs hM hx hq hh hlo hh2
      refine hK _ _ (.inr (HUP.out _ _ _ _ HS3.out)) ?_
      clear hK K
      refine q0i (i := 5) (by kernel_rfl) rfl (fun K hK => ?_)
      have hs := HS3.out
      have hrow := q2i.out hs.k1 (Nat.le_refl N)
      obtain ⟨inner, hown⟩ := Kd.R_own hs.k1
      have hlt : ∀ k, (Value.slice A l.length c).ownBlock = some k -> N <= k /\ k < hi := fun k hk => hs.k1.1 k hk
      have HLT := q0h hlt
      have hki : hi <= X.heap.size := (HSX.out.kp _ List.mem_cons_self).2.1
      have hn := HN.out
      have hlo := HLO.out
      have hsw := hs.bx.size
      have hxw := HSX.out.bx.size
      refine Kd.R_append_rows_step kSt (w0 := w3) N (by rfl) _ _ 43 67 (.agg #[.int .i64 0, .string ⟨#[]⟩, .int .i64 0, .slice none 0 0, .slice none 0 0, .slice none 0 0, .int .i64 0, .int .i64 0]) 120 rfl Tryz.underlying43 x0r rfl (show 0 < 8 by decide) (by decide) (.slice A l.length c) l [zSt] (some ⟨zb, 0, none⟩) 1 1 (fun k => N <= k) (fun _ => False) rfl rfl hrow (z1w (cs := [.int .i64 0, .string ⟨#[]⟩, .int .i64 0, .slice none 0 0, .slice none 0 0, .slice none 0 0, .int .i64 0, .int .i64 0]) zSt hs.q0) (fun x cs hx => by rw [hx.1, hx.2]; exact x0s _ _ _) (fun _ h => h.elim) (fun k hk => by omega) (Below.refl _ _) (by omega) (by have := HL4.out; omega) ?_
      intro v1 w5 hv1 hb1 hg1 hat1
      obtain ⟨A', c', rfl⟩ := Kd.R_slice hv1
      have hl1 : (l ++ [zSt]).length = l.length + 1 := by simp
      rw [hl1] at hv1 hat1
      have hne := HE.out
      have hzl := hs.lt _ List.mem_cons_self
      have hel := (hs.kp _ List.mem_cons_self)
      have hs5 := (show ST B g lv (fun k => k = g \/ k = ob) w w3 ts2 _ [(lo, hu, z4g kSt lo hu x cs)] from ⟨hs.rd, hs.bx, hs.xg, hs.bl, fun q hq => hs.kp q (by
        obtain rfl : q = _ := by simpa using hq
        exact List.mem_cons_self)⟩).drop0.grown hg1 (fun k hk => by have := hlt k hk; exact ⟨by omega, .inl (by omega)⟩) (fun p hp => by
       have h5 : p.1 = ob \/ p.1 = b1 := by
        rcases List.mem_cons.1 hp with rfl | hp
        ·exact .inl rfl
        ·obtain rfl : p = _ := by simpa using hp
         exact .inr rfl
       intro e
       have := hlt p.1 e.symm
       omega) (fun q hq k h1 h2 e => by
       obtain rfl : q = _ := by simpa using hq
       have h3 := hlt k e.symm
       have h1' : lo <= k := h1
       omega)
      have HV1 := q0h hv1
      have HAT := q0h (show ∀ k, lo <= k /\ k < hu -> N <= k /\ some k ≠ (Value.slice A' (l.length + 1) c').ownBlock from fun k hk => ⟨by omega, fun e => by
       rcases hat1 with h1 | ⟨b, h1, h2⟩
       ·have h3 := hlt k (by rw [<- h1, e])
        omega
       ·rw [h1] at e
        injection e with e
        have h4 : hu <= w3.heap.size := hel.2.1
        omega⟩)
      have HGO := q0h (show ∀ k, (Value.slice A' (l.length + 1) c').ownBlock = some k -> N <= k /\ k ≠ ob /\ k ≠ b1 from fun k hk => by have h1 : N <= k := hv1.1 k hk; omega)
      obtain ⟨gb, hA', hgb⟩ : ∃ gb, A' = some ⟨gb, 0, none⟩ /\ (Value.slice A' (l.length + 1) c').ownBlock = some gb := by
       obtain ⟨gb, h1, h2, _⟩ := q7f (P := Tryz.prog) hv1 (x0s w5 N (fun _ => False)) (fun _ h => h.elim) 67 (by kernel_rfl)
       exact ⟨gb, h1, h2⟩
      subst hA'
      have HGB := q0h hgb
      have HS5 := q0h hs5
      have HLW := q0h (show N <= w5.heap.size by have := hg1.size; omega)
      have z5 : ((l.length : Int) < (l.length : Int) + 1) := by omega
      clear hl1 hs hrow hown hlt hki hn hlo hsw hxw hv1 hb1 hg1 hat1 hne hzl hel hs5 hgb
      refine hK _ _ (.inr ⟨(q0a HS5.out.q0 0).trans rfl, (q0a HS5.out.q1 0).trans rfl⟩) ?_
      clear hK K
      refine q1h 6 ?v_5 rfl (by kernel_rfl) (fun _ _ _ h => h) (.inr ⟨(q0a HS5.out.q0 0).trans rfl, (q0a HS5.out.q1 0).trans rfl⟩) (by rfl) ?h_5 ?r_5
      case h_5 => intro w' hS'; clear hS'; go_simp; try with_reducible rfl
      refine q5n (i1 := 7) (i2 := 8) (by kernel_rfl) rfl rfl (fun K hK => ?_) (fun K hK => ?_)
      ·obtain ⟨gb', hg1, hgo, hrun, hv2, hg2⟩ := q7f (P := Tryz.prog) HV1.out (x := x) (cs := cs) (okp := fun k => lo <= k /\ k < hu) (kSt.M_lower (by have := HLO.out; have := HN.out; have := HSX.out.bx.size; omega) HS5.out.k0) HAT.out 67 (by kernel_rfl)
       have eg : gb' = gb := Option.some.inj (hgo.symm.trans HGB.out)
       rw [eg] at hrun hv2 hg2
       clear hg1 hgo eg
       obtain ⟨w6, hw6⟩ : ∃ W, W = w5.setCells gb (l.length * kSt.sz) cs := ⟨_, rfl⟩
       rw [<- hw6] at hrun hv2 hg2
       have hs6 := HS5.out.dropk.grown hg2 (fun k hk => by have h1 := HGO.out k (by rw [HGB.out]; exact hk); have := HE.out; have := HN.out; exact ⟨by omega, .inl (by omega)⟩) (fun p hp => by
        have h5 : p.1 = ob \/ p.1 = b1 := by
         rcases List.mem_cons.1 hp with rfl | hp
         ·exact .inl rfl
         ·obtain rfl : p = _ := by simpa using hp
          exact .inr rfl
        have h6 := HGO.out gb HGB.out
        intro e
        injection e with e
        omega) (fun q hq => by cases hq)
       refine q4b (t := 67) (p := .tmp 15) (x := .tmp 11) (u := .pointer (some ⟨gb, l.length * kSt.sz, none⟩)) (v := .agg cs.toArray) (by kernel_rfl) (by kernel_rfl) (by kernel_rfl) (by kernel_rfl) (by kernel_rfl) hrun ?_
       have HS6 := q0h hs6
       have HV2 := q0h hv2
       clear hrun hv2 hg2 hs6 hw6
       refine hK _ _ (.inr ⟨(q0a HS6.out.q0 0).trans rfl, (q0a HS6.out.q1 0).trans rfl⟩) ?_
       clear hK K
       refine q0i (i := 8) (by kernel_rfl) rfl (fun K hK => ?_)
       have y0 : w6.cell? ⟨ob, 0, none⟩ = some (.slice A l.length c) := (q0a HS6.out.q0 0).trans rfl
       have yf : w6.frozen? ⟨ob, 0, none⟩ = false := q0f HS6.out.q0 0
       go_simp
       have hs7 := HS6.out.set0 0 (.slice (some ⟨gb, 0, none⟩) (l.length + 1) c') (.inr (.inr rfl)) (fun p hp => by
        obtain rfl : p = _ := by simpa using hp
        exact HE.out.1) rfl
       obtain ⟨w7, hw7⟩ : ∃ W, W = w6.setCell ⟨ob, 0, none⟩ (.slice (some ⟨gb, 0, none⟩) (l.length + 1) c') := ⟨_, rfl⟩
       rw [<- hw7] at hs7
       rw [<- hw7]
       have HV7 := q0h (show kSt.R 67 w7 N (fun k => N <= k) (.slice (some ⟨gb, 0, none⟩) (l.length + 1) c') (l ++ [x]) from Kd.R_step HV2.out (fun k hk _ => by rw [hw7]; exact Below.heap_setCell _ _ _ _ (by have h1 : N <= k := hk; have := HE.out; have := HN.out; show k ≠ ob; omega)))
       have HS7 := q0h hs7
       clear y0 yf hs7 hw7
       refine hK _ _ (.inl (by kernel_rfl)) ?_
       clear hK K
       refine q1i (by kernel_rfl) ?_ _
       go_wp2_with fail
       go_roundg k
       case measure => omega
       case rel =>
        refine ⟨l ++ [x], ts2, some ⟨gb, 0, none⟩, c', w7.heap.size, ?_, by have := HL4.out; simp [Hid]; omega, HQ4.out⟩
        have hl1 : (l ++ [x]).length = l.length + 1 := by simp
        rw [hl1]
        exact HS7.out.holdAt N w7.heap.size (by have := HE.out; have := HN.out; omega) (Nat.le_refl _) (q1z HV7.out) (q1l _ _ _ _ _ _) (fun p hp => .inl (by
         have := HE.out
         have := HN.out
         rcases List.mem_cons.1 hp with rfl | hp
         ·show ob < N; omega
         ·obtain rfl : p = _ := by simpa using hp
          show b1 < N; omega))
      ·have y0 : w5.cell? ⟨ob, 0, none⟩ = some (.slice A l.length c) := (q0a HS5.out.q0 0).trans rfl
       have yf : w5.frozen? ⟨ob, 0, none⟩ = false := q0f HS5.out.q0 0
       go_simp
       have hs6 := HS5.out.set0 0 (.slice (some ⟨gb, 0, none⟩) (l.length + 1) c') (.inr (.inr rfl)) (fun p hp => by
        obtain rfl : p = _ := by simpa using hp
        exact HE.out.1) rfl
       obtain ⟨w6, hw6⟩ : ∃ W, W = w5.setCell ⟨ob, 0, none⟩ (.slice (some ⟨gb, 0, none⟩) (l.length + 1) c') := ⟨_, rfl⟩
       rw [<- hw6] at hs6
       rw [<- hw6]
       have HV6 := q0h (show kSt.R 67 w6 N (fun k => N <= k) (.slice (some ⟨gb, 0, none⟩) (l.length + 1) c') (l ++ [zSt]) from Kd.R_step HV1.out (fun k hk _ => by rw [hw6]; exact Below.heap_setCell _ _ _ _ (by have h1 : N <= k := hk; have := HE.out; have := HN.out; show k ≠ ob; omega)))
       have HS6 := q0h hs6
       clear y0 yf hs6 hw6
       refine hK _ _ (.inl (by kernel_rfl)) ?_
       clear hK K
       refine q0i (i := 7) (by kernel_rfl) rfl (fun K hK => ?_)
       obtain ⟨gb', hg1, hgo, hrun, hv2, hg2⟩ := q7f (P := Tryz.prog) HV6.out (x := x) (cs := cs) (okp := fun k => lo <= k /\ k < hu) (kSt.M_lower (by have := HLO.out; have := HN.out; have := HSX.out.bx.size; omega) HS6.out.k0) HAT.out 67 (by kernel_rfl)
       have eg : gb' = gb := Option.some.inj (hgo.symm.trans HGB.out)
       rw [eg] at hrun hv2 hg2
       clear hg1 hgo eg
       obtain ⟨w7, hw7⟩ : ∃ W, W = w6.setCells gb (l.length * kSt.sz) cs := ⟨_, rfl⟩
       rw [<- hw7] at hrun hv2 hg2
       have hs7 := HS6.out.dropk.grown hg2 (fun k hk => by have h1 := HGO.out k (by rw [HGB.out]; exact hk); have := HE.out; have := HN.out; exact ⟨by omega, .inl (by omega)⟩) (fun p hp => by
        have h5 : p.1 = ob \/ p.1 = b1 := by
         rcases List.mem_cons.1 hp with rfl | hp
         ·exact .inl rfl
         ·obtain rfl : p = _ := by simpa using hp
          exact .inr rfl
        have h6 := HGO.out gb HGB.out
        intro e
        injection e with e
        omega) (fun q hq => by cases hq)
       refine q4b (t := 67) (p := .tmp 15) (x := .tmp 11) (u := .pointer (some ⟨gb, l.length * kSt.sz, none⟩)) (v := .agg cs.toArray) (by kernel_rfl) (by kernel_rfl) (by kernel_rfl) (by kernel_rfl) (by kernel_rfl) hrun ?_
       have HS7 := q0h hs7
       have HV7 := q0h hv2
       clear hrun hv2 hg2 hs7 hw7
       refine hK _ _ (.inl (by kernel_rfl)) ?_
       clear hK K
       refine q1i (by kernel_rfl) ?_ _
       go_wp2_with fail
       go_roundg k
       case measure => omega
       case rel =>
        refine ⟨l ++ [x], ts2, some ⟨gb, 0, none⟩, c', w7.heap.size, ?_, by have := HL4.out; simp [Hid]; omega, HQ4.out⟩
        have hl1 : (l ++ [x]).length = l.length + 1 := by simp
        rw [hl1]
        exact HS7.out.holdAt N w7.heap.size (by have := HE.out; have := HN.out; omega) (Nat.le_refl _) (q1z HV7.out) (q1l _ _ _ _ _ _) (fun p hp => .inl (by
         have := HE.out
         have := HN.out
         rcases List.mem_cons.1 hp with rfl | hp
         ·show ob < N; omega
         ·obtain rfl : p = _ := by simpa using hp
          show b1 < N; omega))
theorem x4w {B g : Nat} {R : q4e} (hR : q7i B g R) (n : Nat) {w : World} {ts : List Tok} {lv : Nat} (h : RD B w g ts lv) {r : Except Flt (List St × List Tok)} (hp : z4b n R lv ts = some r) :
  Calls Tryz.prog 74 #[.pointer (some ⟨g, 0, none⟩)] w (Res B w (· = g) g lv (j5z w.heap.size) r) := by
 obtain ⟨W, hW, hS⟩ := (ST.start (X := (· = g)) h rfl).push2 #[.pointer (some ⟨g, 0, none⟩)] 56 #[.slice none 0 0] 43
 obtain ⟨ob, hob⟩ : ∃ b, b = w.heap.size + 1 := ⟨_, rfl⟩
 obtain ⟨b1, hb1⟩ : ∃ b, b = w.heap.size := ⟨_, rfl⟩
 rw [<- hob, <- hb1] at hS
 have hgB := h.gB
 have hBw := h.Bw
 have hsz : W.heap.size = ob + 1 := by rw [hW, hob]; simp
 have HC := q0h (q6w hS.rd (fun k => k = g \/ k = ob) (.inl rfl) (fun k hk => by rcases hk with rfl | rfl <;> omega) 118 #[.pointer (some ⟨b1, 0, none⟩), .pointer (some ⟨ob, 0, none⟩)] x4v (fun lv => q5i R lv n []) (j9e ob) (tx [123]) (tx [125])
  (j2e b1 ob g) (x2q hR n W (lv + 1) b1 ob (by omega) (by omega) (by omega)) ⟨hS.q1, hS.q0⟩ (fun w1 w2 hp hx => ⟨q3c hx hp.1 (by omega), q3c hx hp.2 (by omega)⟩) (fun w1 w2 l hs hx => by
   obtain ⟨A, c, p1, p2⟩ := hs
   exact ⟨A, c, q3c hx p1 (by omega), Kd.R_step p2 (fun k hk hlt => hx.block k hlt (by have h3 : ob + 1 <= k := hk; show k ≠ g; omega))⟩) hp)
 have HW := q0h hW
 have HS := q0h hS
 have HB0 := q0h hob
 have HB1 := q0h hb1
 have HX0 := q0h (show ∀ (w1 : World), q1s W.heap.size (fun k => k = g \/ k = ob) W w1 -> q1s w.heap.size (· = g) w w1 from fun _ hx => hS.bx.comp hx (fun k hk hX => by
  rcases hX with h | h
  ·exact h
  ·omega))
 have hmf : ∀ (fn : Fn) (first cap : Array Value) (w : World), (Instr.makeFunc fn first cap).run Tryz.prog w = .ok (.func fn first cap) w := fun _ _ _ _ => rfl
 have c1 : W.cell? ⟨b1, 0, none⟩ = some (.pointer (some ⟨g, 0, none⟩)) := (q0a hS.q1 0).trans rfl
 have l1 := q0c hS.q1
 clear h hp hR hS hW hob hb1 hgB hBw hsz
 go_enter Tryz.func74, Tryz.ntmps74
 go_wp2_with fail
 rw [<- HW.out, <- HB0.out, <- HB1.out]
 refine HC.out.mono ?_
 intro e w1 hres
 cases r with
 | error f =>
  obtain ⟨rfl, hx1⟩ := hres
  have HX1 := q0h (HX0.out _ hx1)
  clear hx1
  go_wp2_with fail
  exact ⟨rfl, rfl, HX1.out⟩
 | ok p =>
  obtain ⟨l, ts2⟩ := p
  obtain ⟨v, rfl, ⟨rfl, A, c, hn2, hE⟩, hr1, hx1⟩ := hres
  have HX1 := q0h (HX0.out _ hx1)
  have HR1 := q0h hr1
  have HE := q0h hE
  have l2 := q0c hn2
  have d2 : w1.cell? ⟨ob, 0, none⟩ = some (.slice A l.length c) := (q0a hn2 0).trans rfl
  clear hx1 hr1 hE hn2 l1 c1 hmf
  go_wp2_with fail
  go_ret
  exact ⟨_, rfl, Kd.R_mono (Kd.R_lower HE.out (by have := HB0.out; omega)) (fun k hk => by have h3 : ob + 1 <= k := hk; have := HB0.out; show w.heap.size <= k; omega), HR1.out, HX1.out⟩
def zEx : Ex := .mk 0 0 0 ⟨#[]⟩ [] 0 0 0
theorem x0t (w : World) (base : Nat) (ok : Nat -> Prop) : kEx.M w base ok zEx [.int .i64 0, .int .i64 0, .int .i64 0, .string ⟨#[]⟩, .slice none 0 0, .int .i64 0, .int .i64 0, .int .i64 0] := q4z 0 0 0 ⟨#[]⟩ 0 0 0 (Kd.R_nil _ _ _ _ _)
def callX (g eb N : Nat) : Nat -> Prop := fun k => k = g \/ k = eb \/ N <= k
def x2r (b1 eb N g : Nat) (nm : ByteArray) (at_ : Int) (w : World) (l : List Ex) : Prop := w.heap[b1]? = some (.cells #[.pointer (some ⟨g, 0, none⟩)] 56 (0, 0)) /\ ∃ v, w.heap[eb]? = some (.cells #[.int .i64 7, .int .i64 0, .int .i64 0, .string nm, v, .int .i64 at_, .int .i64 0, .int .i64 0] 86 (0, 0)) /\ kEx.R 86 w N (fun k => N <= k) v l
theorem x2r.keep {b1 eb N g : Nat} {nm : ByteArray} {at_ : Int} {w1 w2 : World} {l : List Ex} (h : x2r b1 eb N g nm at_ w1 l) (hx : q1s w1.heap.size (· = g) w1 w2) (h1 : g < b1) (h2 : g < eb) (h3 : g < N) : x2r b1 eb N g nm at_ w2 l := by
 obtain ⟨q1, v, q3, q4⟩ := h
 exact ⟨q3c hx q1 (by omega), v, q3c hx q3 (by omega), Kd.R_step q4 (fun k hk hlt => hx.block k hlt (by have h5 : N <= k := hk; omega))⟩
theorem x4x : q1k 196 := fun args w => q5r Tryz.func196 (by kernel_rfl) rfl args w
theorem x2s {B g lv : Nat} {R : q4e} (hR : q7i B g R) (n : Nat) (hn : n <= 1000000) (w0 : World) (b1 eb N : Nat) (nm : ByteArray) (at_ : Int) (hb1 : B <= b1) (heb : B <= eb) (hN1 : b1 < N) (hN2 : eb < N) (h12 : b1 ≠ eb) (hNw : N <= w0.heap.size) :
  ∀ l w ts, l.length < n -> q1s w0.heap.size (callX g eb N) w0 w -> RD B w g ts lv -> x2r b1 eb N g nm at_ w l -> ∀ r, q3b R lv ts = some r ->
   Calls Tryz.prog 196 #[.pointer (some ⟨eb, 0, none⟩), .pointer (some ⟨b1, 0, none⟩)] w (x3x B w (callX g eb N) g lv (fun w2 a => x2r b1 eb N g nm at_ w2 (l ++ [a])) r) := by
 intro l w ts hln hx0 h hS r hp
 obtain ⟨q1, v, q3, q4⟩ := hS
 obtain ⟨A, c, rfl⟩ := Kd.R_slice q4
 have HP := q0h hp
 have HR := q0h hR
 obtain ⟨hi, hhi⟩ : ∃ n, n = w.heap.size := ⟨_, rfl⟩
 have hs : ST B g lv (callX g eb N) w w ts [(eb, #[.int .i64 7, .int .i64 0, .int .i64 0, .string nm, .slice A l.length c, .int .i64 at_, .int .i64 0, .int .i64 0], 86), (b1, #[.pointer (some ⟨g, 0, none⟩)], 56)] [(N, hi, q2i kEx 86 N hi l (.slice A l.length c))] :=
  (((ST.start (X := callX g eb N) h (.inl rfl)).add b1 _ _ hb1 q1 (fun q hq => by cases hq)).add eb _ _ heb q3 (fun q hq => by cases hq)).holdAt N hi (by omega) (by rw [hhi]; exact Nat.le_refl _) (by rw [hhi]; exact q1z q4) (q1l _ _ _ _ _ _) (fun p hp => .inl (by
   rcases List.mem_cons.1 hp with rfl | hp
   ·exact hN2
   ·obtain rfl : p = _ := by simpa using hp
    exact hN1))
 have HS := q0h hs
 have HL4 := q0h (show l.length + 1 <= 1000000 by omega)
 have HE := q0h (show b1 ≠ eb /\ b1 < N /\ eb < N /\ g < B /\ B <= b1 /\ B <= eb /\ N <= w.heap.size /\ hi <= w.heap.size from ⟨h12, hN1, hN2, h.gB, hb1, heb, Nat.le_trans hNw hx0.size, by omega⟩)
 clear hp hR hs q1 q3 q4 h hx0 hb1 heb hN1 hN2 h12 hNw hn hln hhi
 go_enter Tryz.func196, Tryz.ntmps196
 go_wp2_with fail
 refine q2l (fun w' => w'.cell? ⟨eb, 4, none⟩ = some (.slice A l.length c) /\ w'.cell? ⟨b1, 0, none⟩ = some (.pointer (some ⟨g, 0, none⟩))) 10 (by kernel_rfl) ?_
 intro X HX
 have HSX := q0h (show ST B g lv (callX g eb N) w X ts _ _ from HS.out.below (by rw [HX.out]; exact q1n (Below.refl _ _)))
 have up : ∀ (w' : World) (ts : List Tok) (z : Blk) (ks : List x0q), ST B g lv (callX g eb N) w w' ts [z, (eb, #[.int .i64 7, .int .i64 0, .int .i64 0, .string nm, .slice A l.length c, .int .i64 at_, .int .i64 0, .int .i64 0], 86), (b1, #[.pointer (some ⟨g, 0, none⟩)], 56)] ks -> w'.cell? ⟨eb, 4, none⟩ = some (.slice A l.length c) /\ w'.cell? ⟨b1, 0, none⟩ = some (.pointer (some ⟨g, 0, none⟩)) := fun _ _ _ _ h => ⟨(q0a h.q1 4).trans rfl, (q0a h.q2 0).trans rfl⟩
 have HUP := q0h up
 have up0 : ∀ (w' : World) (ts : List Tok) (ks : List x0q), ST B g lv (callX g eb N) w w' ts [(eb, #[.int .i64 7, .int .i64 0, .int .i64 0, .string nm, .slice A l.length c, .int .i64 at_, .int .i64 0, .int .i64 0], 86), (b1, #[.pointer (some ⟨g, 0, none⟩)], 56)] ks -> w'.cell? ⟨eb, 4, none⟩ = some (.slice A l.length c) /\ w'.cell? ⟨b1, 0, none⟩ = some (.pointer (some ⟨g, 0, none⟩)) := fun _ _ _ h => ⟨(q0a h.q0 4).trans rfl, (q0a h.q1 0).trans rfl⟩
 have HUP0 := q0h up0
 have HLX := q0h (HUP0.out _ _ _ HSX.out)
 clear up up0
 refine q0m 0 ?v_1 rfl (by kernel_rfl) (fun _ _ _ h => h) HLX.out (by rfl) ?h_1 ?r_1
 case h_1 => intro w' hS'; obtain ⟨s1, s2⟩ := hS'; go_simp; try with_reducible rfl
 refine q0m 1 ?v_2 rfl (by kernel_rfl) (fun _ _ _ h => h) HLX.out (by rfl) ?h_2 ?r_2
 case h_2 => intro w' hS'; obtain ⟨s1, s2⟩ := hS'; go_simp; try with_reducible rfl
 refine q0m 2 ?v_3 rfl (by kernel_rfl) (fun _ _ _ h => h) HLX.out (by rfl) ?h_3 ?r_3
 case h_3 => intro w' hS'; obtain ⟨s1, s2⟩ := hS'; go_simp; try with_reducible rfl
 refine q0m 4 ?v_4 rfl (by kernel_rfl) (fun _ _ _ h => h) HLX.out (by rfl) ?h_4 ?r_4
 case h_4 => intro w' hS'; obtain ⟨s1, s2⟩ := hS'; go_simp; try with_reducible rfl
 refine q5n (i1 := 3) (i2 := 5) (by kernel_rfl) rfl rfl (fun K hK => ?_) (fun K hK => ?_)
 ·go_simp
  refine Res.last HSX.out (q4f HR.out HSX.out.rd HP.out) ?_ ?_
  ·rintro f w' rfl hx
   have HX := q0h hx
   clear hx hK
   exact ⟨rfl, rfl, HX.out⟩
  rintro x ts2 v w2 hm hs ⟨cs, rfl, hM⟩ hx rfl
  have hh := HSX.out.hold hs hx.size (q7r hM) (q7q _ _ _ _ _)
  obtain ⟨lo, hlo⟩ : ∃ n, n = X.heap.size := ⟨_, rfl⟩
  obtain ⟨hu, hh2⟩ : ∃ n, n = w2.heap.size := ⟨_, rfl⟩
  rw [<- hlo, <- hh2] at hh
  have HS2 := q0h hh
  have HLO := q0h (show X.heap.size <= lo /\ lo <= hu from ⟨by rw [hlo]; exact Nat.le_refl _, by rw [hlo, hh2]; exact hx.size⟩)
  clear hm hs hM hx hh hlo hh2
  refine hK _ _ (.inr (HUP0.out _ _ _ HS2.out)) ?_
  clear hK K
  refine q0i (i := 5) (by kernel_rfl) rfl (fun K hK => ?_)
  go_simp
  obtain ⟨W3, hW, hs⟩ := HS2.out.push #[.int .i64 0, .int .i64 0, .int .i64 0, .string ⟨#[]⟩, .slice none 0 0, .int .i64 0, .int .i64 0, .int .i64 0] 86
  obtain ⟨zb, hzb⟩ : ∃ b, b = w2.heap.size := ⟨_, rfl⟩
  rw [<- hzb] at hs
  rw [<- hW, <- hzb]
  have HS3 := q0h hs
  have HZB := q0h hzb
  have HZW := q0h hW
  clear hs hzb hW
  refine hK _ _ (.inr (HUP.out _ _ _ _ HS3.out)) ?_
  clear hK K
  refine q0i (i := 6) (by kernel_rfl) rfl (fun K hK => ?_)
  have hs := HS3.out
  have hrow := q2i.out hs.k1 (Nat.le_refl N)
  have hlt : ∀ k, (Value.slice A l.length c).ownBlock = some k -> N <= k /\ k < hi := fun k hk => hs.k1.1 k hk
  have hlo := HLO.out
  have hsw := hs.bx.size
  have hxw := HSX.out.bx.size
  have hne := HE.out
  refine Kd.R_append_rows_step kEx (w0 := W3) N (by rfl) _ _ 65 86 (.agg #[.int .i64 0, .int .i64 0, .int .i64 0, .string ⟨#[]⟩, .slice none 0 0, .int .i64 0, .int .i64 0, .int .i64 0]) 88 rfl Tryz.underlying65 z1v rfl (show 0 < 8 by decide) (by decide) (.slice A l.length c) l [zEx] (some ⟨zb, 0, none⟩) 1 1 (fun k => N <= k) (fun _ => False) rfl rfl hrow (z1w (cs := [.int .i64 0, .int .i64 0, .int .i64 0, .string ⟨#[]⟩, .slice none 0 0, .int .i64 0, .int .i64 0, .int .i64 0]) zEx hs.q0) (fun x cs hx => by rw [hx.1, hx.2]; exact x0t _ _ _) (fun _ h => h.elim) (fun k hk => by omega) (Below.refl _ _) (by omega) (by have := HL4.out; omega) ?_
  intro v1 w5 hv1 hb1 hg1 hat1
  obtain ⟨A', c', rfl⟩ := Kd.R_slice hv1
  have hl1 : (l ++ [zEx]).length = l.length + 1 := by simp
  rw [hl1] at hv1 hat1
  have hel := (hs.kp _ List.mem_cons_self)
  have hs5 := (show ST B g lv (callX g eb N) w W3 ts2 _ [(lo, hu, z4g kEx lo hu x cs)] from ⟨hs.rd, hs.bx, hs.xg, hs.bl, fun q hq => hs.kp q (by
    obtain rfl : q = _ := by simpa using hq
    exact List.mem_cons_self)⟩).drop0.grown hg1 (fun k hk => by have := hlt k hk; exact ⟨by omega, .inr (.inr (.inr this.1))⟩) (fun p hp => by
   have h5 : p.1 = eb \/ p.1 = b1 := by
    rcases List.mem_cons.1 hp with rfl | hp
    ·exact .inl rfl
    ·obtain rfl : p = _ := by simpa using hp
     exact .inr rfl
   intro e
   have := hlt p.1 e.symm
   omega) (fun q hq k h1 h2 e => by
   obtain rfl : q = _ := by simpa using hq
   have h3 := hlt k e.symm
   have h1' : lo <= k := h1
   omega)
  have HV1 := q0h hv1
  have HAT := q0h (show ∀ k, lo <= k /\ k < hu -> N <= k /\ some k ≠ (Value.slice A' (l.length + 1) c').ownBlock from fun k hk => ⟨by omega, fun e => by
   rcases hat1 with h1 | ⟨b, h1, h2⟩
   ·have h3 := hlt k (by rw [<- h1, e])
    omega
   ·rw [h1] at e
    injection e with e
    have h4 : hu <= W3.heap.size := hel.2.1
    omega⟩)
  have HGO := q0h (show ∀ k, (Value.slice A' (l.length + 1) c').ownBlock = some k -> N <= k /\ k ≠ eb /\ k ≠ b1 from fun k hk => by have h1 : N <= k := hv1.1 k hk; omega)
  obtain ⟨gb, hA', hgb⟩ : ∃ gb, A' = some ⟨gb, 0, none⟩ /\ (Value.slice A' (l.length + 1) c').ownBlock = some gb := by
   obtain ⟨gb, h1, h2, _⟩ := q7f (P := Tryz.prog) hv1 (x0t w5 N (fun _ => False)) (fun _ h => h.elim) 86 (by kernel_rfl)
   exact ⟨gb, h1, h2⟩
  subst hA'
  have HGB := q0h hgb
  have HS5 := q0h hs5
  have HLW := q0h (show N <= w5.heap.size by have := hg1.size; omega)
  have z5 : ((l.length : Int) < (l.length : Int) + 1) := by omega
  clear hl1 hs hrow hlt hlo hsw hxw hv1 hb1 hg1 hat1 hne hel hs5 hgb
  refine hK _ _ (.inr (HUP0.out _ _ _ HS5.out)) ?_
  clear hK K
  refine q1h 7 ?v_5 rfl (by kernel_rfl) (fun _ _ _ h => h) (.inr (HUP0.out _ _ _ HS5.out)) (by rfl) ?h_5 ?r_5
  case h_5 => intro w' hS'; clear hS'; go_simp; try with_reducible rfl
  clear z5
  refine q1h 9 ?v_6 rfl (by kernel_rfl) (fun _ _ _ h => h) (.inr (HUP0.out _ _ _ HS5.out)) (by rfl) ?h_6 ?r_6
  case h_6 => intro w' hS'; clear hS'; go_simp; try with_reducible rfl
  refine q5n (i1 := 8) (i2 := 10) (by kernel_rfl) rfl rfl (fun K hK => ?_) (fun K hK => ?_)
  ·obtain ⟨gb', hg1, hgo, hrun, hv2, hg2⟩ := q7f (P := Tryz.prog) HV1.out (x := x) (cs := cs) (okp := fun k => lo <= k /\ k < hu) (kEx.M_lower (by have := HLO.out; have := HE.out; have := HSX.out.bx.size; omega) HS5.out.k0) HAT.out 86 (by kernel_rfl)
   have eg : gb' = gb := Option.some.inj (hgo.symm.trans HGB.out)
   rw [eg] at hrun hv2 hg2
   clear hg1 hgo eg
   obtain ⟨w6, hw6⟩ : ∃ W, W = w5.setCells gb (l.length * kEx.sz) cs := ⟨_, rfl⟩
   rw [<- hw6] at hrun hv2 hg2
   have hs6 := HS5.out.dropk.grown hg2 (fun k hk => by have h1 := HGO.out k (by rw [HGB.out]; exact hk); have := HE.out; exact ⟨by omega, .inr (.inr (.inr h1.1))⟩) (fun p hp => by
    have h5 : p.1 = eb \/ p.1 = b1 := by
     rcases List.mem_cons.1 hp with rfl | hp
     ·exact .inl rfl
     ·obtain rfl : p = _ := by simpa using hp
      exact .inr rfl
    have h6 := HGO.out gb HGB.out
    intro e
    injection e with e
    omega) (fun q hq => by cases hq)
   refine q4b (t := 86) (p := .tmp 9) (x := .tmp 5) (u := .pointer (some ⟨gb, l.length * kEx.sz, none⟩)) (v := .agg cs.toArray) (by kernel_rfl) (by kernel_rfl) (by kernel_rfl) (by kernel_rfl) (by kernel_rfl) hrun ?_
   have HS6 := q0h hs6
   have HV6 := q0h hv2
   clear hrun hv2 hg2 hs6 hw6
   refine hK _ _ (.inr (HUP0.out _ _ _ HS6.out)) ?_
   clear hK K
   refine q0i (i := 10) (by kernel_rfl) rfl (fun K hK => ?_)
   have y0 : w6.cell? ⟨eb, 4, none⟩ = some (.slice A l.length c) := (q0a HS6.out.q0 4).trans rfl
   have yf : w6.frozen? ⟨eb, 4, none⟩ = false := q0f HS6.out.q0 4
   go_simp
   have hs7 := HS6.out.set0 4 (.slice (some ⟨gb, 0, none⟩) (l.length + 1) c') (.inr (.inr (.inl rfl))) (fun p hp => by
    obtain rfl : p = _ := by simpa using hp
    exact HE.out.1) rfl
   obtain ⟨w7, hw7⟩ : ∃ W, W = w6.setCell ⟨eb, 4, none⟩ (.slice (some ⟨gb, 0, none⟩) (l.length + 1) c') := ⟨_, rfl⟩
   rw [<- hw7] at hs7
   rw [<- hw7]
   have HV7 := q0h (show kEx.R 86 w7 N (fun k => N <= k) (.slice (some ⟨gb, 0, none⟩) (l.length + 1) c') (l ++ [x]) from Kd.R_step HV6.out (fun k hk _ => by rw [hw7]; exact Below.heap_setCell _ _ _ _ (by have h1 : N <= k := hk; have := HE.out; show k ≠ eb; omega)))
   have HS7 := q0h hs7
   clear y0 yf hs7 hw7
   refine hK _ _ (.inl (by kernel_rfl)) ?_
   clear hK K
   refine q1i (by kernel_rfl) ?_ _
   go_end0
   exact ⟨_, rfl, ⟨rfl, HS7.out.q1, _, HS7.out.q0, HV7.out⟩, HS7.out.rd, HS7.out.bx⟩
  ·have y0 : w5.cell? ⟨eb, 4, none⟩ = some (.slice A l.length c) := (q0a HS5.out.q0 4).trans rfl
   have yf : w5.frozen? ⟨eb, 4, none⟩ = false := q0f HS5.out.q0 4
   go_simp
   have hs7 := HS5.out.set0 4 (.slice (some ⟨gb, 0, none⟩) (l.length + 1) c') (.inr (.inr (.inl rfl))) (fun p hp => by
    obtain rfl : p = _ := by simpa using hp
    exact HE.out.1) rfl
   obtain ⟨w6, hw7⟩ : ∃ W, W = w5.setCell ⟨eb, 4, none⟩ (.slice (some ⟨gb, 0, none⟩) (l.length + 1) c') := ⟨_, rfl⟩
   rw [<- hw7] at hs7
   rw [<- hw7]
   have HV6 := q0h (show kEx.R 86 w6 N (fun k => N <= k) (.slice (some ⟨gb, 0, none⟩) (l.length + 1) c') (l ++ [zEx]) from Kd.R_step HV1.out (fun k hk _ => by rw [hw7]; exact Below.heap_setCell _ _ _ _ (by have h1 : N <= k := hk; have := HE.out; show k ≠ eb; omega)))
   have HS6 := q0h hs7
   clear y0 yf hs7 hw7
   refine hK _ _ (.inl (by kernel_rfl)) ?_
   clear hK K
   refine q0i (i := 8) (by kernel_rfl) rfl (fun K hK => ?_)
   obtain ⟨gb', hg1, hgo, hrun, hv2, hg2⟩ := q7f (P := Tryz.prog) HV6.out (x := x) (cs := cs) (okp := fun k => lo <= k /\ k < hu) (kEx.M_lower (by have := HLO.out; have := HE.out; have := HSX.out.bx.size; omega) HS6.out.k0) HAT.out 86 (by kernel_rfl)
   have eg : gb' = gb := Option.some.inj (hgo.symm.trans HGB.out)
   rw [eg] at hrun hv2 hg2
   clear hg1 hgo eg
   obtain ⟨w7, hw6⟩ : ∃ W, W = w6.setCells gb (l.length * kEx.sz) cs := ⟨_, rfl⟩
   rw [<- hw6] at hrun hv2 hg2
   have hs6 := HS6.out.dropk.grown hg2 (fun k hk => by have h1 := HGO.out k (by rw [HGB.out]; exact hk); have := HE.out; exact ⟨by omega, .inr (.inr (.inr h1.1))⟩) (fun p hp => by
    have h5 : p.1 = eb \/ p.1 = b1 := by
     rcases List.mem_cons.1 hp with rfl | hp
     ·exact .inl rfl
     ·obtain rfl : p = _ := by simpa using hp
      exact .inr rfl
    have h6 := HGO.out gb HGB.out
    intro e
    injection e with e
    omega) (fun q hq => by cases hq)
   refine q4b (t := 86) (p := .tmp 9) (x := .tmp 5) (u := .pointer (some ⟨gb, l.length * kEx.sz, none⟩)) (v := .agg cs.toArray) (by kernel_rfl) (by kernel_rfl) (by kernel_rfl) (by kernel_rfl) (by kernel_rfl) hrun ?_
   have HS7 := q0h hs6
   have HV7 := q0h hv2
   clear hrun hv2 hg2 hs6 hw6
   refine hK _ _ (.inl (by kernel_rfl)) ?_
   clear hK K
   refine q1i (by kernel_rfl) ?_ _
   go_end0
   exact ⟨_, rfl, ⟨rfl, HS7.out.q1, _, HS7.out.q0, HV7.out⟩, HS7.out.rd, HS7.out.bx⟩
 ·go_simp
  obtain ⟨W2, hW, hs⟩ := HSX.out.push #[.int .i64 0, .int .i64 0, .int .i64 0, .string ⟨#[]⟩, .slice none 0 0, .int .i64 0, .int .i64 0, .int .i64 0] 86
  obtain ⟨zb, hzb⟩ : ∃ b, b = X.heap.size := ⟨_, rfl⟩
  rw [<- hzb] at hs
  rw [<- hW, <- hzb]
  have HS2 := q0h hs
  have HZB := q0h hzb
  have HZW := q0h hW
  clear hs hzb hW
  refine hK _ _ (.inr (HUP.out _ _ _ _ HS2.out)) ?_
  clear hK K
  refine q0i (i := 3) (by kernel_rfl) rfl (fun K hK => ?_)
  go_simp
  refine Res.last HS2.out (q4f HR.out HS2.out.rd HP.out) ?_ ?_
  ·rintro f w' rfl hx
   have HX := q0h hx
   clear hx hK
   exact ⟨rfl, rfl, HX.out⟩
  rintro x ts2 v w3 hm hs ⟨cs, rfl, hM⟩ hx rfl
  have hh := HS2.out.hold hs hx.size (q7r hM) (q7q _ _ _ _ _)
  obtain ⟨lo, hlo⟩ : ∃ n, n = W2.heap.size := ⟨_, rfl⟩
  obtain ⟨hu, hh2⟩ : ∃ n, n = w3.heap.size := ⟨_, rfl⟩
  rw [<- hlo, <- hh2] at hh
  have HS3 := q0h hh
  have HLO := q0h (show X.heap.size <= lo /\ lo <= hu from ⟨by rw [hlo]; rw [HZW.out]; simp, by rw [hlo, hh2]; exact hx.size⟩)
  clear hm hs hM hx hh hlo hh2
  refine hK _ _ (.inr (HUP.out _ _ _ _ HS3.out)) ?_
  clear hK K
  refine q0i (i := 6) (by kernel_rfl) rfl (fun K hK => ?_)
  have hs := HS3.out
  have hrow := q2i.out hs.k1 (Nat.le_refl N)
  have hlt : ∀ k, (Value.slice A l.length c).ownBlock = some k -> N <= k /\ k < hi := fun k hk => hs.k1.1 k hk
  have hlo := HLO.out
  have hsw := hs.bx.size
  have hxw := HSX.out.bx.size
  have hne := HE.out
  refine Kd.R_append_rows_step kEx (w0 := w3) N (by rfl) _ _ 65 86 (.agg #[.int .i64 0, .int .i64 0, .int .i64 0, .string ⟨#[]⟩, .slice none 0 0, .int .i64 0, .int .i64 0, .int .i64 0]) 88 rfl Tryz.underlying65 z1v rfl (show 0 < 8 by decide) (by decide) (.slice A l.length c) l [zEx] (some ⟨zb, 0, none⟩) 1 1 (fun k => N <= k) (fun _ => False) rfl rfl hrow (z1w (cs := [.int .i64 0, .int .i64 0, .int .i64 0, .string ⟨#[]⟩, .slice none 0 0, .int .i64 0, .int .i64 0, .int .i64 0]) zEx hs.q0) (fun x cs hx => by rw [hx.1, hx.2]; exact x0t _ _ _) (fun _ h => h.elim) (fun k hk => by omega) (Below.refl _ _) (by omega) (by have := HL4.out; omega) ?_
  intro v1 w5 hv1 hb1 hg1 hat1
  obtain ⟨A', c', rfl⟩ := Kd.R_slice hv1
  have hl1 : (l ++ [zEx]).length = l.length + 1 := by simp
  rw [hl1] at hv1 hat1
  have hel := (hs.kp _ List.mem_cons_self)
  have hs5 := (show ST B g lv (callX g eb N) w w3 ts2 _ [(lo, hu, z4g kEx lo hu x cs)] from ⟨hs.rd, hs.bx, hs.xg, hs.bl, fun q hq => hs.kp q (by
    obtain rfl : q = _ := by simpa using hq
    exact List.mem_cons_self)⟩).drop0.grown hg1 (fun k hk => by have := hlt k hk; exact ⟨by omega, .inr (.inr (.inr this.1))⟩) (fun p hp => by
   have h5 : p.1 = eb \/ p.1 = b1 := by
    rcases List.mem_cons.1 hp with rfl | hp
    ·exact .inl rfl
    ·obtain rfl : p = _ := by simpa using hp
     exact .inr rfl
   intro e
   have := hlt p.1 e.symm
   omega) (fun q hq k h1 h2 e => by
   obtain rfl : q = _ := by simpa using hq
   have h3 := hlt k e.symm
   have h1' : lo <= k := h1
   omega)
  have HV1 := q0h hv1
  have HAT := q0h (show ∀ k, lo <= k /\ k < hu -> N <= k /\ some k ≠ (Value.slice A' (l.length + 1) c').ownBlock from fun k hk => ⟨by omega, fun e => by
   rcases hat1 with h1 | ⟨b, h1, h2⟩
   ·have h3 := hlt k (by rw [<- h1, e])
    omega
   ·rw [h1] at e
    injection e with e
    have h4 : hu <= w3.heap.size := hel.2.1
    omega⟩)
  have HGO := q0h (show ∀ k, (Value.slice A' (l.length + 1) c').ownBlock = some k -> N <= k /\ k ≠ eb /\ k ≠ b1 from fun k hk => by have h1 : N <= k := hv1.1 k hk; omega)
  obtain ⟨gb, hA', hgb⟩ : ∃ gb, A' = some ⟨gb, 0, none⟩ /\ (Value.slice A' (l.length + 1) c').ownBlock = some gb := by
   obtain ⟨gb, h1, h2, _⟩ := q7f (P := Tryz.prog) hv1 (x0t w5 N (fun _ => False)) (fun _ h => h.elim) 86 (by kernel_rfl)
   exact ⟨gb, h1, h2⟩
  subst hA'
  have HGB := q0h hgb
  have HS5 := q0h hs5
  have HLW := q0h (show N <= w5.heap.size by have := hg1.size; omega)
  have z5 : ((l.length : Int) < (l.length : Int) + 1) := by omega
  clear hl1 hs hrow hlt hlo hsw hxw hv1 hb1 hg1 hat1 hne hel hs5 hgb
  refine hK _ _ (.inr (HUP0.out _ _ _ HS5.out)) ?_
  clear hK K
  refine q1h 7 ?v_7 rfl (by kernel_rfl) (fun _ _ _ h => h) (.inr (HUP0.out _ _ _ HS5.out)) (by rfl) ?h_7 ?r_7
  case h_7 => intro w' hS'; clear hS'; go_simp; try with_reducible rfl
  clear z5
  refine q1h 9 ?v_8 rfl (by kernel_rfl) (fun _ _ _ h => h) (.inr (HUP0.out _ _ _ HS5.out)) (by rfl) ?h_8 ?r_8
  case h_8 => intro w' hS'; clear hS'; go_simp; try with_reducible rfl
  refine q5n (i1 := 8) (i2 := 10) (by kernel_rfl) rfl rfl (fun K hK => ?_) (fun K hK => ?_)
  ·obtain ⟨gb', hg1, hgo, hrun, hv2, hg2⟩ := q7f (P := Tryz.prog) HV1.out (x := x) (cs := cs) (okp := fun k => lo <= k /\ k < hu) (kEx.M_lower (by have := HLO.out; have := HE.out; have := HSX.out.bx.size; omega) HS5.out.k0) HAT.out 86 (by kernel_rfl)
   have eg : gb' = gb := Option.some.inj (hgo.symm.trans HGB.out)
   rw [eg] at hrun hv2 hg2
   clear hg1 hgo eg
   obtain ⟨w6, hw6⟩ : ∃ W, W = w5.setCells gb (l.length * kEx.sz) cs := ⟨_, rfl⟩
   rw [<- hw6] at hrun hv2 hg2
   have hs6 := HS5.out.dropk.grown hg2 (fun k hk => by have h1 := HGO.out k (by rw [HGB.out]; exact hk); have := HE.out; exact ⟨by omega, .inr (.inr (.inr h1.1))⟩) (fun p hp => by
    have h5 : p.1 = eb \/ p.1 = b1 := by
     rcases List.mem_cons.1 hp with rfl | hp
     ·exact .inl rfl
     ·obtain rfl : p = _ := by simpa using hp
      exact .inr rfl
    have h6 := HGO.out gb HGB.out
    intro e
    injection e with e
    omega) (fun q hq => by cases hq)
   refine q4b (t := 86) (p := .tmp 9) (x := .tmp 5) (u := .pointer (some ⟨gb, l.length * kEx.sz, none⟩)) (v := .agg cs.toArray) (by kernel_rfl) (by kernel_rfl) (by kernel_rfl) (by kernel_rfl) (by kernel_rfl) hrun ?_
   have HS6 := q0h hs6
   have HV6 := q0h hv2
   clear hrun hv2 hg2 hs6 hw6
   refine hK _ _ (.inr (HUP0.out _ _ _ HS6.out)) ?_
   clear hK K
   refine q0i (i := 10) (by kernel_rfl) rfl (fun K hK => ?_)
   have y0 : w6.cell? ⟨eb, 4, none⟩ = some (.slice A l.length c) := (q0a HS6.out.q0 4).trans rfl
   have yf : w6.frozen? ⟨eb, 4, none⟩ = false := q0f HS6.out.q0 4
   go_simp
   have hs7 := HS6.out.set0 4 (.slice (some ⟨gb, 0, none⟩) (l.length + 1) c') (.inr (.inr (.inl rfl))) (fun p hp => by
    obtain rfl : p = _ := by simpa using hp
    exact HE.out.1) rfl
   obtain ⟨w7, hw7⟩ : ∃ W, W = w6.setCell ⟨eb, 4, none⟩ (.slice (some ⟨gb, 0, none⟩) (l.length + 1) c') := ⟨_, rfl⟩
   rw [<- hw7] at hs7
   rw [<- hw7]
   have HV7 := q0h (show kEx.R 86 w7 N (fun k => N <= k) (.slice (some ⟨gb, 0, none⟩) (l.length + 1) c') (l ++ [x]) from Kd.R_step HV6.out (fun k hk _ => by rw [hw7]; exact Below.heap_setCell _ _ _ _ (by have h1 : N <= k := hk; have := HE.out; show k ≠ eb; omega)))
   have HS7 := q0h hs7
   clear y0 yf hs7 hw7
   refine hK _ _ (.inl (by kernel_rfl)) ?_
   clear hK K
   refine q1i (by kernel_rfl) ?_ _
   go_end0
   exact ⟨_, rfl, ⟨rfl, HS7.out.q1, _, HS7.out.q0, HV7.out⟩, HS7.out.rd, HS7.out.bx⟩
  ·have y0 : w5.cell? ⟨eb, 4, none⟩ = some (.slice A l.length c) := (q0a HS5.out.q0 4).trans rfl
   have yf : w5.frozen? ⟨eb, 4, none⟩ = false := q0f HS5.out.q0 4
   go_simp
   have hs7 := HS5.out.set0 4 (.slice (some ⟨gb, 0, none⟩) (l.length + 1) c') (.inr (.inr (.inl rfl))) (fun p hp => by
    obtain rfl : p = _ := by simpa using hp
    exact HE.out.1) rfl
   obtain ⟨w6, hw7⟩ : ∃ W, W = w5.setCell ⟨eb, 4, none⟩ (.slice (some ⟨gb, 0, none⟩) (l.length + 1) c') := ⟨_, rfl⟩
   rw [<- hw7] at hs7
   rw [<- hw7]
   have HV6 := q0h (show kEx.R 86 w6 N (fun k => N <= k) (.slice (some ⟨gb, 0, none⟩) (l.length + 1) c') (l ++ [zEx]) from Kd.R_step HV1.out (fun k hk _ => by rw [hw7]; exact Below.heap_setCell _ _ _ _ (by have h1 : N <= k := hk; have := HE.out; show k ≠ eb; omega)))
   have HS6 := q0h hs7
   clear y0 yf hs7 hw7
   refine hK _ _ (.inl (by kernel_rfl)) ?_
   clear hK K
   refine q0i (i := 8) (by kernel_rfl) rfl (fun K hK => ?_)
   obtain ⟨gb', hg1, hgo, hrun, hv2, hg2⟩ := q7f (P := Tryz.prog) HV6.out (x := x) (cs := cs) (okp := fun k => lo <= k /\ k < hu) (kEx.M_lower (by have := HLO.out; have := HE.out; have := HSX.out.bx.size; omega) HS6.out.k0) HAT.out 86 (by kernel_rfl)
   have eg : gb' = gb := Option.some.inj (hgo.symm.trans HGB.out)
   rw [eg] at hrun hv2 hg2
   clear hg1 hgo eg
   obtain ⟨w7, hw6⟩ : ∃ W, W = w6.setCells gb (l.length * kEx.sz) cs := ⟨_, rfl⟩
   rw [<- hw6] at hrun hv2 hg2
   have hs6 := HS6.out.dropk.grown hg2 (fun k hk => by have h1 := HGO.out k (by rw [HGB.out]; exact hk); have := HE.out; exact ⟨by omega, .inr (.inr (.inr h1.1))⟩) (fun p hp => by
    have h5 : p.1 = eb \/ p.1 = b1 := by
     rcases List.mem_cons.1 hp with rfl | hp
     ·exact .inl rfl
     ·obtain rfl : p = _ := by simpa using hp
      exact .inr rfl
    have h6 := HGO.out gb HGB.out
    intro e
    injection e with e
    omega) (fun q hq => by cases hq)
   refine q4b (t := 86) (p := .tmp 9) (x := .tmp 5) (u := .pointer (some ⟨gb, l.length * kEx.sz, none⟩)) (v := .agg cs.toArray) (by kernel_rfl) (by kernel_rfl) (by kernel_rfl) (by kernel_rfl) (by kernel_rfl) hrun ?_
   have HS7 := q0h hs6
   have HV7 := q0h hv2
   clear hrun hv2 hg2 hs6 hw6
   refine hK _ _ (.inl (by kernel_rfl)) ?_
   clear hK K
   refine q1i (by kernel_rfl) ?_ _
   go_end0
   exact ⟨_, rfl, ⟨rfl, HS7.out.q1, _, HS7.out.q0, HV7.out⟩, HS7.out.rd, HS7.out.bx⟩
def x4y (b1 eb g : Nat) (nm : ByteArray) (at_ : Int) (w : World) : Prop := w.heap[b1]? = some (.cells #[.pointer (some ⟨g, 0, none⟩)] 56 (0, 0)) /\ w.heap[eb]? = some (.cells #[.int .i64 7, .int .i64 0, .int .i64 0, .string nm, .slice none 0 0, .int .i64 at_, .int .i64 0, .int .i64 0] 86 (0, 0))
def j3o (eb : Nat) (nm : ByteArray) (at_ : Int) (w : World) (l : List Ex) : Prop := ∃ A c, w.heap[eb]? = some (.cells #[.int .i64 7, .int .i64 0, .int .i64 0, .string nm, .slice A l.length c, .int .i64 at_, .int .i64 0, .int .i64 0] 86 (0, 0)) /\ x0o (eb + 1) w l (.slice A l.length c)
theorem x8v : q1k 195 := fun args w => q5r Tryz.func195 (by kernel_rfl) rfl args w
theorem x4z {B g : Nat} {R : q4e} (hR : q7i B g R) (n : Nat) (hn : n <= 1000000) (w0 : World) (lv b1 eb : Nat) (nm : ByteArray) (at_ : Int) (hb1 : B <= b1) (heb : B <= eb) (h12 : b1 ≠ eb) :
  z5c B w0 (fun k => k = g \/ k = eb) g lv 195 #[.pointer (some ⟨b1, 0, none⟩), .pointer (some ⟨eb, 0, none⟩)] (z2p (tx [41]) (fun _ => q3b R lv) n []) (j3o eb nm at_) (x4y b1 eb g nm at_) := by
 intro w ts hx0 hpre h r hp
 obtain ⟨q1, q2⟩ := hpre
 have hg := h.gB
 have l1 := q0c q1
 have l2 := q0c q2
 have HC := q0h (x4m h (callX g eb w.heap.size) (.inl rfl) 196 #[.pointer (some ⟨eb, 0, none⟩), .pointer (some ⟨b1, 0, none⟩)] x4x (fun _ => q3b R lv) (x2r b1 eb w.heap.size g nm at_) (tx [41]) [] n
  (fun l' w' ts' hl => x2s hR n hn w b1 eb w.heap.size nm at_ hb1 heb l1 l2 h12 (Nat.le_refl _) l' w' ts' (by simpa using hl)) (fun w1 w2 l hs hx => hs.keep hx (by omega) (by omega) (by omega)) ⟨q1, _, q2, Kd.R_nil _ _ _ _ _⟩ hp)
 have c1 : w.cell? ⟨b1, 0, none⟩ = some (.pointer (some ⟨g, 0, none⟩)) := (q0a q1 0).trans rfl
 have hmf : ∀ (fn : Fn) (first cap : Array Value) (w : World), (Instr.makeFunc fn first cap).run Tryz.prog w = .ok (.func fn first cap) w := fun _ _ _ _ => rfl
 have HX0 := q0h (show ∀ (w1 : World), q1s w.heap.size (callX g eb w.heap.size) w w1 -> q1s w.heap.size (fun k => k = g \/ k = eb) w w1 from fun _ hx => hx.mono (Nat.le_refl _) (fun k hk hX => by
  rcases hX with h1 | h1 | h1
  ·exact .inl h1
  ·exact .inr h1
  ·omega))
 have HL2 := q0h l2
 clear hp hR hx0 q1 q2 hg hb1 heb h12 hn
 go_enter Tryz.func195, Tryz.ntmps195
 go_wp2_with fail
 refine HC.out.mono ?_
 intro e w1 hres
 cases r with
 | error f =>
  obtain ⟨rfl, hx1⟩ := hres
  have HX1 := q0h (HX0.out _ hx1)
  clear hx1
  go_wp2_with fail
  exact ⟨rfl, rfl, HX1.out⟩
 | ok p =>
  obtain ⟨l, ts2⟩ := p
  obtain ⟨v, rfl, ⟨rfl, q1, v1, q3, q4⟩, hr1, hx1⟩ := hres
  obtain ⟨A, c, rfl⟩ := Kd.R_slice q4
  have HX1 := q0h (HX0.out _ hx1)
  have HR1 := q0h hr1
  have HE := q0h (show j3o eb nm at_ w1 l from ⟨A, c, q3, Kd.R_mono (Kd.R_lower q4 (by omega)) (fun k hk => by have h1 : w.heap.size <= k := hk; show eb + 1 <= k; omega)⟩)
  clear hx1 hr1 q1 q3 q4
  go_wp2_with fail
  go_end0
  exact ⟨_, rfl, ⟨rfl, HE.out⟩, HR1.out, HX1.out⟩
theorem x0u {B g : Nat} {R : q4e} (hR : q7i B g R) (n : Nat) (hn : n <= 1000000) {w : World} {ts : List Tok} {lv : Nat} (h : RD B w g ts lv) (t : Tok) {r : Except Flt (Ex × List Tok)} (hp : q8k n R lv t ts = some r) :
  Calls Tryz.prog 156 #[.pointer (some ⟨g, 0, none⟩), x4l t] w (Res B w (· = g) g lv (exV w.heap.size) r) := by
 obtain ⟨W3, hW3, hS3⟩ := (ST.start (X := (· = g)) h rfl).push3 #[.pointer (some ⟨g, 0, none⟩)] 56 #[.int .i64 t.kind, .string t.text, .int .i64 t.at_] 63 #[.int .i64 0, .int .i64 0, .int .i64 0, .string ⟨#[]⟩, .slice none 0 0, .int .i64 0, .int .i64 0, .int .i64 0] 86
 obtain ⟨W, hW, hS⟩ := hS3.push #[.int .i64 7, .int .i64 0, .int .i64 0, .string t.text, .slice none 0 0, .int .i64 t.at_, .int .i64 0, .int .i64 0] 86
 obtain ⟨b0, hb0⟩ : ∃ b, b = w.heap.size + 1 + 1 := ⟨_, rfl⟩
 obtain ⟨tb, htb⟩ : ∃ b, b = w.heap.size + 1 := ⟨_, rfl⟩
 obtain ⟨b1, hb1⟩ : ∃ b, b = w.heap.size := ⟨_, rfl⟩
 obtain ⟨eb, heb⟩ : ∃ b, b = w.heap.size + 1 + 1 + 1 := ⟨_, rfl⟩
 rw [show W3.heap.size = eb by rw [hW3, heb]; simp, <- hb0, <- htb, <- hb1] at hS
 have hgB := h.gB
 have hBw := h.Bw
 have hWW : W = (((w.alloc (.cells #[.pointer (some ⟨g, 0, none⟩)] 56)).alloc (.cells #[.int .i64 t.kind, .string t.text, .int .i64 t.at_] 63)).alloc (.cells #[.int .i64 0, .int .i64 0, .int .i64 0, .string ⟨#[]⟩, .slice none 0 0, .int .i64 0, .int .i64 0, .int .i64 0] 86)).alloc (.cells #[.int .i64 7, .int .i64 0, .int .i64 0, .string t.text, .slice none 0 0, .int .i64 t.at_, .int .i64 0, .int .i64 0] 86) := by rw [hW, hW3]
 have hsz : W.heap.size = eb + 1 := by rw [hWW, heb]; simp
 have HP := q0h hp
 have HC := q0h (fun rm hm => q6w hS.rd (fun k => k = g \/ k = eb) (.inl rfl) (fun k hk => by rcases hk with rfl | rfl <;> omega) 195 #[.pointer (some ⟨b1, 0, none⟩), .pointer (some ⟨eb, 0, none⟩)] x8v (fun lv => z2p (tx [41]) (fun _ => q3b R lv) n []) (j3o eb t.text t.at_) (tx [40]) (tx [41])
  (x4y b1 eb g t.text t.at_) (x4z hR n hn W (lv + 1) b1 eb t.text t.at_ (by omega) (by omega) (by omega)) ⟨hS.q3, hS.q0⟩ (fun w1 w2 hp hx => ⟨q3c hx hp.1 (by omega), q3c hx hp.2 (by omega)⟩) (fun w1 w2 l hs hx => by
   obtain ⟨A, c, p1, p2⟩ := hs
   exact ⟨A, c, q3c hx p1 (by omega), Kd.R_step p2 (fun k hk hlt => hx.block k hlt (by have h3 : eb + 1 <= k := hk; show k ≠ g; omega))⟩) (r := rm) hm)
 have HW := q0h hWW
 have HS := q0h (hS.re [(b0, #[.int .i64 0, .int .i64 0, .int .i64 0, .string ⟨#[]⟩, .slice none 0 0, .int .i64 0, .int .i64 0, .int .i64 0], 86)] (fun p hp => by
  obtain rfl : p = _ := by simpa using hp
  exact List.mem_cons_of_mem _ List.mem_cons_self))
 have HB0 := q0h hb0
 have HTB := q0h htb
 have HB1 := q0h hb1
 have HEB := q0h heb
 have HSZ := q0h hsz
 have HNE := q0h (show B <= eb /\ w.heap.size <= b0 /\ b0 < eb /\ g < b0 /\ w.heap.size < eb by omega)
 have hmf : ∀ (fn : Fn) (first cap : Array Value) (w : World), (Instr.makeFunc fn first cap).run Tryz.prog w = .ok (.func fn first cap) w := fun _ _ _ _ => rfl
 have c1 : W.cell? ⟨b1, 0, none⟩ = some (.pointer (some ⟨g, 0, none⟩)) := (q0a hS.q3 0).trans rfl
 have l1 := q0c hS.q3
 clear h hp hR hS hS3 hW hW3 hb0 htb hb1 heb hgB hBw hsz hWW hn
 unfold x4l
 go_enter Tryz.func156, Tryz.ntmps156
 go_wp2_with fail
 rw [<- HW.out, <- HEB.out, <- HB0.out, <- HTB.out, <- HB1.out]
 clear c1 l1
 refine Res.seqX (X1 := fun k => k = g \/ k = eb) HP.out HS.out (fun i hi h1 => by
  rcases h1 with h1 | h1
  ·exact h1
  ·have := HNE.out; omega) HC.out ?_ ?_
 ·rintro f w' rfl hx
  have HX := q0h hx
  clear hx
  go_wp2_with fail
  exact ⟨rfl, rfl, HX.out⟩
 rintro l ts2 v w1 hm hr ⟨rfl, A, c, q3, q4⟩ hx hq
 have hr2 := q0p hq
 subst hr2
 have hs5 := (HS.out.callX hr hx (fun i hi h1 => by
  rcases h1 with h1 | h1
  ·exact h1
  ·have := HNE.out; omega) (fun p hp => by
  obtain rfl : p = _ := by simpa using hp
  have := HNE.out
  show ¬ (b0 = g \/ b0 = eb)
  omega) (fun q hq => by cases hq)).add eb _ _ HNE.out.1 q3 (fun q hq => by cases hq)
 have HS5 := q0h hs5
 have HE5 := q0h q4
 obtain ⟨y0, y1, y2, y3, y4, y5, y6, y7, f0, f1, f2, f3, f4, f5, f6, f7⟩ := q0r hs5.q0
 obtain ⟨z0, z1, z2, z3, z4, z5, z6, z7, g0, g1, g2, g3, g4, g5, g6, g7⟩ := q0r hs5.q1
 have ly := q0c hs5.q0
 have lz := q0c hs5.q1
 have nbe : ¬ b0 = eb := by have := HNE.out; omega
 clear hm hr hx hq hs5 q3 q4 hmf
 go_wp2_with fail
 have ho := (HS5.out.up1).over (.inl HNE.out.2.1) (fun p hp => by
  obtain rfl : p = _ := by simpa using hp
  exact fun e => nbe e.symm) [.int .i64 7, .int .i64 0, .int .i64 0, .string t.text, .slice A l.length c, .int .i64 t.at_, .int .i64 0, .int .i64 0] rfl
 have hE := Kd.R_mono (Kd.R_lower (Kd.R_step (w1 := j2c w1 b0 0 [.int .i64 7, .int .i64 0, .int .i64 0, .string t.text, .slice A l.length c, .int .i64 t.at_, .int .i64 0, .int .i64 0]) HE5.out (fun k hk _ => q9n _ _ _ _ _ (by have h3 : eb + 1 <= k := hk; have := HNE.out; omega))) (show w.heap.size <= eb + 1 by have := HNE.out; omega)) (ok' := fun k => w.heap.size <= k) (fun k hk => by have h3 : eb + 1 <= k := hk; have := HNE.out; show w.heap.size <= k; omega)
 refine bodyPost_ret (q0o rfl _ _ b0 86 #[.int .i64 7, .int .i64 0, .int .i64 0, .string t.text, .slice A l.length c, .int .i64 t.at_, .int .i64 0, .int .i64 0] (0, 0) _ rfl ho.q0 Tryz.underlying86 rfl (by kernel_rfl)) rfl ?_
 exact ⟨_, rfl, ⟨_, rfl, q4z 7 0 0 t.text t.at_ 0 0 hE⟩, ho.rd, ho.bx⟩
theorem j3p {w1 : World} {base : Nat} {ok : Nat -> Prop} {e1 e2 : Ex} {cs1 cs2 : List Value} (h1 : kEx.M w1 base ok e1 cs1) (h2 : kEx.M w1 base ok e2 cs2) (hb : base <= w1.heap.size) (hok : ok w1.heap.size) : kEx.R 86 (w1.alloc (.cells (cs1 ++ cs2).toArray 86)) base ok (.slice (some ⟨w1.heap.size, 0, none⟩) 2 2) [e1, e2] := by
 have up : ∀ {e : Ex} {cs : List Value}, kEx.M w1 base ok e cs -> kEx.M (w1.alloc (.cells (cs1 ++ cs2).toArray 86)) base (fun k => ok k /\ some k ≠ (Value.slice (some ⟨w1.heap.size, 0, none⟩) 2 2).ownBlock) e cs := fun h =>
  kEx.M_mono (fun k hk => ⟨hk.1, fun e => by
   have e2 : some k = some w1.heap.size := e
   injection e2 with e2
   have := hk.2.2.1
   omega⟩) (kEx.M_move (fun k hk => Below.heap_alloc _ _ _ hk.2.2.1) (kEx.M_bound h))
 have l1 : cs1.length = kEx.sz := kEx.K_len (kEx.K_of_M h1)
 have l2 : cs2.length = kEx.sz := kEx.K_len (kEx.K_of_M h2)
 refine ⟨fun k hk => ?_, q4l.lit w1 base (ps := [e1, e2]) ⟨?_, fun j p hj => ?_⟩ hb (by simp)⟩
 ·have e2 : some w1.heap.size = some k := hk
  injection e2 with e2
  rw [<- e2]; exact hok
 ·rw [List.length_append, l1, l2]
  show kEx.sz + kEx.sz = 2 * kEx.sz
  omega
 ·cases j with
  | zero =>
   injection hj with hj
   subst hj
   rw [Nat.zero_mul, List.drop_zero, List.take_append_of_le_length (by omega), List.take_of_length_le (by omega)]
   exact up h1
  | succ j =>
   cases j with
   | zero =>
    injection hj with hj
    subst hj
    rw [show (0 + 1) * kEx.sz = cs1.length by omega, List.drop_left, List.take_of_length_le (by omega)]
    exact up h2
   | succ j => cases hj
theorem x0v (s : ByteArray) : 0 <= (q4y s).2 /\ (q4y s).2 <= 5 := by
 unfold q4y
 cases h : x2k.find? (fun p => s.toList == p.1) with
 | none => decide
 | some p =>
  have hm := List.mem_of_find?_eq_some h
  unfold x2k at hm
  simp only [List.mem_cons, List.not_mem_nil, or_false] at hm
  rcases hm with rfl | rfl | rfl | rfl | rfl | rfl | rfl | rfl | rfl | rfl | rfl | rfl | rfl <;> decide
def q7g (eb lo : Nat) (l : List Ex) (v : Value) (w : World) : Prop := kEx.R 86 w lo (fun k => lo <= k /\ k ≠ eb) v l
theorem q7g.call {eb lo g : Nat} {l : List Ex} {v : Value} {w w1 : World} (h : q7g eb lo l v w) (hx : q1s w.heap.size (· = g) w w1) (hg : g < lo) : q7g eb lo l v w1 := Kd.R_step h (fun k hk hlt => hx.block k hlt (by show k ≠ g; have := hk.1; omega))
theorem q7g.below {eb lo : Nat} {l : List Ex} {v : Value} {w w1 : World} (h : q7g eb lo l v w) (hx : Below w.heap.size w w1) : q7g eb lo l v w1 := Kd.R_step h (fun k hk hlt => hx.block k hlt)
theorem q7g.over {eb lo : Nat} {l : List Ex} {v : Value} {w : World} (h : q7g eb lo l v w) (vs : List Value) : q7g eb lo l v (j2c w eb 0 vs) := Kd.R_step h (fun k hk _ => q9n _ _ _ _ _ hk.2)
theorem x2t {B g : Nat} {R : q4e} (hR : q7i B g R) (n : Nat) {w : World} {ts : List Tok} {lv : Nat} (least : Int) (h : RD B w g ts lv) {r : Except Flt (Ex × List Tok)} (hp : q8r n R least lv ts = some r) :
  Calls Tryz.prog 194 #[.pointer (some ⟨g, 0, none⟩), .int .i64 least] w (Res B w (· = g) g lv (exV w.heap.size) r) := by
 obtain ⟨W, hW, hS⟩ := (ST.start (X := (· = g)) h rfl).push #[.int .i64 0, .int .i64 0, .int .i64 0, .string ⟨#[]⟩, .slice none 0 0, .int .i64 0, .int .i64 0, .int .i64 0] 86
 obtain ⟨b0, hb0⟩ : ∃ b, b = w.heap.size := ⟨_, rfl⟩
 rw [<- hb0] at hS
 have HR := q0h hR
 have HP := q0h hp
 unfold q8r at HP
 have HSZ := q0h (show W.heap.size = b0 + 1 by rw [hW, hb0]; simp)
 have HNE := q0h (show g < b0 /\ B <= b0 by have := h.gB; have := h.Bw; omega)
 have HW := q0h hW
 have HS := q0h hS
 have HB0 := q0h hb0
 clear h hp hR hS hW hb0
 go_enter Tryz.func194, Tryz.ntmps194
 go_wp2_with fail
 rw [<- HW.out, <- HB0.out]
 refine Res.seq HP.out HS.out (fun _ hm => HR.out.one _ _ _ _ HS.out.rd hm) ?_ ?_
 ·rintro f w' rfl hx
  have HX := q0h hx
  clear hx
  go_wp2_with fail
  exact ⟨rfl, rfl, HX.out⟩
 rintro x ts1 v w1 hm hs ⟨cs, rfl, hM⟩ hx hq
 have HS1 := q0h hs
 have HP1 := q0h hq
 have HX1 := q0h hx
 cases x with
 | mk ek eo en es l ea et ep =>
 obtain ⟨v0, rfl, hl⟩ := q2k hM
 obtain ⟨A, c, rfl⟩ := Kd.R_slice hl
 obtain ⟨W2, hW2, hS2⟩ := hs.push #[.int .i64 ek, .int .i64 eo, .int .i64 en, .string es, .slice A l.length c, .int .i64 ea, .int .i64 et, .int .i64 ep] 86
 obtain ⟨eb, heb⟩ : ∃ b, b = w1.heap.size := ⟨_, rfl⟩
 rw [<- heb] at hS2
 have HV := q0h (show q7g eb W.heap.size l (.slice A l.length c) W2 from Kd.R_mono (Kd.R_below (Kd.R_bound hl) (by rw [hW2]; exact q0d (Below.refl _ _) _)) (fun k hk => ⟨hk.1, by rw [heb]; have := hk.2.2.1; omega⟩))
 obtain ⟨lo, hlo⟩ : ∃ n, n = W.heap.size := ⟨_, rfl⟩
 rw [<- hlo] at HV
 have HLO := q0h (show b0 < lo /\ w.heap.size <= lo /\ lo <= eb /\ g < lo /\ B <= lo /\ b0 < eb by have := HSZ.out; have := HB0.out; have := HNE.out; have := hx.size; omega)
 have HW2 := q0h hW2
 have HS2 := q0h hS2
 have HEB := q0h heb
 clear hl hW2 hS2 heb hlo
 clear hm hs hx hq
 go_wp2_with fail
 rw [<- HW2.out, <- HEB.out]
 clear HW2 HEB HS1 HX1 HW HS
 go_loopg [6] n (fun k p wr => ∃ (most ek eo en : Int) (es : ByteArray) (l : List Ex) (ea et ep : Int) (A : Option Addr) (c : Nat) (ts : List Tok), p = .int .i64 most /\ Hid (ST B g lv (· = g) w wr ts [(eb, #[.int .i64 ek, .int .i64 eo, .int .i64 en, .string es, .slice A l.length c, .int .i64 ea, .int .i64 et, .int .i64 ep], 86), (b0, #[.int .i64 0, .int .i64 0, .int .i64 0, .string ⟨#[]⟩, .slice none 0 0, .int .i64 0, .int .i64 0, .int .i64 0], 86)] []) /\ Hid (q7g eb lo l (.slice A l.length c) wr) /\ Hid (q2r R least lv k most (.mk ek eo en es l ea et ep) ts = some r))
 case atStart => exact ⟨5, ek, eo, en, es, l, ea, et, ep, A, c, ts1, rfl, HS2, HV, HP1⟩
 case round =>
  clear HP1 HS2 HV
  obtain ⟨most, ek, eo, en, es, l, ea, et, ep, A, c, ts, rfl, HS, HV, HQ⟩ := hrel
  cases gk with
  | zero => exact absurd HQ.out (by intro h; cases h)
  | succ k =>
   obtain ⟨t, r0, ad, cc, hts, z0, z1, k0, k1, k2, hg, ha, hne, hc, hl, HM⟩ := HS.out.rd.head
   obtain ⟨op, hop⟩ : ∃ o, o = (q4y t.text).1 := ⟨_, rfl⟩
   obtain ⟨kk, hkk⟩ : ∃ o, o = (q4y t.text).2 := ⟨_, rfl⟩
   have hq : (if t.kind ≠ 5 \/ kk < least \/ kk > most then some (Except.ok (Ex.mk ek eo en es l ea et ep, t :: r0)) else (R.strong (kk + 1) lv).bind (fun e2 => q2r R least lv k (if kk = 3 then 2 else kk) (.mk 9 op 0 ⟨#[]⟩ [.mk ek eo en es l ea et ep, e2] t.at_ 0 0)) (q0w (t :: r0))) = some r := by
    have h := HQ.out
    rw [hts] at h
    rw [hop, hkk]
    exact h
   have hk0 : 0 <= kk := by rw [hkk]; exact (x0v _).1
   have hk5 : kk <= 5 := by rw [hkk]; exact (x0v _).2
   have HQ1 := q0h hq
   have HBO := q0h (show op = (q4y t.text).1 /\ kk = (q4y t.text).2 from ⟨hop, hkk⟩)
   have HTS := q0h hts
   obtain ⟨W3, hW3, hS3⟩ := HS.out.push #[.int .i64 t.kind, .string t.text, .int .i64 t.at_] 63
   obtain ⟨tb, htb⟩ : ∃ b, b = wr.heap.size := ⟨_, rfl⟩
   rw [<- htb] at hS3
   have HW3 := q0h hW3
   have HS3 := q0h hS3
   have HTB := q0h htb
   have HET := q0h (show eb < tb /\ b0 < tb from ⟨by rw [htb]; exact q0c HS.out.q0, by rw [htb]; exact q0c HS.out.q1⟩)
   have HV3 := q0h (HV.out.below (w1 := W3) (by rw [hW3]; exact q0d (Below.refl _ _) _))
   clear hq hop hkk hts hW3 hS3 htb
   go_wp2_with fail
   rw [<- HW3.out, <- HTB.out]
   clear z0 z1 k0 k1 k2 hg ha hne hc hl HM
   refine (x8t t.text _).mono ?_
   rintro e w4 ⟨rfl, rfl⟩
   rw [<- HBO.out.1, <- HBO.out.2]
   obtain ⟨y0, y1, y2, g0, g1, g2, ly⟩ := z4e HS3.out.q0
   by_cases hex : t.kind ≠ 5 \/ kk < least \/ kk > most
   ·have hr := q0p (show some (Except.ok (Ex.mk ek eo en es l ea et ep, ts)) = some r from by rw [<- HQ1.out, if_pos hex, HTS.out])
    subst hr
    have hor : (t.kind != 5) = true \/ ((t.kind != 5) = false /\ decide (kk < least) = true) \/ ((t.kind != 5) = false /\ decide (kk < least) = false /\ decide (kk > most) = true) := by
     by_cases h1 : t.kind = 5
     ·right
      have h1' : (t.kind != 5) = false := by simpa using h1
      by_cases h2 : kk < least
      ·exact .inl ⟨h1', by simpa using h2⟩
      ·exact .inr ⟨h1', by simpa using h2, by have h3 := (hex.resolve_left (fun h => h h1)).resolve_left h2; simpa using h3⟩
     ·exact .inl (by simpa using h1)
    clear hex
    obtain ⟨e0, e1, e2, e3, e4, e5, e6, e7, x0, x1, x2, x3, x4, x5, x6, x7⟩ := q0r HS3.out.q1
    obtain ⟨z0, z1, z2, z3, z4, z5, z6, z7, q0, q1, q2, q3, q4, q5, q6, q7⟩ := q0r HS3.out.q2
    have le := q0c HS3.out.q1
    have lz := q0c HS3.out.q2
    have nbe : ¬ b0 = eb := by have := HLO.out; omega
    have nbt : ¬ tb = b0 := by have := HET.out; omega
    have ho := (HS3.out.up2).over (.inl (by have := HB0.out; omega)) (fun p hp => by
     rcases List.mem_cons.1 hp with rfl | hp
     ·exact nbt
     ·obtain rfl : p = _ := by simpa using hp
      exact fun e => nbe e.symm) [.int .i64 ek, .int .i64 eo, .int .i64 en, .string es, .slice A l.length c, .int .i64 ea, .int .i64 et, .int .i64 ep] rfl
    have hE := Kd.R_mono (Kd.R_lower (Kd.R_step (w1 := j2c W3 b0 0 [.int .i64 ek, .int .i64 eo, .int .i64 en, .string es, .slice A l.length c, .int .i64 ea, .int .i64 et, .int .i64 ep]) HV3.out (fun k hk _ => q9n _ _ _ _ _ (by have := hk.1; have := HLO.out; omega))) (show w.heap.size <= lo by have := HLO.out; omega)) (ok' := fun k => w.heap.size <= k) (fun k hk => by have := hk.1; have := HLO.out; show w.heap.size <= k; omega)
    have HO := q0h ho
    have HEE := q0h hE
    clear ho hE
    rcases hor with h1 | ⟨h1, h2⟩ | ⟨h1, h2, h3⟩
    all_goals
     go_wp2_with fail
     refine bodyPost_ret (q0o rfl _ _ b0 86 #[.int .i64 ek, .int .i64 eo, .int .i64 en, .string es, .slice A l.length c, .int .i64 ea, .int .i64 et, .int .i64 ep] (0, 0) _ rfl HO.out.q0 Tryz.underlying86 rfl (by kernel_rfl)) rfl ?_
     exact ⟨_, rfl, ⟨_, rfl, q4z ek eo en es ea et ep HEE.out⟩, HO.out.rd, HO.out.bx⟩
   ·have hq := HQ1.out
    rw [if_neg hex] at hq
    have HQ2 := q0h hq
    have h1 : (t.kind != 5) = false := by
     have : t.kind = 5 := Classical.byContradiction fun h => hex (.inl h)
     simpa using this
    have h2 : decide (kk < least) = false := by
     have : ¬ kk < least := fun h => hex (.inr (.inl h))
     simpa using this
    have h3 : decide (kk > most) = false := by
     have : ¬ kk > most := fun h => hex (.inr (.inr h))
     simpa using this
    clear hex hq
    go_wp2_with fail
    clear h1 h2 h3 y0 y1 y2 g0 g1 g2 ly
    refine (q3z HS3.out.rd).mono ?_
    rintro e w5 ⟨rfl, hr5, hx5⟩
    rw [HTS.out] at hr5
    have HS5 := q0h (HS3.out.call hr5 hx5)
    have HV5 := q0h (HV3.out.call hx5 HLO.out.2.2.2.1)
    clear hr5 hx5
    go_wp2_with fail
    refine q2l (fun w' => w'.heap[eb]? = some (.cells #[.int .i64 ek, .int .i64 eo, .int .i64 en, .string es, .slice A l.length c, .int .i64 ea, .int .i64 et, .int .i64 ep] 86 (0, 0)) /\ w'.heap[tb]? = some (.cells #[.int .i64 t.kind, .string t.text, .int .i64 t.at_] 63 (0, 0))) 11 (by kernel_rfl) ?_
    intro X HX
    have hbx : Below w5.heap.size w5 X := by rw [HX.out]; exact q1n (Below.refl _ _)
    have HSX := q0h (HS5.out.below hbx)
    have HVX := q0h (HV5.out.below hbx)
    have HLX := q0h (show X.heap[eb]? = some (.cells #[.int .i64 ek, .int .i64 eo, .int .i64 en, .string es, .slice A l.length c, .int .i64 ea, .int .i64 et, .int .i64 ep] 86 (0, 0)) /\ X.heap[tb]? = some (.cells #[.int .i64 t.kind, .string t.text, .int .i64 t.at_] 63 (0, 0)) from ⟨HSX.out.q1, HSX.out.q0⟩)
    clear hbx
    have hwk : IntKind.i64.wrap (kk + 1) = kk + 1 := IntWalk.i64_in _ (by omega)
    refine q0m 0 ?v_1 rfl (by kernel_rfl) (fun _ _ _ h => h) HLX.out (by rfl) ?h_1 ?r_1
    case h_1 => intro w' hS'; clear hS'; go_simp; try with_reducible rfl
    refine q0m 1 ?v_2 rfl (by kernel_rfl) (fun _ _ _ h => h) HLX.out (by rfl) ?h_2 ?r_2
    case h_2 => intro w' hS'; obtain ⟨s1, s2⟩ := hS'; obtain ⟨e0, e1, e2, e3, e4, e5, e6, e7, x0, x1, x2, x3, x4, x5, x6, x7⟩ := q0r s1; have le := q0c s1; clear s1 s2; go_simp; try with_reducible rfl
    refine q0m 2 ?v_3 rfl (by kernel_rfl) (fun _ _ _ h => h) HLX.out (by rfl) ?h_3 ?r_3
    case h_3 => intro w' hS'; clear hS'; go_simp; try with_reducible rfl
    refine q0m 3 ?v_4 rfl (by kernel_rfl) (fun _ _ _ h => h) HLX.out (by rfl) ?h_4 ?r_4
    case h_4 => intro w' hS'; clear hS'; go_simp; try with_reducible rfl
    refine q0m 4 ?v_5 rfl (by kernel_rfl) (fun _ _ _ h => h) HLX.out (by rfl) ?h_5 ?r_5
    case h_5 => intro w' hS'; clear hS'; go_simp; try with_reducible rfl
    refine q0m 8 ?v_6 rfl (by kernel_rfl) (fun _ _ _ h => h) HLX.out (by rfl) ?h_6 ?r_6
    case h_6 => intro w' hS'; clear hS'; go_simp; try with_reducible rfl
    refine q0m 9 ?v_7 rfl (by kernel_rfl) (fun _ _ _ h => h) HLX.out (by rfl) ?h_7 ?r_7
    case h_7 => intro w' hS'; obtain ⟨s1, s2⟩ := hS'; obtain ⟨y0, y1, y2, g0, g1, g2, ly⟩ := z4e s2; clear s1 s2; go_simp; try with_reducible rfl
    refine q0i (i := 5) (by kernel_rfl) rfl (fun K hK => ?_)
    go_simp
    refine Res.seq HQ2.out HSX.out (fun _ hm => HR.out.strong X _ _ _ _ (by omega) (by omega) HSX.out.rd hm) ?_ ?_
    ·rintro f w' rfl hx
     have HX := q0h hx
     clear hx hK
     exact ⟨rfl, rfl, HX.out⟩
    rintro x2 ts6 v w6 hm hs ⟨cs, rfl, hM⟩ hx hq
    cases x2 with
    | mk k2 o2 n2 s2 l2 a2 t2 p2 =>
    obtain ⟨v0, rfl, hl⟩ := q2k hM
    obtain ⟨A2, c2, rfl⟩ := Kd.R_slice hl
    have HS6 := q0h hs
    have HV6 := q0h (HVX.out.call hx HLO.out.2.2.2.1)
    have HM6 := q0h hM
    have HQ6 := q0h hq
    have HSX6 := q0h hx.size
    have HEX := q0h (q0c HLX.out.1)
    clear hm hs hM hx hq hl
    refine hK _ _ (.inr ⟨HS6.out.q1, HS6.out.q0⟩) ?_
    clear hK K
    refine q0i (i := 6) (by kernel_rfl) rfl (fun K hK => ?_)
    go_simp
    obtain ⟨nb, hnb⟩ : ∃ b, b = w6.heap.size := ⟨_, rfl⟩
    obtain ⟨W7, hW7⟩ : ∃ W, W = w6.alloc (.cells #[.int .i64 ek, .int .i64 eo, .int .i64 en, .string es, .slice A l.length c, .int .i64 ea, .int .i64 et, .int .i64 ep, .int .i64 k2, .int .i64 o2, .int .i64 n2, .string s2, .slice A2 l2.length c2, .int .i64 a2, .int .i64 t2, .int .i64 p2] 86) := ⟨_, rfl⟩
    have hb7 : Below w6.heap.size w6 W7 := by rw [hW7]; exact q0d (Below.refl _ _) _
    have hR7 : kEx.R 86 W7 lo (fun k => lo <= k /\ k ≠ eb) (.slice (some ⟨nb, 0, none⟩) 2 2) [.mk ek eo en es l ea et ep, .mk k2 o2 n2 s2 l2 a2 t2 p2] := by
     have h1 := HLO.out
     have h2 := HEX.out
     have h3 := HSX6.out
     have h4 := HS6.out.bx.size
     have h5 := HSX.out.bx.size
     rw [hW7, hnb]
     exact j3p (cs1 := [.int .i64 ek, .int .i64 eo, .int .i64 en, .string es, .slice A l.length c, .int .i64 ea, .int .i64 et, .int .i64 ep]) (cs2 := [.int .i64 k2, .int .i64 o2, .int .i64 n2, .string s2, .slice A2 l2.length c2, .int .i64 a2, .int .i64 t2, .int .i64 p2]) (q4z ek eo en es ea et ep HV6.out) (kEx.M_mono (fun k hk => by have hk2 : X.heap.size <= k := hk; exact ⟨by omega, by omega⟩) (kEx.M_lower (by omega) HM6.out)) (by omega) ⟨by omega, by omega⟩
    rw [<- hW7, <- hnb]
    have HS7 := q0h (HS6.out.below hb7)
    have HR7 := q0h hR7
    clear hb7 hR7 hW7 hnb
    refine hK _ _ (.inr ⟨HS7.out.q1, HS7.out.q0⟩) ?_
    clear hK K
    refine q0i (i := 7) (by kernel_rfl) rfl (fun K hK => ?_)
    go_simp
    refine (q6d _ _ _ _).mono ?_
    rintro e w8 ⟨rfl, rfl⟩
    try simp only
    refine hK _ _ (.inr ⟨HS7.out.q1, HS7.out.q0⟩) ?_
    clear hK K
    refine q0m 10 ?v_8 rfl (by kernel_rfl) (fun _ _ _ h => h) (q0h (show W7.heap[eb]? = some _ /\ W7.heap[tb]? = some _ from ⟨HS7.out.q1, HS7.out.q0⟩)).out (by rfl) ?h_8 ?r_8
    case h_8 => intro w' hS'; clear hS'; go_simp; try with_reducible rfl
    obtain ⟨e0, e1, e2, e3, e4, e5, e6, e7, x0, x1, x2, x3, x4, x5, x6, x7⟩ := q0r HS7.out.q1
    have le := q0c HS7.out.q1
    refine q0i (i := 11) (by kernel_rfl) rfl (fun K hK => ?_)
    go_simp
    have ho := (HS7.out.drop0).over (.inl (by have := HLO.out; have := HB0.out; omega)) (fun p hp => by
     obtain rfl : p = _ := by simpa using hp
     show b0 ≠ eb
     have := HLO.out
     omega) [.int .i64 9, .int .i64 op, .int .i64 0, .string ⟨#[]⟩, .slice (some ⟨nb, 0, none⟩) 2 2, .int .i64 t.at_, .int .i64 0, .int .i64 0] rfl
    have hv := q7g.over HR7.out [.int .i64 9, .int .i64 op, .int .i64 0, .string ⟨#[]⟩, .slice (some ⟨nb, 0, none⟩) 2 2, .int .i64 t.at_, .int .i64 0, .int .i64 0]
    have HO := q0h ho
    have HVO := q0h hv
    clear ho hv e0 e1 e2 e3 e4 e5 e6 e7 x0 x1 x2 x3 x4 x5 x6 x7 le
    refine hK _ _ (.inl (by kernel_rfl)) ?_
    clear hK K
    refine q1i (by kernel_rfl) ?_ _
    by_cases h3 : kk = 3
    ·have h3' : (kk == 3) = true := by simpa using h3
     have HQ7 := q0h (show q2r R least lv k 2 _ _ = some r from by have h := HQ6.out; rw [if_pos h3] at h; exact h)
     clear h3
     go_wp2_with fail
     go_roundg k
     case measure => omega
     case rel => exact ⟨_, 9, op, 0, ⟨#[]⟩, [.mk ek eo en es l ea et ep, .mk k2 o2 n2 s2 l2 a2 t2 p2], t.at_, 0, 0, some ⟨nb, 0, none⟩, 2, ts6, rfl, HO, HVO, HQ7.out⟩
    ·have h3' : (kk == 3) = false := by simpa using h3
     have HQ7 := q0h (show q2r R least lv k kk _ _ = some r from by have h := HQ6.out; rw [if_neg h3] at h; exact h)
     clear h3
     go_wp2_with fail
     go_roundg k
     case measure => omega
     case rel => exact ⟨_, 9, op, 0, ⟨#[]⟩, [.mk ek eo en es l ea et ep, .mk k2 o2 n2 s2 l2 a2 t2 p2], t.at_, 0, 0, some ⟨nb, 0, none⟩, 2, ts6, rfl, HO, HVO, HQ7.out⟩
def j6b (num : Tok -> Int) (n : Nat) (R : q4e) (lv : Nat) (t : Tok) : PM Ex := fun ts =>
 if t.kind = 3 then some (.ok (.mk 1 0 (num t) ⟨#[]⟩ [] t.at_ 0 0, q0w ts))
 else if t.kind = 4 then some (.ok (.mk 2 0 (num t) ⟨#[]⟩ [] t.at_ 0 0, q0w ts))
 else if isT (tx [116, 114, 117, 101]) ts then some (.ok (.mk 3 0 1 ⟨#[]⟩ [] t.at_ 0 0, q0w ts))
 else if isT (tx [102, 97, 108, 115, 101]) ts then some (.ok (.mk 3 0 0 ⟨#[]⟩ [] t.at_ 0 0, q0w ts))
 else if isT (tx [110, 117, 108, 108]) ts then some (.ok (.mk 4 0 0 ⟨#[]⟩ [] t.at_ 0 0, q0w ts))
 else if isT (tx [40]) ts then q2n lv (tx [40]) (fun lv => q3b R lv) (tx [41]) ts
 else q6a.bind (fun _ ts =>
  if isT (tx [40]) ts then q8k n R lv t ts
  else if isT (tx [91]) ts then (q4m R lv).bind (fun l => .ret (.mk 6 0 0 t.text l t.at_ 0 0)) ts
  else some (.ok (.mk 5 0 0 t.text [] t.at_ 0 0, ts))) ts
theorem x8w (num : Tok -> Int) (n : Nat) (R : q4e) (lv : Nat) (ts : List Tok) : z0r num n R lv ts = j6b num n R lv (ts.headD q2m) ts := rfl
theorem x8x {num : Tok -> Int} (hN : q8v num) {B g : Nat} {R : q4e} (hR : q7i B g R) (n : Nat) (hn : n <= 1000000) {w : World} {ts : List Tok} {lv : Nat} (h : RD B w g ts lv) {r : Except Flt (Ex × List Tok)} (hp : z0r num n R lv ts = some r) :
  Calls Tryz.prog 239 #[.pointer (some ⟨g, 0, none⟩)] w (Res B w (· = g) g lv (exV w.heap.size) r) := by
 obtain ⟨t, r0, ad, cc, hts, z0, z1, k0, k1, k2, hg, ha, hne, hc, hl, HM⟩ := h.head
 rw [x8w, show ts.headD q2m = t by rw [hts]; rfl] at hp
 obtain ⟨W3, hW3, hS3⟩ := (ST.start (X := (· = g)) h rfl).push3 #[.pointer (some ⟨g, 0, none⟩)] 56 #[.int .i64 0, .int .i64 0, .int .i64 0, .string ⟨#[]⟩, .slice none 0 0, .int .i64 0, .int .i64 0, .int .i64 0] 86 #[.int .i64 t.kind, .string t.text, .int .i64 t.at_] 63
 obtain ⟨W, hW, hS⟩ := hS3.push #[.int .i64 0, .int .i64 0, .int .i64 0, .string ⟨#[]⟩, .slice none 0 0, .int .i64 t.at_, .int .i64 0, .int .i64 0] 86
 obtain ⟨tb, htb⟩ : ∃ b, b = w.heap.size + 1 + 1 := ⟨_, rfl⟩
 obtain ⟨b0, hb0⟩ : ∃ b, b = w.heap.size + 1 := ⟨_, rfl⟩
 obtain ⟨b1, hb1⟩ : ∃ b, b = w.heap.size := ⟨_, rfl⟩
 obtain ⟨eb, heb⟩ : ∃ b, b = w.heap.size + 1 + 1 + 1 := ⟨_, rfl⟩
 rw [show W3.heap.size = eb by rw [hW3, heb]; simp, <- htb, <- hb0, <- hb1] at hS
 have hWW : W = (((w.alloc (.cells #[.pointer (some ⟨g, 0, none⟩)] 56)).alloc (.cells #[.int .i64 0, .int .i64 0, .int .i64 0, .string ⟨#[]⟩, .slice none 0 0, .int .i64 0, .int .i64 0, .int .i64 0] 86)).alloc (.cells #[.int .i64 t.kind, .string t.text, .int .i64 t.at_] 63)).alloc (.cells #[.int .i64 0, .int .i64 0, .int .i64 0, .string ⟨#[]⟩, .slice none 0 0, .int .i64 t.at_, .int .i64 0, .int .i64 0] 86) := by rw [hW, hW3]
 have HSZ := q0h (show W.heap.size = eb + 1 by rw [hWW, heb]; simp)
 have HNE := q0h (show B <= b1 /\ g < b1 /\ b0 = b1 + 1 /\ tb = b0 + 1 /\ eb = tb + 1 by have := h.gB; have := h.Bw; omega)
 have HBW := q0h (show w.heap.size <= b0 by omega)
 have HEW := q0h (show w.heap.size <= eb by omega)
 have HOK := q0h (h.tk t (by rw [hts]; exact List.mem_cons_self))
 have HN := q0h hN
 have HR := q0h hR
 have HQ := q0h hp
 have HNN := q0h hn
 unfold j6b at HQ
 have HW := q0h hWW
 have HS := q0h hS
 have HB0 := q0h hb0
 have HTB := q0h htb
 have HB1 := q0h hb1
 have HEB := q0h heb
 have c1 : W.cell? ⟨b1, 0, none⟩ = some (.pointer (some ⟨g, 0, none⟩)) := (q0a hS.q3 0).trans rfl
 have l1 := q0c hS.q3
 have hmf : ∀ (fn : Fn) (first cap : Array Value) (w : World), (Instr.makeFunc fn first cap).run Tryz.prog w = .ok (.func fn first cap) w := fun _ _ _ _ => rfl
 have HCELL := q0h (show w.cell? ad = some (.int .i64 t.kind) /\ w.cell? ⟨ad.block, ad.off + 1, none⟩ = some (.string t.text) /\ w.cell? ⟨ad.block, ad.off + 2, none⟩ = some (.int .i64 t.at_) from ⟨k0, k1, k2⟩)
 clear h hp hN hR hn hS hS3 hW hW3 hWW hb0 htb hb1 heb hts
 by_cases h3 : t.kind = 3
 ·have h3' : (t.kind == 3) = true := by simpa using h3
  have hr := q0p (show some (Except.ok (Ex.mk 1 0 (num t) ⟨#[]⟩ [] t.at_ 0 0, q0w ts)) = some r from by rw [<- HQ.out]; exact (if_pos h3).symm)
  subst hr
  have HKD := q0h (show t.kind = 3 \/ t.kind = 4 by omega)
  clear h3
  go_enter Tryz.func239, Tryz.ntmps239
  go_wp2_with fail
  rw [<- HW.out, <- HEB.out, <- HTB.out, <- HB0.out, <- HB1.out]
  clear z0 z1 k0 k1 k2 hg ha hne hc hl HM HCELL
  clear c1 l1
  refine (HN.out t W HOK.out HKD.out).mono ?_
  rintro e w2 ⟨rfl, hb2⟩
  obtain ⟨nm, hnm⟩ : ∃ n, n = num t := ⟨_, rfl⟩
  rw [<- hnm]
  have HNM := q0h hnm
  have HS2 := q0h (HS.out.below hb2)
  clear hb2 hnm
  obtain ⟨y0, y1, y2, y3, y4, y5, y6, y7, f0, f1, f2, f3, f4, f5, f6, f7⟩ := q0r HS2.out.q0
  have ly := q0c HS2.out.q0
  have c1 : w2.cell? ⟨b1, 0, none⟩ = some (.pointer (some ⟨g, 0, none⟩)) := (q0a HS2.out.q3 0).trans rfl
  have l1 := q0c HS2.out.q3
  have nb : ¬ b1 = eb := by have := HNE.out; omega
  have hne' : ∀ p ∈ [(tb, (#[.int .i64 t.kind, .string t.text, .int .i64 t.at_] : Array Value), 63), (b0, #[.int .i64 0, .int .i64 0, .int .i64 0, .string ⟨#[]⟩, .slice none 0 0, .int .i64 0, .int .i64 0, .int .i64 0], 86), (b1, #[.pointer (some ⟨g, 0, none⟩)], 56)], p.1 ≠ eb := (fun p hp => by
   have hne := HNE.out
   rcases List.mem_cons.1 hp with rfl | hp
   ·show tb ≠ eb; omega
   ·rcases List.mem_cons.1 hp with rfl | hp
    ·show b0 ≠ eb; omega
    ·obtain rfl : p = _ := by simpa using hp
     show b1 ≠ eb; omega)
  have hs := ((HS2.out.set0 0 (.int .i64 1) (.inl HEW.out) hne' rfl).set0 2 (.int .i64 nm) (.inl HEW.out) hne' rfl)
  obtain ⟨W4, hW⟩ : ∃ W, W = (w2.setCell ⟨eb, 0, none⟩ (.int .i64 1)).setCell ⟨eb, 2, none⟩ (.int .i64 nm) := ⟨_, rfl⟩
  rw [<- hW] at hs
  have HS4 := q0h hs
  have HW4 := q0h hW
  clear hne' hs hW
  go_wp2_with fail
  rw [<- HW4.out]
  clear c1 l1 nb y0 f0 y1 f1 y2 f2 y3 f3 y4 f4 y5 f5 y6 f6 y7 f7 ly
  refine (q3z HS4.out.rd).mono ?_
  rintro e wn ⟨rfl, hrn, hxn⟩
  have HSn := q0h (HS4.out.call hrn hxn)
  clear hrn hxn
  have hs := HSn.out
  obtain ⟨y0, y1, y2, y3, y4, y5, y6, y7, f0, f1, f2, f3, f4, f5, f6, f7⟩ := q0r hs.q0
  have ly := q0c hs.q0
  obtain ⟨z0, z1, z2, z3, z4, z5, z6, z7, q0, q1, q2, q3, q4, q5, q6, q7⟩ := q0r hs.q2
  have lz := q0c hs.q2
  have hne := HNE.out
  have nbe : ¬ b0 = eb /\ ¬ eb = b0 /\ ¬ tb = b0 /\ ¬ b1 = b0 := by omega
  clear hne
  have ho := (hs.up2).over (.inl HBW.out) (fun p hp => by
   rcases List.mem_cons.1 hp with rfl | hp
   ·exact nbe.2.1
   ·rcases List.mem_cons.1 hp with rfl | hp
    ·exact nbe.2.2.1
    ·obtain rfl : p = _ := by simpa using hp
     exact nbe.2.2.2) [.int .i64 1, .int .i64 0, .int .i64 nm, .string ⟨#[]⟩, .slice none 0 0, .int .i64 t.at_, .int .i64 0, .int .i64 0] rfl
  have HO := q0h ho
  have HNB := q0h nbe
  clear hs ho nbe
  go_wp2_with fail
  refine bodyPost_ret (q0o rfl _ _ b0 86 #[.int .i64 1, .int .i64 0, .int .i64 nm, .string ⟨#[]⟩, .slice none 0 0, .int .i64 t.at_, .int .i64 0, .int .i64 0] (0, 0) _ rfl HO.out.q0 Tryz.underlying86 rfl (by kernel_rfl)) rfl ?_
  rw [<- HNM.out]
  exact ⟨_, rfl, ⟨_, rfl, q4z 1 0 nm ⟨#[]⟩ t.at_ 0 0 (Kd.R_nil _ _ _ _ _)⟩, HO.out.rd, HO.out.bx⟩
 ·have h3' : (t.kind == 3) = false := by simpa using h3
  by_cases h4 : t.kind = 4
  ·have hr := q0p (show some (Except.ok (Ex.mk 2 0 (num t) ⟨#[]⟩ [] t.at_ 0 0, q0w ts)) = some r from by rw [<- HQ.out]; exact ((if_neg h3).trans (if_pos h4)).symm)
   subst hr
   have h4' : (t.kind == 4) = true := by simpa using h4
   have HKD := q0h (show t.kind = 3 \/ t.kind = 4 by omega)
   clear h3 h4
   go_enter Tryz.func239, Tryz.ntmps239
   go_wp2_with fail
   rw [<- HW.out, <- HEB.out, <- HTB.out, <- HB0.out, <- HB1.out]
   clear z0 z1 k0 k1 k2 hg ha hne hc hl HM HCELL
   clear c1 l1
   refine (HN.out t W HOK.out HKD.out).mono ?_
   rintro e w2 ⟨rfl, hb2⟩
   obtain ⟨nm, hnm⟩ : ∃ n, n = num t := ⟨_, rfl⟩
   rw [<- hnm]
   have HNM := q0h hnm
   have HS2 := q0h (HS.out.below hb2)
   clear hb2 hnm
   obtain ⟨y0, y1, y2, y3, y4, y5, y6, y7, f0, f1, f2, f3, f4, f5, f6, f7⟩ := q0r HS2.out.q0
   have ly := q0c HS2.out.q0
   have c1 : w2.cell? ⟨b1, 0, none⟩ = some (.pointer (some ⟨g, 0, none⟩)) := (q0a HS2.out.q3 0).trans rfl
   have l1 := q0c HS2.out.q3
   have nb : ¬ b1 = eb := by have := HNE.out; omega
   have hne' : ∀ p ∈ [(tb, (#[.int .i64 t.kind, .string t.text, .int .i64 t.at_] : Array Value), 63), (b0, #[.int .i64 0, .int .i64 0, .int .i64 0, .string ⟨#[]⟩, .slice none 0 0, .int .i64 0, .int .i64 0, .int .i64 0], 86), (b1, #[.pointer (some ⟨g, 0, none⟩)], 56)], p.1 ≠ eb := (fun p hp => by
    have hne := HNE.out
    rcases List.mem_cons.1 hp with rfl | hp
    ·show tb ≠ eb; omega
    ·rcases List.mem_cons.1 hp with rfl | hp
     ·show b0 ≠ eb; omega
     ·obtain rfl : p = _ := by simpa using hp
      show b1 ≠ eb; omega)
   have hs := ((HS2.out.set0 0 (.int .i64 2) (.inl HEW.out) hne' rfl).set0 2 (.int .i64 nm) (.inl HEW.out) hne' rfl)
   obtain ⟨W4, hW⟩ : ∃ W, W = (w2.setCell ⟨eb, 0, none⟩ (.int .i64 2)).setCell ⟨eb, 2, none⟩ (.int .i64 nm) := ⟨_, rfl⟩
   rw [<- hW] at hs
   have HS4 := q0h hs
   have HW4 := q0h hW
   clear hne' hs hW
   go_wp2_with fail
   rw [<- HW4.out]
   clear c1 l1 nb y0 f0 y1 f1 y2 f2 y3 f3 y4 f4 y5 f5 y6 f6 y7 f7 ly
   refine (q3z HS4.out.rd).mono ?_
   rintro e wn ⟨rfl, hrn, hxn⟩
   have HSn := q0h (HS4.out.call hrn hxn)
   clear hrn hxn
   have hs := HSn.out
   obtain ⟨y0, y1, y2, y3, y4, y5, y6, y7, f0, f1, f2, f3, f4, f5, f6, f7⟩ := q0r hs.q0
   have ly := q0c hs.q0
   obtain ⟨z0, z1, z2, z3, z4, z5, z6, z7, q0, q1, q2, q3, q4, q5, q6, q7⟩ := q0r hs.q2
   have lz := q0c hs.q2
   have hne := HNE.out
   have nbe : ¬ b0 = eb /\ ¬ eb = b0 /\ ¬ tb = b0 /\ ¬ b1 = b0 := by omega
   clear hne
   have ho := (hs.up2).over (.inl HBW.out) (fun p hp => by
    rcases List.mem_cons.1 hp with rfl | hp
    ·exact nbe.2.1
    ·rcases List.mem_cons.1 hp with rfl | hp
     ·exact nbe.2.2.1
     ·obtain rfl : p = _ := by simpa using hp
      exact nbe.2.2.2) [.int .i64 2, .int .i64 0, .int .i64 nm, .string ⟨#[]⟩, .slice none 0 0, .int .i64 t.at_, .int .i64 0, .int .i64 0] rfl
   have HO := q0h ho
   have HNB := q0h nbe
   clear hs ho nbe
   go_wp2_with fail
   refine bodyPost_ret (q0o rfl _ _ b0 86 #[.int .i64 2, .int .i64 0, .int .i64 nm, .string ⟨#[]⟩, .slice none 0 0, .int .i64 t.at_, .int .i64 0, .int .i64 0] (0, 0) _ rfl HO.out.q0 Tryz.underlying86 rfl (by kernel_rfl)) rfl ?_
   rw [<- HNM.out]
   exact ⟨_, rfl, ⟨_, rfl, q4z 2 0 nm ⟨#[]⟩ t.at_ 0 0 (Kd.R_nil _ _ _ _ _)⟩, HO.out.rd, HO.out.bx⟩
  ·have h4' : (t.kind == 4) = false := by simpa using h4
   have HQ4 := q0h ((if_neg h4).symm.trans ((if_neg h3).symm.trans HQ.out))
   clear h3 h4 HQ
   go_enter Tryz.func239, Tryz.ntmps239
   go_wp2_with fail
   rw [<- HW.out, <- HEB.out, <- HTB.out, <- HB0.out, <- HB1.out]
   clear z0 z1 k0 k1 k2 hg ha hne hc hl HM HCELL
   clear h3' h4'
   have hq := HQ4.out
   obtain ⟨p0, hp0⟩ : ∃ b, b = isT (tx [116, 114, 117, 101]) ts := ⟨_, rfl⟩
   rw [<- hp0] at hq
   have HP0 := q0h hp0
   have HQx := q0h hq
   clear hq
   refine (q1t HS.out.rd (tx [116, 114, 117, 101])).mono ?_
   rintro e wa ⟨rfl, hb⟩
   rw [<- HP0.out]
   have HSa := q0h (HS.out.below hb)
   clear hb hp0 c1 l1
   have c1 : wa.cell? ⟨b1, 0, none⟩ = some (.pointer (some ⟨g, 0, none⟩)) := (q0a HSa.out.q3 0).trans rfl
   have l1 := q0c HSa.out.q3
   cases p0
   ·have HQa := q0h ((if_neg Bool.false_ne_true).symm.trans HQx.out)
    go_wp2_with fail
    have hq := HQa.out
    obtain ⟨p1, hp1⟩ : ∃ b, b = isT (tx [102, 97, 108, 115, 101]) ts := ⟨_, rfl⟩
    rw [<- hp1] at hq
    have HP1 := q0h hp1
    have HQy := q0h hq
    clear hq
    refine (q1t HSa.out.rd (tx [102, 97, 108, 115, 101])).mono ?_
    rintro e wb ⟨rfl, hb⟩
    rw [<- HP1.out]
    have HSb := q0h (HSa.out.below hb)
    clear hb hp1 c1 l1
    have c1 : wb.cell? ⟨b1, 0, none⟩ = some (.pointer (some ⟨g, 0, none⟩)) := (q0a HSb.out.q3 0).trans rfl
    have l1 := q0c HSb.out.q3
    cases p1
    ·have HQb := q0h ((if_neg Bool.false_ne_true).symm.trans HQy.out)
     go_wp2_with fail
     have hq := HQb.out
     obtain ⟨p2, hp2⟩ : ∃ b, b = isT (tx [110, 117, 108, 108]) ts := ⟨_, rfl⟩
     rw [<- hp2] at hq
     have HP2 := q0h hp2
     have HQz := q0h hq
     clear hq
     refine (q1t HSb.out.rd (tx [110, 117, 108, 108])).mono ?_
     rintro e wc ⟨rfl, hb⟩
     rw [<- HP2.out]
     have HSc := q0h (HSb.out.below hb)
     clear hb hp2 c1 l1
     have c1 : wc.cell? ⟨b1, 0, none⟩ = some (.pointer (some ⟨g, 0, none⟩)) := (q0a HSc.out.q3 0).trans rfl
     have l1 := q0c HSc.out.q3
     cases p2
     ·have HQc := q0h ((if_neg Bool.false_ne_true).symm.trans HQz.out)
      go_wp2_with fail
      have hq := HQc.out
      obtain ⟨p3, hp3⟩ : ∃ b, b = isT (tx [40]) ts := ⟨_, rfl⟩
      rw [<- hp3] at hq
      have HP3 := q0h hp3
      have HQw := q0h hq
      clear hq
      refine (q1t HSc.out.rd (tx [40])).mono ?_
      rintro e wd ⟨rfl, hb⟩
      rw [<- HP3.out]
      have HSd := q0h (HSc.out.below hb)
      clear hb hp3 c1 l1
      have c1 : wd.cell? ⟨b1, 0, none⟩ = some (.pointer (some ⟨g, 0, none⟩)) := (q0a HSd.out.q3 0).trans rfl
      have l1 := q0c HSd.out.q3
      cases p3
      ·have HQd := q0h (show q6a.bind _ ts = some r from (if_neg Bool.false_ne_true).symm.trans HQw.out)
       go_wp2_with fail
       refine Res.seq HQd.out HSd.out (fun _ hm => q8b HSd.out.rd hm) ?_ ?_
       ·rintro f w' rfl hx
        have HX := q0h hx
        clear hx
        go_wp2_with fail
        exact ⟨rfl, rfl, HX.out⟩
       rintro t9 tse v we hm hs rfl hx hq
       have HSe := q0h hs
       have HPe := q0h hq
       have HXe := q0h hx
       clear hm hs hx hq c1 l1
       have c1 : we.cell? ⟨b1, 0, none⟩ = some (.pointer (some ⟨g, 0, none⟩)) := (q0a HSe.out.q3 0).trans rfl
       have l1 := q0c HSe.out.q3
       go_wp2_with fail
       obtain ⟨p4, hp4⟩ : ∃ b, b = isT (tx [40]) tse := ⟨_, rfl⟩
       obtain ⟨p5, hp5⟩ : ∃ b, b = isT (tx [91]) tse := ⟨_, rfl⟩
       have hq := HPe.out
       try simp only at hq
       rw [<- hp4, <- hp5] at hq
       have HP4 := q0h hp4
       have HP5 := q0h hp5
       have HQe := q0h hq
       clear hq hp4 hp5
       refine (q1t HSe.out.rd (tx [40])).mono ?_
       rintro e wf ⟨rfl, hb⟩
       rw [<- HP4.out]
       have HSf := q0h (HSe.out.below hb)
       clear hb c1 l1
       have c1 : wf.cell? ⟨b1, 0, none⟩ = some (.pointer (some ⟨g, 0, none⟩)) := (q0a HSf.out.q3 0).trans rfl
       have l1 := q0c HSf.out.q3
       obtain ⟨tc0, tc1, tc2, u0, u1, u2, ltc⟩ := z4e HSf.out.q1
       cases p4
       ·clear c1 l1
        go_wp2_with fail
        clear tc0 tc1 tc2 u0 u1 u2 ltc
        refine q2l (fun w' => w'.heap[tb]? = some (.cells #[.int .i64 t.kind, .string t.text, .int .i64 t.at_] 63 (0, 0))) 5 (by kernel_rfl) ?_
        intro X HX
        have HSg := q0h (HSf.out.below (w1 := X) (by rw [HX.out]; exact q1n (Below.refl _ _)))
        have HLX := q0h (show X.heap[tb]? = some (.cells #[.int .i64 t.kind, .string t.text, .int .i64 t.at_] 63 (0, 0)) from HSg.out.q1)
        refine q0m 0 ?v_1 rfl (by kernel_rfl) (fun _ _ _ h => h) HLX.out (by rfl) ?h_1 ?r_1
        case h_1 => intro w' hS'; clear hS'; go_simp; try with_reducible rfl
        refine q0m 1 ?v_2 rfl (by kernel_rfl) (fun _ _ _ h => h) HLX.out (by rfl) ?h_2 ?r_2
        case h_2 => intro w' hS'; obtain ⟨tc0, tc1, tc2, u0, u1, u2, ltc⟩ := z4e hS'; go_simp; try with_reducible rfl
        refine q0m 2 ?v_3 rfl (by kernel_rfl) (fun _ _ _ h => h) HLX.out (by rfl) ?h_3 ?r_3
        case h_3 => intro w' hS'; clear hS'; go_simp; try with_reducible rfl
        obtain ⟨y0, y1, y2, y3, y4, y5, y6, y7, f0, f1, f2, f3, f4, f5, f6, f7⟩ := q0r HSg.out.q0
        have ly := q0c HSg.out.q0
        have hne' : ∀ p ∈ [(tb, (#[.int .i64 t.kind, .string t.text, .int .i64 t.at_] : Array Value), 63), (b0, #[.int .i64 0, .int .i64 0, .int .i64 0, .string ⟨#[]⟩, .slice none 0 0, .int .i64 0, .int .i64 0, .int .i64 0], 86), (b1, #[.pointer (some ⟨g, 0, none⟩)], 56)], p.1 ≠ eb := (fun p hp => by
         have hne := HNE.out
         rcases List.mem_cons.1 hp with rfl | hp
         ·show tb ≠ eb; omega
         ·rcases List.mem_cons.1 hp with rfl | hp
          ·show b0 ≠ eb; omega
          ·obtain rfl : p = _ := by simpa using hp
           show b1 ≠ eb; omega)
        have hs := (HSg.out.set0 0 (.int .i64 5) (.inl HEW.out) hne' rfl)
        obtain ⟨W4, hW⟩ : ∃ W, W = X.setCell ⟨eb, 0, none⟩ (.int .i64 5) := ⟨_, rfl⟩
        rw [<- hW] at hs
        have HS4 := q0h hs
        have HW4 := q0h hW
        clear hne' hs hW
        refine q0i (i := 3) (by kernel_rfl) rfl (fun K hK => ?_)
        go_simp
        rw [<- HW4.out]
        refine hK _ _ (.inr HS4.out.q1) ?_
        clear hK K y0 f0 y1 f1 y2 f2 y3 f3 y4 f4 y5 f5 y6 f6 y7 f7 ly
        refine q0m 4 ?v_4 rfl (by kernel_rfl) (fun _ _ _ h => h) (q0h (show W4.heap[tb]? = some _ from HS4.out.q1)).out (by rfl) ?h_4 ?r_4
        case h_4 => intro w' hS'; clear hS'; go_simp; try with_reducible rfl
        obtain ⟨y0, y1, y2, y3, y4, y5, y6, y7, f0, f1, f2, f3, f4, f5, f6, f7⟩ := q0r HS4.out.q0
        have ly := q0c HS4.out.q0
        have hne' : ∀ p ∈ [(tb, (#[.int .i64 t.kind, .string t.text, .int .i64 t.at_] : Array Value), 63), (b0, #[.int .i64 0, .int .i64 0, .int .i64 0, .string ⟨#[]⟩, .slice none 0 0, .int .i64 0, .int .i64 0, .int .i64 0], 86), (b1, #[.pointer (some ⟨g, 0, none⟩)], 56)], p.1 ≠ eb := (fun p hp => by
         have hne := HNE.out
         rcases List.mem_cons.1 hp with rfl | hp
         ·show tb ≠ eb; omega
         ·rcases List.mem_cons.1 hp with rfl | hp
          ·show b0 ≠ eb; omega
          ·obtain rfl : p = _ := by simpa using hp
           show b1 ≠ eb; omega)
        have hs := (HS4.out.set0 3 (.string t.text) (.inl HEW.out) hne' rfl)
        obtain ⟨W5, hW⟩ : ∃ W, W = W4.setCell ⟨eb, 3, none⟩ (.string t.text) := ⟨_, rfl⟩
        rw [<- hW] at hs
        have HS5 := q0h hs
        have HW5 := q0h hW
        clear hne' hs hW
        refine q0i (i := 5) (by kernel_rfl) rfl (fun K hK => ?_)
        go_simp
        rw [<- HW5.out]
        refine hK _ _ (.inl (by kernel_rfl)) ?_
        clear hK K y0 f0 y1 f1 y2 f2 y3 f3 y4 f4 y5 f5 y6 f6 y7 f7 ly
        refine q1i (by kernel_rfl) ?_ _
        have c1 : W5.cell? ⟨b1, 0, none⟩ = some (.pointer (some ⟨g, 0, none⟩)) := (q0a HS5.out.q3 0).trans rfl
        have l1 := q0c HS5.out.q3
        go_wp2_with fail
        refine (q1t HS5.out.rd (tx [91])).mono ?_
        rintro e wi ⟨rfl, hb⟩
        rw [<- HP5.out]
        have HSi := q0h (HS5.out.below hb)
        clear hb c1 l1
        cases p5
        ·have hr := q0p (show some (Except.ok (Ex.mk 5 0 0 t.text [] t.at_ 0 0, tse)) = some r from HQe.out)
         subst hr
         have hs := HSi.out
         obtain ⟨y0, y1, y2, y3, y4, y5, y6, y7, f0, f1, f2, f3, f4, f5, f6, f7⟩ := q0r hs.q0
         have ly := q0c hs.q0
         obtain ⟨z0, z1, z2, z3, z4, z5, z6, z7, q0, q1, q2, q3, q4, q5, q6, q7⟩ := q0r hs.q2
         have lz := q0c hs.q2
         have hne := HNE.out
         have nbe : ¬ b0 = eb /\ ¬ eb = b0 /\ ¬ tb = b0 /\ ¬ b1 = b0 := by omega
         clear hne
         have ho := (hs.up2).over (.inl HBW.out) (fun p hp => by
          rcases List.mem_cons.1 hp with rfl | hp
          ·exact nbe.2.1
          ·rcases List.mem_cons.1 hp with rfl | hp
           ·exact nbe.2.2.1
           ·obtain rfl : p = _ := by simpa using hp
            exact nbe.2.2.2) [.int .i64 5, .int .i64 0, .int .i64 0, .string t.text, .slice none 0 0, .int .i64 t.at_, .int .i64 0, .int .i64 0] rfl
         have HO := q0h ho
         have HNB := q0h nbe
         clear hs ho nbe
         go_wp2_with fail
         refine bodyPost_ret (q0o rfl _ _ b0 86 #[.int .i64 5, .int .i64 0, .int .i64 0, .string t.text, .slice none 0 0, .int .i64 t.at_, .int .i64 0, .int .i64 0] (0, 0) _ rfl HO.out.q0 Tryz.underlying86 rfl (by kernel_rfl)) rfl ?_
         exact ⟨_, rfl, ⟨_, rfl, q4z 5 0 0 t.text t.at_ 0 0 (Kd.R_nil _ _ _ _ _)⟩, HO.out.rd, HO.out.bx⟩
        ·have HQi := q0h (show (q4m R lv).bind (fun l => .ret (.mk 6 0 0 t.text l t.at_ 0 0)) tse = some r from HQe.out)
         have c1 : wi.cell? ⟨b1, 0, none⟩ = some (.pointer (some ⟨g, 0, none⟩)) := (q0a HSi.out.q3 0).trans rfl
         have l1 := q0c HSi.out.q3
         go_wp2_with fail
         clear c1 l1
         refine Res.seq HQi.out HSi.out (fun _ hm => z6p HR.out HSi.out.rd hm) ?_ ?_
         ·rintro f w' rfl hx
          have HX := q0h hx
          clear hx
          go_wp2_with fail
          exact ⟨rfl, rfl, HX.out⟩
         rintro l tsj v wj hm hs hv hx hq
         have HSj0 := q0h hs
         have HPj := q0h hq
         obtain ⟨A2, c2, rfl⟩ := Kd.R_slice hv
         have HSj := q0h (HSi.out.hold hs hx.size (q1z hv) (q1l _ _ _ _ _ _))
         have HSX := q0h (show w.heap.size <= wi.heap.size from HSi.out.bx.size)
         clear hm hs hx hq hv HSj0
         have hr := q0p HPj.out
         subst hr
         obtain ⟨y0, y1, y2, y3, y4, y5, y6, y7, f0, f1, f2, f3, f4, f5, f6, f7⟩ := q0r HSj.out.q0
         have ly := q0c HSj.out.q0
         have hne' : ∀ p ∈ [(tb, (#[.int .i64 t.kind, .string t.text, .int .i64 t.at_] : Array Value), 63), (b0, #[.int .i64 0, .int .i64 0, .int .i64 0, .string ⟨#[]⟩, .slice none 0 0, .int .i64 0, .int .i64 0, .int .i64 0], 86), (b1, #[.pointer (some ⟨g, 0, none⟩)], 56)], p.1 ≠ eb := (fun p hp => by
          have hne := HNE.out
          rcases List.mem_cons.1 hp with rfl | hp
          ·show tb ≠ eb; omega
          ·rcases List.mem_cons.1 hp with rfl | hp
           ·show b0 ≠ eb; omega
           ·obtain rfl : p = _ := by simpa using hp
            show b1 ≠ eb; omega)
         have hs := ((HSj.out.set0 0 (.int .i64 6) (.inl HEW.out) hne' rfl).set0 4 (.slice A2 l.length c2) (.inl HEW.out) hne' rfl)
         obtain ⟨W6, hW⟩ : ∃ W, W = (wj.setCell ⟨eb, 0, none⟩ (.int .i64 6)).setCell ⟨eb, 4, none⟩ (.slice A2 l.length c2) := ⟨_, rfl⟩
         rw [<- hW] at hs
         have HS6 := q0h hs
         have HW6 := q0h hW
         clear hne' hs hW
         obtain ⟨z0, z1, z2, z3, z4, z5, z6, z7, q0, q1, q2, q3, q4, q5, q6, q7⟩ := q0r HSj.out.q2
         have lz := q0c HSj.out.q2
         have hne := HNE.out
         have nbe : ¬ b0 = eb /\ ¬ eb = b0 /\ ¬ tb = b0 /\ ¬ b1 = b0 := by omega
         clear hne
         have ho := (HS6.out.up2).over (.inl HBW.out) (fun p hp => by
          rcases List.mem_cons.1 hp with rfl | hp
          ·exact nbe.2.1
          ·rcases List.mem_cons.1 hp with rfl | hp
           ·exact nbe.2.2.1
           ·obtain rfl : p = _ := by simpa using hp
            exact nbe.2.2.2) [.int .i64 6, .int .i64 0, .int .i64 0, .string t.text, .slice A2 l.length c2, .int .i64 t.at_, .int .i64 0, .int .i64 0] rfl
         have HO := q0h ho
         clear ho
         go_wp2_with fail
         rw [<- HW6.out]
         refine bodyPost_ret (q0o rfl _ _ b0 86 #[.int .i64 6, .int .i64 0, .int .i64 0, .string t.text, .slice A2 l.length c2, .int .i64 t.at_, .int .i64 0, .int .i64 0] (0, 0) _ rfl HO.out.q0 Tryz.underlying86 rfl (by kernel_rfl)) rfl ?_
         exact ⟨_, rfl, ⟨_, rfl, q4z 6 0 0 t.text t.at_ 0 0 (q2i.out HO.out.k0 HSX.out)⟩, HO.out.rd, HO.out.bx⟩
       ·have HQf := q0h (show q8k n R lv t tse = some r from HQe.out)
        go_wp2_with fail
        refine Res.last HSf.out (x0u HR.out n HNN.out HSf.out.rd t HQf.out) ?_ ?_
        ·rintro f w' rfl hx
         have HX := q0h hx
         clear hx
         go_wp2_with fail
         exact ⟨rfl, rfl, HX.out⟩
        rintro x ts2 v wh hm hs ⟨cs, rfl, hM⟩ hx rfl
        cases x with
        | mk k2 o2 n2 s2 l2 a2 t2 p2 =>
        obtain ⟨v0, rfl, hl⟩ := q2k hM
        obtain ⟨A2, c2, rfl⟩ := Kd.R_slice hl
        have HSh := q0h (HSf.out.hold hs hx.size (q1z hl) (q1l _ _ _ _ _ _))
        have HSX := q0h (show w.heap.size <= wf.heap.size from HSf.out.bx.size)
        clear hm hs hM hx hl c1 l1 tc0 tc1 tc2 u0 u1 u2 ltc
        have hs := HSh.out
        obtain ⟨z0, z1, z2, z3, z4, z5, z6, z7, q0, q1, q2, q3, q4, q5, q6, q7⟩ := q0r hs.q2
        have lz := q0c hs.q2
        have hne := HNE.out
        have nbe : ¬ b0 = eb /\ ¬ eb = b0 /\ ¬ tb = b0 /\ ¬ b1 = b0 := by omega
        have ho := (hs.up2).over (.inl HBW.out) (fun p hp => by
         rcases List.mem_cons.1 hp with rfl | hp
         ·exact nbe.2.1
         ·rcases List.mem_cons.1 hp with rfl | hp
          ·exact nbe.2.2.1
          ·obtain rfl : p = _ := by simpa using hp
           exact nbe.2.2.2) [.int .i64 k2, .int .i64 o2, .int .i64 n2, .string s2, .slice A2 l2.length c2, .int .i64 a2, .int .i64 t2, .int .i64 p2] rfl
        have HO := q0h ho
        clear hs ho nbe hne
        go_wp2_with fail
        refine bodyPost_ret (q0o rfl _ _ b0 86 #[.int .i64 k2, .int .i64 o2, .int .i64 n2, .string s2, .slice A2 l2.length c2, .int .i64 a2, .int .i64 t2, .int .i64 p2] (0, 0) _ rfl HO.out.q0 Tryz.underlying86 rfl (by kernel_rfl)) rfl ?_
        exact ⟨_, rfl, ⟨_, rfl, q4z k2 o2 n2 s2 a2 t2 p2 (q2i.out HO.out.k0 HSX.out)⟩, HO.out.rd, HO.out.bx⟩
      ·have HQp := q0h (show q2n lv (tx [40]) (fun lv => q3b R lv) (tx [41]) ts = some r from HQw.out)
       have hne := HNE.out
       have hsz := HSd.out.bx.size
       have hle := q0c HSd.out.q0
       have hB := HNE.out.1
       have HC := q0h (q6w HSd.out.rd (fun k => k = g \/ k = eb) (.inl rfl) (fun k hk => by rcases hk with rfl | rfl; exact HSd.out.rd.lt; exact hle) 246 #[.pointer (some ⟨b1, 0, none⟩), .pointer (some ⟨eb, 0, none⟩)] x8u (fun lv => q3b R lv) (j2b eb) (tx [40]) (tx [41])
        (x4q b1 eb g) (x4r HR.out wd (lv + 1) b1 eb hB (by omega)) ⟨HSd.out.q3, _, _, _, _, _, _, _, _, HSd.out.q0⟩ (fun w1 w2 hp hx => by
         obtain ⟨p1, o0, o1, o2, o3, o4, o5, o6, o7, p2⟩ := hp
         exact ⟨q3c hx p1 (by omega), o0, o1, o2, o3, o4, o5, o6, o7, q3c hx p2 (by omega)⟩) (fun w1 w2 l hs hx => hs.keep hx (by omega)) HQp.out)
       have HSd2 := q0h HSd.out.drop0
       clear hne hsz hle hB
       go_wp2_with fail
       clear c1 l1 hmf
       refine HC.out.mono ?_
       intro e' wp hres
       cases r with
       | error f =>
        obtain ⟨rfl, hx⟩ := hres
        have HX := q0h (HSd2.out.bx.comp hx (fun k hk h1 => by
         rcases h1 with h1 | h1
         ·exact h1
         ·have := HEW.out; omega))
        clear hx
        go_wp2_with fail
        exact ⟨rfl, rfl, HX.out⟩
       | ok q =>
        obtain ⟨x, ts2⟩ := q
        obtain ⟨v, rfl, ⟨rfl, k2, o2, n2, s2, A2, l2, c2, a2, t2, p2, rfl, q3, q4⟩, hr, hx⟩ := hres
        have hne := HNE.out
        have hs5 := (HSd2.out.callX hr hx (fun i hi h1 => by
         rcases h1 with h1 | h1
         ·exact h1
         ·have := HEW.out; omega) (fun p hp => by
         rcases List.mem_cons.1 hp with rfl | hp
         ·show ¬ (tb = g \/ tb = eb); omega
         ·rcases List.mem_cons.1 hp with rfl | hp
          ·show ¬ (b0 = g \/ b0 = eb); omega
          ·obtain rfl : p = _ := by simpa using hp
           show ¬ (b1 = g \/ b1 = eb); omega) (fun q hq => by cases hq)).add eb _ _ (by omega) q3 (fun q hq => by cases hq)
        have HSp := q0h hs5
        have HEp := q0h q4
        clear hr hx q3 q4 hs5 hne
        have hs := HSp.out
        obtain ⟨y0, y1, y2, y3, y4, y5, y6, y7, f0, f1, f2, f3, f4, f5, f6, f7⟩ := q0r hs.q0
        have ly := q0c hs.q0
        obtain ⟨z0, z1, z2, z3, z4, z5, z6, z7, q0, q1, q2, q3, q4, q5, q6, q7⟩ := q0r hs.q2
        have lz := q0c hs.q2
        have hne := HNE.out
        have nbe : ¬ b0 = eb /\ ¬ eb = b0 /\ ¬ tb = b0 /\ ¬ b1 = b0 := by omega
        clear hne
        have ho := (hs.up2).over (.inl HBW.out) (fun p hp => by
         rcases List.mem_cons.1 hp with rfl | hp
         ·exact nbe.2.1
         ·rcases List.mem_cons.1 hp with rfl | hp
          ·exact nbe.2.2.1
          ·obtain rfl : p = _ := by simpa using hp
           exact nbe.2.2.2) [.int .i64 k2, .int .i64 o2, .int .i64 n2, .string s2, .slice A2 l2.length c2, .int .i64 a2, .int .i64 t2, .int .i64 p2] rfl
        have HO := q0h ho
        have HNB := q0h nbe
        clear hs ho nbe
        go_wp2_with fail
        have hE := Kd.R_mono (Kd.R_lower (Kd.R_step (w1 := j2c wp b0 0 [.int .i64 k2, .int .i64 o2, .int .i64 n2, .string s2, .slice A2 l2.length c2, .int .i64 a2, .int .i64 t2, .int .i64 p2]) HEp.out (fun k hk _ => q9n _ _ _ _ _ (by have h3 : eb + 1 <= k := hk; have := HNE.out; omega))) (show w.heap.size <= eb + 1 by have := HEW.out; omega)) (ok' := fun k => w.heap.size <= k) (fun k hk => by have h3 : eb + 1 <= k := hk; have := HEW.out; show w.heap.size <= k; omega)
        refine bodyPost_ret (q0o rfl _ _ b0 86 #[.int .i64 k2, .int .i64 o2, .int .i64 n2, .string s2, .slice A2 l2.length c2, .int .i64 a2, .int .i64 t2, .int .i64 p2] (0, 0) _ rfl HO.out.q0 Tryz.underlying86 rfl (by kernel_rfl)) rfl ?_
        exact ⟨_, rfl, ⟨_, rfl, q4z k2 o2 n2 s2 a2 t2 p2 hE⟩, HO.out.rd, HO.out.bx⟩
     ·have hr := q0p (show some (Except.ok (Ex.mk 4 0 0 ⟨#[]⟩ [] t.at_ 0 0, q0w ts)) = some r from HQz.out)
      subst hr
      obtain ⟨y0, y1, y2, y3, y4, y5, y6, y7, f0, f1, f2, f3, f4, f5, f6, f7⟩ := q0r HSc.out.q0
      have ly := q0c HSc.out.q0
      have nb : ¬ b1 = eb := by have := HNE.out; omega
      have hne' : ∀ p ∈ [(tb, (#[.int .i64 t.kind, .string t.text, .int .i64 t.at_] : Array Value), 63), (b0, #[.int .i64 0, .int .i64 0, .int .i64 0, .string ⟨#[]⟩, .slice none 0 0, .int .i64 0, .int .i64 0, .int .i64 0], 86), (b1, #[.pointer (some ⟨g, 0, none⟩)], 56)], p.1 ≠ eb := (fun p hp => by
       have hne := HNE.out
       rcases List.mem_cons.1 hp with rfl | hp
       ·show tb ≠ eb; omega
       ·rcases List.mem_cons.1 hp with rfl | hp
        ·show b0 ≠ eb; omega
        ·obtain rfl : p = _ := by simpa using hp
         show b1 ≠ eb; omega)
      have hs := (HSc.out.set0 0 (.int .i64 4) (.inl HEW.out) hne' rfl)
      obtain ⟨W4, hW⟩ : ∃ W, W = wc.setCell ⟨eb, 0, none⟩ (.int .i64 4) := ⟨_, rfl⟩
      rw [<- hW] at hs
      have HS4 := q0h hs
      have HW4 := q0h hW
      clear hne' hs hW
      go_wp2_with fail
      rw [<- HW4.out]
      clear c1 l1 nb y0 f0 y1 f1 y2 f2 y3 f3 y4 f4 y5 f5 y6 f6 y7 f7 ly
      refine (q3z HS4.out.rd).mono ?_
      rintro e wn ⟨rfl, hrn, hxn⟩
      have HSn := q0h (HS4.out.call hrn hxn)
      clear hrn hxn
      have hs := HSn.out
      obtain ⟨y0, y1, y2, y3, y4, y5, y6, y7, f0, f1, f2, f3, f4, f5, f6, f7⟩ := q0r hs.q0
      have ly := q0c hs.q0
      obtain ⟨z0, z1, z2, z3, z4, z5, z6, z7, q0, q1, q2, q3, q4, q5, q6, q7⟩ := q0r hs.q2
      have lz := q0c hs.q2
      have hne := HNE.out
      have nbe : ¬ b0 = eb /\ ¬ eb = b0 /\ ¬ tb = b0 /\ ¬ b1 = b0 := by omega
      clear hne
      have ho := (hs.up2).over (.inl HBW.out) (fun p hp => by
       rcases List.mem_cons.1 hp with rfl | hp
       ·exact nbe.2.1
       ·rcases List.mem_cons.1 hp with rfl | hp
        ·exact nbe.2.2.1
        ·obtain rfl : p = _ := by simpa using hp
         exact nbe.2.2.2) [.int .i64 4, .int .i64 0, .int .i64 0, .string ⟨#[]⟩, .slice none 0 0, .int .i64 t.at_, .int .i64 0, .int .i64 0] rfl
      have HO := q0h ho
      have HNB := q0h nbe
      clear hs ho nbe
      go_wp2_with fail
      refine bodyPost_ret (q0o rfl _ _ b0 86 #[.int .i64 4, .int .i64 0, .int .i64 0, .string ⟨#[]⟩, .slice none 0 0, .int .i64 t.at_, .int .i64 0, .int .i64 0] (0, 0) _ rfl HO.out.q0 Tryz.underlying86 rfl (by kernel_rfl)) rfl ?_
      exact ⟨_, rfl, ⟨_, rfl, q4z 4 0 0 ⟨#[]⟩ t.at_ 0 0 (Kd.R_nil _ _ _ _ _)⟩, HO.out.rd, HO.out.bx⟩
    ·have hr := q0p (show some (Except.ok (Ex.mk 3 0 0 ⟨#[]⟩ [] t.at_ 0 0, q0w ts)) = some r from HQy.out)
     subst hr
     obtain ⟨y0, y1, y2, y3, y4, y5, y6, y7, f0, f1, f2, f3, f4, f5, f6, f7⟩ := q0r HSb.out.q0
     have ly := q0c HSb.out.q0
     have nb : ¬ b1 = eb := by have := HNE.out; omega
     have hne' : ∀ p ∈ [(tb, (#[.int .i64 t.kind, .string t.text, .int .i64 t.at_] : Array Value), 63), (b0, #[.int .i64 0, .int .i64 0, .int .i64 0, .string ⟨#[]⟩, .slice none 0 0, .int .i64 0, .int .i64 0, .int .i64 0], 86), (b1, #[.pointer (some ⟨g, 0, none⟩)], 56)], p.1 ≠ eb := (fun p hp => by
      have hne := HNE.out
      rcases List.mem_cons.1 hp with rfl | hp
      ·show tb ≠ eb; omega
      ·rcases List.mem_cons.1 hp with rfl | hp
       ·show b0 ≠ eb; omega
       ·obtain rfl : p = _ := by simpa using hp
        show b1 ≠ eb; omega)
     have hs := (HSb.out.set0 0 (.int .i64 3) (.inl HEW.out) hne' rfl)
     obtain ⟨W4, hW⟩ : ∃ W, W = wb.setCell ⟨eb, 0, none⟩ (.int .i64 3) := ⟨_, rfl⟩
     rw [<- hW] at hs
     have HS4 := q0h hs
     have HW4 := q0h hW
     clear hne' hs hW
     go_wp2_with fail
     rw [<- HW4.out]
     clear c1 l1 nb y0 f0 y1 f1 y2 f2 y3 f3 y4 f4 y5 f5 y6 f6 y7 f7 ly
     refine (q3z HS4.out.rd).mono ?_
     rintro e wn ⟨rfl, hrn, hxn⟩
     have HSn := q0h (HS4.out.call hrn hxn)
     clear hrn hxn
     have hs := HSn.out
     obtain ⟨y0, y1, y2, y3, y4, y5, y6, y7, f0, f1, f2, f3, f4, f5, f6, f7⟩ := q0r hs.q0
     have ly := q0c hs.q0
     obtain ⟨z0, z1, z2, z3, z4, z5, z6, z7, q0, q1, q2, q3, q4, q5, q6, q7⟩ := q0r hs.q2
     have lz := q0c hs.q2
     have hne := HNE.out
     have nbe : ¬ b0 = eb /\ ¬ eb = b0 /\ ¬ tb = b0 /\ ¬ b1 = b0 := by omega
     clear hne
     have ho := (hs.up2).over (.inl HBW.out) (fun p hp => by
      rcases List.mem_cons.1 hp with rfl | hp
      ·exact nbe.2.1
      ·rcases List.mem_cons.1 hp with rfl | hp
       ·exact nbe.2.2.1
       ·obtain rfl : p = _ := by simpa using hp
        exact nbe.2.2.2) [.int .i64 3, .int .i64 0, .int .i64 0, .string ⟨#[]⟩, .slice none 0 0, .int .i64 t.at_, .int .i64 0, .int .i64 0] rfl
     have HO := q0h ho
     have HNB := q0h nbe
     clear hs ho nbe
     go_wp2_with fail
     refine bodyPost_ret (q0o rfl _ _ b0 86 #[.int .i64 3, .int .i64 0, .int .i64 0, .string ⟨#[]⟩, .slice none 0 0, .int .i64 t.at_, .int .i64 0, .int .i64 0] (0, 0) _ rfl HO.out.q0 Tryz.underlying86 rfl (by kernel_rfl)) rfl ?_
     exact ⟨_, rfl, ⟨_, rfl, q4z 3 0 0 ⟨#[]⟩ t.at_ 0 0 (Kd.R_nil _ _ _ _ _)⟩, HO.out.rd, HO.out.bx⟩
   ·have hr := q0p (show some (Except.ok (Ex.mk 3 0 1 ⟨#[]⟩ [] t.at_ 0 0, q0w ts)) = some r from HQx.out)
    subst hr
    obtain ⟨y0, y1, y2, y3, y4, y5, y6, y7, f0, f1, f2, f3, f4, f5, f6, f7⟩ := q0r HSa.out.q0
    have ly := q0c HSa.out.q0
    have nb : ¬ b1 = eb := by have := HNE.out; omega
    have hne' : ∀ p ∈ [(tb, (#[.int .i64 t.kind, .string t.text, .int .i64 t.at_] : Array Value), 63), (b0, #[.int .i64 0, .int .i64 0, .int .i64 0, .string ⟨#[]⟩, .slice none 0 0, .int .i64 0, .int .i64 0, .int .i64 0], 86), (b1, #[.pointer (some ⟨g, 0, none⟩)], 56)], p.1 ≠ eb := (fun p hp => by
     have hne := HNE.out
     rcases List.mem_cons.1 hp with rfl | hp
     ·show tb ≠ eb; omega
     ·rcases List.mem_cons.1 hp with rfl | hp
      ·show b0 ≠ eb; omega
      ·obtain rfl : p = _ := by simpa using hp
       show b1 ≠ eb; omega)
    have hs := ((HSa.out.set0 0 (.int .i64 3) (.inl HEW.out) hne' rfl).set0 2 (.int .i64 1) (.inl HEW.out) hne' rfl)
    obtain ⟨W4, hW⟩ : ∃ W, W = (wa.setCell ⟨eb, 0, none⟩ (.int .i64 3)).setCell ⟨eb, 2, none⟩ (.int .i64 1) := ⟨_, rfl⟩
    rw [<- hW] at hs
    have HS4 := q0h hs
    have HW4 := q0h hW
    clear hne' hs hW
    go_wp2_with fail
    rw [<- HW4.out]
    clear c1 l1 nb y0 f0 y1 f1 y2 f2 y3 f3 y4 f4 y5 f5 y6 f6 y7 f7 ly
    refine (q3z HS4.out.rd).mono ?_
    rintro e wn ⟨rfl, hrn, hxn⟩
    have HSn := q0h (HS4.out.call hrn hxn)
    clear hrn hxn
    have hs := HSn.out
    obtain ⟨y0, y1, y2, y3, y4, y5, y6, y7, f0, f1, f2, f3, f4, f5, f6, f7⟩ := q0r hs.q0
    have ly := q0c hs.q0
    obtain ⟨z0, z1, z2, z3, z4, z5, z6, z7, q0, q1, q2, q3, q4, q5, q6, q7⟩ := q0r hs.q2
    have lz := q0c hs.q2
    have hne := HNE.out
    have nbe : ¬ b0 = eb /\ ¬ eb = b0 /\ ¬ tb = b0 /\ ¬ b1 = b0 := by omega
    clear hne
    have ho := (hs.up2).over (.inl HBW.out) (fun p hp => by
     rcases List.mem_cons.1 hp with rfl | hp
     ·exact nbe.2.1
     ·rcases List.mem_cons.1 hp with rfl | hp
      ·exact nbe.2.2.1
      ·obtain rfl : p = _ := by simpa using hp
       exact nbe.2.2.2) [.int .i64 3, .int .i64 0, .int .i64 1, .string ⟨#[]⟩, .slice none 0 0, .int .i64 t.at_, .int .i64 0, .int .i64 0] rfl
    have HO := q0h ho
    have HNB := q0h nbe
    clear hs ho nbe
    go_wp2_with fail
    refine bodyPost_ret (q0o rfl _ _ b0 86 #[.int .i64 3, .int .i64 0, .int .i64 1, .string ⟨#[]⟩, .slice none 0 0, .int .i64 t.at_, .int .i64 0, .int .i64 0] (0, 0) _ rfl HO.out.q0 Tryz.underlying86 rfl (by kernel_rfl)) rfl ?_
    exact ⟨_, rfl, ⟨_, rfl, q4z 3 0 1 ⟨#[]⟩ t.at_ 0 0 (Kd.R_nil _ _ _ _ _)⟩, HO.out.rd, HO.out.bx⟩
end Go.Proofs.YtpfdhihbecpbeaaGreatDoor.E
