import Derived.Test.YtpfdhihbecpbeaaGreatDoorKA
import Derived.Defers
import Derived.Recover
/- Contracts of the program's functions, and lemmas: no statement of its own. -/
namespace Go.Proofs.YtpfdhihbecpbeaaGreatDoor.E
open Go Go.RowKit Go.Proofs.YtpfdhihbecpbeaaGreatDoorW.PrintWords Go.Proofs.YtpfdhihbecpbeaaGreatDoorW.PrintLast Go.Proofs.YtpfdhihbecpbeaaGreatDoorW.PrintMore
set_option linter.unusedVariables false
set_option linter.unusedSimpArgs false
set_option maxRecDepth 100000
set_option maxHeartbeats 4000000
def q8v (num : Tok -> Int) : Prop := ∀ (t : Tok) (w : World), z1o t -> (t.kind = 3 \/ t.kind = 4) -> Calls Tryz.prog 68 #[x4l t] w fun e w' => e = .returned (.int .i64 (num t)) /\ Below w.heap.size w w'
theorem q0p {α : Type} {a b : α} (h : some a = some b) : b = a := by injection h with h; exact h.symm
theorem x2n {num : Tok -> Int} (hN : q8v num) {B : Nat} {w : World} {g : Nat} {ts : List Tok} {lv : Nat} (h : RD B w g ts lv) (t : Int) (h3 : t ≠ 3) (h4 : t ≠ 4) (h12 : t = 1 \/ t = 2) {r : Except Flt (Int × List Tok)} (hp : q9k num t ts = some r) :
  Calls Tryz.prog 71 #[.pointer (some ⟨g, 0, none⟩), .int .i64 t] w (Res B w (· = g) g lv (fun _ a v => v = .int .i64 a) r) := by
 have HH := q0h h
 have HN := q0h hN
 have H12 := q0h h12
 unfold q9k at hp
 rw [if_neg h3, if_neg h4] at hp
 obtain ⟨b, hb⟩ : ∃ b, b = isT (tx [45]) ts := ⟨_, rfl⟩
 obtain ⟨ts1, hts1⟩ : ∃ l, l = if isT (tx [45]) ts = true then q0w ts else ts := ⟨_, rfl⟩
 have hq : q6g num t (if b then -1 else 1) ts1 = some r := by
  rw [hts1, <- hb]
  unfold PM.bind z4a at hp
  rw [<- hb] at hp
  cases b <;> exact hp
 have HQ := q0h hq
 have HB := q0h hb
 have HT := q0h hts1
 have z3 : (t == 3) = false := by simpa using h3
 have z4 : (t == 4) = false := by simpa using h4
 clear h hN hp hq hb hts1 h3 h4 h12
 obtain ⟨sg, hsg⟩ : ∃ s : Int, s = if b then -1 else 1 := ⟨_, rfl⟩
 have HSG := q0h hsg
 cases b
 all_goals
  have hs1 := HSG.out
  simp only [if_true, Bool.false_eq_true, if_false] at hs1
  subst hs1
  clear hsg HSG
  go_enter Tryz.func71, Tryz.ntmps71
  go_wp2_with fail
  refine (q2b HH.out (tx [45])).mono ?_
  rintro e w1 ⟨rfl, hr1, hx1⟩
  rw [<- HT.out] at hr1
  rw [<- HB.out]
  have HR1 := q0h hr1
  have HX1 := q0h hx1
  obtain ⟨t1, r1, ad, c, hts, c0, c1, k0, k1, k2, hg, ha, hne, hc, hl, HM⟩ := hr1.head
  subst hts
  clear hr1 hx1
  obtain ⟨a, ha1⟩ : ∃ a, a = ((t1 :: r1).headD q2m).at_ := ⟨_, rfl⟩
  have HA := q0h ha1
  clear ha1
  have hq := HQ.out
  unfold q6g at hq
  simp only [List.headD_cons, if_true, Bool.false_eq_true, if_false] at hq
  by_cases hbad : (t = 1 /\ t1.kind ≠ 3) \/ (t = 2 /\ t1.kind ≠ 4)
  ·rw [if_pos hbad] at hq
   have hr := q0p (show some (Except.error (90, ((t1 :: r1).headD q2m).at_)) = some r from hq)
   rw [<- HA.out] at hr
   subst hr
   clear hq
   rcases hbad with ⟨e1, e2⟩ | ⟨e1, e2⟩
   ·subst e1
    have e3 : (t1.kind != 3) = true := by simpa using e2
    clear e2
    go_wp2_with fail
    refine (q4a HR1.out 90 a HA.out).mono ?_
    rintro e w2 ⟨rfl, rfl⟩
    go_wp2_with fail
    exact ⟨rfl, rfl, HX1.out⟩
   ·subst e1
    have e3 : (t1.kind != 4) = true := by simpa using e2
    clear e2
    go_wp2_with fail
    refine (q4a HR1.out 90 a HA.out).mono ?_
    rintro e w2 ⟨rfl, rfl⟩
    go_wp2_with fail
    exact ⟨rfl, rfl, HX1.out⟩
  ·rw [if_neg hbad] at hq
   have hr := q0p hq
   subst hr
   have hok := HR1.out.tk t1 (List.mem_cons_self ..)
   have HOK := q0h hok
   have HKD := q0h (show t1.kind = 3 \/ t1.kind = 4 by
    rcases H12.out with e | e
    ·exact .inl (Classical.byContradiction fun hk => hbad (.inl ⟨e, hk⟩))
    ·exact .inr (Classical.byContradiction fun hk => hbad (.inr ⟨e, hk⟩)))
   have hcase : ((t == 1) = true /\ (t1.kind != 3) = false) \/ ((t == 1) = false /\ (t == 2) = true /\ (t1.kind != 4) = false) \/ ((t == 1) = false /\ (t == 2) = false) := by
    by_cases y1 : t = 1
    ·left
     refine ⟨by simpa using y1, ?_⟩
     have : t1.kind = 3 := Classical.byContradiction fun hk => hbad (.inl ⟨y1, hk⟩)
     simpa using this
    ·by_cases y2 : t = 2
     ·right; left
      refine ⟨by simpa using y1, by simpa using y2, ?_⟩
      have : t1.kind = 4 := Classical.byContradiction fun hk => hbad (.inr ⟨y2, hk⟩)
      simpa using this
     ·exact .inr (.inr ⟨by simpa using y1, by simpa using y2⟩)
   clear hq hok hbad
   rcases hcase with ⟨y1, y2⟩ | ⟨y1, y2, y3⟩ | ⟨y1, y2⟩
   all_goals
    go_wp2_with fail
    refine (q3z HR1.out).mono ?_
    rintro e w2 ⟨rfl, hr2, hx2⟩
    have HR2 := q0h hr2
    have HX2 := q0h (HX1.out.next hx2)
    clear hr2 hx2
    go_wp2_with fail
    refine (HN.out t1 w2 HOK.out HKD.out).mono ?_
    rintro e w3 ⟨rfl, hx3⟩
    have HR3 := q0h (HR2.out.below hx3)
    have HX3 := q0h (HX2.out.next (q1m hx3))
    obtain ⟨nm, hnm⟩ : ∃ n, n = num t1 := ⟨_, rfl⟩
    rw [<- hnm]
    have HNM := q0h hnm
    clear hx3 hnm
    go_wp2_with fail
    go_ret
    refine ⟨_, rfl, ?_, HR3.out, HX3.out⟩
    rw [<- HNM.out]
    first
     | (show Value.int .i64 (wrap64 nm) = Value.int .i64 (wrap64 (1 * nm)); rw [Int.one_mul])
     | (show Value.int .i64 (wrap64 (-nm)) = Value.int .i64 (wrap64 (-1 * nm)); rw [Int.neg_one_mul])
theorem x4o {ts ts' : List Tok} {a : Int} (h : q2v ts = some (.ok (a, ts'))) : a = 1 \/ a = 2 \/ a = 3 \/ a = 4 := by
 unfold q2v at h
 repeat' split at h
 all_goals first
  | (have h1 := q0p h; injection h1 with h1; injection h1 with h1 _; omega)
  | (unfold PM.fail at h; have h1 := q0p h; cases h1)
theorem q9m {α : Type} {s : ByteArray} {f : Bool -> PM α} {ts : List Tok} {r : Except Flt (α × List Tok)} (h : (z4a s).bind f ts = some r) : f (isT s ts) (if isT s ts = true then q0w ts else ts) = some r := by
 unfold PM.bind z4a at h
 cases hb : isT s ts
 ·rw [hb] at h; exact h
 ·rw [hb] at h; exact h
theorem x4p {num : Tok -> Int} (hN : q8v num) {B : Nat} {w : World} {g : Nat} {ts : List Tok} {lv : Nat} (h : RD B w g ts lv) (t : Int) (ht : t = 1 \/ t = 2 \/ t = 3 \/ t = 4) {r : Except Flt (Int × List Tok)} (hp : q9k num t ts = some r) :
  Calls Tryz.prog 71 #[.pointer (some ⟨g, 0, none⟩), .int .i64 t] w (Res B w (· = g) g lv (fun _ a v => v = .int .i64 a) r) := by
 by_cases h3 : t = 3
 ·subst h3
  have HH := q0h h
  have hq := q9m (show (z4a (tx [116, 114, 117, 101])).bind (fun b => if b then PM.ret 1 else (q1y (tx [102, 97, 108, 115, 101])).bind fun _ => .ret 0) ts = some r from hp)
  obtain ⟨b, hb⟩ : ∃ b, b = isT (tx [116, 114, 117, 101]) ts := ⟨_, rfl⟩
  rw [<- hb] at hq
  have HB := q0h hb
  have HQ := q0h hq
  clear h hN hp hq hb
  cases b
  all_goals
   go_enter Tryz.func71, Tryz.ntmps71
   go_wp2_with fail
   refine (q2b HH.out (tx [116, 114, 117, 101])).mono ?_
   rintro e w1 ⟨rfl, hr1, hx1⟩
   rw [<- HB.out] at hr1 ⊢
   have HR1 := q0h hr1
   have HX1 := q0h hx1
   clear hr1 hx1
   go_wp2_with fail
  ·rcases bind_some (show (q1y (tx [102, 97, 108, 115, 101])).bind (fun _ => PM.ret (0 : Int)) ts = some r from HQ.out) with ⟨e, hm, rfl⟩ | ⟨u, ts2, hm, hq⟩
   ·refine (q1e HR1.out (tx [102, 97, 108, 115, 101]) hm).mono ?_
    rintro e' w2 ⟨rfl, hx2⟩
    have HX2 := q0h (HX1.out.next hx2)
    clear hx2 hm
    go_wp2_with fail
    exact ⟨rfl, rfl, HX2.out⟩
   ·refine (q1e HR1.out (tx [102, 97, 108, 115, 101]) hm).mono ?_
    rintro e' w2 ⟨v, rfl, rfl, hr2, hx2⟩
    have HX2 := q0h (HX1.out.next hx2)
    have HR2 := q0h hr2
    have hr := q0p (show some (Except.ok ((0 : Int), ts2)) = some r from hq)
    subst hr
    clear hx2 hm hr2 hq
    go_wp2_with fail
    go_ret
    exact ⟨_, rfl, rfl, HR2.out, HX2.out⟩
  ·have hr := q0p (show some (Except.ok ((1 : Int), q0w ts)) = some r from HQ.out)
   subst hr
   go_ret
   exact ⟨_, rfl, rfl, HR1.out, HX1.out⟩
 ·by_cases h4 : t = 4
  ·subst h4
   have HH := q0h h
   have HQ := q0h (show (q1y (tx [110, 117, 108, 108])).bind (fun _ => PM.ret (0 : Int)) ts = some r from hp)
   clear h hN hp h3
   go_enter Tryz.func71, Tryz.ntmps71
   go_wp2_with fail
   rcases bind_some HQ.out with ⟨e, hm, rfl⟩ | ⟨u, ts2, hm, hq⟩
   ·refine (q1e HH.out (tx [110, 117, 108, 108]) hm).mono ?_
    rintro e' w2 ⟨rfl, hx2⟩
    have HX2 := q0h hx2
    clear hx2 hm
    go_wp2_with fail
    exact ⟨rfl, rfl, HX2.out⟩
   ·refine (q1e HH.out (tx [110, 117, 108, 108]) hm).mono ?_
    rintro e' w2 ⟨v, rfl, rfl, hr2, hx2⟩
    have HX2 := q0h hx2
    have HR2 := q0h hr2
    have hr := q0p (show some (Except.ok ((0 : Int), ts2)) = some r from hq)
    subst hr
    clear hx2 hm hr2 hq
    go_wp2_with fail
    go_ret
    exact ⟨_, rfl, rfl, HR2.out, HX2.out⟩
  ·exact x2n hN h t h3 h4 (by omega) hp
theorem x2o {B : Nat} {w : World} {g : Nat} {ts : List Tok} {lv : Nat} (h : RD B w g ts lv) :
  Calls Tryz.prog 119 #[.pointer (some ⟨g, 0, none⟩)] w fun e w' => e = .returned (.bool (q6h ts)) /\ Below w.heap.size w w' := by
 have HH := q0h h
 obtain ⟨t, rr, ad, c, rfl, c0, c1, k0, k1, k2, hg, ha, hne, hc, hl, HM⟩ := h.head
 clear h
 obtain ⟨ts, hts⟩ : ∃ ts, ts = t :: rr := ⟨_, rfl⟩
 have hst : q6h (t :: rr) = ((((t.kind == 1 || isT (tx [108, 101, 116]) ts) || isT (tx [105, 102]) ts) || isT (tx [119, 104, 105, 108, 101]) ts) || isT (tx [114, 101, 116, 117, 114, 110]) ts) := by rw [hts]; rfl
 rw [hst]
 rw [<- hts] at HH
 clear hst hts
 obtain ⟨b, hb⟩ : ∃ b, (t.kind == 1) = b := ⟨_, rfl⟩
 rw [hb]
 obtain ⟨b0, h0⟩ : ∃ b, b = isT (tx [108, 101, 116]) ts := ⟨_, rfl⟩
 obtain ⟨b1, h1⟩ : ∃ b, b = isT (tx [105, 102]) ts := ⟨_, rfl⟩
 obtain ⟨b2, h2⟩ : ∃ b, b = isT (tx [119, 104, 105, 108, 101]) ts := ⟨_, rfl⟩
 obtain ⟨b3, h3⟩ : ∃ b, b = isT (tx [114, 101, 116, 117, 114, 110]) ts := ⟨_, rfl⟩
 rw [<- h0, <- h1, <- h2, <- h3]
 have H0 := q0h h0
 have H1 := q0h h1
 have H2 := q0h h2
 have H3 := q0h h3
 clear h0 h1 h2 h3
 cases b
 rotate_left
 ·
  go_enter Tryz.func119, Tryz.ntmps119
  go_wp2_with fail
  go_ret
  exact ⟨q0g (by simp), Below.refl _ _⟩
 cases b0
 rotate_left
 ·
  go_enter Tryz.func119, Tryz.ntmps119
  go_wp2_with fail
  refine (q1t HH.out (tx [108, 101, 116])).mono ?_
  rintro e w1 ⟨rfl, hx1⟩
  rw [<- H0.out]
  have HR1 := q0h (HH.out.below hx1)
  have HX1 := q0h (hx1)
  clear hx1
  go_wp2_with fail
  go_ret
  exact ⟨q0g (by simp), HX1.out⟩
 cases b1
 rotate_left
 ·
  go_enter Tryz.func119, Tryz.ntmps119
  go_wp2_with fail
  refine (q1t HH.out (tx [108, 101, 116])).mono ?_
  rintro e w1 ⟨rfl, hx1⟩
  rw [<- H0.out]
  have HR1 := q0h (HH.out.below hx1)
  have HX1 := q0h (hx1)
  clear hx1
  go_wp2_with fail
  refine (q1t HR1.out (tx [105, 102])).mono ?_
  rintro e w2 ⟨rfl, hx2⟩
  rw [<- H1.out]
  have HR2 := q0h (HR1.out.below hx2)
  have HX2 := q0h (q0e HX1.out hx2)
  clear hx2
  go_wp2_with fail
  go_ret
  exact ⟨q0g (by simp), HX2.out⟩
 cases b2
 rotate_left
 ·
  go_enter Tryz.func119, Tryz.ntmps119
  go_wp2_with fail
  refine (q1t HH.out (tx [108, 101, 116])).mono ?_
  rintro e w1 ⟨rfl, hx1⟩
  rw [<- H0.out]
  have HR1 := q0h (HH.out.below hx1)
  have HX1 := q0h (hx1)
  clear hx1
  go_wp2_with fail
  refine (q1t HR1.out (tx [105, 102])).mono ?_
  rintro e w2 ⟨rfl, hx2⟩
  rw [<- H1.out]
  have HR2 := q0h (HR1.out.below hx2)
  have HX2 := q0h (q0e HX1.out hx2)
  clear hx2
  go_wp2_with fail
  refine (q1t HR2.out (tx [119, 104, 105, 108, 101])).mono ?_
  rintro e w3 ⟨rfl, hx3⟩
  rw [<- H2.out]
  have HR3 := q0h (HR2.out.below hx3)
  have HX3 := q0h (q0e HX2.out hx3)
  clear hx3
  go_wp2_with fail
  go_ret
  exact ⟨q0g (by simp), HX3.out⟩
 cases b3
 rotate_left
 ·
  go_enter Tryz.func119, Tryz.ntmps119
  go_wp2_with fail
  refine (q1t HH.out (tx [108, 101, 116])).mono ?_
  rintro e w1 ⟨rfl, hx1⟩
  rw [<- H0.out]
  have HR1 := q0h (HH.out.below hx1)
  have HX1 := q0h (hx1)
  clear hx1
  go_wp2_with fail
  refine (q1t HR1.out (tx [105, 102])).mono ?_
  rintro e w2 ⟨rfl, hx2⟩
  rw [<- H1.out]
  have HR2 := q0h (HR1.out.below hx2)
  have HX2 := q0h (q0e HX1.out hx2)
  clear hx2
  go_wp2_with fail
  refine (q1t HR2.out (tx [119, 104, 105, 108, 101])).mono ?_
  rintro e w3 ⟨rfl, hx3⟩
  rw [<- H2.out]
  have HR3 := q0h (HR2.out.below hx3)
  have HX3 := q0h (q0e HX2.out hx3)
  clear hx3
  go_wp2_with fail
  refine (q1t HR3.out (tx [114, 101, 116, 117, 114, 110])).mono ?_
  rintro e w4 ⟨rfl, hx4⟩
  rw [<- H3.out]
  have HR4 := q0h (HR3.out.below hx4)
  have HX4 := q0h (q0e HX3.out hx4)
  clear hx4
  go_wp2_with fail
  go_ret
  exact ⟨q0g (by simp), HX4.out⟩
 go_enter Tryz.func119, Tryz.ntmps119
 go_wp2_with fail
 refine (q1t HH.out (tx [108, 101, 116])).mono ?_
 rintro e w1 ⟨rfl, hx1⟩
 rw [<- H0.out]
 have HR1 := q0h (HH.out.below hx1)
 have HX1 := q0h (hx1)
 clear hx1
 go_wp2_with fail
 refine (q1t HR1.out (tx [105, 102])).mono ?_
 rintro e w2 ⟨rfl, hx2⟩
 rw [<- H1.out]
 have HR2 := q0h (HR1.out.below hx2)
 have HX2 := q0h (q0e HX1.out hx2)
 clear hx2
 go_wp2_with fail
 refine (q1t HR2.out (tx [119, 104, 105, 108, 101])).mono ?_
 rintro e w3 ⟨rfl, hx3⟩
 rw [<- H2.out]
 have HR3 := q0h (HR2.out.below hx3)
 have HX3 := q0h (q0e HX2.out hx3)
 clear hx3
 go_wp2_with fail
 refine (q1t HR3.out (tx [114, 101, 116, 117, 114, 110])).mono ?_
 rintro e w4 ⟨rfl, hx4⟩
 rw [<- H3.out]
 have HR4 := q0h (HR3.out.below hx4)
 have HX4 := q0h (q0e HX3.out hx4)
 clear hx4
 go_wp2_with fail
 go_ret
 exact ⟨q0g (by simp), HX4.out⟩
def j2b (b : Nat) (w : World) (e : Ex) : Prop := ∃ k o n s A l c a t p, e = .mk k o n s l a t p /\ w.heap[b]? = some (.cells #[.int .i64 k, .int .i64 o, .int .i64 n, .string s, .slice A l.length c, .int .i64 a, .int .i64 t, .int .i64 p] 86 (0, 0)) /\ x0o (b + 1) w l (.slice A l.length c)
theorem j2b.keep {g b : Nat} {w w' : World} {e : Ex} (h : j2b b w e) (hx : q1s w.heap.size (· = g) w w') (hg : g < b) : j2b b w' e := by
 obtain ⟨k, o, n, s, A, l, c, a, t, p, rfl, h1, h2⟩ := h
 exact ⟨k, o, n, s, A, l, c, a, t, p, rfl, q3c hx h1 (by omega), h2.keep (Nat.le_refl _) (fun i hi hl => hx.block i hl (by omega))⟩
def x4q (b1 b2 g : Nat) (w : World) : Prop := w.heap[b1]? = some (.cells #[.pointer (some ⟨g, 0, none⟩)] 56 (0, 0)) /\ ∃ o0 o1 o2 o3 o4 o5 o6 o7, w.heap[b2]? = some (.cells #[o0, o1, o2, o3, o4, o5, o6, o7] 86 (0, 0))
theorem x8u : q1k 246 := fun args w => q5r Tryz.func246 (by kernel_rfl) rfl args w
theorem x4r {B g : Nat} {R : q4e} (hR : q7i B g R) (w0 : World) (lv b1 b2 : Nat) (hb : B <= b1) (hbb : b1 < b2) :
  z5c B w0 (fun k => k = g \/ k = b2) g lv 246 #[.pointer (some ⟨b1, 0, none⟩), .pointer (some ⟨b2, 0, none⟩)] (q3b R lv) (j2b b2) (x4q b1 b2 g) := by
 intro w ts hx0 hpre h r hp
 obtain ⟨h1, o0, o1, o2, o3, o4, o5, o6, o7, h2⟩ := hpre
 have HH := q0h h
 have H2 := q0h h2
 have hgB := h.gB
 have HR := q0h hR
 have HP := q0h hp
 have l1 := q0c h1
 have HL2 := q0h (q0c h2)
 have c1 : w.cell? ⟨b1, 0, none⟩ = some (.pointer (some ⟨g, 0, none⟩)) := (q0a h1 0).trans rfl
 have HB := q0h (show B <= b2 /\ ¬ b2 = g by omega)
 clear h h1 h2 hx0 hR hp
 go_enter Tryz.func246, Tryz.ntmps246
 go_wp2_with fail
 refine (q4f HR.out HH.out HP.out).mono ?_
 intro e' w1 hres
 cases r with
 | error f =>
  obtain ⟨rfl, hx1⟩ := hres
  have HX1 := q0h (hx1.mono (X' := fun k => k = g \/ k = b2) (Nat.le_refl _) (fun k _ hk => .inl hk))
  clear hx1
  go_wp2_with fail
  exact ⟨rfl, rfl, HX1.out⟩
 | ok q =>
  obtain ⟨ex, ts2⟩ := q
  obtain ⟨v, rfl, ⟨cs, rfl, hM⟩, hr1, hx1⟩ := hres
  cases ex with
  | mk k o n s l a t p =>
   obtain ⟨v0, rfl, hl⟩ := q2k hM
   obtain ⟨A, c, rfl⟩ := Kd.R_slice hl
   have HL := q0h hl
   have HR1 := q0h hr1
   have HX1 := q0h (hx1.mono (X' := fun k => k = g \/ k = b2) (Nat.le_refl _) (fun k _ hk => .inl hk))
   have hn2 := (hx1.block b2 HL2.out HB.out.2).trans H2.out
   have HN2 := q0h hn2
   have l2 := q0c hn2
   obtain ⟨d0, d1, d2, d3, d4, d5, d6, d7, f0, f1, f2, f3, f4, f5, f6, f7⟩ := q0r hn2
   clear hM hl hr1 hx1 hn2 c1 l1
   go_wp2_with fail
   go_end0
   obtain ⟨W2, hW2, hk2, hs2, hkk, hx2⟩ := j5r (.int .i64 k) (.int .i64 o) (.int .i64 n) (.string s) (.slice A l.length c) (.int .i64 a) (.int .i64 t) (.int .i64 p) HN2.out
   rw [<- hW2]
   have hl2 := HL2.out
   have hbB := HB.out.1
   exact ⟨_, rfl, ⟨rfl, k, o, n, s, A, l, c, a, t, p, rfl, hk2, x0o.keep HL.out (by omega) (fun i hi _ => hkk i (by omega))⟩, HR1.out.keep (by omega) (fun i hi => hkk i (by omega)), HX1.out.trans (hx2 _ _ (.inr (.inr rfl)))⟩
def j6a (b1 b2 b3 g : Nat) (op : Int) (w : World) : Prop := w.heap[b1]? = some (.cells #[.pointer (some ⟨g, 0, none⟩)] 56 (0, 0)) /\ w.heap[b2]? = some (.cells #[.int .i64 op] 3 (0, 0)) /\ ∃ o0 o1 o2 o3 o4 o5 o6 o7, w.heap[b3]? = some (.cells #[o0, o1, o2, o3, o4, o5, o6, o7] 86 (0, 0))
theorem x4s : q1k 240 := fun args w => q5r Tryz.func240 (by kernel_rfl) rfl args w
theorem x0p {B g : Nat} {R : q4e} (hR : q7i B g R) (w0 : World) (lv b1 b2 b3 : Nat) (op : Int) (hb1 : B <= b1) (hb2 : B <= b2) (hb3 : B <= b3) (h13 : b1 ≠ b3) (h23 : b2 ≠ b3) :
  z5c B w0 (fun k => k = g \/ k = b3) g lv 240 #[.pointer (some ⟨b1, 0, none⟩), .pointer (some ⟨b2, 0, none⟩), .pointer (some ⟨b3, 0, none⟩)] (fun ts => (R.one lv).bind (fun e => .ret (.mk 8 op 0 ⟨#[]⟩ [e] (ts.headD q2m).at_ 0 0)) (q0w ts)) (j2b b3) (j6a b1 b2 b3 g op) := by
 intro w ts hx0 hpre h r hp
 obtain ⟨h1, h2, o0, o1, o2, o3, o4, o5, o6, o7, h3⟩ := hpre
 have HH := q0h h
 have hgB := h.gB
 have H1 := q0h h1
 have H2 := q0h h2
 have H3 := q0h h3
 have HR := q0h hR
 obtain ⟨tk, htk⟩ : ∃ t, t = ts.headD q2m := ⟨_, rfl⟩
 simp only at hp
 rw [<- htk] at hp
 have HP := q0h hp
 have HNX := q0h (by have h := q3z HH.out; rw [<- htk] at h; exact h)
 have l1 := q0c h1
 have HL := q0h (show b1 < w.heap.size /\ b2 < w.heap.size /\ b3 < w.heap.size from ⟨q0c h1, q0c h2, q0c h3⟩)
 have c1 : w.cell? ⟨b1, 0, none⟩ = some (.pointer (some ⟨g, 0, none⟩)) := (q0a h1 0).trans rfl
 have HB := q0h (show ¬ b1 = g /\ ¬ b2 = g /\ ¬ b3 = g by omega)
 have HBB := q0h (show B <= b1 /\ B <= b2 /\ B <= b3 from ⟨hb1, hb2, hb3⟩)
 clear h h1 h2 h3 hx0 hR hp htk hgB hb1 hb2 hb3
 go_enter Tryz.func240, Tryz.ntmps240
 go_wp2_with fail
 refine HNX.out.mono ?_
 rintro e w1 ⟨rfl, hr1, hx1⟩
 obtain ⟨W1, hW1⟩ : ∃ W, W = w1.alloc (.cells #[.int .i64 tk.kind, .string tk.text, .int .i64 tk.at_] 63) := ⟨_, rfl⟩
 obtain ⟨tb, htb⟩ : ∃ b, b = w1.heap.size := ⟨_, rfl⟩
 have hbW : Below w1.heap.size w1 W1 := by rw [hW1]; exact q0d (Below.refl _ _) _
 have hT : W1.heap[tb]? = some (.cells #[.int .i64 tk.kind, .string tk.text, .int .i64 tk.at_] 63 (0, 0)) := by rw [hW1, htb]; exact heap_alloc_new _ _
 have HR1 := q0h (hr1.below hbW)
 have hxx := hx1.next (q1m hbW)
 have HX1 := q0h (hxx.mono (X' := fun k => k = g \/ k = b3) (Nat.le_refl _) (fun k _ hk => .inl hk))
 have i1 := q3c hxx H1.out HB.out.1
 have i2 := q3c hxx H2.out HB.out.2.1
 have I3 := q0h (q3c hxx H3.out HB.out.2.2)
 have HT := q0h hT
 have HSZ := q0h (show w.heap.size <= W1.heap.size from hxx.size)
 have HS := q0h (show W1.cell? ⟨b2, 0, none⟩ = some (.int .i64 op) /\ W1.cell? ⟨b1, 0, none⟩ = some (.pointer (some ⟨g, 0, none⟩)) /\ W1.cell? ⟨tb, 2, none⟩ = some (.int .i64 tk.at_) from ⟨(q0a i2 0).trans rfl, (q0a i1 0).trans rfl, (q0a hT 2).trans rfl⟩)
 have HW1 := q0h hW1
 have HTB := q0h htb
 have HGT := q0h (show g < tb /\ b1 < tb /\ b2 < tb /\ b3 < tb by have := HL.out; have := hx1.size; have := HH.out.lt; omega)
 clear hr1 hx1 hbW hT hxx i1 i2 l1 c1 hW1 htb
 go_wp2_with fail
 rw [<- HW1.out, <- HTB.out]
 refine z8q (fun w' => w'.cell? ⟨b2, 0, none⟩ = some (.int .i64 op) /\ w'.cell? ⟨b1, 0, none⟩ = some (.pointer (some ⟨g, 0, none⟩)) /\ w'.cell? ⟨tb, 2, none⟩ = some (.int .i64 tk.at_)) 8 (by kernel_rfl) ?_
 intro X HX
 have hbX : Below W1.heap.size W1 X := by rw [HX.out]; exact q1n (Below.refl _ _)
 have HLX := q0h (show X.cell? ⟨b2, 0, none⟩ = some (.int .i64 op) /\ X.cell? ⟨b1, 0, none⟩ = some (.pointer (some ⟨g, 0, none⟩)) /\ X.cell? ⟨tb, 2, none⟩ = some (.int .i64 tk.at_) from ⟨q6u hbX HS.out.1, q6u hbX HS.out.2.1, q6u hbX HS.out.2.2⟩)
 have HRX := q0h (HR1.out.below hbX)
 have HXX := q0h (HX1.out.next (q1m hbX))
 have J3 := q0h ((hbX.block b3 (q0c I3.out)).trans I3.out)
 have HSX := q0h hbX.size
 clear hbX
 refine q7o 0 ?v_1 rfl (by kernel_rfl) (fun _ _ _ h => h) HLX.out (by rfl) ?h_1 ?r_1
 case h_1 => intro w' hS'; obtain ⟨s1, s2, s3⟩ := hS'; go_simp; try with_reducible rfl
 refine q7o 1 ?v_2 rfl (by kernel_rfl) (fun _ _ _ h => h) HLX.out (by rfl) ?h_2 ?r_2
 case h_2 => intro w' hS'; obtain ⟨s1, s2, s3⟩ := hS'; go_simp; try with_reducible rfl
 refine q7o 5 ?v_3 rfl (by kernel_rfl) (fun _ _ _ h => h) HLX.out (by rfl) ?h_3 ?r_3
 case h_3 => intro w' hS'; obtain ⟨s1, s2, s3⟩ := hS'; go_simp; try with_reducible rfl
 refine q7o 6 ?v_4 rfl (by kernel_rfl) (fun _ _ _ h => h) HLX.out (by rfl) ?h_4 ?r_4
 case h_4 => intro w' hS'; obtain ⟨s1, s2, s3⟩ := hS'; go_simp; try with_reducible rfl
 refine q8d (i := 2) (by kernel_rfl) rfl (fun K hK => ?_)
 go_simp
 rcases bind_some HP.out with ⟨e, hm, rfl⟩ | ⟨ex, ts2, hm, hq⟩
 ·refine (HR.out.one X _ _ _ HRX.out hm).mono ?_
  rintro e' w2 ⟨rfl, hx2⟩
  have HX2 := q0h (HXX.out.step hx2 (fun k hk => .inl hk))
  clear hx2 hm hK
  exact ⟨rfl, rfl, HX2.out⟩
 ·refine (HR.out.one X _ _ _ HRX.out hm).mono ?_
  rintro e' w2 ⟨v, rfl, ⟨cs, rfl, hM⟩, hr2, hx2⟩
  have hr := q0p (show some (Except.ok (Ex.mk 8 op 0 ⟨#[]⟩ [ex] tk.at_ 0 0, ts2)) = some r from hq)
  subst hr
  cases ex with
  | mk k o n s l a t p =>
   obtain ⟨v0, rfl, hl⟩ := q2k hM
   obtain ⟨A, c, rfl⟩ := Kd.R_slice hl
   have hgt := HGT.out
   have hltb := q0c HT.out
   have hsx := HSX.out
   have hsz := HSZ.out
   have hll := HL.out
   have hbb := HB.out
   have HX2 := q0h (HXX.out.step hx2 (fun k hk => .inl hk))
   have HR2 := q0h hr2
   have HL2 := q0h (show w2.cell? ⟨b2, 0, none⟩ = some (.int .i64 op) /\ w2.cell? ⟨b1, 0, none⟩ = some (.pointer (some ⟨g, 0, none⟩)) /\ w2.cell? ⟨tb, 2, none⟩ = some (.int .i64 tk.at_) from
    ⟨(z8l (hx2.block b2 (by omega) (by omega)) 0).trans HLX.out.1, (z8l (hx2.block b1 (by omega) (by omega)) 0).trans HLX.out.2.1, (z8l (hx2.block tb (by omega) (by omega)) 2).trans HLX.out.2.2⟩)
   have K3 := q0h ((hx2.block b3 (by omega) (by omega)).trans J3.out)
   have HM := q0h (kEx.M_mono (ok' := fun k => b3 + 1 <= k) (fun k hk => by have h3 : X.heap.size <= k := hk; omega) (kEx.M_lower (base' := b3 + 1) (by omega) hM))
   have HS2 := q0h (show b3 + 1 <= w2.heap.size by have := hx2.size; omega)
   clear hM hl hr2 hx2 hm hq hgt hltb hsx hsz hll hbb
   try simp only
   refine hK _ _ (.inr HL2.out) ?_
   clear hK K
   refine q8d (i := 3) (by kernel_rfl) rfl (fun K hK => ?_)
   go_simp
   obtain ⟨W3, hW3⟩ : ∃ W, W = w2.alloc (.cells #[.int .i64 k, .int .i64 o, .int .i64 n, .string s, .slice A l.length c, .int .i64 a, .int .i64 t, .int .i64 p] 86) := ⟨_, rfl⟩
   have hb3 : Below w2.heap.size w2 W3 := by rw [hW3]; exact q0d (Below.refl _ _) _
   have HL3 := q0h (show W3.cell? ⟨b2, 0, none⟩ = some (.int .i64 op) /\ W3.cell? ⟨b1, 0, none⟩ = some (.pointer (some ⟨g, 0, none⟩)) /\ W3.cell? ⟨tb, 2, none⟩ = some (.int .i64 tk.at_) from ⟨q6u hb3 HL2.out.1, q6u hb3 HL2.out.2.1, q6u hb3 HL2.out.2.2⟩)
   have HR3 := q0h (HR2.out.below hb3)
   have HX3 := q0h (HX2.out.next (q1m hb3))
   have hn3 := (hb3.block b3 (q0c K3.out)).trans K3.out
   have HN3 := q0h hn3
   have l3 := q0c hn3
   obtain ⟨d0, d1, d2, d3, d4, d5, d6, d7, f0, f1, f2, f3, f4, f5, f6, f7⟩ := q0r hn3
   have HE := q0h (by have h := z8n HM.out (by have := HS2.out; omega); rw [<- hW3] at h; exact h)
   obtain ⟨nb, hnb⟩ : ∃ b, b = w2.heap.size := ⟨_, rfl⟩
   rw [<- hnb] at HE
   rw [<- hW3, <- hnb]
   clear hb3 hn3 hW3
   refine hK _ _ (.inr HL3.out) ?_
   clear hK K
   refine q8d (i := 4) (by kernel_rfl) rfl (fun K hK => ?_)
   go_simp
   refine (q6d _ _ _ _).mono ?_
   rintro e w4 ⟨rfl, rfl⟩
   try simp only
   refine hK _ _ (.inr HL3.out) ?_
   clear hK K
   refine q7o 7 ?v_5 rfl (by kernel_rfl) (fun _ _ _ h => h) HL3.out (by rfl) ?h_5 ?r_5
   case h_5 => intro w' hS'; clear hS'; go_simp; try with_reducible rfl
   refine q8d (i := 8) (by kernel_rfl) rfl (fun K hK => ?_)
   go_simp
   refine hK _ _ (.inl rfl) ?_
   clear hK K
   refine z8p (by kernel_rfl) ?_ _
   go_end0
   obtain ⟨W4, hW4, hk4, hs4, hkk, hx4⟩ := j5r (.int .i64 8) (.int .i64 op) (.int .i64 0) (.string ⟨#[]⟩) (.slice (some ⟨nb, 0, none⟩) 1 1) (.int .i64 tk.at_) (.int .i64 0) (.int .i64 0) HN3.out
   have hbb := HBB.out
   try rw [<- hnb]
   rw [<- hW4]
   exact ⟨_, rfl, ⟨rfl, 8, op, 0, ⟨#[]⟩, some ⟨nb, 0, none⟩, [.mk k o n s l a t p], 1, tk.at_, 0, 0, rfl, hk4, x0o.keep HE.out (Nat.le_refl _) (fun i hi _ => hkk i (by omega))⟩, HR3.out.keep (by omega) (fun i hi => hkk i (by omega)), HX3.out.trans (hx4 _ _ (.inr (.inr rfl)))⟩
theorem j3m {B g : Nat} {R : q4e} (hR : q7i B g R) (num : Tok -> Int) (nn : Nat)
  (hA : ∀ (w : World) (ts : List Tok) (lv : Nat) (r : Except Flt (Ex × List Tok)), RD B w g ts lv -> z0r num nn R lv ts = some r -> Calls Tryz.prog 239 #[.pointer (some ⟨g, 0, none⟩)] w (Res B w (· = g) g lv (exV w.heap.size) r))
  {w : World} {ts : List Tok} {lv : Nat} (h : RD B w g ts lv) {r : Except Flt (Ex × List Tok)} (hp : x4f num nn R lv ts = some r) :
  Calls Tryz.prog 220 #[.pointer (some ⟨g, 0, none⟩)] w (Res B w (· = g) g lv (exV w.heap.size) r) := by
 have HH := q0h h
 have HR := q0h hR
 have HAT := q0h hA
 obtain ⟨W, hW, hbW, hsW, q1, q3, q2⟩ := z2s w (.cells #[.pointer (some ⟨g, 0, none⟩)] 56) (.cells #[.int .i64 0, .int .i64 0, .int .i64 0, .string ⟨#[]⟩, .slice none 0 0, .int .i64 0, .int .i64 0, .int .i64 0] 86) (.cells #[.int .i64 14] 3)
 obtain ⟨b1, hb1⟩ : ∃ b, b = w.heap.size := ⟨_, rfl⟩
 obtain ⟨b3, hb3⟩ : ∃ b, b = w.heap.size + 1 := ⟨_, rfl⟩
 obtain ⟨b2, hb2⟩ : ∃ b, b = w.heap.size + 1 + 1 := ⟨_, rfl⟩
 rw [<- hb1] at q1
 rw [<- hb3] at q3
 rw [show w.heap.size + 2 = b2 from by omega] at q2
 have hgB := h.gB
 have hBw := h.Bw
 have HW := q0h hW
 have HBW := q0h hbW
 have HSW := q0h hsW
 have Q1 := q0h q1
 have Q2 := q0h q2
 have Q3 := q0h q3
 have E1 := q0h hb1
 have E2 := q0h hb2
 have E3 := q0h hb3
 have HN := q0h (show B <= b1 /\ B <= b2 /\ B <= b3 /\ g < b1 /\ b1 < b3 /\ b3 < b2 by omega)
 unfold x4f at hp
 obtain ⟨p1, hp1⟩ : ∃ b, b = isT (tx [33]) ts := ⟨_, rfl⟩
 obtain ⟨p2, hp2⟩ : ∃ b, b = isT (tx [45]) ts := ⟨_, rfl⟩
 rw [<- hp1, <- hp2] at hp
 have HP := q0h hp
 have P1 := q0h hp1
 have P2 := q0h hp2
 have l1 := q0c q1
 have c1 : W.cell? ⟨b1, 0, none⟩ = some (.pointer (some ⟨g, 0, none⟩)) := (q0a q1 0).trans rfl
 have HRW := q0h (h.below hbW)
 have hmf : ∀ (fn : Fn) (first cap : Array Value) (w : World), (Instr.makeFunc fn first cap).run Tryz.prog w = .ok (.func fn first cap) w := fun _ _ _ _ => rfl
 clear h hp hR hA hW hbW hsW q1 q2 q3 hb1 hb2 hb3 hgB hBw hp1 hp2
 cases p1
 ·cases p2
  ·-- an atom
   go_enter Tryz.func220, Tryz.ntmps220
   go_wp2_with fail
   rw [<- HW.out, <- E2.out, <- E3.out, <- E1.out]
   refine (q1t HRW.out (tx [33])).mono ?_
   rintro e w1 ⟨rfl, hx1⟩
   rw [<- P1.out]
   have HR1 := q0h (HRW.out.below hx1)
   have HX1 := q0h (q0e HBW.out hx1)
   have i1 := (hx1.block b1 (q0c Q1.out)).trans Q1.out
   have i2 := (hx1.block b2 (q0c Q2.out)).trans Q2.out
   have i3 := (hx1.block b3 (q0c Q3.out)).trans Q3.out
   have I1 := q0h i1
   have I2 := q0h i2
   have I3 := q0h i3
   clear c1 l1 hx1
   have l1 := q0c i1
   have c1 : w1.cell? ⟨b1, 0, none⟩ = some (.pointer (some ⟨g, 0, none⟩)) := (q0a i1 0).trans rfl
   clear i1 i2 i3
   go_wp2_with fail
   refine (q1t HR1.out (tx [45])).mono ?_
   rintro e w2 ⟨rfl, hx2⟩
   rw [<- P2.out]
   have HR2 := q0h (HR1.out.below hx2)
   have HX2 := q0h (q0e HX1.out hx2)
   have j1 := (hx2.block b1 (q0c I1.out)).trans I1.out
   have J1 := q0h j1
   have J2 := q0h ((hx2.block b2 (q0c I2.out)).trans I2.out)
   have J3 := q0h ((hx2.block b3 (q0c I3.out)).trans I3.out)
   clear c1 l1 hx2
   have l1 := q0c j1
   have c1 : w2.cell? ⟨b1, 0, none⟩ = some (.pointer (some ⟨g, 0, none⟩)) := (q0a j1 0).trans rfl
   clear j1
   go_wp2_with fail
   have hpa : z0r num nn R lv ts = some r := HP.out
   refine (HAT.out w2 ts lv r HR2.out hpa).mono ?_
   intro e w3 hres
   cases r with
   | error f =>
    obtain ⟨rfl, hx3⟩ := hres
    have HX3 := q0h ((q1m HX2.out).next hx3)
    clear hx3
    go_wp2_with fail
    exact ⟨rfl, rfl, HX3.out⟩
   | ok q =>
    obtain ⟨ex, ts2⟩ := q
    obtain ⟨v, rfl, ⟨cs, rfl, hM⟩, hr3, hx3⟩ := hres
    cases ex with
    | mk k o n s l a t p =>
     obtain ⟨v0, rfl, hl⟩ := q2k hM
     obtain ⟨A, c, rfl⟩ := Kd.R_slice hl
     have hnn := HN.out
     have hs2 := HX2.out.size
     have hlb := q0c J2.out
     have HL := q0h hl
     have HLB := q0h hlb
     have HR3 := q0h hr3
     have HX3 := q0h ((q1m HX2.out).next hx3)
     have hn3 := (hx3.block b3 (q0c J3.out) (by omega)).trans J3.out
     have HN3 := q0h hn3
     have l3 := q0c hn3
     obtain ⟨d0, d1, d2, d3, d4, d5, d6, d7, f0, f1, f2, f3, f4, f5, f6, f7⟩ := q0r hn3
     clear hM hl hr3 hx3 hn3 hpa c1 l1 hnn hs2 hlb
     go_wp2_with fail
     obtain ⟨W4, hW4, hn4, hs4, hk4, hx4⟩ := j5r (.int .i64 k) (.int .i64 o) (.int .i64 n) (.string s) (.slice A l.length c) (.int .i64 a) (.int .i64 t) (.int .i64 p) HN3.out
     rw [<- hW4]
     refine bodyPost_ret (q0o rfl _ _ b3 86 #[.int .i64 k, .int .i64 o, .int .i64 n, .string s, .slice A l.length c, .int .i64 a, .int .i64 t, .int .i64 p] (0, 0) _ rfl hn4 Tryz.underlying86 rfl (by kernel_rfl)) rfl ?_
     have hnn := HN.out
     have e1 := E1.out
     have e3 := E3.out
     have hlb := HLB.out
     have hsz := HX2.out.size
     exact ⟨_, rfl, ⟨_, rfl, q4z k o n s a t p (x0o.keep HL.out (by omega) (fun i hi _ => hk4 i (by omega)))⟩, HR3.out.keep (by omega) (fun i hi => hk4 i (by omega)), HX3.out.trans (hx4 _ _ (.inl (by omega)))⟩
  ·-- a minus
   go_enter Tryz.func220, Tryz.ntmps220
   go_wp2_with fail
   rw [<- HW.out, <- E2.out, <- E3.out, <- E1.out]
   refine (q1t HRW.out (tx [33])).mono ?_
   rintro e w1 ⟨rfl, hx1⟩
   rw [<- P1.out]
   have HR1 := q0h (HRW.out.below hx1)
   have HX1 := q0h (q0e HBW.out hx1)
   have i1 := (hx1.block b1 (q0c Q1.out)).trans Q1.out
   have i2 := (hx1.block b2 (q0c Q2.out)).trans Q2.out
   have i3 := (hx1.block b3 (q0c Q3.out)).trans Q3.out
   have I1 := q0h i1
   have I2 := q0h i2
   have I3 := q0h i3
   clear c1 l1 hx1
   have l1 := q0c i1
   have c1 : w1.cell? ⟨b1, 0, none⟩ = some (.pointer (some ⟨g, 0, none⟩)) := (q0a i1 0).trans rfl
   clear i1 i2 i3
   go_wp2_with fail
   refine (q1t HR1.out (tx [45])).mono ?_
   rintro e w2 ⟨rfl, hx2⟩
   rw [<- P2.out]
   have HR2 := q0h (HR1.out.below hx2)
   have HX2 := q0h (q0e HX1.out hx2)
   have j1 := (hx2.block b1 (q0c I1.out)).trans I1.out
   have J1 := q0h j1
   have J2 := q0h ((hx2.block b2 (q0c I2.out)).trans I2.out)
   have J3 := q0h ((hx2.block b3 (q0c I3.out)).trans I3.out)
   clear c1 l1 hx2
   have l1 := q0c j1
   have c1 : w2.cell? ⟨b1, 0, none⟩ = some (.pointer (some ⟨g, 0, none⟩)) := (q0a j1 0).trans rfl
   clear j1
   go_wp2_with fail
   obtain ⟨wk, hwk⟩ : ∃ W, W = w2 := ⟨_, rfl⟩
   subst hwk
   have HRK := q0h HR2.out
   have HXK := q0h HX2.out
   have KB1 := q0h J1.out
   have KB2 := q0h J2.out
   have KB3 := q0h J3.out
   have HPW := q0h (show q1x lv (fun lv ts => (R.one lv).bind (fun e => .ret (.mk 8 14 0 ⟨#[]⟩ [e] (ts.headD q2m).at_ 0 0)) (q0w ts)) ts = some r from HP.out)
   have HWI := q0h (q8c HRK.out 240 #[.pointer (some ⟨b1, 0, none⟩), .pointer (some ⟨b2, 0, none⟩), .pointer (some ⟨b3, 0, none⟩)] x4s (x3x B wk (fun k => k = g \/ k = b3) g lv (j2b b3) r) (fun h30 => by
     have h1 := HPW.out
     unfold q1x at h1
     rw [if_pos h30] at h1
     have h2 := q0p (show some (Except.error (91, (ts.headD q2m).at_)) = some r from h1)
     subst h2
     exact ⟨rfl, q1s.refl _ _ _⟩) (fun hne hr2 => by
     have h1 := HPW.out
     unfold q1x at h1
     rw [if_neg hne] at h1
     have hnn := HN.out
     have hx2 := (q1s.refl wk.heap.size (fun k => k = g \/ k = b3) wk).set (.inr (.inl rfl)) 1 (.int .i64 ((lv : Int) + 1))
     have up : ∀ {k : Nat} {o : Obj}, wk.heap[k]? = some o -> k ≠ g -> (wk.setCell ⟨g, 1, none⟩ (.int .i64 ((lv : Int) + 1))).heap[k]? = some o := fun hk hn => (Below.heap_setCell _ _ _ _ hn).trans hk
     refine (x0p HR.out wk (lv + 1) b1 b2 b3 14 hnn.1 hnn.2.1 hnn.2.2.1 (by omega) (by omega) _ ts hx2 ⟨up KB1.out (by omega), up KB2.out (by omega), _, _, _, _, _, _, _, _, up KB3.out (by omega)⟩ hr2 r h1).mono ?_
     intro e w2 hres
     cases r with
     | error f =>
      obtain ⟨rfl, hx3⟩ := hres
      exact .inr ⟨_, rfl, rfl, hx2.next hx3⟩
     | ok q =>
      obtain ⟨a2, ts2⟩ := q
      obtain ⟨v, rfl, ⟨rfl, hs⟩, hr3, hx3⟩ := hres
      exact .inl ⟨rfl, ⟨_, hr3⟩, _, rfl, ⟨rfl, hs.keep (q1s.set (X := (· = g)) (q1s.refl _ _ _) (b := g) (.inr rfl) 1 _) (by omega)⟩, hr3.level lv HH.out.lv, (hx2.next hx3).set (.inr (.inl rfl)) 1 _⟩))
   have hxx : ∀ {w1 : World}, q1s wk.heap.size (fun k => k = g \/ k = b3) wk w1 -> q1s w.heap.size (· = g) w w1 := fun hx => (q1m HXK.out).trans (hx.mono HXK.out.size (fun k hk hX => by
    rcases hX with h | h
    ·exact h
    ·have := E3.out; omega))
   go_wp2_with fail
   refine HWI.out.mono ?_
   intro e w5 hres
   cases r with
   | error f =>
    obtain ⟨rfl, hx5⟩ := hres
    have HX5 := q0h (hxx hx5)
    clear hx5 hxx
    go_wp2_with fail
    exact ⟨rfl, rfl, HX5.out⟩
   | ok q =>
    obtain ⟨ex, ts2⟩ := q
    obtain ⟨v, rfl, ⟨rfl, k, o, n, s, A, l, c, a, t, p, rfl, hn5, hE⟩, hr5, hx5⟩ := hres
    have HX5 := q0h (hxx hx5)
    have HR5 := q0h hr5
    have HE5 := q0h hE
    have HN5 := q0h hn5
    have l5 := q0c hn5
    obtain ⟨d0, d1, d2, d3, d4, d5, d6, d7, f0, f1, f2, f3, f4, f5, f6, f7⟩ := q0r hn5
    clear hx5 hxx hr5 hE hn5 c1 l1 hmf
    go_wp2_with fail
    obtain ⟨W6, hW6, hn6, hs6, hk6, hx6⟩ := j5r (.int .i64 k) (.int .i64 o) (.int .i64 n) (.string s) (.slice A l.length c) (.int .i64 a) (.int .i64 t) (.int .i64 p) HN5.out
    rw [<- hW6]
    refine bodyPost_ret (q0o rfl _ _ b3 86 #[.int .i64 k, .int .i64 o, .int .i64 n, .string s, .slice A l.length c, .int .i64 a, .int .i64 t, .int .i64 p] (0, 0) _ rfl hn6 Tryz.underlying86 rfl (by kernel_rfl)) rfl ?_
    have hnn := HN.out
    have e3 := E3.out
    exact ⟨_, rfl, ⟨_, rfl, q4z k o n s a t p (x0o.keep HE5.out (by omega) (fun i hi _ => hk6 i (by omega)))⟩, HR5.out.keep (by omega) (fun i hi => hk6 i (by omega)), HX5.out.trans (hx6 _ _ (.inl (by omega)))⟩
 ·-- a not
  go_enter Tryz.func220, Tryz.ntmps220
  go_wp2_with fail
  rw [<- HW.out, <- E2.out, <- E3.out, <- E1.out]
  refine (q1t HRW.out (tx [33])).mono ?_
  rintro e w1 ⟨rfl, hx1⟩
  rw [<- P1.out]
  have HR1 := q0h (HRW.out.below hx1)
  have HX1 := q0h (q0e HBW.out hx1)
  have i1 := (hx1.block b1 (q0c Q1.out)).trans Q1.out
  have i2 := (hx1.block b2 (q0c Q2.out)).trans Q2.out
  have i3 := (hx1.block b3 (q0c Q3.out)).trans Q3.out
  have I1 := q0h i1
  have I2 := q0h i2
  have I3 := q0h i3
  clear c1 l1 hx1
  have l1 := q0c i1
  have c1 : w1.cell? ⟨b1, 0, none⟩ = some (.pointer (some ⟨g, 0, none⟩)) := (q0a i1 0).trans rfl
  have i2c : w1.cell? ⟨b2, 0, none⟩ = some (.int .i64 14) := (q0a i2 0).trans rfl
  have i2f : w1.frozen? ⟨b2, 0, none⟩ = false := q0f i2 0
  obtain ⟨wk, hwk⟩ : ∃ W, W = w1.setCell ⟨b2, 0, none⟩ (.int .i64 15) := ⟨_, rfl⟩
  have hnn := HN.out
  have HRK := q0h (show RD B wk g ts lv by rw [hwk]; exact HR1.out.set hnn.2.1 0 _)
  have HXK := q0h (show Below w.heap.size w wk by rw [hwk]; exact q1q HX1.out (by have := E2.out; omega))
  have KB1 := q0h (by have h := (Below.heap_setCell w1 ⟨b2, 0, none⟩ (.int .i64 15) b1 (by show b1 ≠ b2; omega)).trans I1.out; rw [<- hwk] at h; exact h)
  have KB2 := q0h (show wk.heap[b2]? = some (.cells #[.int .i64 15] 3 (0, 0)) by rw [hwk]; exact q0y I2.out 0 (.int .i64 15) rfl)
  have KB3 := q0h (by have h := (Below.heap_setCell w1 ⟨b2, 0, none⟩ (.int .i64 15) b3 (by show b3 ≠ b2; omega)).trans I3.out; rw [<- hwk] at h; exact h)
  have HWK := q0h hwk
  have nb12 : ¬ b1 = b2 := by omega
  clear i1 i3 hwk hnn
  have HPW := q0h (show q1x lv (fun lv ts => (R.one lv).bind (fun e => .ret (.mk 8 15 0 ⟨#[]⟩ [e] (ts.headD q2m).at_ 0 0)) (q0w ts)) ts = some r from HP.out)
  have HWI := q0h (q8c HRK.out 240 #[.pointer (some ⟨b1, 0, none⟩), .pointer (some ⟨b2, 0, none⟩), .pointer (some ⟨b3, 0, none⟩)] x4s (x3x B wk (fun k => k = g \/ k = b3) g lv (j2b b3) r) (fun h30 => by
    have h1 := HPW.out
    unfold q1x at h1
    rw [if_pos h30] at h1
    have h2 := q0p (show some (Except.error (91, (ts.headD q2m).at_)) = some r from h1)
    subst h2
    exact ⟨rfl, q1s.refl _ _ _⟩) (fun hne hr2 => by
    have h1 := HPW.out
    unfold q1x at h1
    rw [if_neg hne] at h1
    have hnn := HN.out
    have hx2 := (q1s.refl wk.heap.size (fun k => k = g \/ k = b3) wk).set (.inr (.inl rfl)) 1 (.int .i64 ((lv : Int) + 1))
    have up : ∀ {k : Nat} {o : Obj}, wk.heap[k]? = some o -> k ≠ g -> (wk.setCell ⟨g, 1, none⟩ (.int .i64 ((lv : Int) + 1))).heap[k]? = some o := fun hk hn => (Below.heap_setCell _ _ _ _ hn).trans hk
    refine (x0p HR.out wk (lv + 1) b1 b2 b3 15 hnn.1 hnn.2.1 hnn.2.2.1 (by omega) (by omega) _ ts hx2 ⟨up KB1.out (by omega), up KB2.out (by omega), _, _, _, _, _, _, _, _, up KB3.out (by omega)⟩ hr2 r h1).mono ?_
    intro e w2 hres
    cases r with
    | error f =>
     obtain ⟨rfl, hx3⟩ := hres
     exact .inr ⟨_, rfl, rfl, hx2.next hx3⟩
    | ok q =>
     obtain ⟨a2, ts2⟩ := q
     obtain ⟨v, rfl, ⟨rfl, hs⟩, hr3, hx3⟩ := hres
     exact .inl ⟨rfl, ⟨_, hr3⟩, _, rfl, ⟨rfl, hs.keep (q1s.set (X := (· = g)) (q1s.refl _ _ _) (b := g) (.inr rfl) 1 _) (by omega)⟩, hr3.level lv HH.out.lv, (hx2.next hx3).set (.inr (.inl rfl)) 1 _⟩))
  have hxx : ∀ {w1 : World}, q1s wk.heap.size (fun k => k = g \/ k = b3) wk w1 -> q1s w.heap.size (· = g) w w1 := fun hx => (q1m HXK.out).trans (hx.mono HXK.out.size (fun k hk hX => by
   rcases hX with h | h
   ·exact h
   ·have := E3.out; omega))
  go_wp2_with fail
  rw [<- HWK.out]
  refine HWI.out.mono ?_
  intro e w5 hres
  cases r with
  | error f =>
   obtain ⟨rfl, hx5⟩ := hres
   have HX5 := q0h (hxx hx5)
   clear hx5 hxx
   go_wp2_with fail
   exact ⟨rfl, rfl, HX5.out⟩
  | ok q =>
   obtain ⟨ex, ts2⟩ := q
   obtain ⟨v, rfl, ⟨rfl, k, o, n, s, A, l, c, a, t, p, rfl, hn5, hE⟩, hr5, hx5⟩ := hres
   have HX5 := q0h (hxx hx5)
   have HR5 := q0h hr5
   have HE5 := q0h hE
   have HN5 := q0h hn5
   have l5 := q0c hn5
   obtain ⟨d0, d1, d2, d3, d4, d5, d6, d7, f0, f1, f2, f3, f4, f5, f6, f7⟩ := q0r hn5
   clear hx5 hxx hr5 hE hn5 c1 l1 hmf i2 i2c i2f
   go_wp2_with fail
   obtain ⟨W6, hW6, hn6, hs6, hk6, hx6⟩ := j5r (.int .i64 k) (.int .i64 o) (.int .i64 n) (.string s) (.slice A l.length c) (.int .i64 a) (.int .i64 t) (.int .i64 p) HN5.out
   rw [<- hW6]
   refine bodyPost_ret (q0o rfl _ _ b3 86 #[.int .i64 k, .int .i64 o, .int .i64 n, .string s, .slice A l.length c, .int .i64 a, .int .i64 t, .int .i64 p] (0, 0) _ rfl hn6 Tryz.underlying86 rfl (by kernel_rfl)) rfl ?_
   have hnn := HN.out
   have e3 := E3.out
   exact ⟨_, rfl, ⟨_, rfl, q4z k o n s a t p (x0o.keep HE5.out (by omega) (fun i hi _ => hk6 i (by omega)))⟩, HR5.out.keep (by omega) (fun i hi => hk6 i (by omega)), HX5.out.trans (hx6 _ _ (.inl (by omega)))⟩
theorem z6r {w : World} {base : Nat} {ok : Nat -> Prop} {k : Int} {s : ByteArray} {t : Int} {l : List Ex} {b e : List St} {a p : Int} {cs : List Value} (h : kSt.M w base ok (.mk k s t l b e a p) cs) : ∃ v v1 v2, cs = [.int .i64 k, .string s, .int .i64 t, v, v1, v2, .int .i64 a, .int .i64 p] /\ kEx.R 86 w base ok v l /\ kSt.R 67 w base ok v1 b /\ kSt.R 67 w base ok v2 e := by
 obtain ⟨m, h⟩ := h
 cases m with
 | zero => exact h.elim
 | succ m =>
  obtain ⟨_, _, rfl, rfl, _, _, rfl, rfl, _, _, rfl, rfl, _, _, rfl, ⟨v, rfl, hc⟩, _, _, rfl, ⟨v1, rfl, hc1⟩, _, _, rfl, ⟨v2, rfl, hc2⟩, _, _, rfl, rfl, rfl⟩ := h
  exact ⟨v, v1, v2, rfl, hc, Kd.fix_R hc1, Kd.fix_R hc2⟩
theorem j3n {w1 : World} {base : Nat} {e : St} {cs : List Value} (h : kSt.M w1 base (fun k => base <= k) e cs) (hb : base <= w1.heap.size) : j5z base (w1.alloc (.cells cs.toArray 67)) [e] (.slice (some ⟨w1.heap.size, 0, none⟩) 1 1) := by
 have h2 : kSt.M (w1.alloc (.cells cs.toArray 67)) base (fun k => base <= k /\ some k ≠ (Value.slice (some ⟨w1.heap.size, 0, none⟩) 1 1).ownBlock) e cs :=
  kSt.M_mono (fun k hk => ⟨hk.1, fun e => by
   have e2 : some k = some w1.heap.size := e
   injection e2 with e2
   have := hk.2.2.1
   omega⟩) (kSt.M_move (fun k hk => Below.heap_alloc _ _ _ hk.2.2.1) (kSt.M_bound h))
 refine ⟨fun k hk => ?_, q4l.lit w1 base ⟨?_, fun j p hj => ?_⟩ hb (by simp)⟩
 ·have e2 : some w1.heap.size = some k := hk
  injection e2 with e2
  omega
 ·have := kSt.K_len (kSt.K_of_M h)
  rw [this]; rfl
 ·cases j with
  | zero =>
   injection hj with hj
   subst hj
   have hl : cs.length = kSt.sz := kSt.K_len (kSt.K_of_M h)
   rw [Nat.zero_mul, List.drop_zero, List.take_of_length_le (by omega)]
   exact h2
  | succ j => cases hj
def z6s (b1 b3 g : Nat) (o0 o1 o2 o3 o4 o5 o6 o7 : Value) (w : World) : Prop := w.heap[b1]? = some (.cells #[.pointer (some ⟨g, 0, none⟩)] 56 (0, 0)) /\ w.heap[b3]? = some (.cells #[o0, o1, o2, o3, o4, o5, o6, o7] 67 (0, 0))
def x4t (b3 : Nat) (o0 o1 o2 o3 o4 o6 o7 : Value) (w : World) (s : St) : Prop := ∃ A, w.heap[b3]? = some (.cells #[o0, o1, o2, o3, o4, .slice A 1 1, o6, o7] 67 (0, 0)) /\ j5z (b3 + 1) w [s] (.slice A 1 1)
theorem x2p : q1k 193 := fun args w => q5r Tryz.func193 (by kernel_rfl) rfl args w
theorem z8r {B g : Nat} {R : q4e} (hR : q7i B g R) (w0 : World) (lv b1 b3 : Nat) (hb : B <= b1) (hbb : b1 < b3) (o0 o1 o2 o3 o4 o5 o6 o7 : Value) :
  z5c B w0 (fun k => k = g \/ k = b3) g lv 193 #[.pointer (some ⟨b1, 0, none⟩), .pointer (some ⟨b3, 0, none⟩)] (R.choice lv) (x4t b3 o0 o1 o2 o3 o4 o6 o7) (z6s b1 b3 g o0 o1 o2 o3 o4 o5 o6 o7) := by
 intro w ts hx0 hpre h r hp
 obtain ⟨h1, h3⟩ := hpre
 have HH := q0h h
 have H3 := q0h h3
 have hgB := h.gB
 have HR := q0h hR
 have HP := q0h hp
 have l1 := q0c h1
 have HL3 := q0h (q0c h3)
 have c1 : w.cell? ⟨b1, 0, none⟩ = some (.pointer (some ⟨g, 0, none⟩)) := (q0a h1 0).trans rfl
 have HB := q0h (show B <= b3 /\ ¬ b3 = g by omega)
 clear h h1 h3 hx0 hR hp
 go_enter Tryz.func193, Tryz.ntmps193
 go_wp2_with fail
 refine (HR.out.choice w ts lv r HH.out HP.out).mono ?_
 intro e' w1 hres
 cases r with
 | error f =>
  obtain ⟨rfl, hx1⟩ := hres
  have HX1 := q0h (hx1.mono (X' := fun k => k = g \/ k = b3) (Nat.le_refl _) (fun k _ hk => .inl hk))
  clear hx1
  go_wp2_with fail
  exact ⟨rfl, rfl, HX1.out⟩
 | ok q =>
  obtain ⟨st, ts2⟩ := q
  obtain ⟨v, rfl, ⟨cs, rfl, hM⟩, hr1, hx1⟩ := hres
  cases st with
  | mk k s t l b e a p =>
   obtain ⟨v0, v1, v2, rfl, hl, hl1, hl2⟩ := z6r hM
   obtain ⟨A, c, rfl⟩ := Kd.R_slice hl
   obtain ⟨A1, d1, rfl⟩ := Kd.R_slice hl1
   obtain ⟨A2, d2, rfl⟩ := Kd.R_slice hl2
   have HM := q0h (kSt.M_mono (ok' := fun k => b3 + 1 <= k) (fun k hk => by have := HL3.out; have h3 : w.heap.size <= k := hk; omega) (kSt.M_lower (base' := b3 + 1) (by have := HL3.out; omega) hM))
   have HR1 := q0h hr1
   have HX1 := q0h (hx1.mono (X' := fun k => k = g \/ k = b3) (Nat.le_refl _) (fun k _ hk => .inl hk))
   have hn3 := (hx1.block b3 HL3.out HB.out.2).trans H3.out
   have HN3 := q0h hn3
   have l3 := q0c hn3
   have d5 : w1.cell? ⟨b3, 5, none⟩ = some o5 := (q0a hn3 5).trans rfl
   have f5 : w1.frozen? ⟨b3, 5, none⟩ = false := q0f hn3 5
   have HSZ := q0h hx1.size
   clear hM hl hl1 hl2 hr1 hx1 hn3 c1 l1
   go_wp2_with fail
   go_end0
   obtain ⟨W2, hW2⟩ : ∃ W, W = w1.setCell ⟨b3, 5, none⟩ (.slice (some ⟨w1.heap.size, 0, none⟩) 1 1) := ⟨_, rfl⟩
   have hs : W2.heap.size = w1.heap.size := by rw [hW2]; simp
   have hM2 := Kd.M_step (w1 := W2) HM.out (fun i h1 h2 => by rw [hW2]; exact Below.heap_setCell _ _ _ _ (by show i ≠ b3; omega))
   have hl3 := HL3.out
   have hsz := HSZ.out
   have hE := j3n hM2 (by omega)
   have hbk : W2.heap[b3]? = some (.cells #[o0, o1, o2, o3, o4, .slice (some ⟨w1.heap.size, 0, none⟩) 1 1, o6, o7] 67 (0, 0)) := by rw [hW2]; exact q0y HN3.out 5 _ rfl
   have hRD : RD B W2 g ts2 lv := by rw [hW2]; exact HR1.out.set HB.out.1 5 _
   have hXX : q1s w.heap.size (fun k => k = g \/ k = b3) w W2 := by rw [hW2]; exact HX1.out.set (.inr (.inr rfl)) 5 _
   rw [<- hW2]
   have hb := q0d (Below.refl W2.heap.size W2) (.cells #[.int .i64 k, .string s, .int .i64 t, .slice A l.length c, .slice A1 b.length d1, .slice A2 e.length d2, .int .i64 a, .int .i64 p] 67)
   rw [hs] at hE
   exact ⟨_, rfl, ⟨rfl, some ⟨w1.heap.size, 0, none⟩, (hb.block b3 (by omega)).trans hbk, hE⟩, hRD.below hb, hXX.next (q1m hb)⟩
theorem z8s (p q : Addr) (w : World) :
  CallsD Tryz.prog 26 #[.pointer (some p), .pointer (some q)] .returning w fun e u' w' => e = .returned (.tuple #[]) /\ u' = .returning /\ w' = w := by
 refine callsD_of_wpS Tryz.func26 rfl fun c₀ cs hu => ?_
 apply wpS_seq
 apply wpS_region
 simp [wpOpsS, go_sem, recoverD, hu, Tryz.ntmps26, Exit.thenS]
 refine wpS_of_wp ?_
 go_wp2_with fail
 cases c₀
 simp_all [bodyPostS, results, Tryz.results26]
theorem z6t (bm bf : Nat) (code at_ : Int) (older : List PanicEntry) (w : World) (m0 m1 f0 f1 : Value) (hm : w.heap[bm]? = some (.cells #[m0, m1] 25 (0, 0))) (hf : w.heap[bf]? = some (.cells #[f0, f1] 35 (0, 0))) :
  CallsD Tryz.prog 26 #[.pointer (some ⟨bm, 0, none⟩), .pointer (some ⟨bf, 0, none⟩)] (.panicking ({ v := .iface 55 (.agg #[.int .i64 code, .int .i64 at_]), recovered := false } :: older)) w fun e u' w' =>
   e = .returned (.tuple #[]) /\ u' = .panicking ({ v := .iface 55 (.agg #[.int .i64 code, .int .i64 at_]), recovered := true } :: older) /\ q1s w.heap.size (fun k => k = bm \/ k = bf) w w' /\ w'.heap[bf]? = some (.cells #[.int .i64 code, .int .i64 at_] 35 (0, 0)) /\ w'.heap[bm]? = some (.cells #[.slice none 0 0, .slice none 0 0] 25 (0, 0)) := by
 have cm0 : w.cell? ⟨bm, 0, none⟩ = some m0 := (q0a hm 0).trans rfl
 have cm1 : w.cell? ⟨bm, 1, none⟩ = some m1 := (q0a hm 1).trans rfl
 have cf0 : w.cell? ⟨bf, 0, none⟩ = some f0 := (q0a hf 0).trans rfl
 have cf1 : w.cell? ⟨bf, 1, none⟩ = some f1 := (q0a hf 1).trans rfl
 have hne : ¬ bm = bf := fun e => by
  rw [e, hf] at hm
  injection hm with hm
  injection hm with _ h _
  exact absurd h (by decide)
 have lm := q0c hm
 have lf := q0c hf
 have zm0 : w.frozen? ⟨bm, 0, none⟩ = false := q0f hm 0
 have zm1 : w.frozen? ⟨bm, 1, none⟩ = false := q0f hm 1
 have zf0 : w.frozen? ⟨bf, 0, none⟩ = false := q0f hf 0
 have zf1 : w.frozen? ⟨bf, 1, none⟩ = false := q0f hf 1
 have HM := q0h hm
 have HF := q0h hf
 clear hm hf
 refine callsD_of_wpS Tryz.func26 rfl fun c₀ cs hu => ?_
 apply wpS_seq
 apply wpS_region
 simp [wpOpsS, go_sem, recoverD, hu, Tryz.ntmps26, Exit.thenS]
 refine wpS_of_wp ?_
 have hta : ∀ w : World, Sem.run Tryz.prog (Instr.typeAssert (.iface 55 (.agg #[.int .i64 code, .int .i64 at_])) 20 55 true) w = .ok (.tuple #[.agg #[.int .i64 code, .int .i64 at_], .bool true]) w := fun w => by kernel_rfl
 go_wp2_with fail
 go_region
 all_goals
  have hx : q1s w.heap.size (fun k => k = bm \/ k = bf) w (((((w.setCell ⟨bm, 0, none⟩ (.slice none 0 0)).setCell ⟨bm, 1, none⟩ (.slice none 0 0)).setCell ⟨bf, 0, none⟩ (.int .i64 code)).setCell ⟨bf, 1, none⟩ (.int .i64 at_)).alloc (.cells #[.int .i64 code, .int .i64 at_] 55)).drew := by
   have h1 := ((((q1s.refl w.heap.size (fun k => k = bm \/ k = bf) w).set (b := bm) (.inr (.inl rfl)) 0 (.slice none 0 0)).set (b := bm) (.inr (.inl rfl)) 1 (.slice none 0 0)).set (b := bf) (.inr (.inr rfl)) 0 (.int .i64 code)).set (b := bf) (.inr (.inr rfl)) 1 (.int .i64 at_)
   have h2 := h1.alloc h1.size (.cells #[.int .i64 code, .int .i64 at_] 55)
   exact ⟨h2.os, h2.tape, h2.output, h2.size, h2.block⟩
  have hfb : (((((w.setCell ⟨bm, 0, none⟩ (.slice none 0 0)).setCell ⟨bm, 1, none⟩ (.slice none 0 0)).setCell ⟨bf, 0, none⟩ (.int .i64 code)).setCell ⟨bf, 1, none⟩ (.int .i64 at_)).alloc (.cells #[.int .i64 code, .int .i64 at_] 55)).drew.heap[bf]? = some (.cells #[.int .i64 code, .int .i64 at_] 35 (0, 0)) := by
   have h0 := (Below.heap_setCell (w.setCell ⟨bm, 0, none⟩ (.slice none 0 0)) ⟨bm, 1, none⟩ (.slice none 0 0) bf (fun e => hne e.symm)).trans ((Below.heap_setCell w ⟨bm, 0, none⟩ (.slice none 0 0) bf (fun e => hne e.symm)).trans HF.out)
   exact q7l (q0y (q0y h0 0 (.int .i64 code) rfl) 1 (.int .i64 at_) rfl) _
  have hmb : (((((w.setCell ⟨bm, 0, none⟩ (.slice none 0 0)).setCell ⟨bm, 1, none⟩ (.slice none 0 0)).setCell ⟨bf, 0, none⟩ (.int .i64 code)).setCell ⟨bf, 1, none⟩ (.int .i64 at_)).alloc (.cells #[.int .i64 code, .int .i64 at_] 55)).drew.heap[bm]? = some (.cells #[.slice none 0 0, .slice none 0 0] 25 (0, 0)) := by
   have h0 := q0y (q0y HM.out 0 (.slice none 0 0) rfl) 1 (.slice none 0 0) rfl
   exact q7l ((Below.heap_setCell _ ⟨bf, 1, none⟩ (.int .i64 at_) bm hne).trans ((Below.heap_setCell _ ⟨bf, 0, none⟩ (.int .i64 code) bm hne).trans h0)) _
  have HMB := q0h hmb
  have HX := q0h hx
  have HFB := q0h hfb
  clear hx hfb hmb
  go_wp2_with fail
  cases c₀
  simp [bodyPostS, results, Tryz.results26]
  exact ⟨HX.out, HFB.out, HMB.out⟩
abbrev Blk := Nat × Array Value × TypeId
abbrev x0q := Nat × Nat × (World -> Prop)
def z6u (lo hi : Nat) (q : World -> Prop) : Prop := ∀ w1 w2 : World, (∀ k, lo <= k -> k < hi -> w2.heap[k]? = w1.heap[k]?) -> q w1 -> q w2
structure ST (B g lv : Nat) (X : Nat -> Prop) (w0 w : World) (ts : List Tok) (bs : List Blk) (ks : List x0q) : Prop where
 rd : RD B w g ts lv
 bx : q1s w0.heap.size X w0 w
 xg : X g
 bl : ∀ p ∈ bs, B <= p.1 /\ w.heap[p.1]? = some (.cells p.2.1 p.2.2 (0, 0))
 kp : ∀ q ∈ ks, B <= q.1 /\ q.2.1 <= w.heap.size /\ q.2.2 w /\ z6u q.1 q.2.1 q.2.2 /\ ∀ p ∈ bs, p.1 < q.1 \/ q.2.1 <= p.1
theorem ST.start {B g lv : Nat} {X : Nat -> Prop} {w : World} {ts : List Tok} (h : RD B w g ts lv) (hx : X g) : ST B g lv X w w ts [] [] := ⟨h, q1s.refl _ _ _, hx, (fun p hp => by cases hp), (fun p hp => by cases hp)⟩
namespace ST
variable {B g lv : Nat} {X X' : Nat -> Prop} {w0 w w1 : World} {ts ts1 : List Tok} {bs : List Blk} {ks : List x0q} {p0 p1 p2 p3 : Blk} {h0 h1 h2 : x0q}
theorem lt (h : ST B g lv X w0 w ts bs ks) : ∀ p ∈ bs, p.1 < w.heap.size := fun p hp => q0c (h.bl p hp).2
theorem call_x (h : ST B g lv X w0 w ts bs ks) (hx : q1s w.heap.size (· = g) w w1) : q1s w0.heap.size X w0 w1 := h.bx.step hx (fun k hk => by rw [hk]; exact h.xg)
theorem call (h : ST B g lv X w0 w ts bs ks) (hr : RD B w1 g ts1 lv) (hx : q1s w.heap.size (· = g) w w1) : ST B g lv X w0 w1 ts1 bs ks :=
  ⟨hr, h.call_x hx, h.xg, fun p hp => ⟨(h.bl p hp).1, (hx.block p.1 (h.lt p hp) (fun e => by have h1 : p.1 = g := e; have := h.rd.gB; have := (h.bl p hp).1; omega)).trans (h.bl p hp).2⟩,
   fun q hq => by
    obtain ⟨k1, k2, k3, k4, k5⟩ := h.kp q hq
    exact ⟨k1, Nat.le_trans k2 hx.size, k4 w w1 (fun k hk hl => hx.block k (by omega) (fun e => by have h1 : k = g := e; have := h.rd.gB; omega)) k3, k4, k5⟩⟩
theorem below (h : ST B g lv X w0 w ts bs ks) (hb : Below w.heap.size w w1) : ST B g lv X w0 w1 ts bs ks := h.call (h.rd.below hb) (q1m hb)
theorem push (h : ST B g lv X w0 w ts bs ks) (cs : Array Value) (t : TypeId) : ∃ W, W = w.alloc (.cells cs t) /\ ST B g lv X w0 W ts ((w.heap.size, cs, t) :: bs) ks := by
 refine ⟨_, rfl, ?_⟩
 have h1 := h.below (w1 := w.alloc (.cells cs t)) (q0d (Below.refl _ _) _)
 refine ⟨h1.rd, h1.bx, h1.xg, fun p hp => ?_, fun q hq => ?_⟩
 ·rcases List.mem_cons.1 hp with rfl | hp
  ·exact ⟨h.rd.Bw, heap_alloc_new _ _⟩
  ·exact h1.bl p hp
 ·obtain ⟨k1, k2, k3, k4, k5⟩ := h1.kp q hq
  refine ⟨k1, k2, k3, k4, fun p hp => ?_⟩
  rcases List.mem_cons.1 hp with rfl | hp
  ·exact .inr (h.kp q hq).2.1
  ·exact k5 p hp
theorem push2 (h : ST B g lv X w0 w ts bs ks) (cs : Array Value) (t : TypeId) (cs' : Array Value) (t' : TypeId) : ∃ W, W = (w.alloc (.cells cs t)).alloc (.cells cs' t') /\ ST B g lv X w0 W ts ((w.heap.size + 1, cs', t') :: (w.heap.size, cs, t) :: bs) ks := by
 obtain ⟨W, rfl, h1⟩ := h.push cs t
 obtain ⟨W2, rfl, h2⟩ := h1.push cs' t'
 refine ⟨_, rfl, ?_⟩
 rw [show (w.alloc (.cells cs t)).heap.size = w.heap.size + 1 by simp] at h2
 exact h2
theorem push3 (h : ST B g lv X w0 w ts bs ks) (cs : Array Value) (t : TypeId) (cs' : Array Value) (t' : TypeId) (cs2 : Array Value) (t2 : TypeId) : ∃ W, W = ((w.alloc (.cells cs t)).alloc (.cells cs' t')).alloc (.cells cs2 t2) /\ ST B g lv X w0 W ts ((w.heap.size + 1 + 1, cs2, t2) :: (w.heap.size + 1, cs', t') :: (w.heap.size, cs, t) :: bs) ks := by
 obtain ⟨W, rfl, h1⟩ := h.push2 cs t cs' t'
 obtain ⟨W2, rfl, h2⟩ := h1.push cs2 t2
 refine ⟨_, rfl, ?_⟩
 rw [show ((w.alloc (.cells cs t)).alloc (.cells cs' t')).heap.size = w.heap.size + 1 + 1 by simp] at h2
 exact h2
theorem q0 (h : ST B g lv X w0 w ts (p0 :: bs) ks) : w.heap[p0.1]? = some (.cells p0.2.1 p0.2.2 (0, 0)) := (h.bl _ List.mem_cons_self).2
theorem q1 (h : ST B g lv X w0 w ts (p0 :: p1 :: bs) ks) : w.heap[p1.1]? = some (.cells p1.2.1 p1.2.2 (0, 0)) := (h.bl _ (List.mem_cons_of_mem _ List.mem_cons_self)).2
theorem q2 (h : ST B g lv X w0 w ts (p0 :: p1 :: p2 :: bs) ks) : w.heap[p2.1]? = some (.cells p2.2.1 p2.2.2 (0, 0)) := (h.bl _ (List.mem_cons_of_mem _ (List.mem_cons_of_mem _ List.mem_cons_self))).2
theorem q3 (h : ST B g lv X w0 w ts (p0 :: p1 :: p2 :: p3 :: bs) ks) : w.heap[p3.1]? = some (.cells p3.2.1 p3.2.2 (0, 0)) := (h.bl _ (List.mem_cons_of_mem _ (List.mem_cons_of_mem _ (List.mem_cons_of_mem _ List.mem_cons_self)))).2
theorem k0 (h : ST B g lv X w0 w ts bs (h0 :: ks)) : h0.2.2 w := (h.kp _ List.mem_cons_self).2.2.1
theorem k1 (h : ST B g lv X w0 w ts bs (h0 :: h1 :: ks)) : h1.2.2 w := (h.kp _ (List.mem_cons_of_mem _ List.mem_cons_self)).2.2.1
theorem k2 (h : ST B g lv X w0 w ts bs (h0 :: h1 :: h2 :: ks)) : h2.2.2 w := (h.kp _ (List.mem_cons_of_mem _ (List.mem_cons_of_mem _ List.mem_cons_self))).2.2.1
theorem re (h : ST B g lv X w0 w ts bs ks) (bs' : List Blk) (hs : ∀ p ∈ bs', p ∈ bs) : ST B g lv X w0 w ts bs' ks := ⟨h.rd, h.bx, h.xg, fun p hp => h.bl p (hs p hp), fun q hq => by
 obtain ⟨k1, k2, k3, k4, k5⟩ := h.kp q hq
 exact ⟨k1, k2, k3, k4, fun p hp => k5 p (hs p hp)⟩⟩
theorem up1 (h : ST B g lv X w0 w ts (p0 :: p1 :: bs) ks) : ST B g lv X w0 w ts (p1 :: p0 :: bs) ks := h.re _ (fun p hp => by
 rcases List.mem_cons.1 hp with rfl | hp
 ·exact List.mem_cons_of_mem _ List.mem_cons_self
 ·rcases List.mem_cons.1 hp with rfl | hp
  ·exact List.mem_cons_self
  ·exact List.mem_cons_of_mem _ (List.mem_cons_of_mem _ hp))
theorem up2 (h : ST B g lv X w0 w ts (p0 :: p1 :: p2 :: bs) ks) : ST B g lv X w0 w ts (p2 :: p0 :: p1 :: bs) ks := h.re _ (fun p hp => by
 rcases List.mem_cons.1 hp with rfl | hp
 ·exact List.mem_cons_of_mem _ (List.mem_cons_of_mem _ List.mem_cons_self)
 ·rcases List.mem_cons.1 hp with rfl | hp
  ·exact List.mem_cons_self
  ·rcases List.mem_cons.1 hp with rfl | hp
   ·exact List.mem_cons_of_mem _ List.mem_cons_self
   ·exact List.mem_cons_of_mem _ (List.mem_cons_of_mem _ (List.mem_cons_of_mem _ hp)))
theorem drop0 (h : ST B g lv X w0 w ts (p0 :: bs) ks) : ST B g lv X w0 w ts bs ks := h.re _ (fun p hp => List.mem_cons_of_mem _ hp)
theorem drop1 (h : ST B g lv X w0 w ts (p0 :: p1 :: bs) ks) : ST B g lv X w0 w ts (p0 :: bs) ks := h.up1.drop0
theorem monoX (h : ST B g lv X w0 w ts bs ks) (hx : ∀ k, X k -> X' k) : ST B g lv X' w0 w ts bs ks := ⟨h.rd, h.bx.mono (Nat.le_refl _) (fun k _ hk => hx k hk), hx _ h.xg, h.bl, h.kp⟩
theorem set0 {b : Nat} {cs cs' : Array Value} {t : TypeId} (h : ST B g lv X w0 w ts ((b, cs, t) :: bs) ks) (i : Nat) (u : Value) (hb : w0.heap.size <= b \/ X b) (hn : ∀ p ∈ bs, p.1 ≠ b) (e : cs.setIfInBounds i u = cs') : ST B g lv X w0 (w.setCell ⟨b, i, none⟩ u) ts ((b, cs', t) :: bs) ks := by
 have hB := (h.bl _ List.mem_cons_self).1
 refine ⟨h.rd.set hB i u, h.bx.set hb i u, h.xg, fun p hp => ?_, fun q hq => ?_⟩
 ·rcases List.mem_cons.1 hp with rfl | hp
  ·exact ⟨hB, q0y h.q0 i u e⟩
  ·exact ⟨(h.bl _ (List.mem_cons_of_mem _ hp)).1, (Below.heap_setCell _ _ _ _ (hn p hp)).trans (h.bl _ (List.mem_cons_of_mem _ hp)).2⟩
 ·obtain ⟨k1, k2, k3, k4, k5⟩ := h.kp q hq
  refine ⟨k1, by simpa using k2, k4 _ _ (fun k hk hl => Below.heap_setCell _ _ _ _ (fun e2 => by have h1 : k = b := e2; have h5 : b < q.1 \/ q.2.1 <= b := k5 _ List.mem_cons_self; omega)) k3, k4, fun p hp => ?_⟩
  rcases List.mem_cons.1 hp with rfl | hp
  ·exact k5 (b, cs, t) List.mem_cons_self
  ·exact k5 p (List.mem_cons_of_mem _ hp)
theorem hold (h : ST B g lv X w0 w ts bs ks) (k : ST B g lv X w0 w1 ts1 bs ks) (hs : w.heap.size <= w1.heap.size) {q : World -> Prop} (hq : q w1) (hst : z6u w.heap.size w1.heap.size q) : ST B g lv X w0 w1 ts1 bs ((w.heap.size, w1.heap.size, q) :: ks) :=
 ⟨k.rd, k.bx, k.xg, k.bl, fun z hz => by
  rcases List.mem_cons.1 hz with rfl | hz
  ·exact ⟨h.rd.Bw, Nat.le_refl _, hq, hst, fun p hp => .inl (h.lt p hp)⟩
  ·exact k.kp z hz⟩
theorem holdAt (k : ST B g lv X w0 w ts bs ks) (lo hi : Nat) {q : World -> Prop} (hB : B <= lo) (hh : hi <= w.heap.size) (hq : q w) (hst : z6u lo hi q) (hn : ∀ p ∈ bs, p.1 < lo \/ hi <= p.1) : ST B g lv X w0 w ts bs ((lo, hi, q) :: ks) :=
 ⟨k.rd, k.bx, k.xg, k.bl, fun z hz => by
  rcases List.mem_cons.1 hz with rfl | hz
  ·exact ⟨hB, hh, hq, hst, hn⟩
  ·exact k.kp z hz⟩
theorem dropk (h : ST B g lv X w0 w ts bs (h0 :: ks)) : ST B g lv X w0 w ts bs ks := ⟨h.rd, h.bx, h.xg, h.bl, fun q hq => h.kp q (List.mem_cons_of_mem _ hq)⟩
theorem callX {X1 : Nat -> Prop} (h : ST B g lv X w0 w ts bs ks) (hr : RD B w1 g ts1 lv) (hx : q1s w.heap.size X1 w w1) (hX : ∀ k, k < w0.heap.size -> X1 k -> X k) (hb : ∀ p ∈ bs, ¬ X1 p.1) (hk : ∀ q ∈ ks, ∀ k, q.1 <= k -> k < q.2.1 -> ¬ X1 k) : ST B g lv X w0 w1 ts1 bs ks :=
  ⟨hr, ⟨hx.os.trans h.bx.os, hx.tape.trans h.bx.tape, hx.output.trans h.bx.output, Nat.le_trans h.bx.size hx.size, fun k hk hn => (hx.block k (Nat.lt_of_lt_of_le hk h.bx.size) (fun h1 => hn (hX k hk h1))).trans (h.bx.block k hk hn)⟩, h.xg, fun p hp => ⟨(h.bl p hp).1, (hx.block p.1 (h.lt p hp) (hb p hp)).trans (h.bl p hp).2⟩,
   fun q hq => by
    obtain ⟨k1, k2, k3, k4, k5⟩ := h.kp q hq
    exact ⟨k1, Nat.le_trans k2 hx.size, k4 w w1 (fun k h1 hl => hx.block k (by omega) (hk q hq k h1 hl)) k3, k4, k5⟩⟩
end ST
def j2c (w : World) (b : Nat) : Nat -> List Value -> World
 | _, [] => w
 | i, v :: vs => j2c (w.setCell ⟨b, i, none⟩ v) b (i + 1) vs
theorem q9n : ∀ (vs : List Value) (w : World) (b i k : Nat), k ≠ b -> (j2c w b i vs).heap[k]? = w.heap[k]?
 | [], _, _, _, _, _ => rfl
 | v :: vs, w, b, i, k, h => (q9n vs _ b (i + 1) k h).trans (Below.heap_setCell w ⟨b, i, none⟩ v k h)
theorem ST.setAll {B g lv : Nat} {X : Nat -> Prop} {w0 : World} {ts : List Tok} {bs : List Blk} {ks : List x0q} {b : Nat} {t : TypeId} (hb : w0.heap.size <= b \/ X b) (hn : ∀ p ∈ bs, p.1 ≠ b) :
  ∀ (vs : List Value) (i : Nat) (w : World) (cs : Array Value), ST B g lv X w0 w ts ((b, cs, t) :: bs) ks -> cs.size = i + vs.length -> ∃ cs', ST B g lv X w0 (j2c w b i vs) ts ((b, cs', t) :: bs) ks /\ cs'.size = cs.size /\ (∀ k, k < i -> cs'[k]? = cs[k]?) /\ ∀ k, cs'[i + k]? = vs[k]? := by
 intro vs
 induction vs with
 | nil => intro i w cs h hs; exact ⟨cs, h, rfl, fun _ _ => rfl, fun k => by simp at hs ⊢; omega⟩
 | cons v vs ih =>
  intro i w cs h hs
  obtain ⟨cs', h1, h2, h3, h4⟩ := ih (i + 1) _ _ (h.set0 i v hb hn rfl) (by simp at hs ⊢; omega)
  have hi : i < cs.size := by simp at hs; omega
  refine ⟨cs', h1, by simpa using h2, fun k hk => ?_, fun k => ?_⟩
  ·rw [h3 k (by omega), Array.getElem?_setIfInBounds_ne (by omega)]
  ·cases k with
   | zero => rw [Nat.add_zero, h3 i (by omega), Array.getElem?_setIfInBounds_self]; simp [hi]
   | succ k => have h5 := h4 k; rw [show i + 1 + k = i + (k + 1) by omega] at h5; simpa using h5
theorem ST.over {B g lv : Nat} {X : Nat -> Prop} {w0 w : World} {ts : List Tok} {bs : List Blk} {ks : List x0q} {b : Nat} {t : TypeId} {cs : Array Value} (h : ST B g lv X w0 w ts ((b, cs, t) :: bs) ks) (hb : w0.heap.size <= b \/ X b) (hn : ∀ p ∈ bs, p.1 ≠ b) (vs : List Value) (hs : cs.size = vs.length) :
  ST B g lv X w0 (j2c w b 0 vs) ts ((b, vs.toArray, t) :: bs) ks := by
 obtain ⟨cs', h1, h2, _, h4⟩ := ST.setAll hb hn vs 0 w cs h (by omega)
 have e : cs' = vs.toArray := by
  apply Array.ext_getElem?
  intro k
  have := h4 k
  rw [Nat.zero_add] at this
  rw [this]; simp
 rw [<- e]
 exact h1
theorem z4e {w : World} {b : Nat} {t : TypeId} {o0 o1 o2 : Value} (h : w.heap[b]? = some (.cells #[o0, o1, o2] t (0, 0))) :
  w.cell? ⟨b, 0, none⟩ = some o0 /\ w.cell? ⟨b, 1, none⟩ = some o1 /\ w.cell? ⟨b, 2, none⟩ = some o2 /\ w.frozen? ⟨b, 0, none⟩ = false /\ w.frozen? ⟨b, 1, none⟩ = false /\ w.frozen? ⟨b, 2, none⟩ = false /\ b < w.heap.size :=
 ⟨(q0a h 0).trans rfl, (q0a h 1).trans rfl, (q0a h 2).trans rfl, q0f h 0, q0f h 1, q0f h 2, q0c h⟩
theorem q7p {w : World} {b : Nat} {t : TypeId} {o0 o1 o2 o3 o4 : Value} (h : w.heap[b]? = some (.cells #[o0, o1, o2, o3, o4] t (0, 0))) :
  w.cell? ⟨b, 0, none⟩ = some o0 /\ w.cell? ⟨b, 1, none⟩ = some o1 /\ w.cell? ⟨b, 2, none⟩ = some o2 /\ w.cell? ⟨b, 3, none⟩ = some o3 /\ w.cell? ⟨b, 4, none⟩ = some o4 /\ w.frozen? ⟨b, 0, none⟩ = false /\ w.frozen? ⟨b, 1, none⟩ = false /\ w.frozen? ⟨b, 2, none⟩ = false /\ w.frozen? ⟨b, 3, none⟩ = false /\ w.frozen? ⟨b, 4, none⟩ = false /\ b < w.heap.size :=
 ⟨(q0a h 0).trans rfl, (q0a h 1).trans rfl, (q0a h 2).trans rfl, (q0a h 3).trans rfl, (q0a h 4).trans rfl, q0f h 0, q0f h 1, q0f h 2, q0f h 3, q0f h 4, q0c h⟩
theorem z6v {w : World} {b : Nat} {t : TypeId} {o0 o1 o2 o3 o4 o5 : Value} (h : w.heap[b]? = some (.cells #[o0, o1, o2, o3, o4, o5] t (0, 0))) :
  w.cell? ⟨b, 0, none⟩ = some o0 /\ w.cell? ⟨b, 1, none⟩ = some o1 /\ w.cell? ⟨b, 2, none⟩ = some o2 /\ w.cell? ⟨b, 3, none⟩ = some o3 /\ w.cell? ⟨b, 4, none⟩ = some o4 /\ w.cell? ⟨b, 5, none⟩ = some o5 /\ w.frozen? ⟨b, 0, none⟩ = false /\ w.frozen? ⟨b, 1, none⟩ = false /\ w.frozen? ⟨b, 2, none⟩ = false /\ w.frozen? ⟨b, 3, none⟩ = false /\ w.frozen? ⟨b, 4, none⟩ = false /\ w.frozen? ⟨b, 5, none⟩ = false /\ b < w.heap.size :=
 ⟨(q0a h 0).trans rfl, (q0a h 1).trans rfl, (q0a h 2).trans rfl, (q0a h 3).trans rfl, (q0a h 4).trans rfl, (q0a h 5).trans rfl, q0f h 0, q0f h 1, q0f h 2, q0f h 3, q0f h 4, q0f h 5, q0c h⟩
theorem PM.bind_assoc {α β γ : Type} (m : PM α) (f : α -> PM β) (k : β -> PM γ) : (m.bind f).bind k = m.bind (fun a => (f a).bind k) := by
 funext ts
 unfold PM.bind
 cases m ts with
 | none => rfl
 | some x => cases x <;> rfl
theorem PM.ret_bind {α β : Type} (a : α) (f : α -> PM β) : (PM.ret a).bind f = f a := rfl
theorem Res.seq {α β : Type} {m : PM α} {f : α -> PM β} {B g lv : Nat} {X : Nat -> Prop} {w0 w : World} {ts : List Tok} {bs : List Blk} {ks : List x0q} {r : Except Flt (β × List Tok)} {V : World -> α -> Value -> Prop} {Q : Ending -> World -> Prop} {K : Nat} {args : Array Value}
  (hp : m.bind f ts = some r) (hs : ST B g lv X w0 w ts bs ks) (hc : ∀ rm, m ts = some rm -> Calls Tryz.prog K args w (Res B w (· = g) g lv V rm))
  (herr : ∀ c w', r = .error c -> q1s w0.heap.size X w0 w' -> Q (.panicked [{ v := .iface 55 (.agg #[.int .i64 c.1, .int .i64 c.2]), recovered := false }]) w')
  (hok : ∀ a ts' v w', m ts = some (.ok (a, ts')) -> ST B g lv X w0 w' ts' bs ks -> V w' a v -> q1s w.heap.size (· = g) w w' -> f a ts' = some r -> Q (.returned v) w') : Calls Tryz.prog K args w Q := by
 rcases bind_some hp with ⟨e, hm, he⟩ | ⟨a, ts', hm, hq⟩
 ·refine (hc _ hm).mono ?_
  rintro e' w' ⟨rfl, hx⟩
  exact herr e w' he (hs.call_x hx)
 ·refine (hc _ hm).mono ?_
  rintro e' w' ⟨v, rfl, hv, hr, hx⟩
  exact hok a ts' v w' hm (hs.call hr hx) hv hx hq
theorem Res.last {α : Type} {B g lv : Nat} {X : Nat -> Prop} {w0 w : World} {ts : List Tok} {bs : List Blk} {ks : List x0q} {r : Except Flt (α × List Tok)} {V : World -> α -> Value -> Prop} {Q : Ending -> World -> Prop} {K : Nat} {args : Array Value}
  (hs : ST B g lv X w0 w ts bs ks) (hc : Calls Tryz.prog K args w (Res B w (· = g) g lv V r))
  (herr : ∀ c w', r = .error c -> q1s w0.heap.size X w0 w' -> Q (.panicked [{ v := .iface 55 (.agg #[.int .i64 c.1, .int .i64 c.2]), recovered := false }]) w')
  (hok : ∀ a ts' v w', True -> ST B g lv X w0 w' ts' bs ks -> V w' a v -> q1s w.heap.size (· = g) w w' -> r = .ok (a, ts') -> Q (.returned v) w') : Calls Tryz.prog K args w Q := by
 refine hc.mono ?_
 intro e w' hres
 cases r with
 | error c =>
  obtain ⟨rfl, hx⟩ := hres
  exact herr c w' rfl (hs.call_x hx)
 | ok p =>
  obtain ⟨a, ts'⟩ := p
  obtain ⟨v, rfl, hv, hr, hx⟩ := hres
  exact hok a ts' v w' trivial (hs.call hr hx) hv hx rfl
theorem z8t {α β : Type} {m : PM α} {f : α -> PM β} {ts ts' : List Tok} {a : α} {r : Except Flt (β × List Tok)} (h : m.bind f ts = some r) (hm : m ts = some (.ok (a, ts'))) : f a ts' = some r := by
 unfold PM.bind at h; rw [hm] at h; exact h
theorem z1u {α β : Type} {m : PM α} {f : α -> PM β} {ts : List Tok} {c : Flt} {r : Except Flt (β × List Tok)} (h : m.bind f ts = some r) (hm : m ts = some (.error c)) : r = .error c := by
 unfold PM.bind at h; rw [hm] at h; injection h with h; exact h.symm
theorem ST.grown {B g lv : Nat} {X : Nat -> Prop} {w0 w w1 : World} {ts : List Tok} {bs : List Blk} {ks : List x0q} {row : Option Nat} (h : ST B g lv X w0 w ts bs ks) (hg : w.grownBy w1 row) (hr : ∀ k, row = some k -> B <= k /\ (w0.heap.size <= k \/ X k)) (hn : ∀ p ∈ bs, some p.1 ≠ row) (hk : ∀ q ∈ ks, ∀ k, q.1 <= k -> k < q.2.1 -> some k ≠ row) : ST B g lv X w0 w1 ts bs ks :=
  ⟨h.rd.keep hg.size (fun k hk => hg.block k (Nat.lt_of_lt_of_le hk h.rd.Bw) (fun e => by have := (hr k e.symm).1; omega)),
   ⟨hg.os.trans h.bx.os, hg.tape.trans h.bx.tape, hg.output.trans h.bx.output, Nat.le_trans h.bx.size hg.size, fun k hk hX => (hg.block k (Nat.lt_of_lt_of_le hk h.bx.size) (fun e => by
      rcases (hr k e.symm).2 with h1 | h1
      · omega
      · exact hX h1)).trans (h.bx.block k hk hX)⟩, h.xg, fun p hp => ⟨(h.bl p hp).1, (hg.block p.1 (q0c (h.bl p hp).2) (hn p hp)).trans (h.bl p hp).2⟩,
   fun q hq => by
    obtain ⟨k1, k2, k3, k4, k5⟩ := h.kp q hq
    exact ⟨k1, Nat.le_trans k2 hg.size, k4 w w1 (fun k h1 hl => hg.block k (by omega) (hk q hq k h1 hl)) k3, k4, k5⟩⟩
def q2i {α : Type} (d : Kd α) (e : Nat) (lo hi : Nat) (l : List α) (v : Value) (w : World) : Prop := d.R e w lo (fun k => lo <= k /\ k < hi) v l
theorem q1l {α : Type} (d : Kd α) (e lo hi : Nat) (l : List α) (v : Value) : z6u lo hi (q2i d e lo hi l v) := fun w1 w2 hk h => Kd.R_move h (fun k hq => hk k hq.1 hq.2)
theorem q1z {α : Type} {d : Kd α} {e lo : Nat} {l : List α} {v : Value} {w : World} (h : d.R e w lo (fun k => lo <= k) v l) : q2i d e lo w.heap.size l v w := Kd.R_mono (Kd.R_bound h) (fun k hk => ⟨hk.1, hk.2.2.1⟩)
theorem q2i.out {α : Type} {d : Kd α} {e lo hi : Nat} {l : List α} {v : Value} {w : World} (h : q2i d e lo hi l v w) {base : Nat} (hb : base <= lo) : d.R e w base (fun k => base <= k) v l := Kd.R_mono (Kd.R_lower h hb) (fun k hk => Nat.le_trans hb hk.1)
theorem q1s.comp {X X1 : Nat -> Prop} {w0 w w1 : World} (h : q1s w0.heap.size X w0 w) (k : q1s w.heap.size X1 w w1) (hX : ∀ i, i < w0.heap.size -> X1 i -> X i) : q1s w0.heap.size X w0 w1 :=
 ⟨k.os.trans h.os, k.tape.trans h.tape, k.output.trans h.output, Nat.le_trans h.size k.size, fun i hi hn => (k.block i (Nat.lt_of_lt_of_le hi h.size) (fun h1 => hn (hX i hi h1))).trans (h.block i hi hn)⟩
theorem Res.seqX {α β : Type} {m : PM α} {f : α -> PM β} {B g lv : Nat} {X X1 : Nat -> Prop} {w0 w : World} {ts : List Tok} {bs : List Blk} {ks : List x0q} {r : Except Flt (β × List Tok)} {V : World -> α -> Value -> Prop} {Q : Ending -> World -> Prop} {K : Nat} {args : Array Value}
  (hp : m.bind f ts = some r) (hs : ST B g lv X w0 w ts bs ks) (hX : ∀ i, i < w0.heap.size -> X1 i -> X i) (hc : ∀ rm, m ts = some rm -> Calls Tryz.prog K args w (Res B w X1 g lv V rm))
  (herr : ∀ c w', r = .error c -> q1s w0.heap.size X w0 w' -> Q (.panicked [{ v := .iface 55 (.agg #[.int .i64 c.1, .int .i64 c.2]), recovered := false }]) w')
  (hok : ∀ a ts' v w', m ts = some (.ok (a, ts')) -> RD B w' g ts' lv -> V w' a v -> q1s w.heap.size X1 w w' -> f a ts' = some r -> Q (.returned v) w') : Calls Tryz.prog K args w Q := by
 rcases bind_some hp with ⟨e, hm, he⟩ | ⟨a, ts', hm, hq⟩
 ·refine (hc _ hm).mono ?_
  rintro e' w' ⟨rfl, hx⟩
  exact herr e w' he (hs.bx.comp hx hX)
 ·refine (hc _ hm).mono ?_
  rintro e' w' ⟨v, rfl, hv, hr, hx⟩
  exact hok a ts' v w' hm hr hv hx hq
theorem ST.add {B g lv : Nat} {X : Nat -> Prop} {w0 w : World} {ts : List Tok} {bs : List Blk} {ks : List x0q} (h : ST B g lv X w0 w ts bs ks) (b : Nat) (cs : Array Value) (t : TypeId) (hB : B <= b) (hh : w.heap[b]? = some (.cells cs t (0, 0))) (hk : ∀ q ∈ ks, b < q.1 \/ q.2.1 <= b) : ST B g lv X w0 w ts ((b, cs, t) :: bs) ks :=
 ⟨h.rd, h.bx, h.xg, fun p hp => by
  rcases List.mem_cons.1 hp with rfl | hp
  ·exact ⟨hB, hh⟩
  ·exact h.bl p hp, fun q hq => by
  obtain ⟨k1, k2, k3, k4, k5⟩ := h.kp q hq
  exact ⟨k1, k2, k3, k4, fun p hp => by
   rcases List.mem_cons.1 hp with rfl | hp
   ·exact hk q hq
   ·exact k5 p hp⟩⟩
end Go.Proofs.YtpfdhihbecpbeaaGreatDoor.E
namespace Go.Proofs.YtpfdhihbecpbeaaGreatDoor.E
open Go Go.RowKit Go.Proofs.YtpfdhihbecpbeaaGreatDoorW.PrintWords Go.Proofs.YtpfdhihbecpbeaaGreatDoorW.PrintLast Go.Proofs.YtpfdhihbecpbeaaGreatDoorW.PrintMore
set_option linter.unusedVariables false
set_option linter.unusedSimpArgs false
set_option maxRecDepth 100000
set_option maxHeartbeats 4000000
def j9d (v : Vr) : Value := .agg #[.string v.name, .int .i64 v.type, .int .i64 v.size, .int .i64 v.value, .int .i64 v.at_]
theorem z1g {num : Tok -> Int} (hN : q8v num) {B : Nat} {w : World} {g : Nat} {ts : List Tok} {lv : Nat} (h : RD B w g ts lv) {r : Except Flt (Vr × List Tok)} (hp : q3h num ts = some r) :
  Calls Tryz.prog 29 #[.pointer (some ⟨g, 0, none⟩)] w (Res B w (· = g) g lv (fun _ a v => v = j9d a) r) := by
 have HN := q0h hN
 have HP := q0h hp
 unfold q3h at HP
 obtain ⟨b0, hb0⟩ : ∃ b, b = w.heap.size := ⟨_, rfl⟩
 have h0 : ST B g lv (· = g) w w ts [] [] := ST.start h rfl
 obtain ⟨W, hW, hS⟩ := h0.push #[.string ⟨#[]⟩, .int .i64 0, .int .i64 0, .int .i64 0, .int .i64 0] 40
 rw [<- hb0] at hS
 have HW := q0h hW
 have HS := q0h hS
 have HB0 := q0h hb0
 have HSZ := q0h (show W.heap.size = b0 + 1 by rw [hW, hb0]; simp)
 have HWB := q0h (show w.heap.size <= b0 by omega)
 clear h hp hN h0 hS hW hb0
 go_enter Tryz.func29, Tryz.ntmps29
 go_wp2_with fail
 rw [<- HW.out, <- HB0.out]
 refine Res.seq HP.out HS.out (fun _ hm => q1e HS.out.rd _ hm) ?_ ?_
 ·rintro f w' rfl hx
  have HX := q0h hx
  clear hx
  go_wp2_with fail
  exact ⟨rfl, rfl, HX.out⟩
 rintro u ts1 v w1 hm hs rfl hx hq
 have HS1 := q0h hs
 have HP1 := q0h hq
 have HX1 := q0h hx
 clear hm hs hx hq
 go_wp2_with fail
 refine Res.seq HP1.out HS1.out (fun _ hm => q8b HS1.out.rd hm) ?_ ?_
 ·rintro f w' rfl hx
  have HX := q0h hx
  clear hx
  go_wp2_with fail
  exact ⟨rfl, rfl, HX.out⟩
 rintro t ts2 v w2 hm hs rfl hx hq
 have HS2 := q0h hs
 have HP2 := q0h hq
 have HX2 := q0h hx
 unfold x4l
 clear hm hs hx hq
 obtain ⟨W2, hW2, hS2⟩ := HS2.out.push2 #[.int .i64 t.kind, .string t.text, .int .i64 t.at_] 63 #[.string t.text, .int .i64 0, .int .i64 0, .int .i64 0, .int .i64 t.at_] 40
 obtain ⟨vb, hvb⟩ : ∃ b, b = w2.heap.size + 1 := ⟨_, rfl⟩
 obtain ⟨tb, htb⟩ : ∃ b, b = w2.heap.size := ⟨_, rfl⟩
 rw [<- hvb, <- htb] at hS2
 have HW2 := q0h hW2
 have HS3 := q0h hS2
 have HTB := q0h htb
 have HVB := q0h hvb
 have HNE := q0h (show ¬ vb = b0 /\ ¬ tb = b0 /\ ¬ tb = vb /\ ¬ b0 = vb by have := HX1.out.size; have := HX2.out.size; have := HSZ.out; omega)
 have HVW := q0h (show w.heap.size <= vb by have := HX1.out.size; have := HX2.out.size; have := HSZ.out; have := HWB.out; omega)
 clear hW2 hS2 htb hvb
 go_wp2_with fail
 rw [<- HW2.out, <- HVB.out, <- HTB.out]
 refine Res.seq HP2.out HS3.out (fun _ hm => q1e HS3.out.rd _ hm) ?_ ?_
 ·rintro f w' rfl hx
  have HX := q0h hx
  clear hx
  go_wp2_with fail
  exact ⟨rfl, rfl, HX.out⟩
 rintro u ts4 v w4 hm hs rfl hx hq
 have HS4 := q0h hs
 have HP4 := q0h hq
 clear hm hs hx hq
 go_wp2_with fail
 have hq := q9m HP4.out
 obtain ⟨b, hb⟩ : ∃ b, b = isT (tx [91]) ts4 := ⟨_, rfl⟩
 obtain ⟨ts5, hts5⟩ : ∃ l, l = if isT (tx [91]) ts4 = true then q0w ts4 else ts4 := ⟨_, rfl⟩
 rw [<- hts5, <- hb] at hq
 have HB := q0h hb
 have HBt := q0h hts5
 have HP5 := q0h hq
 refine (q2b HS4.out.rd (tx [91])).mono ?_
 rintro e' w5 ⟨rfl, hr, hx⟩
 rw [<- HBt.out] at hr
 rw [<- HB.out]
 have HS5 := q0h (HS4.out.call hr hx)
 clear hr hx hq hb hts5
 cases b
 ·have hq := HP5.out
  simp only [Bool.false_eq_true, if_false] at hq
  rw [PM.bind_assoc] at hq
  have HP6 := q0h hq
  clear hq
  go_wp2_with fail
  refine Res.seq HP6.out HS5.out (fun _ hm => q6n HS5.out.rd hm) ?_ ?_
  ·rintro f w' rfl hx
   have HX := q0h hx
   clear hx
   go_wp2_with fail
   exact ⟨rfl, rfl, HX.out⟩
  rintro ty ts7 v w7 hm hs rfl hx hq
  have HS7 := q0h hs
  have HP7 := q0h hq
  have HTY := q0h (x4o hm)
  clear hm hs hx hq
  have h7 := HS7.out
  obtain ⟨y0, y1, y2, y3, y4, g0, g1, g2, g3, g4, ly⟩ := q7p h7.q0
  have hS8 := h7.set0 1 (.int .i64 ty) (.inl HVW.out) (by simp [HNE.out]) rfl
  obtain ⟨W8, hW8⟩ : ∃ W, W = w7.setCell ⟨vb, 1, none⟩ (.int .i64 ty) := ⟨_, rfl⟩
  rw [<- hW8] at hS8
  have HW8 := q0h hW8
  have HS8 := q0h hS8
  have hq := HP7.out
  try simp only at hq
  rw [PM.bind_assoc] at hq
  have HP8 := q0h hq
  clear h7 hS8 hW8 hq
  go_wp2_with fail
  rw [<- HW8.out]
  clear y0 y1 y2 y3 y4 g0 g1 g2 g3 g4 ly
  have hq := q9m HP8.out
  obtain ⟨b2, hb2⟩ : ∃ b, b = isT (tx [61]) ts7 := ⟨_, rfl⟩
  obtain ⟨ts9, hts9⟩ : ∃ l, l = if isT (tx [61]) ts7 = true then q0w ts7 else ts7 := ⟨_, rfl⟩
  rw [<- hts9, <- hb2] at hq
  have HB2 := q0h hb2
  have HB2t := q0h hts9
  have HP9 := q0h hq
  refine (q2b HS8.out.rd (tx [61])).mono ?_
  rintro e' w9 ⟨rfl, hr, hx⟩
  rw [<- HB2t.out] at hr
  rw [<- HB2.out]
  have HS9 := q0h (HS8.out.call hr hx)
  clear hr hx hq hb2 hts9
  cases b2
  ·have hq := HP9.out
   simp only [Bool.false_eq_true, if_false] at hq
   have HP10 := q0h (show (q1y (tx [59])).bind (fun _ => PM.ret (⟨t.text, ty, 0, 0, t.at_⟩ : Vr)) _ = some r from hq)
   clear hq
   go_wp2_with fail
   refine Res.seq HP10.out HS9.out (fun _ hm => q1e HS9.out.rd _ hm) ?_ ?_
   ·rintro f w' rfl hx
    have HX := q0h hx
    clear hx
    go_wp2_with fail
    exact ⟨rfl, rfl, HX.out⟩
   rintro u tsf v wf hm hs rfl hx hq
   have HF := q0h hs
   have HPF := q0h hq
   clear hm hs hx hq
   have hf := HF.out
   obtain ⟨d0, d1, d2, d3, d4, f0, f1, f2, f3, f4, ld⟩ := q7p hf.q0
   obtain ⟨z0, z1, z2, z3, z4, g0, g1, g2, g3, g4, lz⟩ := q7p hf.q2
   have hne := HNE.out
   clear hf
   go_wp2_with fail
   have ho := (HF.out.up2).over (.inl HWB.out) (by simp [HNE.out]) [.string t.text, .int .i64 ty, .int .i64 0, .int .i64 0, .int .i64 t.at_] rfl
   have hr := q0p HPF.out
   subst hr
   refine bodyPost_ret (q0o rfl _ _ b0 40 #[.string t.text, .int .i64 ty, .int .i64 0, .int .i64 0, .int .i64 t.at_] (0, 0) _ rfl ho.q0 Tryz.underlying40 rfl (by kernel_rfl)) rfl ?_
   exact ⟨_, rfl, rfl, ho.rd, ho.bx⟩
  ·have hq := HP9.out
   simp only [if_true] at hq
   rw [PM.bind_assoc] at hq
   have HP10 := q0h hq
   clear hq
   have h9 := HS9.out
   obtain ⟨y0, y1, y2, y3, y4, g0, g1, g2, g3, g4, ly⟩ := q7p h9.q0
   clear h9
   go_wp2_with fail
   clear y0 y1 y2 y3 y4 g0 g1 g2 g3 g4 ly
   refine Res.seq HP10.out HS9.out (fun _ hm => x4p HN.out HS9.out.rd ty HTY.out hm) ?_ ?_
   ·rintro f w' rfl hx
    have HX := q0h hx
    clear hx
    go_wp2_with fail
    exact ⟨rfl, rfl, HX.out⟩
   rintro x ts11 v w11 hm hs rfl hx hq
   have HS11 := q0h hs
   have HP11 := q0h hq
   clear hm hs hx hq
   have h11 := HS11.out
   obtain ⟨y0, y1, y2, y3, y4, g0, g1, g2, g3, g4, ly⟩ := q7p h11.q0
   have hS12 := h11.set0 3 (.int .i64 x) (.inl HVW.out) (by simp [HNE.out]) rfl
   obtain ⟨W12, hW12⟩ : ∃ W, W = w11.setCell ⟨vb, 3, none⟩ (.int .i64 x) := ⟨_, rfl⟩
   rw [<- hW12] at hS12
   have HW12 := q0h hW12
   have HS12 := q0h hS12
   have HP12 := q0h (show (q1y (tx [59])).bind (fun _ => PM.ret (⟨t.text, ty, 0, x, t.at_⟩ : Vr)) _ = some r from HP11.out)
   clear h11 hS12 hW12
   go_wp2_with fail
   rw [<- HW12.out]
   clear y0 y1 y2 y3 y4 g0 g1 g2 g3 g4 ly
   refine Res.seq HP12.out HS12.out (fun _ hm => q1e HS12.out.rd _ hm) ?_ ?_
   ·rintro f w' rfl hx
    have HX := q0h hx
    clear hx
    go_wp2_with fail
    exact ⟨rfl, rfl, HX.out⟩
   rintro u tsf v wf hm hs rfl hx hq
   have HF := q0h hs
   have HPF := q0h hq
   clear hm hs hx hq
   have hf := HF.out
   obtain ⟨d0, d1, d2, d3, d4, f0, f1, f2, f3, f4, ld⟩ := q7p hf.q0
   obtain ⟨z0, z1, z2, z3, z4, g0, g1, g2, g3, g4, lz⟩ := q7p hf.q2
   have hne := HNE.out
   clear hf
   go_wp2_with fail
   have ho := (HF.out.up2).over (.inl HWB.out) (by simp [HNE.out]) [.string t.text, .int .i64 ty, .int .i64 0, .int .i64 x, .int .i64 t.at_] rfl
   have hr := q0p HPF.out
   subst hr
   refine bodyPost_ret (q0o rfl _ _ b0 40 #[.string t.text, .int .i64 ty, .int .i64 0, .int .i64 x, .int .i64 t.at_] (0, 0) _ rfl ho.q0 Tryz.underlying40 rfl (by kernel_rfl)) rfl ?_
   exact ⟨_, rfl, rfl, ho.rd, ho.bx⟩
 ·have hq := HP5.out
  simp only [if_true] at hq
  rw [PM.bind_assoc] at hq
  obtain ⟨t5, r5, ad, c, hts, c0, c1, k0, k1, k2, hg, ha, hne, hc, hl, HM⟩ := HS5.out.rd.head
  have HTS := q0h hts
  have HA := q0h (show t5.at_ = (ts5.headD q2m).at_ by rw [hts]; rfl)
  have HQ0 := q0h hq
  clear hq
  by_cases hk : t5.kind = 3
  ·have hsz : x2j num ts5 = if num t5 < 1 \/ num t5 > 256 then some (.error (113, t5.at_)) else some (.ok (num t5, q0w ts5)) := by rw [hts]; exact if_neg (fun h => h hk)
   have hk2 : (t5.kind != 3) = false := by simpa using hk
   have HK5 := q0h hk
   have HOK := q0h (HS5.out.rd.tk t5 (by rw [hts]; exact List.mem_cons_self))
   obtain ⟨nm, hnm⟩ : ∃ n, n = num t5 := ⟨_, rfl⟩
   rw [<- hnm] at hsz
   have HNM := q0h hnm
   have HQ := q0h hsz
   clear hsz hts hk hnm
   go_wp2_with fail
   refine (HN.out t5 w5 HOK.out (.inl HK5.out)).mono ?_
   rintro e w6 ⟨rfl, hb6⟩
   rw [<- HNM.out]
   have hS6 := HS5.out.below hb6
   obtain ⟨y0, y1, y2, y3, y4, g0, g1, g2, g3, g4, ly⟩ := q7p hS6.q0
   have hS7 := hS6.set0 2 (.int .i64 nm) (.inl HVW.out) (by simp [HNE.out]) rfl
   obtain ⟨W7, hW7⟩ : ∃ W, W = w6.setCell ⟨vb, 2, none⟩ (.int .i64 nm) := ⟨_, rfl⟩
   rw [<- hW7] at hS7
   have HW7 := q0h hW7
   have HS7 := q0h hS7
   have d2 : W7.cell? ⟨vb, 2, none⟩ = some (.int .i64 nm) := (q0a hS7.q0 2).trans rfl
   clear hb6 hS6 hS7 c0 c1 k0 k1 k2 hg ha hne hc hl hW7
   by_cases hn : nm < 1 \/ nm > 256
   ·have hr := z1u HQ0.out (HQ.out.trans (if_pos hn))
    subst hr
    have hor : (decide (nm < 1) = true) \/ (decide (nm < 1) = false /\ decide (nm > 256) = true) := by
     by_cases h1 : nm < 1
     ·exact .inl (by simpa using h1)
     ·exact .inr ⟨by simpa using h1, by have := hn.resolve_left h1; simpa using this⟩
    clear hn
    rcases hor with h1 | ⟨h1, h2⟩
    all_goals
     go_wp2_with fail
     rw [<- HW7.out]
     go_wp2_with fail
     refine (q4a HS7.out.rd 113 t5.at_ HA).mono ?_
     rintro e w8 ⟨rfl, rfl⟩
     go_wp2_with fail
     exact ⟨rfl, rfl, HS7.out.bx⟩
   ·have hq := z8t HQ0.out (HQ.out.trans (if_neg hn))
    rw [PM.bind_assoc] at hq
    have HPN := q0h hq
    have h1 : decide (nm < 1) = false := by simp; omega
    have h2 : decide (nm > 256) = false := by simp; omega
    clear hq hn
    go_wp2_with fail
    rw [<- HW7.out]
    go_wp2_with fail
    clear y0 y1 y2 y3 y4 g0 g1 g2 g3 g4 ly d2
    refine (q3z HS7.out.rd).mono ?_
    rintro e w8 ⟨rfl, hr8, hx8⟩
    have HS8 := q0h (HS7.out.call hr8 hx8)
    clear hr8 hx8 h1 h2
    go_wp2_with fail
    refine Res.seq HPN.out HS8.out (fun _ hm => q1e HS8.out.rd _ hm) ?_ ?_
    ·rintro f w' rfl hx
     have HX := q0h hx
     clear hx
     go_wp2_with fail
     exact ⟨rfl, rfl, HX.out⟩
    rintro u ts9 v w9 hm hs rfl hx hq
    have HS9 := q0h hs
    have HP9 := q0h hq
    clear hm hs hx hq
    go_wp2_with fail
    have hq := HP9.out
    rw [PM.bind_assoc] at hq
    have HP9b := q0h hq
    clear hq
    refine Res.seq HP9b.out HS9.out (fun _ hm => q6n HS9.out.rd hm) ?_ ?_
    ·rintro f w' rfl hx
     have HX := q0h hx
     clear hx
     go_wp2_with fail
     exact ⟨rfl, rfl, HX.out⟩
    rintro ty ts10 v w10 hm hs rfl hx hq
    have HS10 := q0h hs
    have HP10 := q0h hq
    clear hm hs hx hq
    have h10 := HS10.out
    obtain ⟨y0, y1, y2, y3, y4, g0, g1, g2, g3, g4, ly⟩ := q7p h10.q0
    have hS12 := h10.set0 1 (.int .i64 ty) (.inl HVW.out) (by simp [HNE.out]) rfl
    obtain ⟨W12, hW12⟩ : ∃ W, W = w10.setCell ⟨vb, 1, none⟩ (.int .i64 ty) := ⟨_, rfl⟩
    rw [<- hW12] at hS12
    have HW12 := q0h hW12
    have HS12 := q0h hS12
    have HP12 := q0h (show (q1y (tx [59])).bind (fun _ => PM.ret (⟨t.text, ty, nm, 0, t.at_⟩ : Vr)) _ = some r from HP10.out)
    clear h10 hS12 hW12
    go_wp2_with fail
    rw [<- HW12.out]
    clear y0 y1 y2 y3 y4 g0 g1 g2 g3 g4 ly
    refine Res.seq HP12.out HS12.out (fun _ hm => q1e HS12.out.rd _ hm) ?_ ?_
    ·rintro f w' rfl hx
     have HX := q0h hx
     clear hx
     go_wp2_with fail
     exact ⟨rfl, rfl, HX.out⟩
    rintro u tsf v wf hm hs rfl hx hq
    have HF := q0h hs
    have HPF := q0h hq
    clear hm hs hx hq
    have hf := HF.out
    obtain ⟨d0, d1, d2, d3, d4, f0, f1, f2, f3, f4, ld⟩ := q7p hf.q0
    obtain ⟨z0, z1, z2, z3, z4, g0, g1, g2, g3, g4, lz⟩ := q7p hf.q2
    have hne := HNE.out
    clear hf
    go_wp2_with fail
    have ho := (HF.out.up2).over (.inl HWB.out) (by simp [HNE.out]) [.string t.text, .int .i64 ty, .int .i64 nm, .int .i64 0, .int .i64 t.at_] rfl
    have hr := q0p HPF.out
    subst hr
    refine bodyPost_ret (q0o rfl _ _ b0 40 #[.string t.text, .int .i64 ty, .int .i64 nm, .int .i64 0, .int .i64 t.at_] (0, 0) _ rfl ho.q0 Tryz.underlying40 rfl (by kernel_rfl)) rfl ?_
    exact ⟨_, rfl, rfl, ho.rd, ho.bx⟩
  ·have hr := z1u (c := (90, t5.at_)) HQ0.out (by rw [hts]; exact if_pos hk)
   subst hr
   have hk2 : (t5.kind != 3) = true := by simpa using hk
   clear hts hk
   go_wp2_with fail
   refine (q4a HS5.out.rd 90 t5.at_ HA).mono ?_
   rintro e w6 ⟨rfl, rfl⟩
   go_wp2_with fail
   exact ⟨rfl, rfl, HS5.out.bx⟩
set_option linter.unusedSectionVars false
section
variable {P : Program} {ops : Array Oper} {Q : Exit -> Act -> World -> Prop} {md : Region.Mode} {S : World -> Prop} {d : Nat}
def q3g (P : Program) (md : Region.Mode) (ops : Array Oper) (Q : Exit -> Act -> World -> Prop) (S : World -> Prop) (d : Nat) : Nat -> Array Bool -> Act -> World -> Prop
 | 0, listed, a, w => Region.ready md ops listed = [] /\ Q .normal a w
 | fuel + 1, listed, a, w =>
  (Region.ready md ops listed = [] -> Q .normal a w) /\
  ∀ i ∈ Region.ready md ops listed, wpOp P ops Q i (fun a' w' => ((listed.setIfInBounds i true).getD d true = true \/ S w') /\ q3g P md ops Q S d fuel (listed.setIfInBounds i true) a' w') a w
theorem z4f : ∀ (fuel : Nat) (listed : Array Bool) (a : Act) (w : World), q3g P md ops Q S d fuel listed a w -> wpAny P md ops Q fuel listed a w
 | 0, _, _, _, h => h
 | fuel + 1, _, _, _, h => ⟨h.1, fun i hi => wpOp_mono (fun a' w' h' => z4f fuel _ a' w' h'.2) (h.2 i hi)⟩
theorem z6w {i j : Nat} {oj : Oper} {listed : Array Bool} (hr : i ∈ Region.ready md ops listed) (hoj : ops[j]? = some oj) (hall : ∀ e ∈ oj.after, Region.binds md e = true -> listed.getD e.on false = true) : ∀ e ∈ oj.after, Region.binds md e = true -> e.on ≠ i := fun e he hb heq => by
 have h1 := hall e he hb
 have h0 := (mem_ready.1 hr).1
 rw [heq] at h1
 rcases Nat.lt_or_ge i listed.size with h' | h'
 ·simp [h'] at h0 h1; rw [h0] at h1; cases h1
 ·simp [Array.getElem?_eq_none h'] at h1
theorem z6x {i : Nat} {oi od : Oper} {v : Value} (hi : ops[i]? = some oi) (hd : ops[d]? = some od) (hdi : ∃ e ∈ od.after, Region.binds md e = true /\ e.on = i) (hne : d ≠ i) (hsel : ∀ (j : Nat) (o : Oper) cs b, ops[j]? = some o -> o.op ≠ .select cs b)
  (hQ : ∀ c a w, Q (.panic c) (a.put oi.dst v) w -> Q (.panic c) a w) :
  ∀ (fuel : Nat) (listed : Array Bool) (a : Act) (w : World),
   (∀ j oj, ops[j]? = some oj -> j ≠ i -> listed.getD j true = false -> (∀ e ∈ oj.after, Region.binds md e = true -> e.on ≠ i) -> oi.apart ops oj = true) ->
   i ∈ Region.ready md ops listed -> YieldsIf P ops S oi v a -> listed.getD d true = false -> S w ->
   q3g P md ops Q S d fuel (listed.setIfInBounds i true) (a.put oi.dst v) w -> q3g P md ops Q S d (fuel + 1) listed a w := by
 intro fuel
 induction fuel with
 | zero =>
  intro listed a w _ hr hy hl hS H
  refine ⟨fun h => (by rw [h] at hr; cases hr), fun j hj => ?_⟩
  by_cases hji : j = i
  ·subst hji; exact hy.wpOp hi hS ⟨.inr hS, H⟩
  ·have := ready_mono hj hji
   rw [H.1] at this
   cases this
 | succ fuel ih =>
  intro listed a w hfree hr hy hl hS H
  refine ⟨fun h => (by rw [h] at hr; cases hr), fun j hj => ?_⟩
  by_cases hji : j = i
  ·subst hji; exact hy.wpOp hi hS ⟨.inr hS, H⟩
  ·have h1 := H.2 j (ready_mono hj hji)
   obtain ⟨hjun, oj, hoj, hall⟩ := mem_ready.1 hj
   have hnot := z6w hr hoj hall
   have hjd : j ≠ d := by
    rintro rfl
    obtain ⟨e, he, hb, hon⟩ := hdi
    rw [hoj] at hd
    injection hd with hd
    subst hd
    exact hnot e he hb hon
   have h2 := wpOp_putIf hoj (hfree j oj hoj hji hjun hnot) (fun cs b => hsel i oi cs b hi) (fun cs b => hsel j oj cs b hoj) hQ hy h1
   have hfree' : ∀ k ok, ops[k]? = some ok -> k ≠ i -> (listed.setIfInBounds j true).getD k true = false ->
     (∀ e ∈ ok.after, Region.binds md e = true -> e.on ≠ i) -> oi.apart ops ok = true := fun k ok hk hki hun hno => by
    refine hfree k ok hk hki ?_ hno
    by_cases hjk : j = k
    ·subst hjk; exact hjun
    ·rw [getD_set_ne true hjk] at hun; exact hun
   refine wpOp_mono (fun a' w' h3 => ?_) h2
   have hl' : (listed.setIfInBounds j true).getD d true = false := by rw [getD_set_ne true hjd]; exact hl
   have hS' : S w' := by
    rcases h3.2.1 with h4 | h4
    ·rw [Array.setIfInBounds_comm _ _ (Ne.symm hji), getD_set_ne true (Ne.symm hne), hl'] at h4; cases h4
    ·exact h4
   refine ⟨.inr hS', ih (listed.setIfInBounds j true) a' w' hfree' (ready_mono hr (Ne.symm hji)) h3.1 hl' hS' ?_⟩
   rw [Array.setIfInBounds_comm _ _ hji]
   exact h3.2.2
theorem z8u {i : Nat} {oi : Oper} {v : Value} (hi : ops[i]? = some oi) (hne : i ≠ d) (hsel : ∀ (j : Nat) (o : Oper) cs b, ops[j]? = some o -> o.op ≠ .select cs b)
  (hQ : ∀ c a w, Q (.panic c) (a.put oi.dst v) w -> Q (.panic c) a w) :
  ∀ (fuel : Nat) (listed : Array Bool) (a : Act) (w : World),
   (∀ j oj, ops[j]? = some oj -> j ≠ i -> listed.getD j true = false -> (∀ e ∈ oj.after, Region.binds md e = true -> e.on ≠ i) -> oi.apart ops oj = true) ->
   i ∈ Region.ready md ops listed -> YieldsIf P ops (fun _ => True) oi v a -> (listed.getD d true = true \/ S w) ->
   q3g P md ops Q S d fuel (listed.setIfInBounds i true) (a.put oi.dst v) w -> q3g P md ops Q S d (fuel + 1) listed a w := by
 intro fuel
 induction fuel with
 | zero =>
  intro listed a w _ hr hy hC H
  refine ⟨fun h => (by rw [h] at hr; cases hr), fun j hj => ?_⟩
  by_cases hji : j = i
  ·subst hji; exact hy.wpOp hi trivial ⟨by rw [getD_set_ne true hne]; exact hC, H⟩
  ·have := ready_mono hj hji
   rw [H.1] at this
   cases this
 | succ fuel ih =>
  intro listed a w hfree hr hy hC H
  refine ⟨fun h => (by rw [h] at hr; cases hr), fun j hj => ?_⟩
  by_cases hji : j = i
  ·subst hji; exact hy.wpOp hi trivial ⟨by rw [getD_set_ne true hne]; exact hC, H⟩
  ·have h1 := H.2 j (ready_mono hj hji)
   obtain ⟨hjun, oj, hoj, hall⟩ := mem_ready.1 hj
   have hnot := z6w hr hoj hall
   have h2 := wpOp_putIf hoj (hfree j oj hoj hji hjun hnot) (fun cs b => hsel i oi cs b hi) (fun cs b => hsel j oj cs b hoj) hQ hy h1
   have hfree' : ∀ k ok, ops[k]? = some ok -> k ≠ i -> (listed.setIfInBounds j true).getD k true = false ->
     (∀ e ∈ ok.after, Region.binds md e = true -> e.on ≠ i) -> oi.apart ops ok = true := fun k ok hk hki hun hno => by
    refine hfree k ok hk hki ?_ hno
    by_cases hjk : j = k
    ·subst hjk; exact hjun
    ·rw [getD_set_ne true hjk] at hun; exact hun
   refine wpOp_mono (fun a' w' h3 => ?_) h2
   have hC' : (listed.setIfInBounds j true).getD d true = true \/ S w' := by
    have h4 := h3.2.1
    rw [Array.setIfInBounds_comm _ _ (Ne.symm hji), getD_set_ne true hne] at h4
    exact h4
   refine ⟨hC', ih (listed.setIfInBounds j true) a' w' hfree' (ready_mono hr (Ne.symm hji)) h3.1 hC' ?_⟩
   rw [Array.setIfInBounds_comm _ _ hji]
   exact h3.2.2
theorem z8v {i : Nat} {oi : Oper} {v : Value} {fuel : Nat} {listed : Array Bool} {a : Act} {w : World} (hi : ops[i]? = some oi)
  (hs : Region.noSelect ops = true) (hf : Region.free md ops listed i = true) (hr : (Region.ready md ops listed).contains i = true) (hw : z4d md ops d i = true) (hl : listed.getD d true = false)
  (hQ : ∀ c a w, Q (.panic c) (a.put oi.dst v) w -> Q (.panic c) a w) (hS : S w) (hy : YieldsIf P ops S oi v a)
  (h : q3g P md ops Q S d fuel (listed.setIfInBounds i true) (a.put oi.dst v) w) : q3g P md ops Q S d (fuel + 1) listed a w := by
 unfold z4d at hw
 cases hd : ops[d]? with
 | none => rw [hd] at hw; cases hw
 | some od =>
  rw [hd] at hw
  simp only [Bool.and_eq_true, Bool.not_eq_true', beq_eq_false_iff_ne] at hw
  obtain ⟨e, he, hb⟩ := Array.any_eq_true'.1 hw.1
  simp only [Bool.and_eq_true, beq_iff_eq] at hb
  exact z6x hi hd ⟨e, he, hb.1, hb.2⟩ hw.2 (Region.noSelect_spec hs) hQ fuel listed a w (Region.free_spec hi hf) (by simpa using hr) hy hl hS h
theorem z8w {i : Nat} {oi : Oper} {v : Value} {fuel : Nat} {listed : Array Bool} {a : Act} {w : World} (hi : ops[i]? = some oi) (hne : i ≠ d)
  (hs : Region.noSelect ops = true) (hf : Region.free md ops listed i = true) (hr : (Region.ready md ops listed).contains i = true)
  (hQ : ∀ c a w, Q (.panic c) (a.put oi.dst v) w -> Q (.panic c) a w) (hC : listed.getD d true = true \/ S w) (hy : YieldsIf P ops (fun _ => True) oi v a)
  (h : q3g P md ops Q S d fuel (listed.setIfInBounds i true) (a.put oi.dst v) w) : q3g P md ops Q S d (fuel + 1) listed a w :=
 z8u hi hne (Region.noSelect_spec hs) hQ fuel listed a w (Region.free_spec hi hf) (by simpa using hr) hy hC h
theorem q0m (i : Nat) {oi : Oper} (v : Value) {fuel : Nat} {listed : Array Bool} {a : Act} {w : World} (hi : ops[i]? = some oi)
  (hb : (Region.noSelect ops && (Region.free md ops listed i && ((Region.ready md ops listed).contains i && (z4d md ops d i && !(listed.getD d true))))) = true)
  (hQ : ∀ c a w, Q (.panic c) (a.put oi.dst v) w -> Q (.panic c) a w) (hS : S w) (hw : Region.wanted oi (yielded ops a.tmps) = true) (hy : ∀ w, S w -> (execOp a.eval oi).run P w = .ok (.value v) w)
  (h : q3g P md ops Q S d fuel (listed.setIfInBounds i true) (a.put oi.dst v) w) : q3g P md ops Q S d (fuel + 1) listed a w := by
 rw [Bool.and_eq_true, Bool.and_eq_true, Bool.and_eq_true, Bool.and_eq_true, Bool.not_eq_true'] at hb
 exact z8v hi hb.1 hb.2.1 hb.2.2.1 hb.2.2.2.1 hb.2.2.2.2 hQ hS (.inl ⟨hw, hy⟩) h
theorem q1h (i : Nat) {oi : Oper} (v : Value) {fuel : Nat} {listed : Array Bool} {a : Act} {w : World} (hi : ops[i]? = some oi)
  (hb : (Region.noSelect ops && (Region.free md ops listed i && ((Region.ready md ops listed).contains i && !(i == d)))) = true)
  (hQ : ∀ c a w, Q (.panic c) (a.put oi.dst v) w -> Q (.panic c) a w) (hC : listed.getD d true = true \/ S w) (hw : Region.wanted oi (yielded ops a.tmps) = true) (hy : ∀ w, True -> (execOp a.eval oi).run P w = .ok (.value v) w)
  (h : q3g P md ops Q S d fuel (listed.setIfInBounds i true) (a.put oi.dst v) w) : q3g P md ops Q S d (fuel + 1) listed a w := by
 rw [Bool.and_eq_true, Bool.and_eq_true, Bool.and_eq_true, Bool.not_eq_true', beq_eq_false_iff_ne] at hb
 exact z8w hi hb.2.2.2 hb.1 hb.2.1 hb.2.2.1 hQ hC (.inl ⟨hw, hy⟩) h
theorem q0i {i : Nat} {oi : Oper} {fuel : Nat} {listed : Array Bool} {a : Act} {w : World} (hr : Region.ready md ops listed = [i]) (hi : ops[i]? = some oi)
  (h : ∀ K : Act -> World -> Prop, (∀ a' w', ((listed.setIfInBounds i true).getD d true = true \/ S w') -> q3g P md ops Q S d fuel (listed.setIfInBounds i true) a' w' -> K a' w') -> if Region.wanted oi (yielded ops a.tmps) = true then Oper.wp P oi a w K Q else K (a.put oi.dst undef) w) :
  q3g P md ops Q S d (fuel + 1) listed a w := by
 refine ⟨fun h0 => (by rw [hr] at h0; cases h0), fun j hj => ?_⟩
 rw [hr] at hj
 obtain rfl : j = i := by simpa using hj
 have h1 := h (fun a' w' => ((listed.setIfInBounds j true).getD d true = true \/ S w') /\ q3g P md ops Q S d fuel (listed.setIfInBounds j true) a' w') (fun a' w' h2 h3 => ⟨h2, h3⟩)
 unfold wpOp
 simp only [hi]
 split
 ·rename_i hw; rw [if_pos hw] at h1; exact .inl h1
 ·rename_i hw; rw [if_neg hw] at h1; exact h1
theorem q5n {i1 i2 : Nat} {o1 o2 : Oper} {fuel : Nat} {listed : Array Bool} {a : Act} {w : World} (hr : Region.ready md ops listed = [i1, i2]) (hi1 : ops[i1]? = some o1) (hi2 : ops[i2]? = some o2)
  (h1 : ∀ K : Act -> World -> Prop, (∀ a' w', ((listed.setIfInBounds i1 true).getD d true = true \/ S w') -> q3g P md ops Q S d fuel (listed.setIfInBounds i1 true) a' w' -> K a' w') -> if Region.wanted o1 (yielded ops a.tmps) = true then Oper.wp P o1 a w K Q else K (a.put o1.dst undef) w)
  (h2 : ∀ K : Act -> World -> Prop, (∀ a' w', ((listed.setIfInBounds i2 true).getD d true = true \/ S w') -> q3g P md ops Q S d fuel (listed.setIfInBounds i2 true) a' w' -> K a' w') -> if Region.wanted o2 (yielded ops a.tmps) = true then Oper.wp P o2 a w K Q else K (a.put o2.dst undef) w) :
  q3g P md ops Q S d (fuel + 1) listed a w := by
 refine ⟨fun h0 => (by rw [hr] at h0; cases h0), fun j hj => ?_⟩
 rw [hr] at hj
 rcases List.mem_cons.1 hj with rfl | hj
 ·have h3 := h1 (fun a' w' => ((listed.setIfInBounds j true).getD d true = true \/ S w') /\ q3g P md ops Q S d fuel (listed.setIfInBounds j true) a' w') (fun a' w' h2 h3 => ⟨h2, h3⟩)
  unfold wpOp
  simp only [hi1]
  split
  ·rename_i hw; rw [if_pos hw] at h3; exact .inl h3
  ·rename_i hw; rw [if_neg hw] at h3; exact h3
 ·obtain rfl : j = i2 := by simpa using hj
  have h3 := h2 (fun a' w' => ((listed.setIfInBounds j true).getD d true = true \/ S w') /\ q3g P md ops Q S d fuel (listed.setIfInBounds j true) a' w') (fun a' w' h2 h3 => ⟨h2, h3⟩)
  unfold wpOp
  simp only [hi2]
  split
  ·rename_i hw; rw [if_pos hw] at h3; exact .inl h3
  ·rename_i hw; rw [if_neg hw] at h3; exact h3
theorem q1i {listed : Array Bool} {a : Act} {w : World} (hr : Region.ready md ops listed = []) (h : Q .normal a w) : ∀ fuel, q3g P md ops Q S d fuel listed a w
 | 0 => ⟨hr, h⟩
 | _ + 1 => ⟨fun _ => h, by rw [hr]; simp⟩
theorem q2l {id : Nat} {a : Act} {w : World} (S : World -> Prop) (d : Nat) (hm : P.follows .mixedOrders = true)
  (h : ∀ W, Hid (W = w.drew) -> q3g P .any ops Q S d ops.size (Array.replicate ops.size false) a W) : (Code.region id ops true).wp P Q a w :=
 wp_region_any hm (z4f _ _ _ _ (h w.drew rfl))
end
theorem x4u : (Tryz.prog.info? 49).map (fun i => (i.zero, i.size, i.bytes)) = some (some (.agg #[.string ⟨#[]⟩, .int .i64 0]), 2, 24) := by kernel_rfl
def fnS (b1 fb N g : Nat) (nm : ByteArray) (at_ : Int) (w : World) (l : List Pm) : Prop := w.heap[b1]? = some (.cells #[.pointer (some ⟨g, 0, none⟩)] 56 (0, 0)) /\ l.length <= 8 /\ ∃ v, w.heap[fb]? = some (.cells #[.string nm, v, .int .i64 0, .slice none 0 0, .int .i64 at_, .slice none 0 0] 46 (0, 0)) /\ kPm.R 49 w N (fun k => N <= k) v l
theorem fnS.keep {b1 fb N g : Nat} {nm : ByteArray} {at_ : Int} {w1 w2 : World} {l : List Pm} (h : fnS b1 fb N g nm at_ w1 l) (hx : q1s w1.heap.size (· = g) w1 w2) (h1 : g < b1) (h2 : g < fb) (h3 : g < N) : fnS b1 fb N g nm at_ w2 l := by
 obtain ⟨q1, q2, v, q3, q4⟩ := h
 exact ⟨q3c hx q1 (by omega), q2, v, q3c hx q3 (by omega), Kd.R_step q4 (fun k hk hlt => hx.block k hlt (by have h5 : N <= k := hk; omega))⟩
theorem z6y : q1k 73 := fun args w => q5r Tryz.func73 (by kernel_rfl) rfl args w
def q5s (g fb N : Nat) : Nat -> Prop := fun k => k = g \/ k = fb \/ N <= k
theorem z5d {B g lv : Nat} (w0 : World) (b1 fb N : Nat) (nm : ByteArray) (at_ : Int) (hb1 : B <= b1) (hfb : B <= fb) (hN1 : b1 < N) (hN2 : fb < N) (h12 : b1 ≠ fb) (hNw : N <= w0.heap.size) :
  ∀ l w ts, q1s w0.heap.size (q5s g fb N) w0 w -> RD B w g ts lv -> fnS b1 fb N g nm at_ w l -> ∀ r, q8p l ts = some r ->
   Calls Tryz.prog 73 #[.pointer (some ⟨b1, 0, none⟩), .pointer (some ⟨fb, 0, none⟩)] w (x3x B w (q5s g fb N) g lv (fun w2 a => fnS b1 fb N g nm at_ w2 (l ++ [a])) r) := by
 intro l w ts hx0 h hS r hp
 obtain ⟨q1, q2, v, q3, q4⟩ := hS
 obtain ⟨A, c, rfl⟩ := Kd.R_slice q4
 have HP := q0h hp
 have hs : ST B g lv (· = g) w w ts [(b1, #[.pointer (some ⟨g, 0, none⟩)], 56), (fb, #[.string nm, .slice A l.length c, .int .i64 0, .slice none 0 0, .int .i64 at_, .slice none 0 0], 46)] [(N, w.heap.size, q2i kPm 49 N w.heap.size l (.slice A l.length c))] :=
  ⟨h, q1s.refl _ _ _, rfl, fun p hp => by
   rcases List.mem_cons.1 hp with rfl | hp
   ·exact ⟨hb1, q1⟩
   ·obtain rfl : p = _ := by simpa using hp
    exact ⟨hfb, q3⟩, fun q hq => by
   obtain rfl : q = _ := by simpa using hq
   exact ⟨by show B <= N; omega, Nat.le_refl _, q1z q4, q1l _ _ _ _ _ _, fun p hp => .inl (by
    rcases List.mem_cons.1 hp with rfl | hp
    ·exact hN1
    ·obtain rfl : p = _ := by simpa using hp
     exact hN2)⟩⟩
 have HS := q0h hs
 have HR := q0h q4
 have HE := q0h (show b1 ≠ fb /\ b1 < N /\ fb < N /\ g < b1 /\ g < fb /\ B <= fb /\ N <= w.heap.size by
  have := h.gB; have := q0c q1; have := q0c q3; have := h.Bw; exact ⟨h12, hN1, hN2, by omega, by omega, hfb, Nat.le_trans hNw hx0.size⟩)
 have HL := q0h q2
 have c1 : w.cell? ⟨b1, 0, none⟩ = some (.pointer (some ⟨g, 0, none⟩)) := (q0a q1 0).trans rfl
 have d1 : w.cell? ⟨fb, 1, none⟩ = some (.slice A l.length c) := (q0a q3 1).trans rfl
 have l1 := q0c q1
 have l2 := q0c q3
 obtain ⟨t0, r0, ad, cc, hts, z0, z1, k0, k1, k2, hg, ha, hne, hc, hl, HM⟩ := h.head
 have HTS := q0h hts
 have HA := q0h (show t0.at_ = (ts.headD q2m).at_ by rw [hts]; rfl)
 have hcase : (t0.kind = 1 /\ l.length = 8) \/ (t0.kind ≠ 1) \/ (t0.kind = 1 /\ l.length ≠ 8) := by omega
 have hfl : ∀ (t : Tok) (w : World), Sem.run Tryz.prog (Instr.field 63 (.agg #[.int .i64 t.kind, .string t.text, .int .i64 t.at_]) 1) w = .ok (.string t.text) w := fun t w => by kernel_rfl
 clear hp hs q1 q2 q3 q4 h hx0 hts hb1 hfb hN1 hN2 h12 hNw
 go_enter Tryz.func73, Tryz.ntmps73
 rcases hcase with ⟨e1, e2⟩ | hcase
 ·have y1 : (t0.kind == 1) = true := by simpa using e1
  have y2 : ((l.length : Int) == 8) = true := by simp; omega
  have hr := q0p (show some (Except.error (113, t0.at_)) = some r from by rw [<- HP.out, HTS.out]; exact (if_pos ⟨e1, e2⟩).symm)
  subst hr
  clear e1 e2
  go_wp2_with fail
  refine (q4a HS.out.rd 113 t0.at_ HA).mono ?_
  rintro e w1 ⟨rfl, rfl⟩
  go_wp2_with fail
  exact ⟨rfl, rfl, q1s.refl _ _ _⟩
 have hq : (q6a.bind fun t => (q1y (tx [58])).bind fun _ => q2v.bind fun ty => .ret (⟨t.text, ty⟩ : Pm)) ts = some r := by
  rw [<- HP.out]
  exact (if_neg (fun h => by rw [HTS.out] at h; have h1 : t0.kind = 1 := h.1; have h2 := h.2; omega)).symm
 have HQ := q0h hq
 have HL8 := q0h (show l.length < 8 \/ t0.kind ≠ 1 by have := HL.out; omega)
 have hty : (t0.kind == 1) = false \/ ((t0.kind == 1) = true /\ ((l.length : Int) == 8) = false) := by
  rcases hcase with h | ⟨h, h2⟩
  ·exact .inl (by simpa using h)
  ·exact .inr ⟨by simpa using h, by simp; omega⟩
 clear hq hcase
 rcases hty with y1 | ⟨y1, y2⟩
 all_goals
  go_wp2_with fail
  clear k0 k1 k2 z0 z1
  refine Res.seq HQ.out HS.out (fun _ hm => q8b HS.out.rd hm) ?_ ?_
  ·rintro f w' rfl hx
   have HX := q0h hx
   clear hx
   go_wp2_with fail
   exact ⟨rfl, rfl, HX.out.mono (Nat.le_refl _) (fun k _ hk => .inl hk)⟩
  rintro t ts1 v w1 hm hs rfl hx hq
  have HS1 := q0h hs
  have HP1 := q0h hq
  have HX1 := q0h hx
  unfold x4l
  have HK1 := q0h (show t0.kind = 1 by
   rw [HTS.out] at hm
   by_cases h1 : t0.kind = 1
   ·exact h1
   ·have h2 := hm.symm.trans (if_neg h1)
    cases h2)
  clear hm hs hx hq
  obtain ⟨W2, hW2, hS2⟩ := HS1.out.push #[.string t.text, .int .i64 0] 49
  obtain ⟨pb, hpb⟩ : ∃ b, b = w1.heap.size := ⟨_, rfl⟩
  rw [<- hpb] at hS2
  have HW2 := q0h hW2
  have HS2 := q0h hS2
  have HPB := q0h hpb
  have HPW := q0h (show w.heap.size <= pb by have := HX1.out.size; omega)
  have c1 : w1.cell? ⟨b1, 0, none⟩ = some (.pointer (some ⟨g, 0, none⟩)) := (q0a HS1.out.q0 0).trans rfl
  have l1 := q0c HS1.out.q0
  clear hW2 hS2 hpb
  go_wp2_with fail
  rw [<- HW2.out, <- HPB.out]
  clear c1 l1
  refine Res.seq HP1.out HS2.out (fun _ hm => q1e HS2.out.rd _ hm) ?_ ?_
  ·rintro f w' rfl hx
   have HX := q0h hx
   clear hx
   go_wp2_with fail
   exact ⟨rfl, rfl, HX.out.mono (Nat.le_refl _) (fun k _ hk => .inl hk)⟩
  rintro u ts3 v w3 hm hs rfl hx hq
  have HS3 := q0h hs
  have HP3 := q0h hq
  have HX3 := q0h hx
  clear hm hs hx hq
  have c1 : w3.cell? ⟨b1, 0, none⟩ = some (.pointer (some ⟨g, 0, none⟩)) := (q0a HS3.out.q1 0).trans rfl
  have l1 := q0c HS3.out.q1
  go_wp2_with fail
  clear c1 l1
  refine Res.seq HP3.out HS3.out (fun _ hm => q6n HS3.out.rd hm) ?_ ?_
  ·rintro f w' rfl hx
   have HX := q0h hx
   clear hx
   go_wp2_with fail
   exact ⟨rfl, rfl, HX.out.mono (Nat.le_refl _) (fun k _ hk => .inl hk)⟩
  rintro ty ts4 v w4 hm hs rfl hx hq
  have HS4 := q0h hs
  have HP4 := q0h hq
  have HX4 := q0h hx
  clear hm hs hx hq
  have hr := q0p HP4.out
  subst hr
  have hS4 := HS4.out
  have y0 : w4.cell? ⟨pb, 0, none⟩ = some (.string t.text) := (q0a hS4.q0 0).trans rfl
  have y1 : w4.cell? ⟨pb, 1, none⟩ = some (.int .i64 0) := (q0a hS4.q0 1).trans rfl
  have f1 : w4.frozen? ⟨pb, 1, none⟩ = false := q0f hS4.q0 1
  have lp := q0c hS4.q0
  have x1 : w4.cell? ⟨fb, 1, none⟩ = some (.slice A l.length c) := (q0a hS4.q2 1).trans rfl
  have lf := q0c hS4.q2
  have hpe := HPW.out
  have hee := HE.out
  have hll := q0c HS.out.q1
  have hlf := q0c HS.out.q0
  have nfp : ¬ fb = pb := by omega
  have hS5 := hS4.set0 1 (.int .i64 ty) (.inl HPW.out) (fun p hp => by
   rcases List.mem_cons.1 hp with rfl | hp
   ·show b1 ≠ pb; omega
   ·obtain rfl : p = _ := by simpa using hp
    exact nfp) rfl
  obtain ⟨W5, hW5⟩ : ∃ W, W = w4.setCell ⟨pb, 1, none⟩ (.int .i64 ty) := ⟨_, rfl⟩
  rw [<- hW5] at hS5
  have hs5 : W5.heap.size = w4.heap.size := by rw [hW5]; simp
  have HV := q0h (q2i.out hS5.k0 (Nat.le_refl _))
  have HS5 := q0h hS5
  have HW5 := q0h hW5
  have HN5 := q0h (show N <= W5.heap.size by have := hS5.bx.size; omega)
  have HNR := q0h (show ∀ p ∈ [(pb, (#[.string t.text, .int .i64 ty] : Array Value), 49), (b1, #[.pointer (some ⟨g, 0, none⟩)], 56), (fb, #[.string nm, .slice A l.length c, .int .i64 0, .slice none 0 0, .int .i64 at_, .slice none 0 0], 46)], some p.1 ≠ (Value.slice A l.length c).ownBlock from fun p hp => by
   rcases List.mem_cons.1 hp with rfl | hp
   ·obtain ⟨inner, ho⟩ := Kd.R_own HR.out
    intro e
    have h1 := z6e ho pb e.symm
    omega
   ·rcases List.mem_cons.1 hp with rfl | hp
    ·exact Kd.R_ne HV.out hS5.q1 (show 49 ≠ 56 by decide)
    ·obtain rfl : p = _ := by simpa using hp
     exact Kd.R_ne HV.out hS5.q2 (show 49 ≠ 46 by decide))
  have HS6 := q0h (hS5.dropk.monoX (X' := q5s g fb N) (fun k hk => .inl hk))
  have HL5 := q0h (show l.length + 1 <= 8 by have := HL.out; have h8 := HL8.out; have hk : t0.kind = 1 := HK1.out; omega)
  have HL4 := HL8.out
  clear hS4 hpe hee hll hlf hS5 hW5 hs5 HL4
  go_wp2_with (at_builtin; go_loud ((refine Kd.R_append kPm (w0 := (w4.setCell ⟨pb, 1, none⟩ (.int .i64 ty))) (W := (w4.setCell ⟨pb, 1, none⟩ (.int .i64 ty))) N rfl _ _ 42 49 (.agg #[.string ⟨#[]⟩, .int .i64 0]) 24 rfl Tryz.underlying42 x4u rfl (by decide) (by decide) (.slice A l.length c) l ⟨t.text, ty⟩ [.string t.text, .int .i64 ty] (fun k => N <= k) (fun _ => False) rfl (by show Value.slice (some ⟨w4.heap.size, 0, none⟩) 1 1 = Value.slice (some ⟨(w4.setCell ⟨pb, 1, none⟩ (.int .i64 ty)).heap.size, 0, none⟩) 1 1; simp) ⟨[.string t.text], [.int .i64 ty], rfl, rfl, rfl⟩ (fun _ h => h.elim) (fun k hk => Nat.le_trans (by rw [<- HW5.out]; exact HN5.out) hk) (by rw [<- HW5.out]; exact HV.out) (Below.refl _ _) (by rw [<- HW5.out]; exact HN5.out) (by have := HL5.out; omega) ?_); intro v1 w6 hv1 hb1 hg1 hat1; rw [<- HW5.out] at hb1 hg1 hat1; obtain ⟨A', c', rfl⟩ := Kd.R_slice hv1; have hS6 := HS6.out.grown hg1 (fun k hk => by have h1 : N <= k := HV.out.1 k hk; have := HE.out; exact ⟨by omega, .inr (.inr (.inr h1))⟩) (fun p hp => HNR.out p hp) (fun q hq => by cases hq); have f1' : w6.frozen? ⟨fb, 1, none⟩ = false := q0f hS6.q2 1; have x1' : w6.cell? ⟨fb, 1, none⟩ = some (.slice A l.length c) := (q0a hS6.q2 1).trans rfl; have HS7 := q0h hS6; have HV1 := q0h hv1; have HG1 := q0h hg1; clear y0 y1 f1 lp x1 lf hS6 hv1 hb1 hg1 hat1))
  go_end0
  have hee := HE.out
  have hll := q0c HS.out.q0
  have hS8 := HS7.out.up2.set0 1 (.slice A' (l.length + 1) c') (.inr (.inr (.inl rfl))) (fun p hp => by
   rcases List.mem_cons.1 hp with rfl | hp
   ·show pb ≠ fb; exact fun e => nfp e.symm
   ·obtain rfl : p = _ := by simpa using hp
    exact hee.1) rfl
  have hv7 := HV1.out
  rw [show (l ++ [(⟨t.text, ty⟩ : Pm)]).length = l.length + 1 by simp] at hv7
  have hv8 : kPm.R 49 (w6.setCell ⟨fb, 1, none⟩ (.slice A' (l.length + 1) c')) N (fun k => N <= k) (.slice A' (l.length + 1) c') (l ++ [⟨t.text, ty⟩]) := Kd.R_step hv7 (fun k hk _ => Below.heap_setCell _ _ _ _ (by have h5 : N <= k := hk; show k ≠ fb; omega))
  exact ⟨_, rfl, ⟨rfl, hS8.q2, by have := HL5.out; simp; omega, _, hS8.q0, hv8⟩, hS8.rd, hS8.bx⟩
def fcV (base : Nat) (w' : World) (e : Fc) (v : Value) : Prop := ∃ cs : List Value, v = .agg cs.toArray /\ kFc.M w' base (fun k => base <= k) e cs
theorem j2d {w : World} {base : Nat} {ok : Nat -> Prop} (s : ByteArray) {ps : List Pm} (t : Int) {l : List St} (a : Int) {v v1 : Value} (h : kPm.R 49 w base ok v ps) (h1 : kSt.R 67 w base ok v1 l) : kFc.M w base ok ⟨s, ps, t, l, a, []⟩ [.string s, v, .int .i64 t, v1, .int .i64 a, .slice none 0 0] :=
 ⟨[.string s], _, rfl, rfl, [v], _, rfl, ⟨v, rfl, h⟩, [.int .i64 t], _, rfl, rfl, [v1], _, rfl, ⟨v1, rfl, h1⟩, [.int .i64 a], [.slice none 0 0], rfl, rfl, ⟨_, rfl, Kd.R_nil _ _ _ _ _⟩⟩
theorem z1h {n : Nat} {B g : Nat} {R : q4e} (hR : q7i B g R) {w : World} {ts : List Tok} {lv : Nat} (h : RD B w g ts lv) {r : Except Flt (Fc × List Tok)} (hp : q3i n R lv ts = some r) :
  Calls Tryz.prog 30 #[.pointer (some ⟨g, 0, none⟩)] w (Res B w (· = g) g lv (fcV w.heap.size) r) := by
 have HR := q0h hR
 have HP := q0h hp
 unfold q3i at HP
 obtain ⟨W, hW, hS⟩ := (ST.start (X := (· = g)) h rfl).push2 #[.pointer (some ⟨g, 0, none⟩)] 56 #[.string ⟨#[]⟩, .slice none 0 0, .int .i64 0, .slice none 0 0, .int .i64 0, .slice none 0 0] 46
 obtain ⟨b0, hb0⟩ : ∃ b, b = w.heap.size + 1 := ⟨_, rfl⟩
 obtain ⟨b1, hb1⟩ : ∃ b, b = w.heap.size := ⟨_, rfl⟩
 rw [<- hb0, <- hb1] at hS
 have HW := q0h hW
 have HS := q0h hS
 have HB0 := q0h hb0
 have HB1 := q0h hb1
 have HSZ := q0h (show W.heap.size = b0 + 1 by rw [hW, hb0]; simp)
 have hmf : ∀ (fn : Fn) (first cap : Array Value) (w : World), (Instr.makeFunc fn first cap).run Tryz.prog w = .ok (.func fn first cap) w := fun _ _ _ _ => rfl
 clear h hp hR hS hW hb0 hb1
 have c1 : W.cell? ⟨b1, 0, none⟩ = some (.pointer (some ⟨g, 0, none⟩)) := (q0a HS.out.q1 0).trans rfl
 have l1 := q0c HS.out.q1
 go_enter Tryz.func30, Tryz.ntmps30
 go_wp2_with fail
 rw [<- HW.out, <- HB0.out, <- HB1.out]
 clear c1 l1
 refine Res.seq HP.out HS.out (fun _ hm => q1e HS.out.rd _ hm) ?_ ?_
 ·rintro f w' rfl hx
  have HX := q0h hx
  clear hx
  go_wp2_with fail
  exact ⟨rfl, rfl, HX.out⟩
 rintro u ts1 v w1 hm hs rfl hx hq
 have HS1 := q0h hs
 have HP1 := q0h hq
 have HX1 := q0h hx
 clear hm hs hx hq
 have c1 : w1.cell? ⟨b1, 0, none⟩ = some (.pointer (some ⟨g, 0, none⟩)) := (q0a HS1.out.q1 0).trans rfl
 have l1 := q0c HS1.out.q1
 go_wp2_with fail
 clear c1 l1
 refine Res.seq HP1.out HS1.out (fun _ hm => q8b HS1.out.rd hm) ?_ ?_
 ·rintro f w' rfl hx
  have HX := q0h hx
  clear hx
  go_wp2_with fail
  exact ⟨rfl, rfl, HX.out⟩
 rintro t ts2 v w2 hm hs rfl hx hq
 have HS2 := q0h hs
 have HP2 := q0h hq
 have HX2 := q0h hx
 unfold x4l
 clear hm hs hx hq
 obtain ⟨W3, hW3, hS3⟩ := HS2.out.push2 #[.int .i64 t.kind, .string t.text, .int .i64 t.at_] 63 #[.string t.text, .slice none 0 0, .int .i64 0, .slice none 0 0, .int .i64 t.at_, .slice none 0 0] 46
 obtain ⟨fb, hfb⟩ : ∃ b, b = w2.heap.size + 1 := ⟨_, rfl⟩
 obtain ⟨tb, htb⟩ : ∃ b, b = w2.heap.size := ⟨_, rfl⟩
 rw [<- hfb, <- htb] at hS3
 have HW3 := q0h hW3
 have HS3 := q0h (hS3.drop1)
 have HFB := q0h hfb
 have HTB := q0h htb
 have HNE := q0h (show b1 = w.heap.size /\ b0 = b1 + 1 /\ b0 < tb /\ fb = tb + 1 by have := HX1.out.size; have := HX2.out.size; have := HSZ.out; have := HB0.out; have := HB1.out; omega)
 clear hW3 hS3 hfb htb
 have c1 : w2.cell? ⟨b1, 0, none⟩ = some (.pointer (some ⟨g, 0, none⟩)) := (q0a HS2.out.q1 0).trans rfl
 have l1 := q0c HS2.out.q1
 go_wp2_with fail
 rw [<- HW3.out, <- HFB.out, <- HTB.out]
 clear c1 l1
 refine Res.seq HP2.out HS3.out (fun _ hm => q1e HS3.out.rd _ hm) ?_ ?_
 ·rintro f w' rfl hx
  have HX := q0h hx
  clear hx
  go_wp2_with fail
  exact ⟨rfl, rfl, HX.out⟩
 rintro u ts4 v w4 hm hs rfl hx hq
 have HS4 := q0h hs
 have HP4 := q0h hq
 have HX4 := q0h hx
 clear hm hs hx hq
 have c1 : w4.cell? ⟨b1, 0, none⟩ = some (.pointer (some ⟨g, 0, none⟩)) := (q0a HS4.out.q2 0).trans rfl
 have l1 := q0c HS4.out.q2
 go_wp2_with fail
 clear c1 l1
 obtain ⟨N, hN⟩ : ∃ n, n = w4.heap.size := ⟨_, rfl⟩
 have HNW := q0h hN
 have hlt := HS4.out.lt _ List.mem_cons_self
 have hl2 : b1 < w4.heap.size := q0c HS4.out.q2
 have hgb := HS4.out.rd.gB
 have hbb := (HS4.out.bl _ List.mem_cons_self).1
 have hb1 := (HS4.out.bl _ (List.mem_cons_of_mem _ (List.mem_cons_of_mem _ List.mem_cons_self))).1
 have hne := HNE.out
 refine Res.seqX (X1 := q5s g fb N) HP4.out HS4.out (fun i hi h1 => by
   rcases h1 with h1 | h1 | h1
   ·exact h1
   ·have h2 : fb < w4.heap.size := hlt; have := HSZ.out; omega
   ·have := HX4.out.size; have := HX2.out.size; have := HX1.out.size; have h2 : fb < w4.heap.size := hlt; omega) (fun rm hm => x4m HS4.out.rd (q5s g fb N) (.inl rfl) 73 #[.pointer (some ⟨b1, 0, none⟩), .pointer (some ⟨fb, 0, none⟩)] z6y q8p (fnS b1 fb N g t.text t.at_) (tx [41]) [] n
    (fun l' w' ts' _ => z5d w4 b1 fb N t.text t.at_ hb1 hbb (by omega) (by have h2 : fb < w4.heap.size := hlt; omega) (by omega) (by omega) l' w' ts')
    (fun w1 w2 l hs hx => hs.keep hx (by omega) (by have h3 : B <= fb := hbb; omega) (by have h2 : fb < w4.heap.size := hlt; omega)) ⟨HS4.out.q2, by simp, _, HS4.out.q0, Kd.R_nil _ _ _ _ _⟩ hm) ?_ ?_
 ·rintro f w' rfl hx
  have HX := q0h hx
  clear hx hlt hl2 hgb hbb hb1 hne
  go_wp2_with fail
  exact ⟨rfl, rfl, HX.out⟩
 rintro ps ts5 v w5 hm hr ⟨rfl, q1, q2, v5, q3, q4⟩ hx hq
 obtain ⟨A, c, rfl⟩ := Kd.R_slice q4
 have hfw : fb < w4.heap.size := hlt
 have hs5 := ((HS4.out.drop0.callX hr hx (fun i hi h1 => by
   rcases h1 with h1 | h1 | h1
   ·exact h1
   ·have := HSZ.out; omega
   ·have := HX4.out.size; have := HX2.out.size; have := HX1.out.size; omega) (fun p hp => by
   have h5 : p.1 = b0 \/ p.1 = b1 := by
    rcases List.mem_cons.1 hp with rfl | hp
    ·exact .inl rfl
    ·obtain rfl : p = _ := by simpa using hp
     exact .inr rfl
   rintro (h1 | h1 | h1) <;> have h6 : B <= fb := hbb <;> have h7 : B <= b1 := hb1 <;> omega) (fun q hq => by cases hq)).add fb _ _ hbb q3 (fun q hq => by cases hq)).holdAt N w5.heap.size (by have h6 : B <= fb := hbb; omega) (Nat.le_refl _) (q1z q4) (q1l _ _ _ _ _ _) (fun p hp => .inl (by
    rcases List.mem_cons.1 hp with rfl | hp
    ·show fb < N; omega
    ·rcases List.mem_cons.1 hp with rfl | hp
     ·show b0 < N; omega
     ·obtain rfl : p = _ := by simpa using hp
      show b1 < N; omega))
 have HS5 := q0h hs5
 have HP5 := q0h hq
 have HSZ5 := q0h (show w.heap.size <= N /\ fb < N from ⟨by omega, by omega⟩)
 clear hm hr hx hq hlt hl2 hgb hbb hb1 hne q1 q2 q3 q4 hs5 hfw hmf
 clear hN
 have c1 : w5.cell? ⟨b1, 0, none⟩ = some (.pointer (some ⟨g, 0, none⟩)) := (q0a HS5.out.q2 0).trans rfl
 have l1 := q0c HS5.out.q2
 go_wp2_with fail
 clear c1 l1
 refine Res.seq HP5.out HS5.out (fun _ hm => q1e HS5.out.rd _ hm) ?_ ?_
 ·rintro f w' rfl hx
  have HX := q0h hx
  clear hx
  go_wp2_with fail
  exact ⟨rfl, rfl, HX.out⟩
 rintro u ts6 v w6 hm hs rfl hx hq
 have HS6 := q0h hs
 have HP6 := q0h hq
 clear hm hs hx hq
 have c1 : w6.cell? ⟨b1, 0, none⟩ = some (.pointer (some ⟨g, 0, none⟩)) := (q0a HS6.out.q2 0).trans rfl
 have l1 := q0c HS6.out.q2
 go_wp2_with fail
 clear c1 l1
 have hq := q9m HP6.out
 obtain ⟨b, hb⟩ : ∃ b, b = isT (tx [58]) ts6 := ⟨_, rfl⟩
 obtain ⟨ts7, hts7⟩ : ∃ l, l = if isT (tx [58]) ts6 = true then q0w ts6 else ts6 := ⟨_, rfl⟩
 rw [<- hts7, <- hb] at hq
 have HB := q0h hb
 have HBt := q0h hts7
 have HP7 := q0h hq
 refine (q2b HS6.out.rd (tx [58])).mono ?_
 rintro e' w7 ⟨rfl, hr, hx⟩
 rw [<- HBt.out] at hr
 rw [<- HB.out]
 have HS7 := q0h (HS6.out.call hr hx)
 clear hr hx hq hb hts7
 cases b
 ·have hq := HP7.out
  simp only [Bool.false_eq_true, if_false] at hq
  rw [PM.ret_bind] at hq
  have HP8 := q0h hq
  clear hq
  have c1 : w7.cell? ⟨b1, 0, none⟩ = some (.pointer (some ⟨g, 0, none⟩)) := (q0a HS7.out.q2 0).trans rfl
  have l1 := q0c HS7.out.q2
  go_wp2_with fail
  clear c1 l1
  refine Res.seq HP8.out HS7.out (fun _ hm => HR.out.block _ _ _ _ HS7.out.rd hm) ?_ ?_
  ·rintro f w' rfl hx
   have HX := q0h hx
   clear hx
   go_wp2_with fail
   exact ⟨rfl, rfl, HX.out⟩
  rintro l tsb v wb hm hs hv hx hq
  have HSb := q0h hs
  have HPb := q0h hq
  have HXb := q0h hx
  obtain ⟨A2, c2, rfl⟩ := Kd.R_slice hv
  have HSc := q0h (HS7.out.hold hs hx.size (q1z hv) (q1l _ _ _ _ _ _))
  clear hm hs hx hq hv HSb
  have hs := HSc.out
  obtain ⟨y0, y1, y2, y3, y4, y5, f0, f1, f2, f3, f4, f5, ly⟩ := z6v hs.q0
  obtain ⟨z0, z1, z2, z3, z4, z5, g0, g1, g2, g3, g4, g5, lz⟩ := z6v hs.q1
  have hne := HNE.out
  have nfb : ¬ fb = b0 /\ ¬ b0 = fb /\ ¬ b1 = fb /\ ¬ b1 = b0 := by omega
  have hs2 := hs.set0 3 (.slice A2 l.length c2) (.inl (by have := HSZ5.out; omega)) (fun p hp => by
   rcases List.mem_cons.1 hp with rfl | hp
   ·exact nfb.2.1
   ·obtain rfl : p = _ := by simpa using hp
    exact nfb.2.2.1) rfl
  have HSd := q0h hs2
  have HNB := q0h nfb
  clear hne hs hs2
  go_wp2_with fail
  have hne := HNE.out
  have ho := (HSd.out.up1).over (.inl (by omega)) (fun p hp => by
   rcases List.mem_cons.1 hp with rfl | hp
   ·exact HNB.out.1
   ·obtain rfl : p = _ := by simpa using hp
    exact HNB.out.2.2.2) [.string t.text, .slice A ps.length c, .int .i64 0, .slice A2 l.length c2, .int .i64 t.at_, .slice none 0 0] rfl
  have hr := q0p HPb.out
  subst hr
  refine bodyPost_ret (q0o rfl _ _ b0 46 #[.string t.text, .slice A ps.length c, .int .i64 0, .slice A2 l.length c2, .int .i64 t.at_, .slice none 0 0] (0, 0) _ rfl ho.q0 Tryz.underlying46 rfl (by kernel_rfl)) rfl ?_
  have hsz := HSZ5.out
  exact ⟨_, rfl, ⟨_, rfl, j2d t.text 0 t.at_ (q2i.out ho.k1 hsz.1) (q2i.out ho.k0 HS7.out.bx.size)⟩, ho.rd, ho.bx⟩
 ·have hq := HP7.out
  simp only [if_true] at hq
  have HP8 := q0h hq
  clear hq
  have c1 : w7.cell? ⟨b1, 0, none⟩ = some (.pointer (some ⟨g, 0, none⟩)) := (q0a HS7.out.q2 0).trans rfl
  have l1 := q0c HS7.out.q2
  go_wp2_with fail
  clear c1 l1
  refine Res.seq HP8.out HS7.out (fun _ hm => q6n HS7.out.rd hm) ?_ ?_
  ·rintro f w' rfl hx
   have HX := q0h hx
   clear hx
   go_wp2_with fail
   exact ⟨rfl, rfl, HX.out⟩
  rintro ty ts9 v w9 hm hs rfl hx hq
  have HS9 := q0h hs
  have HP9 := q0h hq
  clear hm hs hx hq
  have hs := HS9.out
  obtain ⟨y0, y1, y2, y3, y4, y5, f0, f1, f2, f3, f4, f5, ly⟩ := z6v hs.q0
  have hne := HNE.out
  have nfb : ¬ fb = b0 /\ ¬ b0 = fb /\ ¬ b1 = fb /\ ¬ b1 = b0 := by omega
  have hs2 := hs.set0 2 (.int .i64 ty) (.inl (by have := HSZ5.out; omega)) (fun p hp => by
   rcases List.mem_cons.1 hp with rfl | hp
   ·exact nfb.2.1
   ·obtain rfl : p = _ := by simpa using hp
    exact nfb.2.2.1) rfl
  obtain ⟨W10, hW10⟩ : ∃ W, W = w9.setCell ⟨fb, 2, none⟩ (.int .i64 ty) := ⟨_, rfl⟩
  rw [<- hW10] at hs2
  have HW10 := q0h hW10
  have HS10 := q0h hs2
  have c1 : w9.cell? ⟨b1, 0, none⟩ = some (.pointer (some ⟨g, 0, none⟩)) := (q0a hs.q2 0).trans rfl
  have l1 := q0c hs.q2
  have nb := nfb.2.2.1
  clear hne hs hs2 hW10 nfb
  go_wp2_with fail
  rw [<- HW10.out]
  clear y0 y1 y2 y3 y4 y5 f0 f1 f2 f3 f4 f5 ly c1 l1 nb
  refine Res.seq HP9.out HS10.out (fun _ hm => HR.out.block _ _ _ _ HS10.out.rd hm) ?_ ?_
  ·rintro f w' rfl hx
   have HX := q0h hx
   clear hx
   go_wp2_with fail
   exact ⟨rfl, rfl, HX.out⟩
  rintro l tsb v wb hm hs hv hx hq
  have HSb := q0h hs
  have HPb := q0h hq
  have HXb := q0h hx
  obtain ⟨A2, c2, rfl⟩ := Kd.R_slice hv
  have HSc := q0h (HS10.out.hold hs hx.size (q1z hv) (q1l _ _ _ _ _ _))
  clear hm hs hx hq hv HSb
  have hs := HSc.out
  obtain ⟨y0, y1, y2, y3, y4, y5, f0, f1, f2, f3, f4, f5, ly⟩ := z6v hs.q0
  obtain ⟨z0, z1, z2, z3, z4, z5, g0, g1, g2, g3, g4, g5, lz⟩ := z6v hs.q1
  have hne := HNE.out
  have nfb : ¬ fb = b0 /\ ¬ b0 = fb /\ ¬ b1 = fb /\ ¬ b1 = b0 := by omega
  have hs2 := hs.set0 3 (.slice A2 l.length c2) (.inl (by have := HSZ5.out; omega)) (fun p hp => by
   rcases List.mem_cons.1 hp with rfl | hp
   ·exact nfb.2.1
   ·obtain rfl : p = _ := by simpa using hp
    exact nfb.2.2.1) rfl
  have HSd := q0h hs2
  have HNB := q0h nfb
  clear hne hs hs2
  go_wp2_with fail
  have hne := HNE.out
  have ho := (HSd.out.up1).over (.inl (by omega)) (fun p hp => by
   rcases List.mem_cons.1 hp with rfl | hp
   ·exact HNB.out.1
   ·obtain rfl : p = _ := by simpa using hp
    exact HNB.out.2.2.2) [.string t.text, .slice A ps.length c, .int .i64 ty, .slice A2 l.length c2, .int .i64 t.at_, .slice none 0 0] rfl
  have hr := q0p HPb.out
  subst hr
  refine bodyPost_ret (q0o rfl _ _ b0 46 #[.string t.text, .slice A ps.length c, .int .i64 ty, .slice A2 l.length c2, .int .i64 t.at_, .slice none 0 0] (0, 0) _ rfl ho.q0 Tryz.underlying46 rfl (by kernel_rfl)) rfl ?_
  have hsz := HSZ5.out
  exact ⟨_, rfl, ⟨_, rfl, j2d t.text ty t.at_ (q2i.out ho.k1 hsz.1) (q2i.out ho.k0 HS10.out.bx.size)⟩, ho.rd, ho.bx⟩
theorem x0r : (Tryz.prog.info? 67).map (fun i => (i.zero, i.size, i.bytes)) = some (some (.agg #[.int .i64 0, .string ⟨#[]⟩, .int .i64 0, .slice none 0 0, .slice none 0 0, .slice none 0 0, .int .i64 0, .int .i64 0]), 8, 120) := by kernel_rfl
theorem z1v : (Tryz.prog.info? 86).map (fun i => (i.zero, i.size, i.bytes)) = some (some (.agg #[.int .i64 0, .int .i64 0, .int .i64 0, .string ⟨#[]⟩, .slice none 0 0, .int .i64 0, .int .i64 0, .int .i64 0]), 8, 88) := by kernel_rfl
theorem z1w {α : Type} {w : World} {b : Nat} {cs : List Value} {t : TypeId} (p : α) (h : w.heap[b]? = some (.cells cs.toArray t (0, 0))) : q2u (fun x c => x = p /\ c = cs) cs.length w (some ⟨b, 0, none⟩) 1 [p] := by
 refine ⟨rfl, by decide, fun _ => ⟨_, rfl, fun j q hj => ?_⟩⟩
 cases j with
 | succ j => cases hj
 | zero =>
  injection hj with hj
  subst hj
  refine ⟨cs, rfl, ⟨rfl, rfl⟩, fun i u hu => ?_⟩
  rw [Nat.zero_mul, Nat.zero_add]
  have h1 : w.cell? ⟨b, 0 + i, none⟩ = some u := by rw [Nat.zero_add]; exact (q0a h i).trans (by simpa using hu)
  have h2 : (⟨b, 0, none⟩ : Addr).add i = ⟨b, 0 + i, none⟩ := by
   cases i with
   | zero => rfl
   | succ i => rfl
  rw [h2]; exact h1
theorem q4b {P : Program} {o : Oper} {a : Act} {Q : Exit -> Act -> World -> Prop} {Kc : Act -> World -> Prop} {ops : Array Oper} {W w1 : World} {t : TypeId} {p x : Operand} {u v : Value} (hw : Region.wanted o (yielded ops a.tmps) = true) (hN : o.dst = none) (ho : o.op = .store t p x) (hp : a.eval p = u) (hx : a.eval x = v)
  (hrun : (Instr.storeAt t u v).run P W = .ok () w1) (h : Kc a w1) : if Region.wanted o (yielded ops a.tmps) = true then Oper.wp P o a W Kc Q else Kc (a.put o.dst undef) W := by
 rw [if_pos hw]
 unfold Oper.wp execOp
 simp only [ho, hp, hx, Sem.run_bind, Sem.run_pure, Result.andThen_ok, hrun]
 show Kc (a.put o.dst undef) _
 rw [hN]
 exact h
theorem q7f {P : Program} {α : Type} {d : Kd α} {e : Nat} {W : World} {base : Nat} {ok okp : Nat -> Prop} {A : Option Addr} {cap : Nat} {l : List α} {z x : α} {cs : List Value} (h : d.R e W base ok (.slice A (l.length + 1) cap) (l ++ [z])) (hM : d.M W base okp x cs) (hokp : ∀ k, okp k -> ok k /\ some k ≠ (Value.slice A (l.length + 1) cap).ownBlock) (t : TypeId) (ht : (P.info? t).map (·.size) = some d.sz) :
  ∃ gb, A = some ⟨gb, 0, none⟩ /\ (Value.slice A (l.length + 1) cap).ownBlock = some gb /\ (Instr.storeAt t (.pointer (some ⟨gb, l.length * d.sz, none⟩)) (.agg cs.toArray)).run P W = .ok () (W.setCells gb (l.length * d.sz) cs) /\ d.R e (W.setCells gb (l.length * d.sz) cs) base ok (.slice A (l.length + 1) cap) (l ++ [x]) /\ W.grownBy (W.setCells gb (l.length * d.sz) cs) (some gb) := by
 obtain ⟨inner, ho⟩ := Kd.R_own h
 have hcs : cs.length = d.sz := d.K_len (d.K_of_M hM)
 have hown := ho
 rcases ho.2 with ⟨hv, hn⟩ | ⟨gb, cap', cur, hv, hb, hh, hnc, hcm, hcz, htk⟩
 ·injection hv with _ h1 _
  omega
 injection hv with hA hn hc
 subst hA hc
 refine ⟨gb, rfl, by simp [Value.ownBlock], ?_, ?_⟩
 ·refine z4w t (.agg cs.toArray) cs hh (by simp [Value.cells]) (by rw [ht, hcs]) ?_ (d.K_one (d.K_of_M hM))
  rw [hcz, hcs]
  have h2 : (l.length + 1) * d.sz <= cap * d.sz := Nat.mul_le_mul_right _ (by have := hnc; simp at this; omega)
  rw [Nat.succ_mul] at h2
  exact h2
 ·obtain ⟨c, c1, c2, c3, _⟩ := Kd.R_elem h z (l.length : Int) (by omega) (by omega)
  have e0 : c.take 0 ++ cs ++ c.drop (0 + cs.length) = cs := by rw [List.take_zero, List.nil_append, Nat.zero_add, hcs, <- c1, List.drop_length, List.append_nil]
  have hs := Kd.R_seg (x' := x) h (l.length : Int) (by omega) (by omega) (c := c) (seg := cs) (j := 0) c1 (by simpa using c3) (by omega) (by rw [e0]; exact hM) (fun k hk => ⟨(hokp k hk).1, fun e => (hokp k hk).2 (by rw [e]; simp [Value.ownBlock])⟩)
  simpa using hs
def zSt : St := .mk 0 ⟨#[]⟩ 0 [] [] [] 0 0
theorem x0s (w : World) (base : Nat) (ok : Nat -> Prop) : kSt.M w base ok zSt [.int .i64 0, .string ⟨#[]⟩, .int .i64 0, .slice none 0 0, .slice none 0 0, .slice none 0 0, .int .i64 0, .int .i64 0] := q7m 0 ⟨#[]⟩ 0 0 0 (Kd.R_nil _ _ _ _ _) (Kd.R_nil _ _ _ _ _) (Kd.R_nil _ _ _ _ _)
def z4g {α : Type} (d : Kd α) (lo hi : Nat) (x : α) (cs : List Value) (w : World) : Prop := d.M w lo (fun k => lo <= k /\ k < hi) x cs
theorem q7q {α : Type} (d : Kd α) (lo hi : Nat) (x : α) (cs : List Value) : z6u lo hi (z4g d lo hi x cs) := fun w1 w2 hk h => d.M_move (fun k hq => hk k hq.1 hq.2) h
theorem q7r {α : Type} {d : Kd α} {lo : Nat} {x : α} {cs : List Value} {w : World} (h : d.M w lo (fun k => lo <= k) x cs) : z4g d lo w.heap.size x cs w := d.M_mono (fun k hk => ⟨hk.1, hk.2.2.1⟩) (d.M_bound h)
end Go.Proofs.YtpfdhihbecpbeaaGreatDoor.E
