import Derived.Test.YtpfdhihbecpbeaaGreatDoorKC
/- Contracts of the program's functions, and lemmas: no statement of its own. -/
namespace Go.Proofs.YtpfdhihbecpbeaaGreatDoor.E
open Go Go.RowKit Go.Proofs.YtpfdhihbecpbeaaGreatDoorW.PrintWords Go.Proofs.YtpfdhihbecpbeaaGreatDoorW.PrintLast Go.Proofs.YtpfdhihbecpbeaaGreatDoorW.PrintMore
set_option linter.unusedVariables false
set_option linter.unusedSimpArgs false
set_option maxRecDepth 100000
set_option maxHeartbeats 4000000
theorem x8y {α : Type} {B : Nat} {w : World} {g : Nat} {ts : List Tok} {lv : Nat} (h : RD B w g ts lv) (X : Nat -> Prop) (hXg : X g) (K : Nat) (caps : Array Value) (he : q1k K) (read : Nat -> PM α) (S : World -> α -> Prop) (Pre : World -> Prop)
  (hcl : z5c B w X g (lv + 1) K caps (read (lv + 1)) S Pre) (hpre : Pre (w.setCell ⟨g, 1, none⟩ (.int .i64 ((lv : Int) + 1)))) (hS : ∀ w w' a, S w a -> q1s w.heap.size (· = g) w w' -> S w' a) {r : Except Flt (α × List Tok)} (hp : q1x lv read ts = some r) :
  Calls Tryz.prog 151 #[.pointer (some ⟨g, 0, none⟩), .func (.func K) #[] caps] w (x3x B w X g lv S r) := by
 unfold q1x at hp
 refine q8c h K caps he (x3x B w X g lv S r) (fun h30 => ?_) (fun hne hr2 => ?_)
 ·rw [if_pos h30] at hp
  have h2 := q0p (show some (Except.error (91, (ts.headD q2m).at_)) = some r from hp)
  subst h2
  exact ⟨rfl, q1s.refl _ _ _⟩
 ·rw [if_neg hne] at hp
  have hx2 := (q1s.refl w.heap.size X w).set (b := g) (.inr hXg) 1 (.int .i64 ((lv : Int) + 1))
  refine (hcl _ ts hx2 hpre hr2 r hp).mono ?_
  intro e w2 hres
  cases r with
  | error f =>
   obtain ⟨rfl, hx3⟩ := hres
   exact .inr ⟨_, rfl, rfl, hx2.next hx3⟩
  | ok q =>
   obtain ⟨a2, ts2⟩ := q
   obtain ⟨v, rfl, ⟨rfl, hs⟩, hr3, hx3⟩ := hres
   exact .inl ⟨rfl, ⟨_, hr3⟩, _, rfl, ⟨rfl, hS _ _ _ hs (q1s.set (X := (· = g)) (q1s.refl _ _ _) (b := g) (.inr rfl) 1 _)⟩, hr3.level lv h.lv, (hx2.next hx3).set (.inr hXg) 1 _⟩
theorem ST.exs {B g lv : Nat} {X : Nat -> Prop} {w0 w w1 : World} {ts ts1 : List Tok} {bs : List Blk} {ks : List x0q} (h0 : ST B g lv X w0 w ts bs ks) (h1 : ST B g lv X w0 w1 ts1 bs ks) (hsz : w.heap.size <= w1.heap.size) {e : Ex} {cs : List Value} (hM : kEx.M w1 w.heap.size (fun k => w.heap.size <= k) e cs) :
  ∃ W, W = w1.alloc (.cells cs.toArray 86) /\ ST B g lv X w0 W ts1 bs ((w.heap.size, w1.heap.size + 1, q2i kEx 86 w.heap.size (w1.heap.size + 1) [e] (.slice (some ⟨w1.heap.size, 0, none⟩) 1 1)) :: ks) := by
 refine ⟨_, rfl, ?_⟩
 have hb : Below w1.heap.size w1 (w1.alloc (.cells cs.toArray 86)) := q0d (Below.refl _ _) _
 have h2 := q1z (z8n hM hsz)
 have e1 : (w1.alloc (.cells cs.toArray 86)).heap.size = w1.heap.size + 1 := by simp
 rw [e1] at h2
 exact (h1.below hb).holdAt _ _ h0.rd.Bw (by rw [e1]; exact Nat.le_refl _) h2 (q1l _ _ _ _ _ _) (fun p hp => .inl (h0.lt p hp))
theorem x2u {B g : Nat} {R : q4e} (hR : q7i B g R) {w : World} {ts : List Tok} {lv : Nat} (h : RD B w g ts lv) {r : Except Flt (St × List Tok)} (hp : q6t R lv ts = some r) :
  Calls Tryz.prog 153 #[.pointer (some ⟨g, 0, none⟩)] w (Res B w (· = g) g lv (stV w.heap.size) r) := by
 obtain ⟨t0, r0, ad, cc, hts, z0, z1, k0, k1, k2, hg, ha, hne, hc, hl, HM⟩ := h.head
 obtain ⟨at_, hat⟩ : ∃ a, a = t0.at_ := ⟨_, rfl⟩
 have hat2 : (ts.headD q2m).at_ = at_ := by rw [hts, hat]; rfl
 rw [<- hat] at k2
 obtain ⟨W, hW, hS⟩ := (ST.start (X := (· = g)) h rfl).push3 #[.pointer (some ⟨g, 0, none⟩)] 56 #[.int .i64 0, .string ⟨#[]⟩, .int .i64 0, .slice none 0 0, .slice none 0 0, .slice none 0 0, .int .i64 0, .int .i64 0] 67 #[.int .i64 4, .string ⟨#[]⟩, .int .i64 0, .slice none 0 0, .slice none 0 0, .slice none 0 0, .int .i64 at_, .int .i64 0] 67
 obtain ⟨sb, hsb⟩ : ∃ b, b = w.heap.size + 1 + 1 := ⟨_, rfl⟩
 obtain ⟨b0, hb0⟩ : ∃ b, b = w.heap.size + 1 := ⟨_, rfl⟩
 obtain ⟨b1, hb1⟩ : ∃ b, b = w.heap.size := ⟨_, rfl⟩
 rw [<- hsb, <- hb0, <- hb1] at hS
 have HNE := q0h (show B <= b1 /\ g < b1 /\ b0 = b1 + 1 /\ sb = b0 + 1 /\ B <= sb by have := h.gB; have := h.Bw; omega)
 have HBW := q0h (show w.heap.size <= b0 by omega)
 have HSW := q0h (show w.heap.size <= sb by omega)
 have HR := q0h hR
 unfold q6t at hp
 simp only at hp
 rw [hat2] at hp
 have HP := q0h hp
 have HW := q0h hW
 have HS := q0h hS
 have HB0 := q0h hb0
 have HB1 := q0h hb1
 have HSB := q0h hsb
 have c1 : W.cell? ⟨b1, 0, none⟩ = some (.pointer (some ⟨g, 0, none⟩)) := (q0a hS.q2 0).trans rfl
 have l1 := q0c hS.q2
 have hmf : ∀ (fn : Fn) (first cap : Array Value) (w : World), (Instr.makeFunc fn first cap).run Tryz.prog w = .ok (.func fn first cap) w := fun _ _ _ _ => rfl
 clear h hp hR hS hW hb0 hb1 hsb hts hat hat2
 go_enter Tryz.func153, Tryz.ntmps153
 go_wp2_with fail
 rw [<- HW.out, <- HSB.out, <- HB0.out, <- HB1.out]
 clear c1 l1 z0 z1 k0 k1 k2 hg ha hne hc hl HM
 refine Res.seq HP.out HS.out (fun _ hm => q1e HS.out.rd _ hm) ?_ ?_
 ·rintro f w' rfl hx
  have HX := q0h hx
  clear hx
  go_wp2_with fail
  exact ⟨rfl, rfl, HX.out⟩
 rintro u ts1 v w1 hm hs rfl hx hq
 have HS1 := q0h hs
 have HP1 := q0h hq
 clear hm hs hx hq
 have c1 : w1.cell? ⟨b1, 0, none⟩ = some (.pointer (some ⟨g, 0, none⟩)) := (q0a HS1.out.q2 0).trans rfl
 have l1 := q0c HS1.out.q2
 go_wp2_with fail
 clear c1 l1
 refine Res.seq HP1.out HS1.out (fun _ hm => q4f HR.out HS1.out.rd hm) ?_ ?_
 ·rintro f w' rfl hx
  have HX := q0h hx
  clear hx
  go_wp2_with fail
  exact ⟨rfl, rfl, HX.out⟩
 rintro x ts2 v w2 hm hs ⟨cs, rfl, hM⟩ hx hq
 have HS20 := q0h hs
 have HP2 := q0h hq
 cases x with
 | mk ek eo en es l ea et ep =>
 obtain ⟨v0, rfl, hl⟩ := q2k hM
 obtain ⟨A, c, rfl⟩ := Kd.R_slice hl
 obtain ⟨W2, hW2, hS2⟩ := HS1.out.exs hs hx.size hM
 obtain ⟨nb, hnb⟩ : ∃ b, b = w2.heap.size := ⟨_, rfl⟩
 rw [<- hnb] at hS2
 have HW2 := q0h (show W2 = w2.alloc (.cells #[.int .i64 ek, .int .i64 eo, .int .i64 en, .string es, .slice A l.length c, .int .i64 ea, .int .i64 et, .int .i64 ep] 86) from hW2)
 have HS2 := q0h hS2
 have HNB := q0h hnb
 clear hl hW2 hS2 hnb
 clear hm hs hx hq hM HS20
 go_wp2_with fail
 rw [<- HW2.out, <- HNB.out]
 refine (q6d _ _ _ _).mono ?_
 rintro e w3 ⟨rfl, rfl⟩
 obtain ⟨y0, y1, y2, y3, y4, y5, y6, y7, f0, f1, f2, f3, f4, f5, f6, f7⟩ := q0r HS2.out.q0
 have ly := q0c HS2.out.q0
 have c1 : W2.cell? ⟨b1, 0, none⟩ = some (.pointer (some ⟨g, 0, none⟩)) := (q0a HS2.out.q2 0).trans rfl
 have l1 := q0c HS2.out.q2
 have hne' : ∀ p ∈ [(b0, (#[.int .i64 0, .string ⟨#[]⟩, .int .i64 0, .slice none 0 0, .slice none 0 0, .slice none 0 0, .int .i64 0, .int .i64 0] : Array Value), 67), (b1, #[.pointer (some ⟨g, 0, none⟩)], 56)], p.1 ≠ sb := fun p hp => by
  have hne := HNE.out
  rcases List.mem_cons.1 hp with rfl | hp
  ·show b0 ≠ sb; omega
  ·obtain rfl : p = _ := by simpa using hp
   show b1 ≠ sb; omega
 have hs := (HS2.out.set0 3 (.slice (some ⟨nb, 0, none⟩) 1 1) (.inl HSW.out) hne' rfl)
 obtain ⟨W4, hW⟩ : ∃ W, W = W2.setCell ⟨sb, 3, none⟩ (.slice (some ⟨nb, 0, none⟩) 1 1) := ⟨_, rfl⟩
 rw [<- hW] at hs
 have HS4 := q0h hs
 have HW4 := q0h hW
 clear hne' hs hW
 have nb1 : ¬ b1 = sb := by have := HNE.out; omega
 go_wp2_with fail
 rw [<- HW4.out]
 clear c1 l1 nb1
 clear y0 f0 y1 f1 y2 f2 y3 f3 y4 f4 y5 f5 y6 f6 y7 f7 ly
 refine Res.seq HP2.out HS4.out (fun _ hm => HR.out.block _ _ _ _ HS4.out.rd hm) ?_ ?_
 ·rintro f w' rfl hx
  have HX := q0h hx
  clear hx
  go_wp2_with fail
  exact ⟨rfl, rfl, HX.out⟩
 rintro body ts5 v w5 hm hs hv hx hq
 have HS50 := q0h hs
 have HP5 := q0h hq
 obtain ⟨Ab, cb, rfl⟩ := Kd.R_slice hv
 have HS5 := q0h (HS4.out.hold hs hx.size (q1z hv) (q1l _ _ _ _ _ _))
 have HSX := q0h (show w.heap.size <= W4.heap.size /\ w.heap.size <= w1.heap.size from ⟨HS4.out.bx.size, HS1.out.bx.size⟩)
 clear hm hs hx hq hv HS50
 obtain ⟨y0, y1, y2, y3, y4, y5, y6, y7, f0, f1, f2, f3, f4, f5, f6, f7⟩ := q0r HS5.out.q0
 have ly := q0c HS5.out.q0
 have c1 : w5.cell? ⟨b1, 0, none⟩ = some (.pointer (some ⟨g, 0, none⟩)) := (q0a HS5.out.q2 0).trans rfl
 have l1 := q0c HS5.out.q2
 have hne' : ∀ p ∈ [(b0, (#[.int .i64 0, .string ⟨#[]⟩, .int .i64 0, .slice none 0 0, .slice none 0 0, .slice none 0 0, .int .i64 0, .int .i64 0] : Array Value), 67), (b1, #[.pointer (some ⟨g, 0, none⟩)], 56)], p.1 ≠ sb := fun p hp => by
  have hne := HNE.out
  rcases List.mem_cons.1 hp with rfl | hp
  ·show b0 ≠ sb; omega
  ·obtain rfl : p = _ := by simpa using hp
   show b1 ≠ sb; omega
 have hs := (HS5.out.set0 4 (.slice Ab body.length cb) (.inl HSW.out) hne' rfl)
 obtain ⟨W6, hW⟩ : ∃ W, W = w5.setCell ⟨sb, 4, none⟩ (.slice Ab body.length cb) := ⟨_, rfl⟩
 rw [<- hW] at hs
 have HS6 := q0h hs
 have HW6 := q0h hW
 clear hne' hs hW
 have nb1 : ¬ b1 = sb := by have := HNE.out; omega
 go_wp2_with fail
 rw [<- HW6.out]
 clear c1 l1 nb1
 clear y0 f0 y1 f1 y2 f2 y3 f3 y4 f4 y5 f5 y6 f6 y7 f7 ly
 have hq := q9m HP5.out
 obtain ⟨p1, hp1⟩ : ∃ b, b = isT (tx [101, 108, 115, 101]) ts5 := ⟨_, rfl⟩
 obtain ⟨ts7, hts7⟩ : ∃ l, l = if isT (tx [101, 108, 115, 101]) ts5 = true then q0w ts5 else ts5 := ⟨_, rfl⟩
 rw [<- hts7, <- hp1] at hq
 have HP1b := q0h hp1
 have HP1bt := q0h hts7
 have HP7 := q0h hq
 refine (q2b HS6.out.rd (tx [101, 108, 115, 101])).mono ?_
 rintro e' w7 ⟨rfl, hr, hx⟩
 rw [<- HP1bt.out] at hr
 rw [<- HP1b.out]
 have HS7 := q0h (HS6.out.call hr hx)
 clear hr hx hq hp1 hts7
 cases p1
 ·have hr := q0p (show some (Except.ok (St.mk 4 ⟨#[]⟩ 0 [.mk ek eo en es l ea et ep] body [] at_ 0, ts7)) = some r from (if_neg Bool.false_ne_true).symm.trans HP7.out)
  subst hr
  have hs := HS7.out
  obtain ⟨y0, y1, y2, y3, y4, y5, y6, y7, f0, f1, f2, f3, f4, f5, f6, f7⟩ := q0r hs.q0
  have ly := q0c hs.q0
  obtain ⟨z0, z1, z2, z3, z4, z5, z6, z7, q0, q1, q2, q3, q4, q5, q6, q7⟩ := q0r hs.q1
  have lz := q0c hs.q1
  have hne := HNE.out
  have nbe : ¬ b0 = sb /\ ¬ sb = b0 /\ ¬ b1 = b0 := by omega
  clear hne
  have ho := (hs.up1).over (.inl HBW.out) (fun p hp => by
   rcases List.mem_cons.1 hp with rfl | hp
   ·exact nbe.2.1
   ·obtain rfl : p = _ := by simpa using hp
    exact nbe.2.2) [.int .i64 4, .string ⟨#[]⟩, .int .i64 0, .slice (some ⟨nb, 0, none⟩) 1 1, .slice Ab body.length cb, .slice none 0 0, .int .i64 at_, .int .i64 0] rfl
  have HO := q0h ho
  have HNB := q0h nbe
  clear hs ho nbe
  go_wp2_with fail
  refine bodyPost_ret (q0o rfl _ _ b0 67 #[.int .i64 4, .string ⟨#[]⟩, .int .i64 0, .slice (some ⟨nb, 0, none⟩) 1 1, .slice Ab body.length cb, .slice none 0 0, .int .i64 at_, .int .i64 0] (0, 0) _ rfl HO.out.q0 Tryz.underlying67 rfl (by kernel_rfl)) rfl ?_
  exact ⟨_, rfl, ⟨_, rfl, q7m 4 ⟨#[]⟩ 0 at_ 0 (q2i.out HO.out.k1 HSX.out.2) (q2i.out HO.out.k0 HSX.out.1) (Kd.R_nil _ _ _ _ _)⟩, HO.out.rd, HO.out.bx⟩
 ·have hq := (if_pos rfl).symm.trans HP7.out
  obtain ⟨p2, hp2⟩ : ∃ b, b = isT (tx [105, 102]) ts7 := ⟨_, rfl⟩
  rw [<- hp2] at hq
  have HP2b := q0h hp2
  have HQ7 := q0h hq
  clear hp2 hq
  have c1 : w7.cell? ⟨b1, 0, none⟩ = some (.pointer (some ⟨g, 0, none⟩)) := (q0a HS7.out.q2 0).trans rfl
  have l1 := q0c HS7.out.q2
  go_wp2_with fail
  refine (q1t HS7.out.rd (tx [105, 102])).mono ?_
  rintro e w8 ⟨rfl, hb⟩
  rw [<- HP2b.out]
  have HS8 := q0h (HS7.out.below hb)
  clear hb c1 l1
  have c1 : w8.cell? ⟨b1, 0, none⟩ = some (.pointer (some ⟨g, 0, none⟩)) := (q0a HS8.out.q2 0).trans rfl
  have l1 := q0c HS8.out.q2
  cases p2
  ·have HQ8 := q0h (show (R.block lv).bind (fun l2 => .ret (.mk 4 ⟨#[]⟩ 0 [.mk ek eo en es l ea et ep] body l2 at_ 0)) ts7 = some r from HQ7.out)
   go_wp2_with fail
   clear c1 l1
   refine Res.seq HQ8.out HS8.out (fun _ hm => HR.out.block _ _ _ _ HS8.out.rd hm) ?_ ?_
   ·rintro f w' rfl hx
    have HX := q0h hx
    clear hx
    go_wp2_with fail
    exact ⟨rfl, rfl, HX.out⟩
   rintro els ts9 v w9 hm hs hv hx hq
   have HS90 := q0h hs
   have HP9 := q0h hq
   obtain ⟨Ae, ce, rfl⟩ := Kd.R_slice hv
   have HS9 := q0h (HS8.out.hold hs hx.size (q1z hv) (q1l _ _ _ _ _ _))
   have HSY := q0h (show w.heap.size <= w8.heap.size from HS8.out.bx.size)
   clear hm hs hx hq hv HS90
   have hr := q0p HP9.out
   subst hr
   obtain ⟨y0, y1, y2, y3, y4, y5, y6, y7, f0, f1, f2, f3, f4, f5, f6, f7⟩ := q0r HS9.out.q0
   have ly := q0c HS9.out.q0
   have hne' : ∀ p ∈ [(b0, (#[.int .i64 0, .string ⟨#[]⟩, .int .i64 0, .slice none 0 0, .slice none 0 0, .slice none 0 0, .int .i64 0, .int .i64 0] : Array Value), 67), (b1, #[.pointer (some ⟨g, 0, none⟩)], 56)], p.1 ≠ sb := fun p hp => by
    have hne := HNE.out
    rcases List.mem_cons.1 hp with rfl | hp
    ·show b0 ≠ sb; omega
    ·obtain rfl : p = _ := by simpa using hp
     show b1 ≠ sb; omega
   have hs := (HS9.out.set0 5 (.slice Ae els.length ce) (.inl HSW.out) hne' rfl)
   obtain ⟨W10, hW⟩ : ∃ W, W = w9.setCell ⟨sb, 5, none⟩ (.slice Ae els.length ce) := ⟨_, rfl⟩
   rw [<- hW] at hs
   have HS10 := q0h hs
   have HW10 := q0h hW
   clear hne' hs hW
   obtain ⟨z0, z1, z2, z3, z4, z5, z6, z7, q0, q1, q2, q3, q4, q5, q6, q7⟩ := q0r HS9.out.q1
   have lz := q0c HS9.out.q1
   have hne := HNE.out
   have nbe : ¬ b0 = sb /\ ¬ sb = b0 /\ ¬ b1 = b0 := by omega
   clear hne
   have ho := (HS10.out.up1).over (.inl HBW.out) (fun p hp => by
    rcases List.mem_cons.1 hp with rfl | hp
    ·exact nbe.2.1
    ·obtain rfl : p = _ := by simpa using hp
     exact nbe.2.2) [.int .i64 4, .string ⟨#[]⟩, .int .i64 0, .slice (some ⟨nb, 0, none⟩) 1 1, .slice Ab body.length cb, .slice Ae els.length ce, .int .i64 at_, .int .i64 0] rfl
   have HO := q0h ho
   clear ho
   go_wp2_with fail
   rw [<- HW10.out]
   refine bodyPost_ret (q0o rfl _ _ b0 67 #[.int .i64 4, .string ⟨#[]⟩, .int .i64 0, .slice (some ⟨nb, 0, none⟩) 1 1, .slice Ab body.length cb, .slice Ae els.length ce, .int .i64 at_, .int .i64 0] (0, 0) _ rfl HO.out.q0 Tryz.underlying67 rfl (by kernel_rfl)) rfl ?_
   exact ⟨_, rfl, ⟨_, rfl, q7m 4 ⟨#[]⟩ 0 at_ 0 (q2i.out HO.out.k2 HSX.out.2) (q2i.out HO.out.k1 HSX.out.1) (q2i.out HO.out.k0 HSY.out)⟩, HO.out.rd, HO.out.bx⟩
  ·have HQ8 := q0h (show (q1x lv (fun lv => R.choice lv)).bind (fun s => .ret (.mk 4 ⟨#[]⟩ 0 [.mk ek eo en es l ea et ep] body [s] at_ 0)) ts7 = some r from HQ7.out)
   go_wp2_with fail
   clear c1 l1 hmf
   have hne := HNE.out
   refine Res.seqX (X1 := fun k => k = g \/ k = sb) HQ8.out HS8.out (fun i hi h1 => by
     rcases h1 with h1 | h1
     ·exact h1
     ·have := HSW.out; omega) (fun rm hm => x8y HS8.out.rd (fun k => k = g \/ k = sb) (.inl rfl) 193 #[.pointer (some ⟨b1, 0, none⟩), .pointer (some ⟨sb, 0, none⟩)] x2p (fun lv => R.choice lv) (x4t sb _ _ _ _ _ _ _) (z6s b1 sb g _ _ _ _ _ _ _ _)
      (z8r HR.out w8 (lv + 1) b1 sb (by omega) (by omega) _ _ _ _ _ _ _ _) ⟨(Below.heap_setCell _ _ _ _ (by show b1 ≠ g; omega)).trans HS8.out.q2, (Below.heap_setCell _ _ _ _ (by show sb ≠ g; omega)).trans HS8.out.q0⟩
      (fun w1 w2 l hs hx => by
       obtain ⟨A, p1, p2⟩ := hs
       exact ⟨A, q3c hx p1 (by omega), Kd.R_step p2 (fun k hk hlt => hx.block k hlt (by have h3 : sb + 1 <= k := hk; show k ≠ g; omega))⟩) hm) ?_ ?_
   ·rintro f w' rfl hx
    have HX := q0h hx
    clear hx hne
    go_wp2_with fail
    exact ⟨rfl, rfl, HX.out⟩
   rintro x ts9 v w9 hm hr ⟨rfl, Ae, q3, q4⟩ hx hq
   have hr2 := q0p hq
   subst hr2
   have hks := HS8.out.kp
   have hs5 := ((HS8.out.drop0.callX hr hx (fun i hi h1 => by
     rcases h1 with h1 | h1
     ·exact h1
     ·have := HSW.out; omega) (fun p hp => by
     rcases List.mem_cons.1 hp with rfl | hp
     ·show ¬ (b0 = g \/ b0 = sb); omega
     ·obtain rfl : p = _ := by simpa using hp
      show ¬ (b1 = g \/ b1 = sb); omega) (fun q hq k h1 h2 h3 => by
     obtain ⟨j1, _, _, _, j5⟩ := hks q hq
     rcases h3 with h3 | h3
     ·have h7 : k = g := h3
      have := HS8.out.rd.gB
      omega
     ·have h7 : k = sb := h3
      have h6 : sb < q.1 \/ q.2.1 <= sb := j5 _ List.mem_cons_self
      omega)).add sb _ _ hne.2.2.2.2 q3 (fun q hq => (hks q hq).2.2.2.2 _ List.mem_cons_self)).holdAt (sb + 1) w9.heap.size (by omega) (Nat.le_refl _) (q1z q4) (q1l _ _ _ _ _ _) (fun p hp => .inl (by
     rcases List.mem_cons.1 hp with rfl | hp
     ·show sb < sb + 1; omega
     ·rcases List.mem_cons.1 hp with rfl | hp
      ·show b0 < sb + 1; omega
      ·obtain rfl : p = _ := by simpa using hp
       show b1 < sb + 1; omega))
   have HS9 := q0h hs5
   have HSY := q0h (show w.heap.size <= sb + 1 by have := HSW.out; omega)
   clear hm hr hx hq q3 q4 hs5 hks hne
   have hs := HS9.out
   obtain ⟨y0, y1, y2, y3, y4, y5, y6, y7, f0, f1, f2, f3, f4, f5, f6, f7⟩ := q0r hs.q0
   have ly := q0c hs.q0
   obtain ⟨z0, z1, z2, z3, z4, z5, z6, z7, q0, q1, q2, q3, q4, q5, q6, q7⟩ := q0r hs.q1
   have lz := q0c hs.q1
   have hne := HNE.out
   have nbe : ¬ b0 = sb /\ ¬ sb = b0 /\ ¬ b1 = b0 := by omega
   clear hne
   have ho := (hs.up1).over (.inl HBW.out) (fun p hp => by
    rcases List.mem_cons.1 hp with rfl | hp
    ·exact nbe.2.1
    ·obtain rfl : p = _ := by simpa using hp
     exact nbe.2.2) [.int .i64 4, .string ⟨#[]⟩, .int .i64 0, .slice (some ⟨nb, 0, none⟩) 1 1, .slice Ab body.length cb, .slice Ae 1 1, .int .i64 at_, .int .i64 0] rfl
   have HO := q0h ho
   have HNB := q0h nbe
   clear hs ho nbe
   go_wp2_with fail
   refine bodyPost_ret (q0o rfl _ _ b0 67 #[.int .i64 4, .string ⟨#[]⟩, .int .i64 0, .slice (some ⟨nb, 0, none⟩) 1 1, .slice Ab body.length cb, .slice Ae 1 1, .int .i64 at_, .int .i64 0] (0, 0) _ rfl HO.out.q0 Tryz.underlying67 rfl (by kernel_rfl)) rfl ?_
   exact ⟨_, rfl, ⟨_, rfl, q7m 4 ⟨#[]⟩ 0 at_ 0 (q2i.out HO.out.k2 HSX.out.2) (q2i.out HO.out.k1 HSX.out.1) (q2i.out HO.out.k0 HSY.out)⟩, HO.out.rd, HO.out.bx⟩
theorem x5a {R : q4e} {lv : Nat} {ts ts' : List Tok} {l : List Ex} (h : q4m R lv ts = some (.ok (l, ts'))) : l.length <= 1 := by
 unfold q4m q2n q1x at h
 split at h
 ·split at h
  ·cases h
  ·rcases bind_some h with ⟨e, _, he⟩ | ⟨a, ts2, hm, hq⟩
   ·cases he
   ·rcases bind_some hm with ⟨e, _, he⟩ | ⟨b, ts3, _, hq2⟩
    ·cases he
    ·have h1 := q0p hq2
     rcases bind_some hq with ⟨e, _, he⟩ | ⟨u, ts4, _, hq3⟩
     ·cases he
     ·have h2 := q0p hq3
      injection h1 with h1
      injection h1 with h1 _
      injection h2 with h2
      injection h2 with h2 _
      rw [h2, h1]; simp
 ·cases h
theorem x8z {B g : Nat} {R : q4e} (hR : q7i B g R) (n : Nat) (hn : n <= 1000000) {w : World} {ts : List Tok} {lv : Nat} (h : RD B w g ts lv) {r : Except Flt (St × List Tok)} (hp : q9l n R lv ts = some r) :
  Calls Tryz.prog 120 #[.pointer (some ⟨g, 0, none⟩)] w (Res B w (· = g) g lv (stV w.heap.size) r) := by
 obtain ⟨t0, r0, ad, cc, hts, z0, z1, k0, k1, k2, hg, ha, hne, hc, hl, HM⟩ := h.head
 obtain ⟨at_, hat⟩ : ∃ a, a = t0.at_ := ⟨_, rfl⟩
 have hat2 : (ts.headD q2m).at_ = at_ := by rw [hts, hat]; rfl
 rw [<- hat] at k2
 obtain ⟨W, hW, hS⟩ := (ST.start (X := (· = g)) h rfl).push2 #[.int .i64 0, .string ⟨#[]⟩, .int .i64 0, .slice none 0 0, .slice none 0 0, .slice none 0 0, .int .i64 0, .int .i64 0] 67 #[.int .i64 0, .string ⟨#[]⟩, .int .i64 0, .slice none 0 0, .slice none 0 0, .slice none 0 0, .int .i64 at_, .int .i64 0] 67
 obtain ⟨sb, hsb⟩ : ∃ b, b = w.heap.size + 1 := ⟨_, rfl⟩
 obtain ⟨b0, hb0⟩ : ∃ b, b = w.heap.size := ⟨_, rfl⟩
 rw [<- hsb, <- hb0] at hS
 have HNE := q0h (show B <= b0 /\ g < b0 /\ sb = b0 + 1 /\ B <= sb /\ W.heap.size = sb + 1 by have := h.gB; have := h.Bw; have : W.heap.size = w.heap.size + 2 := (by rw [hW]; simp); omega)
 have HBW := q0h (show w.heap.size <= b0 by omega)
 have HSW := q0h (show w.heap.size <= sb by omega)
 have HR := q0h hR
 have HNN := q0h hn
 unfold q9l at hp
 simp only at hp
 rw [hat2] at hp
 have HW := q0h hW
 have HS := q0h hS
 have HB0 := q0h hb0
 have HSB := q0h hsb
 have hfl : ∀ (t : Tok) (w : World), Sem.run Tryz.prog (Instr.field 63 (.agg #[.int .i64 t.kind, .string t.text, .int .i64 t.at_]) 1) w = .ok (.string t.text) w := fun t w => by kernel_rfl
 obtain ⟨p1, hp1⟩ : ∃ b, b = isT (tx [105, 102]) ts := ⟨_, rfl⟩
 rw [<- hp1] at hp
 have HP1 := q0h hp1
 have HQ := q0h hp
 clear h hp hR hS hW hb0 hsb hts hat hat2 hp1 hn
 go_enter Tryz.func120, Tryz.ntmps120
 go_wp2_with fail
 rw [<- HW.out, <- HSB.out, <- HB0.out]
 clear z0 z1 k0 k1 k2 hg ha hne hc hl HM
 refine (q1t HS.out.rd (tx [105, 102])).mono ?_
 rintro e w1 ⟨rfl, hb⟩
 rw [<- HP1.out]
 have HS1 := q0h (HS.out.below hb)
 clear hb
 cases p1
 ·have HQn := q0h ((if_neg Bool.false_ne_true).symm.trans HQ.out)
  go_wp2_with fail
  have hq := HQn.out
  obtain ⟨p2, hp2⟩ : ∃ b, b = isT (tx [119, 104, 105, 108, 101]) ts := ⟨_, rfl⟩
  rw [<- hp2] at hq
  have Hp2 := q0h hp2
  have HQw := q0h hq
  clear hq
  refine (q2b HS1.out.rd (tx [119, 104, 105, 108, 101])).mono ?_
  rintro e w2 ⟨rfl, hr, hx⟩
  rw [<- Hp2.out] at hr
  rw [<- Hp2.out]
  clear hp2
  cases p2
  ·have HS2 := q0h (HS1.out.call (show RD B w2 g ts lv from hr) hx)
   clear hr hx
   have HQm := q0h ((if_neg Bool.false_ne_true).symm.trans HQw.out)
   go_wp2_with fail
   have hq := HQm.out
   obtain ⟨p3, hp3⟩ : ∃ b, b = isT (tx [108, 101, 116]) ts := ⟨_, rfl⟩
   rw [<- hp3] at hq
   have Hp3 := q0h hp3
   have HQl := q0h hq
   clear hq
   refine (q2b HS2.out.rd (tx [108, 101, 116])).mono ?_
   rintro e w3 ⟨rfl, hr, hx⟩
   rw [<- Hp3.out] at hr
   rw [<- Hp3.out]
   clear hp3
   cases p3
   ·have HS3 := q0h (HS2.out.call (show RD B w3 g ts lv from hr) hx)
    clear hr hx
    have HQo := q0h ((if_neg Bool.false_ne_true).symm.trans HQl.out)
    go_wp2_with fail
    have hq := HQo.out
    obtain ⟨p4, hp4⟩ : ∃ b, b = isT (tx [114, 101, 116, 117, 114, 110]) ts := ⟨_, rfl⟩
    rw [<- hp4] at hq
    have Hp4 := q0h hp4
    have HQr := q0h hq
    clear hq
    refine (q2b HS3.out.rd (tx [114, 101, 116, 117, 114, 110])).mono ?_
    rintro e w4 ⟨rfl, hr, hx⟩
    rw [<- Hp4.out] at hr
    rw [<- Hp4.out]
    clear hp4
    cases p4
    ·have HS4 := q0h (HS3.out.call (show RD B w4 g ts lv from hr) hx)
     clear hr hx
     have HQ5 := q0h (show q6a.bind (fun t ts =>
       if isT (tx [40]) ts then (q8k n R lv t).bind (fun e => q4p (.mk 7 ⟨#[]⟩ 0 [e] [] [] at_ 0)) ts
       else if isT (tx [91]) ts then (q4m R lv).bind (fun l => (q1y (tx [61])).bind fun _ => (q3b R lv).bind fun e => q4p (.mk 3 t.text 0 (l ++ [e]) [] [] at_ 0)) ts
       else (q1y (tx [61])).bind (fun _ => (q3b R lv).bind fun e => q4p (.mk 2 t.text 0 [e] [] [] at_ 0)) ts) ts = some r from (if_neg Bool.false_ne_true).symm.trans HQr.out)
     go_wp2_with fail
     refine Res.seq HQ5.out HS4.out (fun _ hm => q8b HS4.out.rd hm) ?_ ?_
     ·rintro f w' rfl hx
      have HX := q0h hx
      clear hx
      go_wp2_with fail
      exact ⟨rfl, rfl, HX.out⟩
     rintro t ts5 v w5 hm hs rfl hx hq
     have HS5 := q0h hs
     have HQ6 := q0h hq
     unfold x4l
     clear hm hs hx hq
     obtain ⟨W6, hW6, hS6⟩ := HS5.out.push #[.int .i64 t.kind, .string t.text, .int .i64 t.at_] 63
     obtain ⟨tb, htb⟩ : ∃ b, b = w5.heap.size := ⟨_, rfl⟩
     rw [<- htb] at hS6
     have HW6 := q0h hW6
     have HS6 := q0h hS6.up1
     have HTB := q0h htb
     have HTE := q0h (show sb < tb by rw [htb]; exact q0c HS5.out.q0)
     obtain ⟨p5, hp5⟩ : ∃ b, b = isT (tx [40]) ts5 := ⟨_, rfl⟩
     obtain ⟨p6, hp6⟩ : ∃ b, b = isT (tx [91]) ts5 := ⟨_, rfl⟩
     have hq := HQ6.out
     try simp only at hq
     rw [<- hp5, <- hp6] at hq
     have HP5 := q0h hp5
     have HP6 := q0h hp6
     have HQ7 := q0h hq
     clear hW6 hS6 htb hq hp5 hp6
     go_wp2_with fail
     rw [<- HW6.out, <- HTB.out]
     refine (q1t HS6.out.rd (tx [40])).mono ?_
     rintro e w7 ⟨rfl, hb⟩
     rw [<- HP5.out]
     have HS7 := q0h (HS6.out.below hb)
     clear hb
     obtain ⟨tc0, tc1, tc2, u0, u1, u2, ltc⟩ := z4e HS7.out.q1
     cases p5
     ·go_wp2_with fail
      clear tc0 tc1 tc2 u0 u1 u2 ltc
      refine q2l (fun w' => w'.heap[tb]? = some (.cells #[.int .i64 t.kind, .string t.text, .int .i64 t.at_] 63 (0, 0))) 5 (by kernel_rfl) ?_
      intro X HX
      have HS8 := q0h (HS7.out.below (w1 := X) (by rw [HX.out]; exact q1n (Below.refl _ _)))
      have HLX := q0h (show X.heap[tb]? = some (.cells #[.int .i64 t.kind, .string t.text, .int .i64 t.at_] 63 (0, 0)) from HS8.out.q1)
      refine q0m 0 ?v_1 rfl (by kernel_rfl) (fun _ _ _ h => h) HLX.out (by rfl) ?h_1 ?r_1
      case h_1 => intro w' hS'; clear hS'; go_simp; try with_reducible rfl
      refine q0m 1 ?v_2 rfl (by kernel_rfl) (fun _ _ _ h => h) HLX.out (by rfl) ?h_2 ?r_2
      case h_2 => intro w' hS'; obtain ⟨tc0, tc1, tc2, u0, u1, u2, ltc⟩ := z4e hS'; go_simp; try with_reducible rfl
      refine q0m 2 ?v_3 rfl (by kernel_rfl) (fun _ _ _ h => h) HLX.out (by rfl) ?h_3 ?r_3
      case h_3 => intro w' hS'; clear hS'; go_simp; try with_reducible rfl
      obtain ⟨y0, y1, y2, y3, y4, y5, y6, y7, f0, f1, f2, f3, f4, f5, f6, f7⟩ := q0r HS8.out.q0
      have ly := q0c HS8.out.q0
      have hne' : ∀ p ∈ [(tb, (#[.int .i64 t.kind, .string t.text, .int .i64 t.at_] : Array Value), 63), (b0, #[.int .i64 0, .string ⟨#[]⟩, .int .i64 0, .slice none 0 0, .slice none 0 0, .slice none 0 0, .int .i64 0, .int .i64 0], 67)], p.1 ≠ sb := fun p hp => by
       have hne := HNE.out
       have htb := HTE.out
       rcases List.mem_cons.1 hp with rfl | hp
       ·show tb ≠ sb; omega
       ·obtain rfl : p = _ := by simpa using hp
        show b0 ≠ sb; omega
      have hs := (HS8.out.set0 0 (.int .i64 2) (.inl HSW.out) hne' rfl)
      obtain ⟨W9, hW⟩ : ∃ W, W = X.setCell ⟨sb, 0, none⟩ (.int .i64 2) := ⟨_, rfl⟩
      rw [<- hW] at hs
      have HS9 := q0h hs
      have HW9 := q0h hW
      clear hne' hs hW
      refine q0i (i := 3) (by kernel_rfl) rfl (fun K hK => ?_)
      go_simp
      rw [<- HW9.out]
      refine hK _ _ (.inr HS9.out.q1) ?_
      clear hK K
      clear y0 f0 y1 f1 y2 f2 y3 f3 y4 f4 y5 f5 y6 f6 y7 f7 ly
      refine q0m 4 ?v_4 rfl (by kernel_rfl) (fun _ _ _ h => h) (q0h (show W9.heap[tb]? = some _ from HS9.out.q1)).out (by rfl) ?h_4 ?r_4
      case h_4 => intro w' hS'; clear hS'; go_simp; try with_reducible rfl
      obtain ⟨y0, y1, y2, y3, y4, y5, y6, y7, f0, f1, f2, f3, f4, f5, f6, f7⟩ := q0r HS9.out.q0
      have ly := q0c HS9.out.q0
      have hne' : ∀ p ∈ [(tb, (#[.int .i64 t.kind, .string t.text, .int .i64 t.at_] : Array Value), 63), (b0, #[.int .i64 0, .string ⟨#[]⟩, .int .i64 0, .slice none 0 0, .slice none 0 0, .slice none 0 0, .int .i64 0, .int .i64 0], 67)], p.1 ≠ sb := fun p hp => by
       have hne := HNE.out
       have htb := HTE.out
       rcases List.mem_cons.1 hp with rfl | hp
       ·show tb ≠ sb; omega
       ·obtain rfl : p = _ := by simpa using hp
        show b0 ≠ sb; omega
      have hs := (HS9.out.set0 1 (.string t.text) (.inl HSW.out) hne' rfl)
      obtain ⟨Wa, hW⟩ : ∃ W, W = W9.setCell ⟨sb, 1, none⟩ (.string t.text) := ⟨_, rfl⟩
      rw [<- hW] at hs
      have HSa := q0h hs
      have HWa := q0h hW
      clear hne' hs hW
      refine q0i (i := 5) (by kernel_rfl) rfl (fun K hK => ?_)
      go_simp
      rw [<- HWa.out]
      refine hK _ _ (.inl (by kernel_rfl)) ?_
      clear hK K
      clear y0 f0 y1 f1 y2 f2 y3 f3 y4 f4 y5 f5 y6 f6 y7 f7 ly
      refine q1i (by kernel_rfl) ?_ _
      go_wp2_with fail
      refine (q1t HSa.out.rd (tx [91])).mono ?_
      rintro e wi ⟨rfl, hb⟩
      rw [<- HP6.out]
      have HSi := q0h (HSa.out.below hb)
      clear hb
      cases p6
      ·have HQ8 := q0h (show (q1y (tx [61])).bind (fun _ => (q3b R lv).bind fun e => q4p (.mk 2 t.text 0 [e] [] [] at_ 0)) ts5 = some r from HQ7.out)
       go_wp2_with fail
       refine Res.seq HQ8.out HSi.out (fun _ hm => q1e HSi.out.rd _ hm) ?_ ?_
       ·rintro f w' rfl hx
        have HX := q0h hx
        clear hx
        go_wp2_with fail
        exact ⟨rfl, rfl, HX.out⟩
       rintro u tsj v wj hm hs rfl hx hq
       have HSj := q0h hs
       have HQj := q0h hq
       clear hm hs hx hq
       go_wp2_with fail
       obtain ⟨lo0, hlo0⟩ : ∃ n, n = wj.heap.size := ⟨_, rfl⟩
       obtain ⟨hi0, hhi0⟩ : ∃ n, n = wj.heap.size := ⟨_, rfl⟩
       have HLH := q0h (show lo0 <= hi0 /\ tb < lo0 /\ w.heap.size <= lo0 from ⟨by omega, by rw [hlo0]; exact q0c HSj.out.q1, by rw [hlo0]; exact HSj.out.bx.size⟩)
       obtain ⟨l0, hl0⟩ : ∃ l0, l0 = ([] : List Ex) := ⟨_, rfl⟩
       have HL0 := q0h hl0
       have HSk := q0h (HSj.out.holdAt lo0 hi0 (by have := HLH.out; have := HNE.out; have := HTE.out; omega) (by rw [hhi0]; exact Nat.le_refl _) (show q2i kEx 86 lo0 hi0 l0 (.slice none 0 0) wj from by rw [hl0]; exact Kd.R_nil _ _ _ _ _) (q1l _ _ _ _ _ _) (fun p hp => .inl (by rw [hlo0]; exact HSj.out.lt p hp)))
       clear hlo0 hhi0 hl0
       refine q2l (fun w' => w'.heap[sb]? = some (.cells #[.int .i64 2, .string t.text, .int .i64 0, .slice none 0 0, .slice none 0 0, .slice none 0 0, .int .i64 at_, .int .i64 0] 67 (0, 0))) 7 (by kernel_rfl) ?_
       intro X HX
       have HSX := q0h (HSk.out.below (w1 := X) (by rw [HX.out]; exact q1n (Below.refl _ _)))
       have HLX := q0h (show X.heap[sb]? = some (.cells #[.int .i64 2, .string t.text, .int .i64 0, .slice none 0 0, .slice none 0 0, .slice none 0 0, .int .i64 at_, .int .i64 0] 67 (0, 0)) from HSX.out.q0)
       refine q0m 0 ?v_5 rfl (by kernel_rfl) (fun _ _ _ h => h) HLX.out (by rfl) ?h_5 ?r_5
       case h_5 => intro w' hS'; clear hS'; go_simp; try with_reducible rfl
       refine q0m 1 ?v_6 rfl (by kernel_rfl) (fun _ _ _ h => h) HLX.out (by rfl) ?h_6 ?r_6
       case h_6 => intro w' hS'; obtain ⟨y0, y1, y2, y3, y4, y5, y6, y7, f0, f1, f2, f3, f4, f5, f6, f7⟩ := q0r hS'; go_simp; try with_reducible rfl
       refine q0m 2 ?v_7 rfl (by kernel_rfl) (fun _ _ _ h => h) HLX.out (by rfl) ?h_7 ?r_7
       case h_7 => intro w' hS'; clear hS'; go_simp; try with_reducible rfl
       refine q0i (i := 3) (by kernel_rfl) rfl (fun K hK => ?_)
       go_simp
       refine Res.seq HQj.out HSX.out (fun _ hm => q4f HR.out HSX.out.rd hm) ?_ ?_
       ·rintro f w' rfl hx
        have HX := q0h hx
        clear hx hK
        exact ⟨rfl, rfl, HX.out⟩
       rintro x tsx v wx hm hs ⟨cs, rfl, hM⟩ hx hq
       cases x with
       | mk ek eo en es l ea et ep =>
       obtain ⟨v0, rfl, hl⟩ := q2k hM
       obtain ⟨A, c, rfl⟩ := Kd.R_slice hl
       have HSx := q0h hs
       have HM := q0h hM
       have HQx := q0h (show (q1y (tx [59])).bind (fun _ => PM.ret _) _ = some r from hq)
       have HXX := q0h hx.size
       clear hm hs hM hx hq hl
       refine hK _ _ (.inr HSx.out.q0) ?_
       clear hK K
       refine q0i (i := 4) (by kernel_rfl) rfl (fun K hK => ?_)
       go_simp
       have hba : Below wx.heap.size wx (wx.alloc (.cells #[.int .i64 ek, .int .i64 eo, .int .i64 en, .string es, .slice A l.length c, .int .i64 ea, .int .i64 et, .int .i64 ep] 86)) := q0d (Below.refl _ _) _
       have hsa := HSx.out.below hba
       refine hK _ _ (.inr hsa.q0) ?_
       clear hK K
       refine q0i (i := 5) (by kernel_rfl) rfl (fun K hK => ?_)
       have hrow := q2i.out HSx.out.k0 (Nat.le_refl lo0)
       have hlt : ∀ k, (.slice none 0 0 : Value).ownBlock = some k -> lo0 <= k /\ k < hi0 := fun k hk => HSx.out.k0.1 k hk
       have hki : hi0 <= X.heap.size := (HSX.out.kp _ List.mem_cons_self).2.1
       have hkl := HLH.out
       have hxx := HXX.out
       refine Kd.R_append_step kEx (w0 := wx) lo0 (by rfl) _ _ 65 86 (.agg #[.int .i64 0, .int .i64 0, .int .i64 0, .string ⟨#[]⟩, .slice none 0 0, .int .i64 0, .int .i64 0, .int .i64 0]) 88 rfl Tryz.underlying65 z1v rfl (show 0 < 8 by decide) (by decide) (.slice none 0 0) l0 (.mk ek eo en es l ea et ep) [.int .i64 ek, .int .i64 eo, .int .i64 en, .string es, .slice A l.length c, .int .i64 ea, .int .i64 et, .int .i64 ep] (fun k => lo0 <= k) (fun k => X.heap.size <= k) rfl rfl (kEx.M_lower (by omega) HM.out) (fun k hk => ⟨by omega, fun e => by have := hlt k e.symm; omega⟩) (fun k hk => by omega) hrow (Below.refl _ _) (by omega) (by have := HL0.out; rw [this]; decide) ?_
       intro v1 wy hv1 hb1 hg1 hat1
       obtain ⟨A', c', rfl⟩ := Kd.R_slice hv1
       have hl1 : (l0 ++ [Ex.mk ek eo en es l ea et ep]).length = l0.length + 1 := by simp
       rw [hl1] at hv1 hat1
       have hsd := HSx.out.dropk.grown hg1 (fun k hk => by have := hlt k hk; have := HSX.out.rd.Bw; exact ⟨by have := HNE.out; have := HTE.out; omega, .inl (by omega)⟩) (fun p hp e => by
        have h1 := hlt p.1 e.symm
        have h2 := (HSx.out.kp _ List.mem_cons_self).2.2.2.2 p hp
        have h2' : p.1 < lo0 \/ hi0 <= p.1 := h2
        omega) (fun q hq => by cases hq)
       have hlp : ∀ p ∈ [(sb, (#[.int .i64 2, .string t.text, .int .i64 0, .slice none 0 0, .slice none 0 0, .slice none 0 0, .int .i64 at_, .int .i64 0] : Array Value), 67), (tb, #[.int .i64 t.kind, .string t.text, .int .i64 t.at_], 63), (b0, #[.int .i64 0, .string ⟨#[]⟩, .int .i64 0, .slice none 0 0, .slice none 0 0, .slice none 0 0, .int .i64 0, .int .i64 0], 67)], p.1 < lo0 := fun p hp => by
        have := HNE.out
        have := HTE.out
        rcases List.mem_cons.1 hp with rfl | hp
        ·show sb < lo0; omega
        ·rcases List.mem_cons.1 hp with rfl | hp
         ·show tb < lo0; omega
         ·obtain rfl : p = _ := by simpa using hp
          show b0 < lo0; omega
       have HSy := q0h (hsd.holdAt lo0 wy.heap.size (by have := HNE.out; have := HTE.out; omega) (Nat.le_refl _) (q1z hv1) (q1l _ _ _ _ _ _) (fun p hp => .inl (hlp p hp)))
       clear hl1 hrow hlt hki hkl hxx hv1 hb1 hg1 hat1 hsd hlp hba hsa
       refine hK _ _ (.inr HSy.out.q0) ?_
       clear hK K
       refine q0m 6 ?v_8 rfl (by kernel_rfl) (fun _ _ _ h => h) (q0h (show wy.heap[sb]? = some _ from HSy.out.q0)).out (by rfl) ?h_8 ?r_8
       case h_8 => intro w' hS'; clear hS'; go_simp; try with_reducible rfl
       obtain ⟨y0, y1, y2, y3, y4, y5, y6, y7, f0, f1, f2, f3, f4, f5, f6, f7⟩ := q0r HSy.out.q0
       have ly := q0c HSy.out.q0
       have hne' : ∀ p ∈ [(tb, (#[.int .i64 t.kind, .string t.text, .int .i64 t.at_] : Array Value), 63), (b0, #[.int .i64 0, .string ⟨#[]⟩, .int .i64 0, .slice none 0 0, .slice none 0 0, .slice none 0 0, .int .i64 0, .int .i64 0], 67)], p.1 ≠ sb := fun p hp => by
        have hne := HNE.out
        have htb := HTE.out
        rcases List.mem_cons.1 hp with rfl | hp
        ·show tb ≠ sb; omega
        ·obtain rfl : p = _ := by simpa using hp
         show b0 ≠ sb; omega
       have hs := (HSy.out.set0 3 (.slice A' (l0.length + 1) c') (.inl HSW.out) hne' rfl)
       obtain ⟨Wz, hW⟩ : ∃ W, W = wy.setCell ⟨sb, 3, none⟩ (.slice A' (l0.length + 1) c') := ⟨_, rfl⟩
       rw [<- hW] at hs
       have HSz := q0h hs
       have HWz := q0h hW
       clear hne' hs hW
       refine q0i (i := 7) (by kernel_rfl) rfl (fun K hK => ?_)
       go_simp
       rw [<- HWz.out]
       refine hK _ _ (.inl (by kernel_rfl)) ?_
       clear hK K
       clear y0 f0 y1 f1 y2 f2 y3 f3 y4 f4 y5 f5 y6 f6 y7 f7 ly
       refine q1i (by kernel_rfl) ?_ _
       go_wp2_with fail
       refine Res.seq HQx.out HSz.out (fun _ hm => q1e HSz.out.rd _ hm) ?_ ?_
       ·rintro f w' rfl hx
        have HX := q0h hx
        clear hx
        go_wp2_with fail
        exact ⟨rfl, rfl, HX.out⟩
       rintro u tsf v wf hm hs rfl hx hq
       have HF := q0h hs
       have HPF := q0h hq
       clear hm hs hx hq
       have hs := HF.out
       obtain ⟨y0, y1, y2, y3, y4, y5, y6, y7, f0, f1, f2, f3, f4, f5, f6, f7⟩ := q0r hs.q0
       have ly := q0c hs.q0
       obtain ⟨z0, z1, z2, z3, z4, z5, z6, z7, q0, q1, q2, q3, q4, q5, q6, q7⟩ := q0r hs.q2
       have lz := q0c hs.q2
       have hne := HNE.out
       have htb := HTE.out
       have nbe : ¬ b0 = sb /\ ¬ sb = b0 := by omega
       have nbt : ¬ tb = b0 := by omega
       clear htb
       clear hne
       have ho := (hs.up2).over (.inl HBW.out) (fun p hp => by
        rcases List.mem_cons.1 hp with rfl | hp
        ·exact nbe.2
        ·obtain rfl : p = _ := by simpa using hp
         exact nbt) [.int .i64 2, .string t.text, .int .i64 0, .slice A' (l0.length + 1) c', .slice none 0 0, .slice none 0 0, .int .i64 at_, .int .i64 0] rfl
       have HO := q0h ho
       have hr := q0p HPF.out
       subst hr
       clear hs ho
       go_wp2_with fail
       refine bodyPost_ret (q0o rfl _ _ b0 67 #[.int .i64 2, .string t.text, .int .i64 0, .slice A' (l0.length + 1) c', .slice none 0 0, .slice none 0 0, .int .i64 at_, .int .i64 0] (0, 0) _ rfl HO.out.q0 Tryz.underlying67 rfl (by kernel_rfl)) rfl ?_
       have hl0 := HL0.out
       subst hl0
       exact ⟨_, rfl, ⟨_, rfl, q7m 2 t.text 0 at_ 0 (q2i.out HO.out.k0 HLH.out.2.2) (Kd.R_nil _ _ _ _ _) (Kd.R_nil _ _ _ _ _)⟩, HO.out.rd, HO.out.bx⟩
      ·have HQ8 := q0h (show (q4m R lv).bind (fun l => (q1y (tx [61])).bind fun _ => (q3b R lv).bind fun e => q4p (.mk 3 t.text 0 (l ++ [e]) [] [] at_ 0)) ts5 = some r from HQ7.out)
       obtain ⟨y0, y1, y2, y3, y4, y5, y6, y7, f0, f1, f2, f3, f4, f5, f6, f7⟩ := q0r HSi.out.q0
       have ly := q0c HSi.out.q0
       have hne' : ∀ p ∈ [(tb, (#[.int .i64 t.kind, .string t.text, .int .i64 t.at_] : Array Value), 63), (b0, #[.int .i64 0, .string ⟨#[]⟩, .int .i64 0, .slice none 0 0, .slice none 0 0, .slice none 0 0, .int .i64 0, .int .i64 0], 67)], p.1 ≠ sb := fun p hp => by
        have hne := HNE.out
        have htb := HTE.out
        rcases List.mem_cons.1 hp with rfl | hp
        ·show tb ≠ sb; omega
        ·obtain rfl : p = _ := by simpa using hp
         show b0 ≠ sb; omega
       have hs := (HSi.out.set0 0 (.int .i64 3) (.inl HSW.out) hne' rfl)
       obtain ⟨Wj, hW⟩ : ∃ W, W = wi.setCell ⟨sb, 0, none⟩ (.int .i64 3) := ⟨_, rfl⟩
       rw [<- hW] at hs
       have HSj := q0h hs
       have HWj := q0h hW
       clear hne' hs hW
       go_wp2_with fail
       rw [<- HWj.out]
       clear y0 f0 y1 f1 y2 f2 y3 f3 y4 f4 y5 f5 y6 f6 y7 f7 ly
       refine Res.seq HQ8.out HSj.out (fun _ hm => z6p HR.out HSj.out.rd hm) ?_ ?_
       ·rintro f w' rfl hx
        have HX := q0h hx
        clear hx
        go_wp2_with fail
        exact ⟨rfl, rfl, HX.out⟩
       rintro li tsk v wk hm hs hv hx hq
       have HSk0 := q0h hs
       have HQk := q0h hq
       obtain ⟨Ai, ci, rfl⟩ := Kd.R_slice hv
       obtain ⟨lo0, hlo0⟩ : ∃ n, n = Wj.heap.size := ⟨_, rfl⟩
       obtain ⟨hi0, hhi0⟩ : ∃ n, n = wk.heap.size := ⟨_, rfl⟩
       have HLH := q0h (show lo0 <= hi0 /\ tb < lo0 /\ w.heap.size <= lo0 from ⟨by rw [hlo0, hhi0]; exact hx.size, by rw [hlo0]; exact q0c HSj.out.q1, by rw [hlo0]; exact HSj.out.bx.size⟩)
       have hk := HSj.out.hold hs hx.size (q1z hv) (q1l _ _ _ _ _ _)
       have HLI := q0h (show li.length <= 1 from x5a hm)
       rw [<- hlo0, <- hhi0] at hk
       have HSk := q0h hk
       clear hk hlo0 hhi0
       clear hm hs hx hq hv HSk0
       obtain ⟨y0, y1, y2, y3, y4, y5, y6, y7, f0, f1, f2, f3, f4, f5, f6, f7⟩ := q0r HSk.out.q0
       have ly := q0c HSk.out.q0
       have hne' : ∀ p ∈ [(tb, (#[.int .i64 t.kind, .string t.text, .int .i64 t.at_] : Array Value), 63), (b0, #[.int .i64 0, .string ⟨#[]⟩, .int .i64 0, .slice none 0 0, .slice none 0 0, .slice none 0 0, .int .i64 0, .int .i64 0], 67)], p.1 ≠ sb := fun p hp => by
        have hne := HNE.out
        have htb := HTE.out
        rcases List.mem_cons.1 hp with rfl | hp
        ·show tb ≠ sb; omega
        ·obtain rfl : p = _ := by simpa using hp
         show b0 ≠ sb; omega
       have hs := (HSk.out.set0 3 (.slice Ai li.length ci) (.inl HSW.out) hne' rfl)
       obtain ⟨Wl, hW⟩ : ∃ W, W = wk.setCell ⟨sb, 3, none⟩ (.slice Ai li.length ci) := ⟨_, rfl⟩
       rw [<- hW] at hs
       have HSl := q0h hs
       have HWl := q0h hW
       clear hne' hs hW
       go_wp2_with fail
       rw [<- HWl.out]
       clear y0 f0 y1 f1 y2 f2 y3 f3 y4 f4 y5 f5 y6 f6 y7 f7 ly
       refine Res.seq HQk.out HSl.out (fun _ hm => q1e HSl.out.rd _ hm) ?_ ?_
       ·rintro f w' rfl hx
        have HX := q0h hx
        clear hx
        go_wp2_with fail
        exact ⟨rfl, rfl, HX.out⟩
       rintro u tsm v wm hm hs rfl hx hq
       have HSm := q0h hs
       have HQm2 := q0h hq
       clear hm hs hx hq
       go_wp2_with fail
       refine q2l (fun w' => w'.heap[sb]? = some (.cells #[.int .i64 3, .string t.text, .int .i64 0, .slice Ai li.length ci, .slice none 0 0, .slice none 0 0, .int .i64 at_, .int .i64 0] 67 (0, 0))) 7 (by kernel_rfl) ?_
       intro X HX
       have HSX := q0h (HSm.out.below (w1 := X) (by rw [HX.out]; exact q1n (Below.refl _ _)))
       have HLX := q0h (show X.heap[sb]? = some (.cells #[.int .i64 3, .string t.text, .int .i64 0, .slice Ai li.length ci, .slice none 0 0, .slice none 0 0, .int .i64 at_, .int .i64 0] 67 (0, 0)) from HSX.out.q0)
       refine q0m 0 ?v_9 rfl (by kernel_rfl) (fun _ _ _ h => h) HLX.out (by rfl) ?h_9 ?r_9
       case h_9 => intro w' hS'; clear hS'; go_simp; try with_reducible rfl
       refine q0m 1 ?v_10 rfl (by kernel_rfl) (fun _ _ _ h => h) HLX.out (by rfl) ?h_10 ?r_10
       case h_10 => intro w' hS'; obtain ⟨y0, y1, y2, y3, y4, y5, y6, y7, f0, f1, f2, f3, f4, f5, f6, f7⟩ := q0r hS'; go_simp; try with_reducible rfl
       refine q0m 2 ?v_11 rfl (by kernel_rfl) (fun _ _ _ h => h) HLX.out (by rfl) ?h_11 ?r_11
       case h_11 => intro w' hS'; clear hS'; go_simp; try with_reducible rfl
       refine q0i (i := 3) (by kernel_rfl) rfl (fun K hK => ?_)
       go_simp
       refine Res.seq HQm2.out HSX.out (fun _ hm => q4f HR.out HSX.out.rd hm) ?_ ?_
       ·rintro f w' rfl hx
        have HX := q0h hx
        clear hx hK
        exact ⟨rfl, rfl, HX.out⟩
       rintro x tsx v wx hm hs ⟨cs, rfl, hM⟩ hx hq
       cases x with
       | mk ek eo en es l ea et ep =>
       obtain ⟨v0, rfl, hl⟩ := q2k hM
       obtain ⟨A, c, rfl⟩ := Kd.R_slice hl
       have HSx := q0h hs
       have HM := q0h hM
       have HQx := q0h (show (q1y (tx [59])).bind (fun _ => PM.ret _) _ = some r from hq)
       have HXX := q0h hx.size
       clear hm hs hM hx hq hl
       refine hK _ _ (.inr HSx.out.q0) ?_
       clear hK K
       refine q0i (i := 4) (by kernel_rfl) rfl (fun K hK => ?_)
       go_simp
       have hba : Below wx.heap.size wx (wx.alloc (.cells #[.int .i64 ek, .int .i64 eo, .int .i64 en, .string es, .slice A l.length c, .int .i64 ea, .int .i64 et, .int .i64 ep] 86)) := q0d (Below.refl _ _) _
       have hsa := HSx.out.below hba
       refine hK _ _ (.inr hsa.q0) ?_
       clear hK K
       refine q0i (i := 5) (by kernel_rfl) rfl (fun K hK => ?_)
       have hrow := q2i.out HSx.out.k0 (Nat.le_refl lo0)
       have hlt : ∀ k, (.slice Ai li.length ci : Value).ownBlock = some k -> lo0 <= k /\ k < hi0 := fun k hk => HSx.out.k0.1 k hk
       have hki : hi0 <= X.heap.size := (HSX.out.kp _ List.mem_cons_self).2.1
       have hkl := HLH.out
       have hxx := HXX.out
       refine Kd.R_append_step kEx (w0 := wx) lo0 (by rfl) _ _ 65 86 (.agg #[.int .i64 0, .int .i64 0, .int .i64 0, .string ⟨#[]⟩, .slice none 0 0, .int .i64 0, .int .i64 0, .int .i64 0]) 88 rfl Tryz.underlying65 z1v rfl (show 0 < 8 by decide) (by decide) (.slice Ai li.length ci) li (.mk ek eo en es l ea et ep) [.int .i64 ek, .int .i64 eo, .int .i64 en, .string es, .slice A l.length c, .int .i64 ea, .int .i64 et, .int .i64 ep] (fun k => lo0 <= k) (fun k => X.heap.size <= k) rfl rfl (kEx.M_lower (by omega) HM.out) (fun k hk => ⟨by omega, fun e => by have := hlt k e.symm; omega⟩) (fun k hk => by omega) hrow (Below.refl _ _) (by omega) (by have := HLI.out; omega) ?_
       intro v1 wy hv1 hb1 hg1 hat1
       obtain ⟨A', c', rfl⟩ := Kd.R_slice hv1
       have hl1 : (li ++ [Ex.mk ek eo en es l ea et ep]).length = li.length + 1 := by simp
       rw [hl1] at hv1 hat1
       have hsd := HSx.out.dropk.grown hg1 (fun k hk => by have := hlt k hk; have := HSX.out.rd.Bw; exact ⟨by have := HNE.out; have := HTE.out; omega, .inl (by omega)⟩) (fun p hp e => by
        have h1 := hlt p.1 e.symm
        have h2 := (HSx.out.kp _ List.mem_cons_self).2.2.2.2 p hp
        have h2' : p.1 < lo0 \/ hi0 <= p.1 := h2
        omega) (fun q hq => by cases hq)
       have hlp : ∀ p ∈ [(sb, (#[.int .i64 3, .string t.text, .int .i64 0, .slice Ai li.length ci, .slice none 0 0, .slice none 0 0, .int .i64 at_, .int .i64 0] : Array Value), 67), (tb, #[.int .i64 t.kind, .string t.text, .int .i64 t.at_], 63), (b0, #[.int .i64 0, .string ⟨#[]⟩, .int .i64 0, .slice none 0 0, .slice none 0 0, .slice none 0 0, .int .i64 0, .int .i64 0], 67)], p.1 < lo0 := fun p hp => by
        have := HNE.out
        have := HTE.out
        rcases List.mem_cons.1 hp with rfl | hp
        ·show sb < lo0; omega
        ·rcases List.mem_cons.1 hp with rfl | hp
         ·show tb < lo0; omega
         ·obtain rfl : p = _ := by simpa using hp
          show b0 < lo0; omega
       have HSy := q0h (hsd.holdAt lo0 wy.heap.size (by have := HNE.out; have := HTE.out; omega) (Nat.le_refl _) (q1z hv1) (q1l _ _ _ _ _ _) (fun p hp => .inl (hlp p hp)))
       clear hl1 hrow hlt hki hkl hxx hv1 hb1 hg1 hat1 hsd hlp hba hsa
       refine hK _ _ (.inr HSy.out.q0) ?_
       clear hK K
       refine q0m 6 ?v_12 rfl (by kernel_rfl) (fun _ _ _ h => h) (q0h (show wy.heap[sb]? = some _ from HSy.out.q0)).out (by rfl) ?h_12 ?r_12
       case h_12 => intro w' hS'; clear hS'; go_simp; try with_reducible rfl
       obtain ⟨y0, y1, y2, y3, y4, y5, y6, y7, f0, f1, f2, f3, f4, f5, f6, f7⟩ := q0r HSy.out.q0
       have ly := q0c HSy.out.q0
       have hne' : ∀ p ∈ [(tb, (#[.int .i64 t.kind, .string t.text, .int .i64 t.at_] : Array Value), 63), (b0, #[.int .i64 0, .string ⟨#[]⟩, .int .i64 0, .slice none 0 0, .slice none 0 0, .slice none 0 0, .int .i64 0, .int .i64 0], 67)], p.1 ≠ sb := fun p hp => by
        have hne := HNE.out
        have htb := HTE.out
        rcases List.mem_cons.1 hp with rfl | hp
        ·show tb ≠ sb; omega
        ·obtain rfl : p = _ := by simpa using hp
         show b0 ≠ sb; omega
       have hs := (HSy.out.set0 3 (.slice A' (li.length + 1) c') (.inl HSW.out) hne' rfl)
       obtain ⟨Wz, hW⟩ : ∃ W, W = wy.setCell ⟨sb, 3, none⟩ (.slice A' (li.length + 1) c') := ⟨_, rfl⟩
       rw [<- hW] at hs
       have HSz := q0h hs
       have HWz := q0h hW
       clear hne' hs hW
       refine q0i (i := 7) (by kernel_rfl) rfl (fun K hK => ?_)
       go_simp
       rw [<- HWz.out]
       refine hK _ _ (.inl (by kernel_rfl)) ?_
       clear hK K
       clear y0 f0 y1 f1 y2 f2 y3 f3 y4 f4 y5 f5 y6 f6 y7 f7 ly
       refine q1i (by kernel_rfl) ?_ _
       go_wp2_with fail
       refine Res.seq HQx.out HSz.out (fun _ hm => q1e HSz.out.rd _ hm) ?_ ?_
       ·rintro f w' rfl hx
        have HX := q0h hx
        clear hx
        go_wp2_with fail
        exact ⟨rfl, rfl, HX.out⟩
       rintro u tsf v wf hm hs rfl hx hq
       have HF := q0h hs
       have HPF := q0h hq
       clear hm hs hx hq
       have hs := HF.out
       obtain ⟨y0, y1, y2, y3, y4, y5, y6, y7, f0, f1, f2, f3, f4, f5, f6, f7⟩ := q0r hs.q0
       have ly := q0c hs.q0
       obtain ⟨z0, z1, z2, z3, z4, z5, z6, z7, q0, q1, q2, q3, q4, q5, q6, q7⟩ := q0r hs.q2
       have lz := q0c hs.q2
       have hne := HNE.out
       have htb := HTE.out
       have nbe : ¬ b0 = sb /\ ¬ sb = b0 := by omega
       have nbt : ¬ tb = b0 := by omega
       clear htb
       clear hne
       have ho := (hs.up2).over (.inl HBW.out) (fun p hp => by
        rcases List.mem_cons.1 hp with rfl | hp
        ·exact nbe.2
        ·obtain rfl : p = _ := by simpa using hp
         exact nbt) [.int .i64 3, .string t.text, .int .i64 0, .slice A' (li.length + 1) c', .slice none 0 0, .slice none 0 0, .int .i64 at_, .int .i64 0] rfl
       have HO := q0h ho
       have hr := q0p HPF.out
       subst hr
       clear hs ho
       go_wp2_with fail
       refine bodyPost_ret (q0o rfl _ _ b0 67 #[.int .i64 3, .string t.text, .int .i64 0, .slice A' (li.length + 1) c', .slice none 0 0, .slice none 0 0, .int .i64 at_, .int .i64 0] (0, 0) _ rfl HO.out.q0 Tryz.underlying67 rfl (by kernel_rfl)) rfl ?_
       exact ⟨_, rfl, ⟨_, rfl, q7m 3 t.text 0 at_ 0 (q2i.out HO.out.k0 HLH.out.2.2) (Kd.R_nil _ _ _ _ _) (Kd.R_nil _ _ _ _ _)⟩, HO.out.rd, HO.out.bx⟩
     ·have HQ8 := q0h (show (q8k n R lv t).bind (fun e => q4p (.mk 7 ⟨#[]⟩ 0 [e] [] [] at_ 0)) ts5 = some r from HQ7.out)
      go_wp2_with fail
      clear tc0 tc1 tc2 u0 u1 u2 ltc
      refine Res.seq HQ8.out HS7.out (fun _ hm => x0u HR.out n HNN.out HS7.out.rd t hm) ?_ ?_
      ·rintro f w' rfl hx
       have HX := q0h hx
       clear hx
       go_wp2_with fail
       exact ⟨rfl, rfl, HX.out⟩
      rintro x tsa v wa hm hs ⟨cs, rfl, hM⟩ hx hq
      have HSa0 := q0h hs
      have HQa := q0h hq
      cases x with
      | mk ek eo en es l ea et ep =>
      obtain ⟨v0, rfl, hl⟩ := q2k hM
      obtain ⟨A, c, rfl⟩ := Kd.R_slice hl
      obtain ⟨Wa, hW2, hS2⟩ := HS7.out.exs hs hx.size hM
      obtain ⟨nb, hnb⟩ : ∃ b, b = wa.heap.size := ⟨_, rfl⟩
      rw [<- hnb] at hS2
      have HWx := q0h (show Wa = wa.alloc (.cells #[.int .i64 ek, .int .i64 eo, .int .i64 en, .string es, .slice A l.length c, .int .i64 ea, .int .i64 et, .int .i64 ep] 86) from hW2)
      have HSa := q0h hS2
      have HNB := q0h hnb
      have HXL := q0h (show w.heap.size <= w7.heap.size from HS7.out.bx.size)
      clear hl hW2 hS2 hnb
      clear hm hs hx hq hM HSa0
      go_wp2_with fail
      rw [<- HWx.out, <- HNB.out]
      refine (q6d _ _ _ _).mono ?_
      rintro e wso ⟨rfl, rfl⟩
      obtain ⟨y0, y1, y2, y3, y4, y5, y6, y7, f0, f1, f2, f3, f4, f5, f6, f7⟩ := q0r HSa.out.q0
      have ly := q0c HSa.out.q0
      have hne' : ∀ p ∈ [(tb, (#[.int .i64 t.kind, .string t.text, .int .i64 t.at_] : Array Value), 63), (b0, #[.int .i64 0, .string ⟨#[]⟩, .int .i64 0, .slice none 0 0, .slice none 0 0, .slice none 0 0, .int .i64 0, .int .i64 0], 67)], p.1 ≠ sb := fun p hp => by
       have hne := HNE.out
       have htb := HTE.out
       rcases List.mem_cons.1 hp with rfl | hp
       ·show tb ≠ sb; omega
       ·obtain rfl : p = _ := by simpa using hp
        show b0 ≠ sb; omega
      have hs := ((HSa.out.set0 0 (.int .i64 7) (.inl HSW.out) hne' rfl).set0 3 (.slice (some ⟨nb, 0, none⟩) 1 1) (.inl HSW.out) hne' rfl)
      obtain ⟨Wb, hW⟩ : ∃ W, W = (Wa.setCell ⟨sb, 0, none⟩ (.int .i64 7)).setCell ⟨sb, 3, none⟩ (.slice (some ⟨nb, 0, none⟩) 1 1) := ⟨_, rfl⟩
      rw [<- hW] at hs
      have HSb := q0h hs
      have HWb := q0h hW
      clear hne' hs hW
      go_wp2_with fail
      rw [<- HWb.out]
      clear y0 f0 y1 f1 y2 f2 y3 f3 y4 f4 y5 f5 y6 f6 y7 f7 ly
      have HQb := q0h (show (q1y (tx [59])).bind (fun _ => PM.ret _) _ = some r from HQa.out)
      refine Res.seq HQb.out HSb.out (fun _ hm => q1e HSb.out.rd _ hm) ?_ ?_
      ·rintro f w' rfl hx
       have HX := q0h hx
       clear hx
       go_wp2_with fail
       exact ⟨rfl, rfl, HX.out⟩
      rintro u tsf v wf hm hs rfl hx hq
      have HF := q0h hs
      have HPF := q0h hq
      clear hm hs hx hq
      have hs := HF.out
      obtain ⟨y0, y1, y2, y3, y4, y5, y6, y7, f0, f1, f2, f3, f4, f5, f6, f7⟩ := q0r hs.q0
      have ly := q0c hs.q0
      obtain ⟨z0, z1, z2, z3, z4, z5, z6, z7, q0, q1, q2, q3, q4, q5, q6, q7⟩ := q0r hs.q2
      have lz := q0c hs.q2
      have hne := HNE.out
      have htb := HTE.out
      have nbe : ¬ b0 = sb /\ ¬ sb = b0 := by omega
      have nbt : ¬ tb = b0 := by omega
      clear htb
      clear hne
      have ho := (hs.up2).over (.inl HBW.out) (fun p hp => by
       rcases List.mem_cons.1 hp with rfl | hp
       ·exact nbe.2
       ·obtain rfl : p = _ := by simpa using hp
        exact nbt) [.int .i64 7, .string ⟨#[]⟩, .int .i64 0, .slice (some ⟨nb, 0, none⟩) 1 1, .slice none 0 0, .slice none 0 0, .int .i64 at_, .int .i64 0] rfl
      have HO := q0h ho
      have hr := q0p HPF.out
      subst hr
      clear hs ho
      go_wp2_with fail
      refine bodyPost_ret (q0o rfl _ _ b0 67 #[.int .i64 7, .string ⟨#[]⟩, .int .i64 0, .slice (some ⟨nb, 0, none⟩) 1 1, .slice none 0 0, .slice none 0 0, .int .i64 at_, .int .i64 0] (0, 0) _ rfl HO.out.q0 Tryz.underlying67 rfl (by kernel_rfl)) rfl ?_
      exact ⟨_, rfl, ⟨_, rfl, q7m 7 ⟨#[]⟩ 0 at_ 0 (q2i.out HO.out.k0 HXL.out) (Kd.R_nil _ _ _ _ _) (Kd.R_nil _ _ _ _ _)⟩, HO.out.rd, HO.out.bx⟩
    ·have HS4 := q0h (HS3.out.call (show RD B w4 g (q0w ts) lv from hr) hx)
     clear hr hx
     obtain ⟨p5, hp5⟩ : ∃ b, b = isT (tx [59]) (q0w ts) := ⟨_, rfl⟩
     have hq : (if p5 = true then q4p (.mk 6 ⟨#[]⟩ 0 [] [] [] at_ 0) (q0w ts) else (q3b R lv).bind (fun e => q4p (.mk 6 ⟨#[]⟩ 0 [e] [] [] at_ 0)) (q0w ts)) = some r := by
      rw [hp5]; exact HQr.out
     have HQ5 := q0h hq
     have HP5 := q0h hp5
     clear hq hp5
     obtain ⟨y0, y1, y2, y3, y4, y5, y6, y7, f0, f1, f2, f3, f4, f5, f6, f7⟩ := q0r HS4.out.q0
     have ly := q0c HS4.out.q0
     have hne' : ∀ p ∈ [(b0, (#[.int .i64 0, .string ⟨#[]⟩, .int .i64 0, .slice none 0 0, .slice none 0 0, .slice none 0 0, .int .i64 0, .int .i64 0] : Array Value), 67)], p.1 ≠ sb := fun p hp => by
      have hne := HNE.out
      obtain rfl : p = _ := by simpa using hp
      show b0 ≠ sb; omega
     have hs := (HS4.out.set0 0 (.int .i64 6) (.inl HSW.out) hne' rfl)
     obtain ⟨W5, hW⟩ : ∃ W, W = w4.setCell ⟨sb, 0, none⟩ (.int .i64 6) := ⟨_, rfl⟩
     rw [<- hW] at hs
     have HS5 := q0h hs
     have HW5 := q0h hW
     clear hne' hs hW
     go_wp2_with fail
     rw [<- HW5.out]
     clear y0 f0 y1 f1 y2 f2 y3 f3 y4 f4 y5 f5 y6 f6 y7 f7 ly
     refine (q1t HS5.out.rd (tx [59])).mono ?_
     rintro e w6 ⟨rfl, hb⟩
     rw [<- HP5.out]
     have HS6 := q0h (HS5.out.below hb)
     clear hb
     cases p5
     ·have HQ6 := q0h (show (q3b R lv).bind (fun e => q4p (.mk 6 ⟨#[]⟩ 0 [e] [] [] at_ 0)) (q0w ts) = some r from HQ5.out)
      go_wp2_with fail
      refine Res.seq HQ6.out HS6.out (fun _ hm => q4f HR.out HS6.out.rd hm) ?_ ?_
      ·rintro f w' rfl hx
       have HX := q0h hx
       clear hx
       go_wp2_with fail
       exact ⟨rfl, rfl, HX.out⟩
      rintro x tsa v wa hm hs ⟨cs, rfl, hM⟩ hx hq
      have HSa0 := q0h hs
      have HQa := q0h hq
      cases x with
      | mk ek eo en es l ea et ep =>
      obtain ⟨v0, rfl, hl⟩ := q2k hM
      obtain ⟨A, c, rfl⟩ := Kd.R_slice hl
      obtain ⟨Wa, hW2, hS2⟩ := HS6.out.exs hs hx.size hM
      obtain ⟨nb, hnb⟩ : ∃ b, b = wa.heap.size := ⟨_, rfl⟩
      rw [<- hnb] at hS2
      have HWx := q0h (show Wa = wa.alloc (.cells #[.int .i64 ek, .int .i64 eo, .int .i64 en, .string es, .slice A l.length c, .int .i64 ea, .int .i64 et, .int .i64 ep] 86) from hW2)
      have HSa := q0h hS2
      have HNB := q0h hnb
      have HXL := q0h (show w.heap.size <= w6.heap.size from HS6.out.bx.size)
      clear hl hW2 hS2 hnb
      clear hm hs hx hq hM HSa0
      go_wp2_with fail
      rw [<- HWx.out, <- HNB.out]
      refine (q6d _ _ _ _).mono ?_
      rintro e wso ⟨rfl, rfl⟩
      obtain ⟨y0, y1, y2, y3, y4, y5, y6, y7, f0, f1, f2, f3, f4, f5, f6, f7⟩ := q0r HSa.out.q0
      have ly := q0c HSa.out.q0
      have hne' : ∀ p ∈ [(b0, (#[.int .i64 0, .string ⟨#[]⟩, .int .i64 0, .slice none 0 0, .slice none 0 0, .slice none 0 0, .int .i64 0, .int .i64 0] : Array Value), 67)], p.1 ≠ sb := fun p hp => by
       have hne := HNE.out
       obtain rfl : p = _ := by simpa using hp
       show b0 ≠ sb; omega
      have hs := (HSa.out.set0 3 (.slice (some ⟨nb, 0, none⟩) 1 1) (.inl HSW.out) hne' rfl)
      obtain ⟨Wb, hW⟩ : ∃ W, W = Wa.setCell ⟨sb, 3, none⟩ (.slice (some ⟨nb, 0, none⟩) 1 1) := ⟨_, rfl⟩
      rw [<- hW] at hs
      have HSb := q0h hs
      have HWb := q0h hW
      clear hne' hs hW
      go_wp2_with fail
      rw [<- HWb.out]
      clear y0 f0 y1 f1 y2 f2 y3 f3 y4 f4 y5 f5 y6 f6 y7 f7 ly
      have HQb := q0h (show (q1y (tx [59])).bind (fun _ => PM.ret _) _ = some r from HQa.out)
      refine Res.seq HQb.out HSb.out (fun _ hm => q1e HSb.out.rd _ hm) ?_ ?_
      ·rintro f w' rfl hx
       have HX := q0h hx
       clear hx
       go_wp2_with fail
       exact ⟨rfl, rfl, HX.out⟩
      rintro u tsf v wf hm hs rfl hx hq
      have HF := q0h hs
      have HPF := q0h hq
      clear hm hs hx hq
      have hs := HF.out
      obtain ⟨y0, y1, y2, y3, y4, y5, y6, y7, f0, f1, f2, f3, f4, f5, f6, f7⟩ := q0r hs.q0
      have ly := q0c hs.q0
      obtain ⟨z0, z1, z2, z3, z4, z5, z6, z7, q0, q1, q2, q3, q4, q5, q6, q7⟩ := q0r hs.q1
      have lz := q0c hs.q1
      have hne := HNE.out
      have nbe : ¬ b0 = sb /\ ¬ sb = b0 := by omega
      clear hne
      have ho := (hs.up1).over (.inl HBW.out) (fun p hp => by
       obtain rfl : p = _ := by simpa using hp
       exact nbe.2) [.int .i64 6, .string ⟨#[]⟩, .int .i64 0, .slice (some ⟨nb, 0, none⟩) 1 1, .slice none 0 0, .slice none 0 0, .int .i64 at_, .int .i64 0] rfl
      have HO := q0h ho
      have hr := q0p HPF.out
      subst hr
      clear hs ho
      go_wp2_with fail
      refine bodyPost_ret (q0o rfl _ _ b0 67 #[.int .i64 6, .string ⟨#[]⟩, .int .i64 0, .slice (some ⟨nb, 0, none⟩) 1 1, .slice none 0 0, .slice none 0 0, .int .i64 at_, .int .i64 0] (0, 0) _ rfl HO.out.q0 Tryz.underlying67 rfl (by kernel_rfl)) rfl ?_
      exact ⟨_, rfl, ⟨_, rfl, q7m 6 ⟨#[]⟩ 0 at_ 0 (q2i.out HO.out.k0 HXL.out) (Kd.R_nil _ _ _ _ _) (Kd.R_nil _ _ _ _ _)⟩, HO.out.rd, HO.out.bx⟩
     ·go_wp2_with fail
      have HQb := q0h (show (q1y (tx [59])).bind (fun _ => PM.ret _) _ = some r from HQ5.out)
      refine Res.seq HQb.out HS6.out (fun _ hm => q1e HS6.out.rd _ hm) ?_ ?_
      ·rintro f w' rfl hx
       have HX := q0h hx
       clear hx
       go_wp2_with fail
       exact ⟨rfl, rfl, HX.out⟩
      rintro u tsf v wf hm hs rfl hx hq
      have HF := q0h hs
      have HPF := q0h hq
      clear hm hs hx hq
      have hs := HF.out
      obtain ⟨y0, y1, y2, y3, y4, y5, y6, y7, f0, f1, f2, f3, f4, f5, f6, f7⟩ := q0r hs.q0
      have ly := q0c hs.q0
      obtain ⟨z0, z1, z2, z3, z4, z5, z6, z7, q0, q1, q2, q3, q4, q5, q6, q7⟩ := q0r hs.q1
      have lz := q0c hs.q1
      have hne := HNE.out
      have nbe : ¬ b0 = sb /\ ¬ sb = b0 := by omega
      clear hne
      have ho := (hs.up1).over (.inl HBW.out) (fun p hp => by
       obtain rfl : p = _ := by simpa using hp
       exact nbe.2) [.int .i64 6, .string ⟨#[]⟩, .int .i64 0, .slice none 0 0, .slice none 0 0, .slice none 0 0, .int .i64 at_, .int .i64 0] rfl
      have HO := q0h ho
      have hr := q0p HPF.out
      subst hr
      clear hs ho
      go_wp2_with fail
      refine bodyPost_ret (q0o rfl _ _ b0 67 #[.int .i64 6, .string ⟨#[]⟩, .int .i64 0, .slice none 0 0, .slice none 0 0, .slice none 0 0, .int .i64 at_, .int .i64 0] (0, 0) _ rfl HO.out.q0 Tryz.underlying67 rfl (by kernel_rfl)) rfl ?_
      exact ⟨_, rfl, ⟨_, rfl, q7m 6 ⟨#[]⟩ 0 at_ 0 (Kd.R_nil _ _ _ _ _) (Kd.R_nil _ _ _ _ _) (Kd.R_nil _ _ _ _ _)⟩, HO.out.rd, HO.out.bx⟩
   ·have HS3 := q0h (HS2.out.call (show RD B w3 g (q0w ts) lv from hr) hx)
    clear hr hx
    have HQ3 := q0h (show q6a.bind (fun t => (q1y (tx [58])).bind fun _ => q2v.bind fun ty => (q1y (tx [61])).bind fun _ => (q3b R lv).bind fun e => q4p (.mk 1 t.text ty [e] [] [] at_ 0)) (q0w ts) = some r from HQl.out)
    go_wp2_with fail
    refine Res.seq HQ3.out HS3.out (fun _ hm => q8b HS3.out.rd hm) ?_ ?_
    ·rintro f w' rfl hx
     have HX := q0h hx
     clear hx
     go_wp2_with fail
     exact ⟨rfl, rfl, HX.out⟩
    rintro t ts4 v w4 hm hs rfl hx hq
    have HS4 := q0h hs
    have HQ4 := q0h hq
    unfold x4l
    clear hm hs hx hq
    obtain ⟨y0, y1, y2, y3, y4, y5, y6, y7, f0, f1, f2, f3, f4, f5, f6, f7⟩ := q0r HS4.out.q0
    have ly := q0c HS4.out.q0
    have hne' : ∀ p ∈ [(b0, (#[.int .i64 0, .string ⟨#[]⟩, .int .i64 0, .slice none 0 0, .slice none 0 0, .slice none 0 0, .int .i64 0, .int .i64 0] : Array Value), 67)], p.1 ≠ sb := fun p hp => by
     have hne := HNE.out
     obtain rfl : p = _ := by simpa using hp
     show b0 ≠ sb; omega
    have hs := ((HS4.out.set0 0 (.int .i64 1) (.inl HSW.out) hne' rfl).set0 1 (.string t.text) (.inl HSW.out) hne' rfl)
    obtain ⟨W5, hW⟩ : ∃ W, W = (w4.setCell ⟨sb, 0, none⟩ (.int .i64 1)).setCell ⟨sb, 1, none⟩ (.string t.text) := ⟨_, rfl⟩
    rw [<- hW] at hs
    have HS5 := q0h hs
    have HW5 := q0h hW
    clear hne' hs hW
    go_wp2_with fail
    rw [<- HW5.out]
    clear y0 f0 y1 f1 y2 f2 y3 f3 y4 f4 y5 f5 y6 f6 y7 f7 ly
    refine Res.seq HQ4.out HS5.out (fun _ hm => q1e HS5.out.rd _ hm) ?_ ?_
    ·rintro f w' rfl hx
     have HX := q0h hx
     clear hx
     go_wp2_with fail
     exact ⟨rfl, rfl, HX.out⟩
    rintro u ts6 v w6 hm hs rfl hx hq
    have HS6 := q0h hs
    have HQ6 := q0h hq
    clear hm hs hx hq
    go_wp2_with fail
    refine Res.seq HQ6.out HS6.out (fun _ hm => q6n HS6.out.rd hm) ?_ ?_
    ·rintro f w' rfl hx
     have HX := q0h hx
     clear hx
     go_wp2_with fail
     exact ⟨rfl, rfl, HX.out⟩
    rintro ty ts7 v w7 hm hs rfl hx hq
    have HS7 := q0h hs
    have HQ7 := q0h hq
    clear hm hs hx hq
    obtain ⟨y0, y1, y2, y3, y4, y5, y6, y7, f0, f1, f2, f3, f4, f5, f6, f7⟩ := q0r HS7.out.q0
    have ly := q0c HS7.out.q0
    have hne' : ∀ p ∈ [(b0, (#[.int .i64 0, .string ⟨#[]⟩, .int .i64 0, .slice none 0 0, .slice none 0 0, .slice none 0 0, .int .i64 0, .int .i64 0] : Array Value), 67)], p.1 ≠ sb := fun p hp => by
     have hne := HNE.out
     obtain rfl : p = _ := by simpa using hp
     show b0 ≠ sb; omega
    have hs := (HS7.out.set0 2 (.int .i64 ty) (.inl HSW.out) hne' rfl)
    obtain ⟨W8, hW⟩ : ∃ W, W = w7.setCell ⟨sb, 2, none⟩ (.int .i64 ty) := ⟨_, rfl⟩
    rw [<- hW] at hs
    have HS8 := q0h hs
    have HW8 := q0h hW
    clear hne' hs hW
    go_wp2_with fail
    rw [<- HW8.out]
    clear y0 f0 y1 f1 y2 f2 y3 f3 y4 f4 y5 f5 y6 f6 y7 f7 ly
    refine Res.seq HQ7.out HS8.out (fun _ hm => q1e HS8.out.rd _ hm) ?_ ?_
    ·rintro f w' rfl hx
     have HX := q0h hx
     clear hx
     go_wp2_with fail
     exact ⟨rfl, rfl, HX.out⟩
    rintro u ts9 v w9 hm hs rfl hx hq
    have HS9 := q0h hs
    have HQ9 := q0h hq
    clear hm hs hx hq
    go_wp2_with fail
    refine Res.seq HQ9.out HS9.out (fun _ hm => q4f HR.out HS9.out.rd hm) ?_ ?_
    ·rintro f w' rfl hx
     have HX := q0h hx
     clear hx
     go_wp2_with fail
     exact ⟨rfl, rfl, HX.out⟩
    rintro x tsa v wa hm hs ⟨cs, rfl, hM⟩ hx hq
    have HSa0 := q0h hs
    have HQa := q0h hq
    cases x with
    | mk ek eo en es l ea et ep =>
    obtain ⟨v0, rfl, hl⟩ := q2k hM
    obtain ⟨A, c, rfl⟩ := Kd.R_slice hl
    obtain ⟨Wa, hW2, hS2⟩ := HS9.out.exs hs hx.size hM
    obtain ⟨nb, hnb⟩ : ∃ b, b = wa.heap.size := ⟨_, rfl⟩
    rw [<- hnb] at hS2
    have HWx := q0h (show Wa = wa.alloc (.cells #[.int .i64 ek, .int .i64 eo, .int .i64 en, .string es, .slice A l.length c, .int .i64 ea, .int .i64 et, .int .i64 ep] 86) from hW2)
    have HSa := q0h hS2
    have HNB := q0h hnb
    have HXL := q0h (show w.heap.size <= w9.heap.size from HS9.out.bx.size)
    clear hl hW2 hS2 hnb
    clear hm hs hx hq hM HSa0
    go_wp2_with fail
    rw [<- HWx.out, <- HNB.out]
    refine (q6d _ _ _ _).mono ?_
    rintro e wso ⟨rfl, rfl⟩
    obtain ⟨y0, y1, y2, y3, y4, y5, y6, y7, f0, f1, f2, f3, f4, f5, f6, f7⟩ := q0r HSa.out.q0
    have ly := q0c HSa.out.q0
    have hne' : ∀ p ∈ [(b0, (#[.int .i64 0, .string ⟨#[]⟩, .int .i64 0, .slice none 0 0, .slice none 0 0, .slice none 0 0, .int .i64 0, .int .i64 0] : Array Value), 67)], p.1 ≠ sb := fun p hp => by
     have hne := HNE.out
     obtain rfl : p = _ := by simpa using hp
     show b0 ≠ sb; omega
    have hs := (HSa.out.set0 3 (.slice (some ⟨nb, 0, none⟩) 1 1) (.inl HSW.out) hne' rfl)
    obtain ⟨Wb, hW⟩ : ∃ W, W = Wa.setCell ⟨sb, 3, none⟩ (.slice (some ⟨nb, 0, none⟩) 1 1) := ⟨_, rfl⟩
    rw [<- hW] at hs
    have HSb := q0h hs
    have HWb := q0h hW
    clear hne' hs hW
    go_wp2_with fail
    rw [<- HWb.out]
    clear y0 f0 y1 f1 y2 f2 y3 f3 y4 f4 y5 f5 y6 f6 y7 f7 ly
    have HQb := q0h (show (q1y (tx [59])).bind (fun _ => PM.ret _) _ = some r from HQa.out)
    refine Res.seq HQb.out HSb.out (fun _ hm => q1e HSb.out.rd _ hm) ?_ ?_
    ·rintro f w' rfl hx
     have HX := q0h hx
     clear hx
     go_wp2_with fail
     exact ⟨rfl, rfl, HX.out⟩
    rintro u tsf v wf hm hs rfl hx hq
    have HF := q0h hs
    have HPF := q0h hq
    clear hm hs hx hq
    have hs := HF.out
    obtain ⟨y0, y1, y2, y3, y4, y5, y6, y7, f0, f1, f2, f3, f4, f5, f6, f7⟩ := q0r hs.q0
    have ly := q0c hs.q0
    obtain ⟨z0, z1, z2, z3, z4, z5, z6, z7, q0, q1, q2, q3, q4, q5, q6, q7⟩ := q0r hs.q1
    have lz := q0c hs.q1
    have hne := HNE.out
    have nbe : ¬ b0 = sb /\ ¬ sb = b0 := by omega
    clear hne
    have ho := (hs.up1).over (.inl HBW.out) (fun p hp => by
     obtain rfl : p = _ := by simpa using hp
     exact nbe.2) [.int .i64 1, .string t.text, .int .i64 ty, .slice (some ⟨nb, 0, none⟩) 1 1, .slice none 0 0, .slice none 0 0, .int .i64 at_, .int .i64 0] rfl
    have HO := q0h ho
    have hr := q0p HPF.out
    subst hr
    clear hs ho
    go_wp2_with fail
    refine bodyPost_ret (q0o rfl _ _ b0 67 #[.int .i64 1, .string t.text, .int .i64 ty, .slice (some ⟨nb, 0, none⟩) 1 1, .slice none 0 0, .slice none 0 0, .int .i64 at_, .int .i64 0] (0, 0) _ rfl HO.out.q0 Tryz.underlying67 rfl (by kernel_rfl)) rfl ?_
    exact ⟨_, rfl, ⟨_, rfl, q7m 1 t.text ty at_ 0 (q2i.out HO.out.k0 HXL.out) (Kd.R_nil _ _ _ _ _) (Kd.R_nil _ _ _ _ _)⟩, HO.out.rd, HO.out.bx⟩
  ·have HS2 := q0h (HS1.out.call (show RD B w2 g (q0w ts) lv from hr) hx)
   clear hr hx
   have HQ3 := q0h (show (q3b R lv).bind (fun e => (R.block lv).bind fun l => .ret (.mk 5 ⟨#[]⟩ 0 [e] l [] at_ 0)) (q0w ts) = some r from HQw.out)
   go_wp2_with fail
   refine Res.seq HQ3.out HS2.out (fun _ hm => q4f HR.out HS2.out.rd hm) ?_ ?_
   ·rintro f w' rfl hx
    have HX := q0h hx
    clear hx
    go_wp2_with fail
    exact ⟨rfl, rfl, HX.out⟩
   rintro x ts3 v w3 hm hs ⟨cs, rfl, hM⟩ hx hq
   have HS30 := q0h hs
   have HQ4 := q0h hq
   cases x with
   | mk ek eo en es l ea et ep =>
   obtain ⟨v0, rfl, hl⟩ := q2k hM
   obtain ⟨A, c, rfl⟩ := Kd.R_slice hl
   obtain ⟨W3, hW2, hS2⟩ := HS2.out.exs hs hx.size hM
   obtain ⟨nb, hnb⟩ : ∃ b, b = w3.heap.size := ⟨_, rfl⟩
   rw [<- hnb] at hS2
   have HWx := q0h (show W3 = w3.alloc (.cells #[.int .i64 ek, .int .i64 eo, .int .i64 en, .string es, .slice A l.length c, .int .i64 ea, .int .i64 et, .int .i64 ep] 86) from hW2)
   have HS3 := q0h hS2
   have HNB := q0h hnb
   have HXL := q0h (show w.heap.size <= w2.heap.size from HS2.out.bx.size)
   clear hl hW2 hS2 hnb
   clear hm hs hx hq hM HS30
   go_wp2_with fail
   rw [<- HWx.out, <- HNB.out]
   refine (q6d _ _ _ _).mono ?_
   rintro e wso ⟨rfl, rfl⟩
   obtain ⟨y0, y1, y2, y3, y4, y5, y6, y7, f0, f1, f2, f3, f4, f5, f6, f7⟩ := q0r HS3.out.q0
   have ly := q0c HS3.out.q0
   have hne' : ∀ p ∈ [(b0, (#[.int .i64 0, .string ⟨#[]⟩, .int .i64 0, .slice none 0 0, .slice none 0 0, .slice none 0 0, .int .i64 0, .int .i64 0] : Array Value), 67)], p.1 ≠ sb := fun p hp => by
    have hne := HNE.out
    obtain rfl : p = _ := by simpa using hp
    show b0 ≠ sb; omega
   have hs := ((HS3.out.set0 0 (.int .i64 5) (.inl HSW.out) hne' rfl).set0 3 (.slice (some ⟨nb, 0, none⟩) 1 1) (.inl HSW.out) hne' rfl)
   obtain ⟨W4, hW⟩ : ∃ W, W = (W3.setCell ⟨sb, 0, none⟩ (.int .i64 5)).setCell ⟨sb, 3, none⟩ (.slice (some ⟨nb, 0, none⟩) 1 1) := ⟨_, rfl⟩
   rw [<- hW] at hs
   have HS4 := q0h hs
   have HW4 := q0h hW
   clear hne' hs hW
   go_wp2_with fail
   rw [<- HW4.out]
   clear y0 f0 y1 f1 y2 f2 y3 f3 y4 f4 y5 f5 y6 f6 y7 f7 ly
   refine Res.seq HQ4.out HS4.out (fun _ hm => HR.out.block _ _ _ _ HS4.out.rd hm) ?_ ?_
   ·rintro f w' rfl hx
    have HX := q0h hx
    clear hx
    go_wp2_with fail
    exact ⟨rfl, rfl, HX.out⟩
   rintro body ts5 v w5 hm hs hv hx hq
   have HS50 := q0h hs
   have HQ5 := q0h hq
   obtain ⟨Ab, cb, rfl⟩ := Kd.R_slice hv
   have HS5 := q0h (HS4.out.hold hs hx.size (q1z hv) (q1l _ _ _ _ _ _))
   have HXB := q0h (show w.heap.size <= W4.heap.size from HS4.out.bx.size)
   clear hm hs hx hq hv HS50
   have hr := q0p HQ5.out
   subst hr
   obtain ⟨y0, y1, y2, y3, y4, y5, y6, y7, f0, f1, f2, f3, f4, f5, f6, f7⟩ := q0r HS5.out.q0
   have ly := q0c HS5.out.q0
   obtain ⟨z0, z1, z2, z3, z4, z5, z6, z7, q0, q1, q2, q3, q4, q5, q6, q7⟩ := q0r HS5.out.q1
   have lz := q0c HS5.out.q1
   have hne' : ∀ p ∈ [(b0, (#[.int .i64 0, .string ⟨#[]⟩, .int .i64 0, .slice none 0 0, .slice none 0 0, .slice none 0 0, .int .i64 0, .int .i64 0] : Array Value), 67)], p.1 ≠ sb := fun p hp => by
    have hne := HNE.out
    obtain rfl : p = _ := by simpa using hp
    show b0 ≠ sb; omega
   have hs := (HS5.out.set0 4 (.slice Ab body.length cb) (.inl HSW.out) hne' rfl)
   obtain ⟨W6, hW⟩ : ∃ W, W = w5.setCell ⟨sb, 4, none⟩ (.slice Ab body.length cb) := ⟨_, rfl⟩
   rw [<- hW] at hs
   have HS6 := q0h hs
   have HW6 := q0h hW
   clear hne' hs hW
   have hs := HS6.out
   have hne := HNE.out
   have nbe : ¬ b0 = sb /\ ¬ sb = b0 := by omega
   clear hne
   have ho := (hs.up1).over (.inl HBW.out) (fun p hp => by
    obtain rfl : p = _ := by simpa using hp
    exact nbe.2) [.int .i64 5, .string ⟨#[]⟩, .int .i64 0, .slice (some ⟨nb, 0, none⟩) 1 1, .slice Ab body.length cb, .slice none 0 0, .int .i64 at_, .int .i64 0] rfl
   have HO := q0h ho
   clear hs ho
   go_wp2_with fail
   rw [<- HW6.out]
   refine bodyPost_ret (q0o rfl _ _ b0 67 #[.int .i64 5, .string ⟨#[]⟩, .int .i64 0, .slice (some ⟨nb, 0, none⟩) 1 1, .slice Ab body.length cb, .slice none 0 0, .int .i64 at_, .int .i64 0] (0, 0) _ rfl HO.out.q0 Tryz.underlying67 rfl (by kernel_rfl)) rfl ?_
   exact ⟨_, rfl, ⟨_, rfl, q7m 5 ⟨#[]⟩ 0 at_ 0 (q2i.out HO.out.k1 HXL.out) (q2i.out HO.out.k0 HXB.out) (Kd.R_nil _ _ _ _ _)⟩, HO.out.rd, HO.out.bx⟩
 ·have HQ1 := q0h (show R.choice lv ts = some r from HQ.out)
  go_wp2_with fail
  refine Res.last HS1.out (HR.out.choice _ _ _ _ HS1.out.rd HQ1.out) ?_ ?_
  ·rintro f w' rfl hx
   have HX := q0h hx
   clear hx
   go_wp2_with fail
   exact ⟨rfl, rfl, HX.out⟩
  rintro x ts2 v w2 hm hs ⟨cs, rfl, hM⟩ hx rfl
  cases x with
  | mk sk ss st xl bl el sa sp =>
  obtain ⟨v0, v1, v2, rfl, hl, hl1, hl2⟩ := z6r hM
  obtain ⟨A1, d1, rfl⟩ := Kd.R_slice hl
  obtain ⟨A2, d2, rfl⟩ := Kd.R_slice hl1
  obtain ⟨A3, d3, rfl⟩ := Kd.R_slice hl2
  have h2 := ((HS1.out.hold hs hx.size (q7r hM) (q7q _ _ _ _ _)))
  have HSX := q0h (show w.heap.size <= w1.heap.size from HS1.out.bx.size)
  have HS2 := q0h h2
  clear hm hs hM hx hl hl1 hl2 h2
  have hs := HS2.out
  obtain ⟨z0, z1, z2, z3, z4, z5, z6, z7, q0, q1, q2, q3, q4, q5, q6, q7⟩ := q0r hs.q1
  have lz := q0c hs.q1
  have hne := HNE.out
  have nbe : ¬ b0 = sb /\ ¬ sb = b0 := by omega
  clear hne
  have ho := (hs.up1).over (.inl HBW.out) (fun p hp => by
   obtain rfl : p = _ := by simpa using hp
   exact nbe.2) [.int .i64 sk, .string ss, .int .i64 st, .slice A1 xl.length d1, .slice A2 bl.length d2, .slice A3 el.length d3, .int .i64 sa, .int .i64 sp] rfl
  have HO := q0h ho
  clear hs ho
  go_wp2_with fail
  refine bodyPost_ret (q0o rfl _ _ b0 67 #[.int .i64 sk, .string ss, .int .i64 st, .slice A1 xl.length d1, .slice A2 bl.length d2, .slice A3 el.length d3, .int .i64 sa, .int .i64 sp] (0, 0) _ rfl HO.out.q0 Tryz.underlying67 rfl (by kernel_rfl)) rfl ?_
  exact ⟨_, rfl, ⟨_, rfl, kSt.M_mono (fun k hk => Nat.le_trans HSX.out hk.1) (kSt.M_lower HSX.out HO.out.k0)⟩, HO.out.rd, HO.out.bx⟩
theorem j3q {num : Tok -> Int} (hN : q8v num) (B g : Nat) : ∀ n, n <= 1000000 -> q7i B g (q2w num n)
  | 0, _ => ⟨fun _ _ _ _ _ _ _ _ h => (by cases h), fun _ _ _ _ _ h => (by cases h), fun _ _ _ _ _ h => (by cases h), fun _ _ _ _ _ h => (by cases h), fun _ _ _ _ _ h => (by cases h)⟩
  | n + 1, hn =>
    have hR := j3q hN B g n (by omega)
    ⟨fun w ts lv least r _ _ h hp => x2t hR n least h hp,
     fun w ts lv r h hp => j3m hR num n (fun w ts lv r h hp => x8x hN hR n (by omega) h hp) h hp,
     fun w ts lv r h hp => x8z hR n (by omega) h hp,
     fun w ts lv r h hp => x2u hR h hp,
     fun w ts lv r h hp => x4w hR n h hp⟩
end Go.Proofs.YtpfdhihbecpbeaaGreatDoor.E
