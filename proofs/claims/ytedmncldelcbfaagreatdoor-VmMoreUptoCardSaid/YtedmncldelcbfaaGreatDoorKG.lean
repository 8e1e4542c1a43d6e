import Derived.Test.YtedmncldelcbfaaGreatDoorKE
import Derived.Test.YtedmncldelcbfaaGreatDoorKF
import Derived.Test.YtedmncldelcbfaaGreatDoorKC
import Derived.Test.YtedmncldelcbfaaGreatDoorKD
/- Execute in plain words; what verify tells of a run: no statement of its own. -/
namespace Go.Proofs.YtedmncldelcbfaaGreatDoor.E
open Go Go.RowKit Go.Proofs.YtedmncldelcbfaaGreatDoorW.PrintWords Go.Proofs.YtedmncldelcbfaaGreatDoorW.PrintLast Go.Proofs.YtedmncldelcbfaaGreatDoorW.PrintMore
set_option linter.unusedVariables false
set_option linter.unusedSimpArgs false
set_option linter.unusedSectionVars false
/-! ### As wpAnyD, but what is held need hold no more once operation d is done -/
section
variable {P : Program} {ops : Array Oper} {Q : Exit → Act → World → Prop} {md : Region.Mode} {S : World → Prop} {d : Nat}
def wpAnyE (P : Program) (md : Region.Mode) (ops : Array Oper) (Q : Exit → Act → World → Prop) (S : World → Prop) (d : Nat) : Nat → Array Bool → Act → World → Prop
 | 0, listed, a, w => Region.ready md ops listed = [] ∧ Q .normal a w
 | fuel + 1, listed, a, w =>
  (Region.ready md ops listed = [] → Q .normal a w) ∧
  ∀ i ∈ Region.ready md ops listed, wpOp P ops Q i (fun a' w' => ((listed.setIfInBounds i true).getD d true = true ∨ S w') ∧ wpAnyE P md ops Q S d fuel (listed.setIfInBounds i true) a' w') a w
theorem wpAny_of_E : ∀ (fuel : Nat) (listed : Array Bool) (a : Act) (w : World), wpAnyE P md ops Q S d fuel listed a w → wpAny P md ops Q fuel listed a w
 | 0, _, _, _, h => h
 | fuel + 1, _, _, _, h => ⟨h.1, fun i hi => wpOp_mono (fun a' w' h' => wpAny_of_E fuel _ a' w' h'.2) (h.2 i hi)⟩
theorem not_waits {i j : Nat} {oj : Oper} {listed : Array Bool} (hr : i ∈ Region.ready md ops listed) (hoj : ops[j]? = some oj) (hall : ∀ e ∈ oj.after, Region.binds md e = true → listed.getD e.on false = true) : ∀ e ∈ oj.after, Region.binds md e = true → e.on ≠ i := fun e he hb heq => by
 have h1 := hall e he hb
 have h0 := (mem_ready.1 hr).1
 rw [heq] at h1
 rcases Nat.lt_or_ge i listed.size with h' | h'
 ·simp [h'] at h0 h1; rw [h0] at h1; cases h1
 ·simp [Array.getElem?_eq_none h'] at h1
/-- what reads what is held -/
theorem wpAnyE_first {i : Nat} {oi od : Oper} {v : Value} (hi : ops[i]? = some oi) (hd : ops[d]? = some od) (hdi : ∃ e ∈ od.after, Region.binds md e = true ∧ e.on = i) (hne : d ≠ i) (hsel : ∀ (j : Nat) (o : Oper) cs b, ops[j]? = some o → o.op ≠ .select cs b)
  (hQ : ∀ c a w, Q (.panic c) (a.put oi.dst v) w → Q (.panic c) a w) :
  ∀ (fuel : Nat) (listed : Array Bool) (a : Act) (w : World),
   (∀ j oj, ops[j]? = some oj → j ≠ i → listed.getD j true = false → (∀ e ∈ oj.after, Region.binds md e = true → e.on ≠ i) → oi.apart ops oj = true) →
   i ∈ Region.ready md ops listed → YieldsIf P ops S oi v a → listed.getD d true = false → S w →
   wpAnyE P md ops Q S d fuel (listed.setIfInBounds i true) (a.put oi.dst v) w → wpAnyE P md ops Q S d (fuel + 1) listed a w := by
 intro fuel
 induction fuel with
 | zero =>
  intro listed a w _ hr hy hl hS H
  refine ⟨fun h => (by rw [h] at hr; cases hr), fun j hj => ?_⟩
  by_cases hji : j = i
  ·subst hji; exact hy.wpOp hi hS ⟨.inr hS, H⟩
  ·have := ready_mono hj hji
   rw [H.1] at this
   cases this
 | succ fuel ih =>
  intro listed a w hfree hr hy hl hS H
  refine ⟨fun h => (by rw [h] at hr; cases hr), fun j hj => ?_⟩
  by_cases hji : j = i
  ·subst hji; exact hy.wpOp hi hS ⟨.inr hS, H⟩
  ·have h1 := H.2 j (ready_mono hj hji)
   obtain ⟨hjun, oj, hoj, hall⟩ := mem_ready.1 hj
   have hnot := not_waits hr hoj hall
   have hjd : j ≠ d := by
    rintro rfl
    obtain ⟨e, he, hb, hon⟩ := hdi
    rw [hoj] at hd
    injection hd with hd
    subst hd
    exact hnot e he hb hon
   have h2 := wpOp_putIf hoj (hfree j oj hoj hji hjun hnot) (fun cs b => hsel i oi cs b hi) (fun cs b => hsel j oj cs b hoj) hQ hy h1
   have hfree' : ∀ k ok, ops[k]? = some ok → k ≠ i → (listed.setIfInBounds j true).getD k true = false →
     (∀ e ∈ ok.after, Region.binds md e = true → e.on ≠ i) → oi.apart ops ok = true := fun k ok hk hki hun hno => by
    refine hfree k ok hk hki ?_ hno
    by_cases hjk : j = k
    ·subst hjk; exact hjun
    ·rw [getD_set_ne true hjk] at hun; exact hun
   refine wpOp_mono (fun a' w' h3 => ?_) h2
   have hl' : (listed.setIfInBounds j true).getD d true = false := by rw [getD_set_ne true hjd]; exact hl
   have hS' : S w' := by
    rcases h3.2.1 with h4 | h4
    ·rw [Array.setIfInBounds_comm _ _ (Ne.symm hji), getD_set_ne true (Ne.symm hne), hl'] at h4; cases h4
    ·exact h4
   refine ⟨.inr hS', ih (listed.setIfInBounds j true) a' w' hfree' (ready_mono hr (Ne.symm hji)) h3.1 hl' hS' ?_⟩
   rw [Array.setIfInBounds_comm _ _ hji]
   exact h3.2.2
/-- what reads nothing -/
theorem wpAnyE_pure {i : Nat} {oi : Oper} {v : Value} (hi : ops[i]? = some oi) (hne : i ≠ d) (hsel : ∀ (j : Nat) (o : Oper) cs b, ops[j]? = some o → o.op ≠ .select cs b)
  (hQ : ∀ c a w, Q (.panic c) (a.put oi.dst v) w → Q (.panic c) a w) :
  ∀ (fuel : Nat) (listed : Array Bool) (a : Act) (w : World),
   (∀ j oj, ops[j]? = some oj → j ≠ i → listed.getD j true = false → (∀ e ∈ oj.after, Region.binds md e = true → e.on ≠ i) → oi.apart ops oj = true) →
   i ∈ Region.ready md ops listed → YieldsIf P ops (fun _ => True) oi v a → (listed.getD d true = true ∨ S w) →
   wpAnyE P md ops Q S d fuel (listed.setIfInBounds i true) (a.put oi.dst v) w → wpAnyE P md ops Q S d (fuel + 1) listed a w := by
 intro fuel
 induction fuel with
 | zero =>
  intro listed a w _ hr hy hC H
  refine ⟨fun h => (by rw [h] at hr; cases hr), fun j hj => ?_⟩
  by_cases hji : j = i
  ·subst hji; exact hy.wpOp hi trivial ⟨by rw [getD_set_ne true hne]; exact hC, H⟩
  ·have := ready_mono hj hji
   rw [H.1] at this
   cases this
 | succ fuel ih =>
  intro listed a w hfree hr hy hC H
  refine ⟨fun h => (by rw [h] at hr; cases hr), fun j hj => ?_⟩
  by_cases hji : j = i
  ·subst hji; exact hy.wpOp hi trivial ⟨by rw [getD_set_ne true hne]; exact hC, H⟩
  ·have h1 := H.2 j (ready_mono hj hji)
   obtain ⟨hjun, oj, hoj, hall⟩ := mem_ready.1 hj
   have hnot := not_waits hr hoj hall
   have h2 := wpOp_putIf hoj (hfree j oj hoj hji hjun hnot) (fun cs b => hsel i oi cs b hi) (fun cs b => hsel j oj cs b hoj) hQ hy h1
   have hfree' : ∀ k ok, ops[k]? = some ok → k ≠ i → (listed.setIfInBounds j true).getD k true = false →
     (∀ e ∈ ok.after, Region.binds md e = true → e.on ≠ i) → oi.apart ops ok = true := fun k ok hk hki hun hno => by
    refine hfree k ok hk hki ?_ hno
    by_cases hjk : j = k
    ·subst hjk; exact hjun
    ·rw [getD_set_ne true hjk] at hun; exact hun
   refine wpOp_mono (fun a' w' h3 => ?_) h2
   have hC' : (listed.setIfInBounds j true).getD d true = true ∨ S w' := by
    have h4 := h3.2.1
    rw [Array.setIfInBounds_comm _ _ (Ne.symm hji), getD_set_ne true hne] at h4
    exact h4
   refine ⟨hC', ih (listed.setIfInBounds j true) a' w' hfree' (ready_mono hr (Ne.symm hji)) h3.1 hC' ?_⟩
   rw [Array.setIfInBounds_comm _ _ hji]
   exact h3.2.2
theorem wpAnyE_take {i : Nat} {oi : Oper} {v : Value} {fuel : Nat} {listed : Array Bool} {a : Act} {w : World} (hi : ops[i]? = some oi)
  (hs : Region.noSelect ops = true) (hf : Region.free md ops listed i = true) (hr : (Region.ready md ops listed).contains i = true) (hw : waitsB md ops d i = true) (hl : listed.getD d true = false)
  (hQ : ∀ c a w, Q (.panic c) (a.put oi.dst v) w → Q (.panic c) a w) (hS : S w) (hy : YieldsIf P ops S oi v a)
  (h : wpAnyE P md ops Q S d fuel (listed.setIfInBounds i true) (a.put oi.dst v) w) : wpAnyE P md ops Q S d (fuel + 1) listed a w := by
 unfold waitsB at hw
 cases hd : ops[d]? with
 | none => rw [hd] at hw; cases hw
 | some od =>
  rw [hd] at hw
  simp only [Bool.and_eq_true, Bool.not_eq_true', beq_eq_false_iff_ne] at hw
  obtain ⟨e, he, hb⟩ := Array.any_eq_true'.1 hw.1
  simp only [Bool.and_eq_true, beq_iff_eq] at hb
  exact wpAnyE_first hi hd ⟨e, he, hb.1, hb.2⟩ hw.2 (Region.noSelect_spec hs) hQ fuel listed a w (Region.free_spec hi hf) (by simpa using hr) hy hl hS h
theorem wpAnyE_free {i : Nat} {oi : Oper} {v : Value} {fuel : Nat} {listed : Array Bool} {a : Act} {w : World} (hi : ops[i]? = some oi) (hne : i ≠ d)
  (hs : Region.noSelect ops = true) (hf : Region.free md ops listed i = true) (hr : (Region.ready md ops listed).contains i = true)
  (hQ : ∀ c a w, Q (.panic c) (a.put oi.dst v) w → Q (.panic c) a w) (hC : listed.getD d true = true ∨ S w) (hy : YieldsIf P ops (fun _ => True) oi v a)
  (h : wpAnyE P md ops Q S d fuel (listed.setIfInBounds i true) (a.put oi.dst v) w) : wpAnyE P md ops Q S d (fuel + 1) listed a w :=
 wpAnyE_pure hi hne (Region.noSelect_spec hs) hQ fuel listed a w (Region.free_spec hi hf) (by simpa using hr) hy hC h
/-- the same, in short -/
theorem wpAnyE_tk (i : Nat) {oi : Oper} (v : Value) {fuel : Nat} {listed : Array Bool} {a : Act} {w : World} (hi : ops[i]? = some oi)
  (hb : (Region.noSelect ops && (Region.free md ops listed i && ((Region.ready md ops listed).contains i && (waitsB md ops d i && !(listed.getD d true))))) = true)
  (hQ : ∀ c a w, Q (.panic c) (a.put oi.dst v) w → Q (.panic c) a w) (hS : S w) (hw : Region.wanted oi (yielded ops a.tmps) = true) (hy : ∀ w, S w → (execOp a.eval oi).run P w = .ok (.value v) w)
  (h : wpAnyE P md ops Q S d fuel (listed.setIfInBounds i true) (a.put oi.dst v) w) : wpAnyE P md ops Q S d (fuel + 1) listed a w := by
 rw [Bool.and_eq_true, Bool.and_eq_true, Bool.and_eq_true, Bool.and_eq_true, Bool.not_eq_true'] at hb
 exact wpAnyE_take hi hb.1 hb.2.1 hb.2.2.1 hb.2.2.2.1 hb.2.2.2.2 hQ hS (.inl ⟨hw, hy⟩) h
theorem wpAnyE_fr (i : Nat) {oi : Oper} (v : Value) {fuel : Nat} {listed : Array Bool} {a : Act} {w : World} (hi : ops[i]? = some oi)
  (hb : (Region.noSelect ops && (Region.free md ops listed i && ((Region.ready md ops listed).contains i && !(i == d)))) = true)
  (hQ : ∀ c a w, Q (.panic c) (a.put oi.dst v) w → Q (.panic c) a w) (hC : listed.getD d true = true ∨ S w) (hw : Region.wanted oi (yielded ops a.tmps) = true) (hy : ∀ w, True → (execOp a.eval oi).run P w = .ok (.value v) w)
  (h : wpAnyE P md ops Q S d fuel (listed.setIfInBounds i true) (a.put oi.dst v) w) : wpAnyE P md ops Q S d (fuel + 1) listed a w := by
 rw [Bool.and_eq_true, Bool.and_eq_true, Bool.and_eq_true, Bool.not_eq_true', beq_eq_false_iff_ne] at hb
 exact wpAnyE_free hi hb.2.2.2 hb.1 hb.2.1 hb.2.2.1 hQ hC (.inl ⟨hw, hy⟩) h
/-- the one that may come up -/
theorem wpAnyE_one {i : Nat} {oi : Oper} {fuel : Nat} {listed : Array Bool} {a : Act} {w : World} (hr : Region.ready md ops listed = [i]) (hi : ops[i]? = some oi)
  (h : ∀ K : Act → World → Prop, (∀ a' w', ((listed.setIfInBounds i true).getD d true = true ∨ S w') → wpAnyE P md ops Q S d fuel (listed.setIfInBounds i true) a' w' → K a' w') → if Region.wanted oi (yielded ops a.tmps) = true then Oper.wp P oi a w K Q else K (a.put oi.dst undef) w) :
  wpAnyE P md ops Q S d (fuel + 1) listed a w := by
 refine ⟨fun h0 => (by rw [hr] at h0; cases h0), fun j hj => ?_⟩
 rw [hr] at hj
 obtain rfl : j = i := by simpa using hj
 have h1 := h (fun a' w' => ((listed.setIfInBounds j true).getD d true = true ∨ S w') ∧ wpAnyE P md ops Q S d fuel (listed.setIfInBounds j true) a' w') (fun a' w' h2 h3 => ⟨h2, h3⟩)
 unfold wpOp
 simp only [hi]
 split
 ·rename_i hw; rw [if_pos hw] at h1; exact .inl h1
 ·rename_i hw; rw [if_neg hw] at h1; exact h1
theorem wpAnyE_done {listed : Array Bool} {a : Act} {w : World} (hr : Region.ready md ops listed = []) (h : Q .normal a w) : ∀ fuel, wpAnyE P md ops Q S d fuel listed a w
 | 0 => ⟨hr, h⟩
 | _ + 1 => ⟨fun _ => h, by rw [hr]; simp⟩
theorem wp_region_E {id : Nat} {a : Act} {w : World} (S : World → Prop) (d : Nat) (hm : P.follows .mixedOrders = true)
  (h : ∀ W, Hid (W = w.drew) → wpAnyE P .any ops Q S d ops.size (Array.replicate ops.size false) a W) : (Code.region id ops true).wp P Q a w :=
 wp_region_any hm (wpAny_of_E _ _ _ _ (h w.drew rfl))
end
set_option maxRecDepth 100000
set_option maxHeartbeats 4000000
/-! ### Functions whose rows are cloned one by one -/
/-- a row that came in (false: read in W0), or one that is made (true) -/
def kFlag {α : Type} (e : Nat) (d : Kd α) (W0 : World) : Kd (Bool × List α) where
 sz := 1
 E := e :: d.E
 K := fun w p cs => (p.1 = true → (Kd.slice e d).K w p.2 cs) ∧ (p.1 = false → (Kd.slice e d).K W0 p.2 cs)
 M := fun w base ok p cs => (p.1 = true → (Kd.slice e d).M w base ok p.2 cs) ∧ (p.1 = false → (Kd.slice e d).K W0 p.2 cs)
 K_len := fun {w x cs} h => by
  cases hx : x.1
  ·exact (Kd.slice e d).K_len (h.2 hx)
  ·exact (Kd.slice e d).K_len (h.1 hx)
 K_one := fun {w x cs} h => by
  cases hx : x.1
  ·exact (Kd.slice e d).K_one (h.2 hx)
  ·exact (Kd.slice e d).K_one (h.1 hx)
 K_below := fun hb h => ⟨fun hx => (Kd.slice e d).K_below hb (h.1 hx), h.2⟩
 K_of_M := fun h => ⟨fun hx => (Kd.slice e d).K_of_M (h.1 hx), h.2⟩
 M_mono := fun hok h => ⟨fun hx => (Kd.slice e d).M_mono hok (h.1 hx), h.2⟩
 M_bound := fun h => ⟨fun hx => (Kd.slice e d).M_bound (h.1 hx), h.2⟩
 M_move := fun hm h => ⟨fun hx => (Kd.slice e d).M_move hm (h.1 hx), h.2⟩
 M_lower := fun hb h => ⟨fun hx => (Kd.slice e d).M_lower hb (h.1 hx), h.2⟩
structure SFnM where
 f : SFn
 b1 : Bool
 b3 : Bool
 b4 : Bool
def kFnM (W0 : World) : Kd SFnM := Kd.iso (Kd.pair Kd.string (Kd.pair (kFlag 3 (Kd.int .i64) W0) (Kd.pair (Kd.int .i64) (Kd.pair (kFlag 3 (Kd.int .i64) W0) (kFlag 56 kInstr W0))))) (fun x : SFnM => (x.f.f0, (x.b1, x.f.f1), x.f.f2, (x.b3, x.f.f3), (x.b4, x.f.f4)))
/-- a cell of such a row -/
def FM {α : Type} (e : Nat) (d : Kd α) (W0 w : World) (base : Nat) (ok : Nat → Prop) (b : Bool) (u : Value) (xs : List α) : Prop := (b = true → d.R e w base ok u xs) ∧ (b = false → ∃ A c, u = .slice A xs.length c ∧ xs.length ≤ c ∧ d.C W0 A xs.length xs)
theorem FM.of {α : Type} {e : Nat} {d : Kd α} {W0 w : World} {base : Nat} {ok : Nat → Prop} {b : Bool} {xs : List α} {cs : List Value} (h : (kFlag e d W0).M w base ok (b, xs) cs) : ∃ u, cs = [u] ∧ FM e d W0 w base ok b u xs := by
 cases b
 ·obtain ⟨A, c, rfl, h1, h2⟩ := h.2 rfl
  exact ⟨_, rfl, And.intro (fun hh => Bool.noConfusion hh) (fun _ => ⟨A, c, rfl, h1, h2⟩)⟩
 ·obtain ⟨v, rfl, h1⟩ := h.1 rfl
  exact ⟨v, rfl, And.intro (fun _ => h1) (fun hh => Bool.noConfusion hh)⟩
theorem FM.to {α : Type} {e : Nat} {d : Kd α} {W0 w : World} {base : Nat} {ok : Nat → Prop} {b : Bool} {xs : List α} {u : Value} (h : FM e d W0 w base ok b u xs) : (kFlag e d W0).M w base ok (b, xs) [u] :=
 ⟨fun hb => ⟨u, rfl, h.1 hb⟩, fun hb => by obtain ⟨A, c, rfl, h1, h2⟩ := h.2 hb; exact ⟨A, c, rfl, h1, h2⟩⟩
theorem kFnM_open {W0 w : World} {base : Nat} {ok : Nat → Prop} {x : SFnM} {cs : List Value} (h : (kFnM W0).M w base ok x cs) : ∃ u1 u3 u4, cs = [.string x.f.f0, u1, .int .i64 x.f.f2, u3, u4] ∧ FM 3 (Kd.int .i64) W0 w base ok x.b1 u1 x.f.f1 ∧ FM 3 (Kd.int .i64) W0 w base ok x.b3 u3 x.f.f3 ∧ FM 56 kInstr W0 w base ok x.b4 u4 x.f.f4 := by
 obtain ⟨_, _, rfl, rfl, ⟨_, _, rfl, g1, ⟨_, _, rfl, rfl, ⟨_, _, rfl, g3, g4⟩⟩⟩⟩ := h
 obtain ⟨u1, rfl, h1⟩ := FM.of g1
 obtain ⟨u3, rfl, h3⟩ := FM.of g3
 obtain ⟨u4, rfl, h4⟩ := FM.of g4
 exact ⟨u1, u3, u4, rfl, h1, h3, h4⟩
theorem kFnM_mk (W0 w : World) (base : Nat) (ok : Nat → Prop) (x : SFnM) {u1 u3 u4 : Value} (h1 : FM 3 (Kd.int .i64) W0 w base ok x.b1 u1 x.f.f1) (h3 : FM 3 (Kd.int .i64) W0 w base ok x.b3 u3 x.f.f3) (h4 : FM 56 kInstr W0 w base ok x.b4 u4 x.f.f4) :
  (kFnM W0).M w base ok x [.string x.f.f0, u1, .int .i64 x.f.f2, u3, u4] :=
 ⟨[.string x.f.f0], [u1, .int .i64 x.f.f2, u3, u4], rfl, rfl, ⟨[u1], [.int .i64 x.f.f2, u3, u4], rfl, FM.to h1, ⟨[.int .i64 x.f.f2], [u3, u4], rfl, rfl, ⟨[u3], [u4], rfl, FM.to h3, FM.to h4⟩⟩⟩⟩
/-- another kind's row, element by element -/
theorem R_map {α β : Type} {d : Kd α} {d' : Kd β} {e : Nat} {w : World} {base : Nat} {ok : Nat → Prop} {v : Value} {xs : List α} (φ : α → β) (hs : d'.sz = d.sz) (hm : ∀ ok x cs, d.M w base ok x cs → d'.M w base ok (φ x) cs) (h : d.R e w base ok v xs) : d'.R e w base ok v (xs.map φ) := by
 obtain ⟨h0, inner, ho, hr1, hr2⟩ := h
 refine ⟨h0, inner, by rw [hs, List.length_map]; exact ho, by rw [hs, List.length_map]; exact hr1, fun j p hj => ?_⟩
 rw [List.getElem?_map] at hj
 obtain ⟨x, hx, rfl⟩ := Option.map_eq_some_iff.1 hj
 rw [hs]
 exact hm _ _ _ (hr2 j x hx)
theorem R_unmap {α β : Type} {d : Kd α} {d' : Kd β} {e : Nat} {w : World} {base : Nat} {ok : Nat → Prop} {v : Value} {xs : List α} (φ : α → β) (hs : d.sz = d'.sz) (hm : ∀ ok x cs, d'.M w base ok (φ x) cs → d.M w base ok x cs) (h : d'.R e w base ok v (xs.map φ)) : d.R e w base ok v xs := by
 obtain ⟨h0, inner, ho, hr1, hr2⟩ := h
 rw [List.length_map] at ho hr1
 refine ⟨h0, inner, by rw [hs]; exact ho, by rw [hs]; exact hr1, fun j x hj => ?_⟩
 rw [hs]
 exact hm _ _ _ (hr2 j (φ x) (by rw [List.getElem?_map, hj]; rfl))
def flagL (fns : List SFn) (k : Nat) : List SFnM := fns.mapIdx (fun i f => ⟨f, decide (i < k), decide (i < k), decide (i < k)⟩)
theorem flagL_zero (fns : List SFn) : flagL fns 0 = fns.map (fun f => ⟨f, false, false, false⟩) := by
 unfold flagL
 refine List.ext_getElem (by simp) fun i h1 h2 => by simp
theorem flagL_all (fns : List SFn) : flagL fns fns.length = fns.map (fun f => ⟨f, true, true, true⟩) := by
 unfold flagL
 refine List.ext_getElem (by simp) fun i h1 h2 => by simp at h1 ⊢; simp [h1]
theorem flagL_length (fns : List SFn) (k : Nat) : (flagL fns k).length = fns.length := by simp [flagL]
def zFnM : SFnM := ⟨zFn, false, false, false⟩
theorem flagL_get (fns : List SFn) (k : Nat) (hk : k < fns.length) : (flagL fns k).getD k zFnM = ⟨fns.getD k zFn, false, false, false⟩ := by
 rw [List.getD_eq_getElem?_getD, List.getElem?_eq_getElem (by rw [flagL_length]; exact hk), List.getD_eq_getElem?_getD, List.getElem?_eq_getElem hk]
 simp [flagL]
theorem flagL_set (fns : List SFn) (k : Nat) (hk : k < fns.length) : (flagL fns k).set k ⟨fns.getD k zFn, true, true, true⟩ = flagL fns (k + 1) := by
 refine List.ext_getElem (by simp [flagL]) fun i h1 h2 => ?_
 rw [List.getElem_set]
 by_cases e : k = i
 ·subst e
  rw [if_pos rfl, List.getD_eq_getElem?_getD, List.getElem?_eq_getElem hk]
  simp [flagL]
 ·rw [if_neg e]
  have : (decide (i < k)) = decide (i < k + 1) := by simp; omega
  simp [flagL, this]
/-- the functions' clone: its elements are read where they came in -/
theorem clFn_gen (A : Option Addr) (c : Nat) (xs : List SFn) (w0 w : World) (hC0 : Kd.C kFn w0 A xs.length xs) (hb0 : Below w0.heap.size w0 w) (hl : xs.length ≤ 1099511620000) :
  Calls Tryz.prog 37 #[.slice A xs.length c] w fun e w' => ∃ v, e = .returned v ∧ (Kd.fixed kFn w0).R 54 w' w.heap.size (fun _ => True) v xs ∧ Below w.heap.size w w' := by
 have ke := fun (w : World) (n : Nat) => Lib.run_eql_slice_nil (P := Tryz.prog) w 23 54 A n c 0 0 Tryz.underlying23
 rcases A with _ | ad
 ·obtain ⟨rfl, _⟩ := C_none2 hC0
  go_enter Tryz.func37, Tryz.ntmps37
  go_wp2_with fail
  go_ret
  exact ⟨_, rfl, Kd.R_nil _ _ _ _ _, Below.refl _ _⟩
 ·have HC := Lib.hid hC0
  have HB0 := Lib.hid hb0
  clear hC0 hb0
  have HO := Lib.hid (show Kd.R (Kd.fixed kFn w0) 54 (w.alloc (.cells #[] 54)) w.heap.size (fun _ => True) (.slice (some ⟨w.heap.size, 0, none⟩) 0 0) ([] : List SFn) from ⟨fun _ _ => trivial, [], World.ownsRow_lit (base := w.heap.size) (e := 54) (size := 5) w #[] 0 (Nat.le_refl _) (by simp [maxLen]) (by simp), Reps.none _ _⟩)
  go_enter Tryz.func37, Tryz.ntmps37
  go_wp2_with (at_builtin; (refine Kd.R_append_rows (Kd.fixed kFn w0) (w0 := w) (W := w.alloc (.cells #[] 54)) w.heap.size rfl _ _ 23 54 (.agg #[(.string ⟨#[]⟩), (.slice none 0 0), (.int .i64 0), (.slice none 0 0), (.slice none 0 0)]) 96 rfl Tryz.underlying23 infoFn rfl (show 0 < 5 by decide) (by decide) (.slice (some ⟨w.heap.size, 0, none⟩) 0 0) ([] : List SFn) xs (some ad) xs.length c (fun _ => True) (fun _ => False) rfl rfl HO.out (show ReadsRow (kFn.K w0) kFn.sz (w.alloc (.cells #[] 54)) (some ad) xs.length xs from ReadsRow.imp_ HC.out (below_next HB0.out (below_alloc (Below.refl _ _) _)) (fun _ _ hp => hp)) (fun x _ h => h) (fun _ h => h.elim) (fun _ _ => trivial) (below_alloc (Below.refl _ _) _) (by simp) (by simp only [List.length_nil]; omega) ?_; intro v1 w1 hv1 hb1 hg1 hat1; have HV := Lib.hid hv1; have HB := Lib.hid hb1; clear hv1 hb1 hg1 hat1))
  go_ret
  exact ⟨v1, rfl, by simpa using HV.out, HB.out⟩
section
variable {W0 w : World} {base n cap g : Nat} {ok okn : Nat → Prop} {xs : List SFnM} {k : Nat}
theorem FnM_put1 (h : (kFnM W0).R 54 w base ok (.slice (some ⟨g, 0, none⟩) n cap) xs) (hk : k < n) (hok : ∀ q, okn q → ok q ∧ q ≠ g) {v : Value} (hv : (Kd.int .i64).R 3 w base okn v (xs.getD k zFnM).f.f1) :
  (kFnM W0).R 54 (w.setCell ⟨g, k * 5 + 1, none⟩ v) base ok (.slice (some ⟨g, 0, none⟩) n cap) (xs.set k { xs.getD k zFnM with b1 := true }) := by
 obtain ⟨c, hcl, hM, hcc, _⟩ := Kd.R_elem h zFnM (k : Int) (by omega) (by omega)
 rw [Int.toNat_natCast] at hM hcc
 obtain ⟨u1, u3, u4, rfl, h1, h3, h4⟩ := kFnM_open hM
 have := (Kd.R_seg h (k : Int) (by omega) (by omega) hcl (by rw [Int.toNat_natCast]; exact hcc) (j := 1) (seg := [v]) (by show 1 + 1 ≤ 5; decide) (x' := { xs.getD k zFnM with b1 := true }) (okp := fun q => ok q ∧ q ≠ g)
  (kFnM_mk W0 w base _ { xs.getD k zFnM with b1 := true } ⟨fun _ => Kd.R_mono hv hok, fun hh => Bool.noConfusion hh⟩ h3 h4) (fun _ hq => hq)).1
 rw [Int.toNat_natCast] at this
 exact this
theorem FnM_put3 (h : (kFnM W0).R 54 w base ok (.slice (some ⟨g, 0, none⟩) n cap) xs) (hk : k < n) (hok : ∀ q, okn q → ok q ∧ q ≠ g) {v : Value} (hv : (Kd.int .i64).R 3 w base okn v (xs.getD k zFnM).f.f3) :
  (kFnM W0).R 54 (w.setCell ⟨g, k * 5 + 3, none⟩ v) base ok (.slice (some ⟨g, 0, none⟩) n cap) (xs.set k { xs.getD k zFnM with b3 := true }) := by
 obtain ⟨c, hcl, hM, hcc, _⟩ := Kd.R_elem h zFnM (k : Int) (by omega) (by omega)
 rw [Int.toNat_natCast] at hM hcc
 obtain ⟨u1, u3, u4, rfl, h1, h3, h4⟩ := kFnM_open hM
 have := (Kd.R_seg h (k : Int) (by omega) (by omega) hcl (by rw [Int.toNat_natCast]; exact hcc) (j := 3) (seg := [v]) (by show 3 + 1 ≤ 5; decide) (x' := { xs.getD k zFnM with b3 := true }) (okp := fun q => ok q ∧ q ≠ g)
  (kFnM_mk W0 w base _ { xs.getD k zFnM with b3 := true } h1 ⟨fun _ => Kd.R_mono hv hok, fun hh => Bool.noConfusion hh⟩ h4) (fun _ hq => hq)).1
 rw [Int.toNat_natCast] at this
 exact this
theorem FnM_put4 (h : (kFnM W0).R 54 w base ok (.slice (some ⟨g, 0, none⟩) n cap) xs) (hk : k < n) (hok : ∀ q, okn q → ok q ∧ q ≠ g) {v : Value} (hv : kInstr.R 56 w base okn v (xs.getD k zFnM).f.f4) :
  (kFnM W0).R 54 (w.setCell ⟨g, k * 5 + 4, none⟩ v) base ok (.slice (some ⟨g, 0, none⟩) n cap) (xs.set k { xs.getD k zFnM with b4 := true }) := by
 obtain ⟨c, hcl, hM, hcc, _⟩ := Kd.R_elem h zFnM (k : Int) (by omega) (by omega)
 rw [Int.toNat_natCast] at hM hcc
 obtain ⟨u1, u3, u4, rfl, h1, h3, h4⟩ := kFnM_open hM
 have := (Kd.R_seg h (k : Int) (by omega) (by omega) hcl (by rw [Int.toNat_natCast]; exact hcc) (j := 4) (seg := [v]) (by show 4 + 1 ≤ 5; decide) (x' := { xs.getD k zFnM with b4 := true }) (okp := fun q => ok q ∧ q ≠ g)
  (kFnM_mk W0 w base _ { xs.getD k zFnM with b4 := true } h1 h3 ⟨fun _ => Kd.R_mono hv hok, fun hh => Bool.noConfusion hh⟩) (fun _ hq => hq)).1
 rw [Int.toNat_natCast] at this
 exact this
end
theorem flag_put3 (fns : List SFn) (k : Nat) (hk : k < fns.length) :
  ((((flagL fns k).set k { (flagL fns k).getD k zFnM with b1 := true }).set k { ((flagL fns k).set k { (flagL fns k).getD k zFnM with b1 := true }).getD k zFnM with b3 := true }).set k
   { (((flagL fns k).set k { (flagL fns k).getD k zFnM with b1 := true }).set k { ((flagL fns k).set k { (flagL fns k).getD k zFnM with b1 := true }).getD k zFnM with b3 := true }).getD k zFnM with b4 := true }) = flagL fns (k + 1) := by
 have hlen : k < (flagL fns k).length := by rw [flagL_length]; exact hk
 have hg : ∀ (l : List SFnM) (y : SFnM), k < l.length → (l.set k y).getD k zFnM = y := fun l y h => by
  rw [List.getD_eq_getElem?_getD, List.getElem?_set_self h]; rfl
 rw [hg _ _ hlen, flagL_get fns k hk]
 simp only [List.set_set]
 rw [hg _ _ hlen]
 exact flagL_set fns k hk
/-! ### New -/
/-- a machine all of whose rows were made from base on -/
def MADE (base : Nat) (w : World) (mb : Nat) (x : SImage) (AG : Option Addr) (cG : Nat) (AF : Option Addr) (cF : Nat) (AS : Option Addr) (cS : Nat) : Prop :=
 base ≤ mb ∧ mb < w.heap.size ∧ ∀ w' : World, (∀ k, base ≤ k → k < w.heap.size → w'.heap[k]? = w.heap[k]?) → MACHX w' mb x AG cG AF cF AS cS
theorem MADE.mach {base : Nat} {w : World} {mb : Nat} {x : SImage} {AG : Option Addr} {cG : Nat} {AF : Option Addr} {cF : Nat} {AS : Option Addr} {cS : Nat} (h : MADE base w mb x AG cG AF cF AS cS) : MACHX w mb x AG cG AF cF AS cS := h.2.2 w (fun _ _ _ => rfl)
def NewPost (w : World) (x : SImage) (e : Ending) (w' : World) : Prop := ∃ mb AG cG AF cF AS cS, e = .returned (.tuple #[.pointer (some ⟨mb, 0, none⟩), .int .i64 0]) ∧ MADE w.heap.size w' mb x AG cG AF cF AS cS ∧ Below w.heap.size w w'
theorem new_no (T : Nat → ByteArray × ByteArray) (x : SImage) (v : Value) (w : World) (hv : VImage w x v) (hs : imgSmall 1099511620000 x) (hG : Nib w) (hT : Pln T w) (hTK : TOK T) (hbad : ¬ (verifyS T x).1 = 0) :
  Calls Tryz.prog 17 #[v] w fun e w' => e = .returned (.tuple #[.pointer none, .int .i64 120]) ∧ Below w.heap.size w w' := by
 obtain ⟨A0, c0, A1, c1, hve, l0, hG0, l1, hF0⟩ := hv
 subst hve
 have HGF := Lib.hid (show VImage w x (.agg #[.slice A0 x.globs.length c0, .slice A1 x.fns.length c1]) from ⟨A0, c0, A1, c1, rfl, l0, hG0, l1, hF0⟩)
 obtain ⟨O, hO⟩ : ∃ O, O = Obj.cells #[Value.slice A0 x.globs.length c0, Value.slice A1 x.fns.length c1] 25 := ⟨_, rfl⟩
 have HB0 := Lib.hid (below_alloc (Below.refl w.heap.size w) O)
 obtain ⟨ec, hec⟩ : ∃ z, z = (verifyS T x).1 := ⟨_, rfl⟩
 obtain ⟨ea, hea⟩ : ∃ z, z = (verifyS T x).2 := ⟨_, rfl⟩
 have HV := Lib.hid (show Calls Tryz.prog 35 #[.agg #[.slice A0 x.globs.length c0, .slice A1 x.fns.length c1]] (w.alloc O) fun e w' => e = .returned (.agg #[.int .i64 ec, .int .i64 ea]) ∧ Below (w.alloc O).heap.size (w.alloc O) w' from by
  rw [hec, hea]; exact Verify_any T x _ _ (HGF.out.below HB0.out) hs (hG.below HB0.out) (hT.below HB0.out) hTK)
 rw [hO] at HV HB0
 rw [← hec] at hbad
 clear hT hG hG0 hF0 hs hec hea hO
 have hfield : ∀ (W : World) (a b : Int), (Instr.field 50 (.agg #[.int .i64 a, .int .i64 b]) 0).run Tryz.prog W = .ok (.int .i64 a) W := fun W a b => by kernel_rfl
 have hz : (ec != 0) = true := by simpa using hbad
 go_enter Tryz.func17, Tryz.ntmps17
 go_wp2_with fail
 refine HV.out.mono ?_
 rintro e w1 ⟨rfl, hb1⟩
 have HBw := Lib.hid (below_next HB0.out hb1)
 clear hb1
 go_wp2_with fail
 go_ret2
 exact ⟨rfl, HBw.out⟩
theorem new_yes (T : Nat → ByteArray × ByteArray) (x : SImage) (v : Value) (w : World) (hv : VImage w x v) (hs : imgSmall 1000000 x) (hG : Nib w) (hT : Pln T w) (hTK : TOK T) (hok : (verifyS T x).1 = 0) :
  Calls Tryz.prog 17 #[v] w (NewPost w x) := by
 obtain ⟨A0, c0, A1, c1, hve, l0, hG0, l1, hF0⟩ := hv
 subst hve
 have HGF := Lib.hid (show VImage w x (.agg #[.slice A0 x.globs.length c0, .slice A1 x.fns.length c1]) from ⟨A0, c0, A1, c1, rfl, l0, hG0, l1, hF0⟩)
 obtain ⟨O, hO⟩ : ∃ O, O = Obj.cells #[Value.slice A0 x.globs.length c0, Value.slice A1 x.fns.length c1] 25 := ⟨_, rfl⟩
 have HB0 := Lib.hid (below_alloc (Below.refl w.heap.size w) O)
 obtain ⟨ea, hea⟩ : ∃ z, z = (verifyS T x).2 := ⟨_, rfl⟩
 have HV := Lib.hid (show Calls Tryz.prog 35 #[.agg #[.slice A0 x.globs.length c0, .slice A1 x.fns.length c1]] (w.alloc O) fun e w' => e = .returned (.agg #[.int .i64 0, .int .i64 ea]) ∧ Below (w.alloc O).heap.size (w.alloc O) w' from by
  rw [← hok, hea]; exact Verify_any T x _ _ (HGF.out.below HB0.out) ⟨by have := hs.1; omega, by have := hs.2.1; omega, fun f hf => by have := hs.2.2 f hf; unfold fnSmall at this ⊢; omega⟩ (hG.below HB0.out) (hT.below HB0.out) hTK)
 have HF00 := Lib.hid hF0
 have HG0 := Lib.hid (Kd.C_below hG0 HB0.out)
 have HF0 := Lib.hid (Kd.C_below hF0 HB0.out)
 rw [hO] at HV HB0 HG0 HF0
 obtain ⟨hs1, hs2, hs3⟩ := hs
 have HS3 := Lib.hid hs3
 have hfield : ∀ (W : World) (a b : Int), (Instr.field 50 (.agg #[.int .i64 a, .int .i64 b]) 0).run Tryz.prog W = .ok (.int .i64 a) W := fun W a b => by kernel_rfl
 have hgl : ∀ g : Value, True := fun _ => trivial
 clear hT hG hG0 hF0 hs3 hea hO hok hgl
 go_enter Tryz.func17, Tryz.ntmps17
 go_wp2_with fail
 refine HV.out.mono ?_
 rintro e w1 ⟨rfl, hb1⟩
 have HBw := Lib.hid (below_next HB0.out hb1)
 have HB1 := Lib.hid hb1
 have hI1 := ((hb1.block w.heap.size (by simp)).trans (heap_alloc_new w (.cells #[.slice A0 x.globs.length c0, .slice A1 x.fns.length c1] 25)))
 have i0 : w1.cell? ⟨w.heap.size, 0, none⟩ = some (.slice A0 x.globs.length c0) := (blk_cell hI1 0).trans rfl
 have i1 : w1.cell? ⟨w.heap.size, 1, none⟩ = some (.slice A1 x.fns.length c1) := (blk_cell hI1 1).trans rfl
 have HI0 := Lib.hid i0
 have HI1 := Lib.hid i1
 clear hb1 hI1
 go_wp2_with fail
 refine wp_region_D (fun w' => w'.cell? ⟨w.heap.size, 0, none⟩ = some (.slice A0 x.globs.length c0) ∧ w'.cell? ⟨w.heap.size, 1, none⟩ = some (.slice A1 x.fns.length c1)) 10 (by kernel_rfl) ?_
 intro X HX
 have hbX : Below w1.heap.size w1 X := by rw [HX.out]; exact below_drew (Below.refl _ _)
 have HLX := Lib.hid (show X.cell? ⟨w.heap.size, 0, none⟩ = some (.slice A0 x.globs.length c0) ∧ X.cell? ⟨w.heap.size, 1, none⟩ = some (.slice A1 x.fns.length c1) from ⟨cell_up hbX i0, cell_up hbX i1⟩)
 have HBX := Lib.hid hbX
 have HGX := Lib.hid (Kd.C_below (Kd.C_below HG0.out HB1.out) hbX)
 have HFX := Lib.hid (Kd.C_below (Kd.C_below HF0.out HB1.out) hbX)
 clear hbX i0 i1
 refine wpAnyD_tk 0 ?v_1 rfl (by kernel_rfl) (fun _ _ _ h => h) HLX.out (by rfl) ?h_1 ?r_1
 case h_1 => intro w' hS'; obtain ⟨s1, s2⟩ := hS'; go_simp; try with_reducible rfl
 refine wpAnyD_tk 1 ?v_2 rfl (by kernel_rfl) (fun _ _ _ h => h) HLX.out (by rfl) ?h_2 ?r_2
 case h_2 => intro w' hS'; obtain ⟨s1, s2⟩ := hS'; go_simp; try with_reducible rfl
 refine wpAnyD_tk 3 ?v_3 rfl (by kernel_rfl) (fun _ _ _ h => h) HLX.out (by rfl) ?h_3 ?r_3
 case h_3 => intro w' hS'; obtain ⟨s1, s2⟩ := hS'; go_simp; try with_reducible rfl
 refine wpAnyD_tk 4 ?v_4 rfl (by kernel_rfl) (fun _ _ _ h => h) HLX.out (by rfl) ?h_4 ?r_4
 case h_4 => intro w' hS'; obtain ⟨s1, s2⟩ := hS'; go_simp; try with_reducible rfl
 refine wpAnyD_one (i := 2) (by kernel_rfl) rfl (fun K hK => ?_)
 go_simp
 refine (clGlob_any A0 c0 x.globs X HGX.out (by omega)).mono ?_
 rintro e w2 ⟨vG, rfl, hvG, hb2⟩
 obtain ⟨AG, cG, hGe, hGl, _⟩ := Kd.R_reads hvG
 subst hGe
 have HVG := Lib.hid hvG
 have HB2 := Lib.hid hb2
 have HL2 := Lib.hid (show w2.cell? ⟨w.heap.size, 0, none⟩ = some (.slice A0 x.globs.length c0) ∧ w2.cell? ⟨w.heap.size, 1, none⟩ = some (.slice A1 x.fns.length c1) from ⟨cell_up hb2 HLX.out.1, cell_up hb2 HLX.out.2⟩)
 clear hvG hb2
 refine hK _ _ (.inr HL2.out) ?_
 clear hK K
 refine wpAnyD_one (i := 5) (by kernel_rfl) rfl (fun K hK => ?_)
 go_simp
 refine (clFn_gen A1 c1 x.fns w w2 HF00.out (below_next (below_next HBw.out HBX.out) HB2.out) (by omega)).mono ?_
 rintro e w3 ⟨vF, rfl, hvF, hb3⟩
 obtain ⟨AF, cF, hFe, hFl, _⟩ := Kd.R_reads hvF
 subst hFe
 have HVF := Lib.hid hvF
 have HB3 := Lib.hid hb3
 have HL3 := Lib.hid (show w3.cell? ⟨w.heap.size, 0, none⟩ = some (.slice A0 x.globs.length c0) ∧ w3.cell? ⟨w.heap.size, 1, none⟩ = some (.slice A1 x.fns.length c1) from ⟨cell_up hb3 HL2.out.1, cell_up hb3 HL2.out.2⟩)
 clear hvF hb3
 refine hK _ _ (.inr HL3.out) ?_
 clear hK K
 refine wpAnyD_tk 6 ?v_5 rfl (by kernel_rfl) (fun _ _ _ h => h) HL3.out (by rfl) ?h_5 ?r_5
 case h_5 => intro w' hS'; obtain ⟨s1, s2⟩ := hS'; go_simp; try with_reducible rfl
 refine wpAnyD_one (i := 7) (by kernel_rfl) rfl (fun K hK => ?_)
 go_simp
 refine (api_Calls.calls callsL w3 rfl).mono ?_
 rintro e w4 ⟨vS, rfl, hvS, hb4⟩
 obtain ⟨AS, cS, hSe, hSl, _⟩ := Kd.N_reads hvS
 subst hSe
 have HVS := Lib.hid hvS
 have HB4 := Lib.hid hb4
 have HL4 := Lib.hid (show w4.cell? ⟨w.heap.size, 0, none⟩ = some (.slice A0 x.globs.length c0) ∧ w4.cell? ⟨w.heap.size, 1, none⟩ = some (.slice A1 x.fns.length c1) from ⟨cell_up hb4 HL3.out.1, cell_up hb4 HL3.out.2⟩)
 clear hvS hb4
 refine hK _ _ (.inr HL4.out) ?_
 clear hK K
 refine wpAnyD_tk 8 ?v_6 rfl (by kernel_rfl) (fun _ _ _ h => h) HL4.out (by rfl) ?h_6 ?r_6
 case h_6 => intro w' hS'; obtain ⟨s1, s2⟩ := hS'; go_simp; try with_reducible rfl
 refine wpAnyD_one (i := 9) (by kernel_rfl) rfl (fun K hK => ?_)
 go_simp
 have hba := below_alloc (Below.refl w4.heap.size w4) (.cells #[.slice AG x.globs.length cG, .slice AF x.fns.length cF, .slice AS callsL.length cS] 95)
 refine hK _ _ (.inr ⟨cell_up hba HL4.out.1, cell_up hba HL4.out.2⟩) ?_
 clear hK K
 clear hba
 refine wpAnyD_one (i := 10) (by kernel_rfl) rfl (fun K hK => ?_)
 go_simp
 refine hK _ _ (.inl rfl) ?_
 clear hK K
 refine wpAnyD_done (by kernel_rfl) ?_ _
 obtain ⟨mb, hmb⟩ : ∃ mb, mb = w4.heap.size := ⟨_, rfl⟩
 obtain ⟨W5, hW5⟩ : ∃ W5, W5 = w4.alloc (.cells #[.slice AG x.globs.length cG, .slice AF x.fns.length cF, .slice AS callsL.length cS] 95) := ⟨_, rfl⟩
 have hb45 : Below w4.heap.size w4 W5 := by rw [hW5]; exact below_alloc (Below.refl _ _) _
 have HMB := Lib.hid (show W5.heap[mb]? = some (.cells #[.slice AG x.globs.length cG, .slice AF x.fns.length cF, .slice AS callsL.length cS] 95 (0, 0)) from by rw [hmb, hW5]; exact heap_alloc_new w4 _)
 have HB15 := Lib.hid (below_next (below_next (below_next (below_next HBX.out HB2.out) HB3.out) HB4.out) hb45)
 have HB5 := Lib.hid (below_next HBw.out HB15.out)
 have hz1 : w.heap.size ≤ X.heap.size := Nat.le_trans HBw.out.size HBX.out.size
 have hz2 : w.heap.size ≤ w2.heap.size := Nat.le_trans hz1 HB2.out.size
 have hz3 : w.heap.size ≤ w3.heap.size := Nat.le_trans hz2 HB3.out.size
 have HG5 := Lib.hid (Kd.R_lower (Kd.R_below (Kd.R_below HVG.out (below_next (below_next HB3.out HB4.out) hb45)) (Below.refl _ _)) hz1)
 have HF5 := Lib.hid (show (kFnM w).R 54 W5 w.heap.size (fun _ => True) (.slice AF x.fns.length cF) (flagL x.fns 0) from by
  rw [flagL_zero]
  refine Kd.R_lower (Kd.R_below (R_map (d := Kd.fixed kFn w) (d' := kFnM w) (fun f => (⟨f, false, false, false⟩ : SFnM)) rfl (fun ok f cs hM => ?_) HVF.out) (below_next HB4.out hb45)) hz2
  obtain ⟨B1, d1, B3, d3, B4, d4, rfl, m1, g1, m3, g3, m4, g4⟩ := kFn_open (show kFn.K w f cs from hM)
  exact kFnM_mk w w3 _ ok ⟨f, false, false, false⟩ (And.intro (fun hh => Bool.noConfusion hh) (fun _ => ⟨B1, d1, rfl, m1, g1⟩)) (And.intro (fun hh => Bool.noConfusion hh) (fun _ => ⟨B3, d3, rfl, m3, g3⟩)) (And.intro (fun hh => Bool.noConfusion hh) (fun _ => ⟨B4, d4, rfl, m4, g4⟩)))
 have HS5 := Lib.hid (Kd.N_lower (Kd.N_below HVS.out hb45) hz3)
 have HFLT := Lib.hid (fun q (hq : (Value.slice AF x.fns.length cF).ownBlock = some q) => Nat.lt_of_lt_of_le (Kd.R_lt HVF.out q hq) HB4.out.size)
 have HFG := Lib.hid (fun q (hq : (Value.slice AF x.fns.length cF).ownBlock = some q) => (Kd.R_base HVF.out q hq : w2.heap.size ≤ q))
 have HGLT := Lib.hid (fun q (hq : q < w2.heap.size) => (fun e => by have h1 := HFG.out q e.symm; omega : some q ≠ (Value.slice AF x.fns.length cF).ownBlock))
 have HFT3 := Lib.hid (fun q (hq : (Value.slice AF x.fns.length cF).ownBlock = some q) => (Kd.R_lt HVF.out q hq : q < w3.heap.size))
 have c1 : W5.cell? ⟨mb, 1, none⟩ = some (.slice AF x.fns.length cF) := (blk_cell HMB.out 1).trans rfl
 have HC1 := Lib.hid c1
 have hmbl := blk_lt HMB.out
 have HMW := Lib.hid (show w.heap.size ≤ mb from by rw [hmb]; exact Nat.le_trans hz3 HB4.out.size)
 have HMF := Lib.hid (fun q (hq : (Value.slice AF x.fns.length cF).ownBlock = some q) => (by have h1 := HFLT.out q hq; omega : q < mb))
 have HWG := Lib.hid HVG.out
 have HWS := Lib.hid HVS.out
 have HZ23 := Lib.hid HB3.out.size
 have HB25 := Lib.hid (below_next (below_next HB3.out HB4.out) hb45)
 have HB45 := Lib.hid hb45
 have HZ1 := Lib.hid hz1
 have HZ3 := Lib.hid hz3
 rw [← hmb, ← hW5]
 clear hmb hW5 hb45 hz1 hz2 hz3
 go_wp2_with fail
 clear c1
 go_loopw [27] (fun i w' => ∃ k : Nat, k ≤ x.fns.length ∧ i = .int .i64 k ∧ Hid ((kFnM w).R 54 w' w.heap.size (fun _ => True) (.slice AF x.fns.length cF) (flagL x.fns k)) ∧ Hid (W5.grownBy w' (Value.slice AF x.fns.length cF).ownBlock)) (fun i _ => x.fns.length - (intOf i).toNat)
 case atStart => exact ⟨0, by omega, rfl, HF5.out, World.grownBy.refl _ _⟩
 case round =>
  obtain ⟨k, hk, rfl, HRF, HGW⟩ := hrel
  have c1 : wr.cell? ⟨mb, 1, none⟩ = some (.slice AF x.fns.length cF) := (cell_eq (HGW.out.block mb hmbl (fun e => by have h1 := HMF.out mb e.symm; omega)) 1).trans HC1.out
  have HBR := Lib.hid (show Below w.heap.size w wr from HB5.out.grown HGW.out HB5.out.size (fun q hq => Nat.le_trans (by have h1 := HBw.out.size; have h2 := HBX.out.size; have h3 := HB2.out.size; omega) (HFG.out q hq)))
  by_cases hlt : k < x.fns.length
  ·obtain ⟨fb, cap, hve, _, hfbl, _⟩ := Kd.R_form HRF.out (by rw [flagL_length]; omega)
   have hve1 := (Value.slice.inj hve).1
   clear hve
   subst hve1
   obtain ⟨cc, hcl, hM, hcc, hfr⟩ := Kd.R_elem HRF.out zFnM (k : Int) (by omega) (by omega)
   rw [Int.toNat_natCast] at hM hcc hfr
   obtain ⟨u1, u3, u4, hce, h1, h3, h4⟩ := kFnM_open hM
   rw [flagL_get x.fns k hlt] at h1 h3 h4
   obtain ⟨f, hfe⟩ : ∃ f, f = x.fns.getD k zFn := ⟨_, rfl⟩
   rw [← hfe] at h1 h3 h4
   obtain ⟨B1, d1, hu1, m1, g1⟩ := h1.2 rfl
   obtain ⟨B3, d3, hu3, m3, g3⟩ := h3.2 rfl
   obtain ⟨B4, d4, hu4, m4, g4⟩ := h4.2 rfl
   subst hu1 hu3 hu4 hce
   have e1 : wr.cell? ⟨fb, k * 5 + 1, none⟩ = some (.slice B1 f.f1.length d1) := hcc 1 _ rfl
   have e3 : wr.cell? ⟨fb, k * 5 + 3, none⟩ = some (.slice B3 f.f3.length d3) := hcc 3 _ rfl
   have e4 : wr.cell? ⟨fb, k * 5 + 4, none⟩ = some (.slice B4 f.f4.length d4) := hcc 4 _ rfl
   have hsz := HS3.out f (getD_mem x.fns zFn k hlt _ hfe)
   have hsz1 : f.f1.length ≤ 1000000 ∧ f.f3.length ≤ 1000000 ∧ f.f4.length ≤ 1000000 := ⟨hsz.2.1, hsz.2.2.1, hsz.2.2.2⟩
   obtain ⟨hsz1, hsz3, hsz4⟩ := hsz1
   have HC1' := Lib.hid (fun w' (hb : Below wr.heap.size wr w') => clInt_any B1 d1 f.f1 w' (Kd.C_below (Kd.C_below g1 HBR.out) hb) (by omega))
   have HC3' := Lib.hid (fun w' (hb : Below wr.heap.size wr w') => clInt_any B3 d3 f.f3 w' (Kd.C_below (Kd.C_below g3 HBR.out) hb) (by omega))
   have HC4' := Lib.hid (fun w' (hb : Below wr.heap.size wr w') => clInstr_any B4 d4 f.f4 w' (Kd.C_below (Kd.C_below g4 HBR.out) hb) (by omega))
   have HE1 := Lib.hid e1
   have HE3 := Lib.hid e3
   have HE4 := Lib.hid e4
   have HFRZ := Lib.hid hfr
   have HFE := Lib.hid hfe
   clear hcl hM hcc hfr h1 h3 h4 g1 g3 g4 m1 m3 m4 hfe hsz
   go_wp2_with fail
   refine wp_region_E (fun w' => w'.cell? ⟨fb, k * 5 + 1, none⟩ = some (.slice B1 f.f1.length d1) ∧ w'.cell? ⟨fb, k * 5 + 3, none⟩ = some (.slice B3 f.f3.length d3) ∧ w'.cell? ⟨fb, k * 5 + 4, none⟩ = some (.slice B4 f.f4.length d4)) 20 (by kernel_rfl) ?_
   intro Y HY
   have hbY : Below wr.heap.size wr Y := by rw [HY.out]; exact below_drew (Below.refl _ _)
   have HLY := Lib.hid (show Y.cell? ⟨fb, k * 5 + 1, none⟩ = some (.slice B1 f.f1.length d1) ∧ Y.cell? ⟨fb, k * 5 + 3, none⟩ = some (.slice B3 f.f3.length d3) ∧ Y.cell? ⟨fb, k * 5 + 4, none⟩ = some (.slice B4 f.f4.length d4) from ⟨cell_up hbY e1, cell_up hbY e3, cell_up hbY e4⟩)
   have HBY := Lib.hid hbY
   clear hbY e1 e3 e4
   refine wpAnyE_fr 0 ?v_7 rfl (by kernel_rfl) (fun _ _ _ h => h) (.inr HLY.out) (by rfl) ?h_7 ?r_7
   case h_7 => intro w' hS'; clear hS'; go_simp; try with_reducible rfl
   refine wpAnyE_fr 1 ?v_8 rfl (by kernel_rfl) (fun _ _ _ h => h) (.inr HLY.out) (by rfl) ?h_8 ?r_8
   case h_8 => intro w' hS'; clear hS'; go_simp; try with_reducible rfl
   refine wpAnyE_fr 2 ?v_9 rfl (by kernel_rfl) (fun _ _ _ h => h) (.inr HLY.out) (by rfl) ?h_9 ?r_9
   case h_9 => intro w' hS'; clear hS'; go_simp; try with_reducible rfl
   refine wpAnyE_fr 3 ?v_10 rfl (by kernel_rfl) (fun _ _ _ h => h) (.inr HLY.out) (by rfl) ?h_10 ?r_10
   case h_10 => intro w' hS'; clear hS'; go_simp; try with_reducible rfl
   refine wpAnyE_fr 4 ?v_11 rfl (by kernel_rfl) (fun _ _ _ h => h) (.inr HLY.out) (by rfl) ?h_11 ?r_11
   case h_11 => intro w' hS'; clear hS'; go_simp; try with_reducible rfl
   refine wpAnyE_fr 5 ?v_12 rfl (by kernel_rfl) (fun _ _ _ h => h) (.inr HLY.out) (by rfl) ?h_12 ?r_12
   case h_12 => intro w' hS'; clear hS'; go_simp; try with_reducible rfl
   refine wpAnyE_fr 8 ?v_13 rfl (by kernel_rfl) (fun _ _ _ h => h) (.inr HLY.out) (by rfl) ?h_13 ?r_13
   case h_13 => intro w' hS'; clear hS'; go_simp; try with_reducible rfl
   refine wpAnyE_fr 9 ?v_14 rfl (by kernel_rfl) (fun _ _ _ h => h) (.inr HLY.out) (by rfl) ?h_14 ?r_14
   case h_14 => intro w' hS'; clear hS'; go_simp; try with_reducible rfl
   refine wpAnyE_fr 10 ?v_15 rfl (by kernel_rfl) (fun _ _ _ h => h) (.inr HLY.out) (by rfl) ?h_15 ?r_15
   case h_15 => intro w' hS'; clear hS'; go_simp; try with_reducible rfl
   refine wpAnyE_fr 13 ?v_16 rfl (by kernel_rfl) (fun _ _ _ h => h) (.inr HLY.out) (by rfl) ?h_16 ?r_16
   case h_16 => intro w' hS'; clear hS'; go_simp; try with_reducible rfl
   refine wpAnyE_fr 14 ?v_17 rfl (by kernel_rfl) (fun _ _ _ h => h) (.inr HLY.out) (by rfl) ?h_17 ?r_17
   case h_17 => intro w' hS'; clear hS'; go_simp; try with_reducible rfl
   refine wpAnyE_fr 15 ?v_18 rfl (by kernel_rfl) (fun _ _ _ h => h) (.inr HLY.out) (by rfl) ?h_18 ?r_18
   case h_18 => intro w' hS'; clear hS'; go_simp; try with_reducible rfl
   refine wpAnyE_tk 6 ?v_19 rfl (by kernel_rfl) (fun _ _ _ h => h) HLY.out (by rfl) ?h_19 ?r_19
   case h_19 => intro w' hS'; obtain ⟨s1, s3, s4⟩ := hS'; go_simp; try with_reducible rfl
   refine wpAnyE_tk 11 ?v_20 rfl (by kernel_rfl) (fun _ _ _ h => h) HLY.out (by rfl) ?h_20 ?r_20
   case h_20 => intro w' hS'; obtain ⟨s1, s3, s4⟩ := hS'; go_simp; try with_reducible rfl
   refine wpAnyE_tk 16 ?v_21 rfl (by kernel_rfl) (fun _ _ _ h => h) HLY.out (by rfl) ?h_21 ?r_21
   case h_21 => intro w' hS'; obtain ⟨s1, s3, s4⟩ := hS'; go_simp; try with_reducible rfl
   refine wpAnyE_one (i := 7) (by kernel_rfl) rfl (fun K hK => ?_)
   go_simp
   refine (HC1'.out _ HBY.out).mono ?_
   rintro e wa ⟨vn1, rfl, hv, hb⟩
   obtain ⟨Nn1, nn1, rfl⟩ := Kd.R_slice hv
   have HVn1 := Lib.hid (Kd.R_lower hv HBY.out.size)
   have HBn1 := Lib.hid (below_next HBY.out hb)
   have HLn1 := Lib.hid (show wa.cell? ⟨fb, k * 5 + 1, none⟩ = some (.slice B1 f.f1.length d1) ∧ wa.cell? ⟨fb, k * 5 + 3, none⟩ = some (.slice B3 f.f3.length d3) ∧ wa.cell? ⟨fb, k * 5 + 4, none⟩ = some (.slice B4 f.f4.length d4) from ⟨cell_up HBn1.out HE1.out, cell_up HBn1.out HE3.out, cell_up HBn1.out HE4.out⟩)
   have HXn1 := Lib.hid hb
   clear hv hb
   refine hK _ _ (.inr HLn1.out) ?_
   clear hK K
   refine wpAnyE_one (i := 12) (by kernel_rfl) rfl (fun K hK => ?_)
   go_simp
   refine (HC3'.out _ HBn1.out).mono ?_
   rintro e wb ⟨vn3, rfl, hv, hb⟩
   obtain ⟨Nn3, nn3, rfl⟩ := Kd.R_slice hv
   have HVn3 := Lib.hid (Kd.R_lower hv HBn1.out.size)
   have HBn3 := Lib.hid (below_next HBn1.out hb)
   have HLn3 := Lib.hid (show wb.cell? ⟨fb, k * 5 + 1, none⟩ = some (.slice B1 f.f1.length d1) ∧ wb.cell? ⟨fb, k * 5 + 3, none⟩ = some (.slice B3 f.f3.length d3) ∧ wb.cell? ⟨fb, k * 5 + 4, none⟩ = some (.slice B4 f.f4.length d4) from ⟨cell_up HBn3.out HE1.out, cell_up HBn3.out HE3.out, cell_up HBn3.out HE4.out⟩)
   have HXn3 := Lib.hid hb
   clear hv hb
   refine hK _ _ (.inr HLn3.out) ?_
   clear hK K
   refine wpAnyE_one (i := 17) (by kernel_rfl) rfl (fun K hK => ?_)
   go_simp
   refine (HC4'.out _ HBn3.out).mono ?_
   rintro e wc ⟨vn4, rfl, hv, hb⟩
   obtain ⟨Nn4, nn4, rfl⟩ := Kd.R_slice hv
   have HVn4 := Lib.hid (Kd.R_lower hv HBn3.out.size)
   have HBn4 := Lib.hid (below_next HBn3.out hb)
   have HLn4 := Lib.hid (show wc.cell? ⟨fb, k * 5 + 1, none⟩ = some (.slice B1 f.f1.length d1) ∧ wc.cell? ⟨fb, k * 5 + 3, none⟩ = some (.slice B3 f.f3.length d3) ∧ wc.cell? ⟨fb, k * 5 + 4, none⟩ = some (.slice B4 f.f4.length d4) from ⟨cell_up HBn4.out HE1.out, cell_up HBn4.out HE3.out, cell_up HBn4.out HE4.out⟩)
   have HXn4 := Lib.hid hb
   clear hv hb
   refine hK _ _ (.inr HLn4.out) ?_
   clear hK K
   have z1 := HLn4.out.1
   have z3 := HLn4.out.2.1
   have z4 := HLn4.out.2.2
   have y1 : wc.frozen? ⟨fb, k * 5 + 1, none⟩ = false := frozen_up HBn4.out HE1.out (HFRZ.out 1)
   have y3 : wc.frozen? ⟨fb, k * 5 + 3, none⟩ = false := frozen_up HBn4.out HE3.out (HFRZ.out 3)
   have y4 : wc.frozen? ⟨fb, k * 5 + 4, none⟩ = false := frozen_up HBn4.out HE4.out (HFRZ.out 4)
   refine wpAnyE_one (i := 18) (by kernel_rfl) rfl (fun K hK => ?_)
   go_simp
   refine hK _ _ (.inr HLn4.out) ?_
   clear hK K
   refine wpAnyE_one (i := 19) (by kernel_rfl) rfl (fun K hK => ?_)
   go_simp
   refine hK _ _ (.inr HLn4.out) ?_
   clear hK K
   refine wpAnyE_one (i := 20) (by kernel_rfl) rfl (fun K hK => ?_)
   go_simp
   refine hK _ _ (.inl (by kernel_rfl)) ?_
   clear hK K
   refine wpAnyE_one (i := 21) (by kernel_rfl) rfl (fun K hK => ?_)
   go_simp
   refine hK _ _ (.inl (by kernel_rfl)) ?_
   clear hK K
   refine wpAnyE_one (i := 22) (by kernel_rfl) rfl (fun K hK => ?_)
   go_simp
   refine hK _ _ (.inl (by kernel_rfl)) ?_
   clear hK K
   refine wpAnyE_one (i := 23) (by kernel_rfl) rfl (fun K hK => ?_)
   go_simp
   refine hK _ _ (.inl (by kernel_rfl)) ?_
   clear hK K
   refine wpAnyE_one (i := 24) (by kernel_rfl) rfl (fun K hK => ?_)
   go_simp
   refine hK _ _ (.inl (by kernel_rfl)) ?_
   clear hK K
   refine wpAnyE_one (i := 25) (by kernel_rfl) rfl (fun K hK => ?_)
   go_simp
   refine hK _ _ (.inl (by kernel_rfl)) ?_
   clear hK K
   refine wpAnyE_one (i := 26) (by kernel_rfl) rfl (fun K hK => ?_)
   go_simp
   refine hK _ _ (.inl (by kernel_rfl)) ?_
   clear hK K
   refine wpAnyE_done (by kernel_rfl) ?_ _
   have hv1 : (Kd.int .i64).R 3 wc w.heap.size (fun q => wr.heap.size ≤ q) (.slice Nn1 f.f1.length nn1) f.f1 := Kd.R_lower (Kd.R_mono (Kd.R_bound (Kd.R_below (Kd.R_below HVn1.out HXn3.out) HXn4.out)) (fun q hq => hq.2.1)) HBR.out.size
   have hv3 : (Kd.int .i64).R 3 wc w.heap.size (fun q => wr.heap.size ≤ q) (.slice Nn3 f.f3.length nn3) f.f3 := Kd.R_lower (Kd.R_mono (Kd.R_bound (Kd.R_below HVn3.out HXn4.out)) (fun q hq => hq.2.1)) HBR.out.size
   have hv4 : kInstr.R 56 wc w.heap.size (fun q => wr.heap.size ≤ q) (.slice Nn4 f.f4.length nn4) f.f4 := Kd.R_lower (Kd.R_mono (Kd.R_bound HVn4.out) (fun q hq => hq.2.1)) HBR.out.size
   have hnf : ∀ q, wr.heap.size ≤ q → True ∧ q ≠ fb := fun q hq => ⟨trivial, by omega⟩
   have hkl : k < (flagL x.fns k).length := by rw [flagL_length]; exact hlt
   have hgs : ∀ (l : List SFnM) (y : SFnM), k < l.length → (l.set k y).getD k zFnM = y := fun l y h => by
    rw [List.getD_eq_getElem?_getD, List.getElem?_set_self h]; rfl
   have P1 := FnM_put1 (k := k) (Kd.R_below HRF.out HBn4.out) (by omega) hnf (v := .slice Nn1 f.f1.length nn1) (by rw [flagL_get x.fns k hlt, ← HFE.out]; exact hv1)
   have P3 := FnM_put3 (k := k) P1 (by omega) hnf (v := .slice Nn3 f.f3.length nn3) (by rw [hgs _ _ hkl, flagL_get x.fns k hlt, ← HFE.out]; exact Kd.R_far (p := ⟨fb, k * 5 + 1, none⟩) hv3 (fun q hq => (hnf q hq).2) _)
   have P4 := FnM_put4 (k := k) P3 (by omega) hnf (v := .slice Nn4 f.f4.length nn4) (by rw [hgs _ _ (by rw [List.length_set]; exact hkl), hgs _ _ hkl, flagL_get x.fns k hlt, ← HFE.out]; exact Kd.R_far (p := ⟨fb, k * 5 + 3, none⟩) (Kd.R_far (p := ⟨fb, k * 5 + 1, none⟩) hv4 (fun q hq => (hnf q hq).2) _) (fun q hq => (hnf q hq).2) _)
   rw [flag_put3 x.fns k hlt] at P4
   have HP4 := Lib.hid P4
   have HGR := Lib.hid (show W5.grownBy (((wc.setCell ⟨fb, k * 5 + 1, none⟩ (.slice Nn1 f.f1.length nn1)).setCell ⟨fb, k * 5 + 3, none⟩ (.slice Nn3 f.f3.length nn3)).setCell ⟨fb, k * 5 + 4, none⟩ (.slice Nn4 f.f4.length nn4)) (Value.slice (some ⟨fb, 0, none⟩) x.fns.length cF).ownBlock from
    ⟨HBn4.out.os.trans HGW.out.os, HBn4.out.tape.trans HGW.out.tape, HBn4.out.output.trans HGW.out.output, by have h1 := HGW.out.size; have h2 := HBn4.out.size; simp; omega, fun q hq hne => by
     have hqf : q ≠ fb := fun e => hne (by rw [e]; rfl)
     exact (Below.heap_setCell _ _ _ q hqf).trans ((Below.heap_setCell _ _ _ q hqf).trans ((Below.heap_setCell _ _ _ q hqf).trans ((HBn4.out.block q (Nat.lt_of_lt_of_le hq HGW.out.size)).trans (HGW.out.block q hq hne))))⟩)
   clear P1 P3 P4 hv1 hv3 hv4 hnf hkl hgs z1 z3 z4 y1 y3 y4
   go_wp2_with fail
   go_roundw
   case rel => exact ⟨k + 1, by omega, by go_num, HP4.out, HGR.out⟩
   case measure => simp [intOf]; omega
  ·obtain rfl : k = x.fns.length := by omega
   go_wp2_with fail
   go_ret2
   have hB5r : w.heap.size ≤ wr.heap.size := HBR.out.size
   have hFr : kFn.R 54 wr w.heap.size (fun _ => True) (.slice AF x.fns.length cF) x.fns := by
    have h := HRF.out
    rw [flagL_all] at h
    refine R_unmap (d := kFn) (d' := kFnM w) (fun f => (⟨f, true, true, true⟩ : SFnM)) rfl (fun ok f cs hM => ?_) h
    obtain ⟨u1, u3, u4, rfl, h1, h3, h4⟩ := kFnM_open hM
    exact kFn_mkM wr w.heap.size ok f (h1.1 rfl) (h3.1 rfl) (h4.1 rfl)
   have hGr : kGlob.R 88 wr w.heap.size (fun _ => True) (.slice AG x.globs.length cG) x.globs :=
    Kd.R_lower (Kd.R_mono (Kd.R_step (Kd.R_bound HWG.out) (fun q hq hlt => (HGW.out.block q (Nat.lt_of_lt_of_le hlt HB25.out.size) (HGLT.out q hlt)).trans (HB25.out.block q hlt))) (fun _ _ => trivial)) HZ1.out
   have hSr : Kd.N kSys 119 wr w.heap.size (fun q => w3.heap.size ≤ q ∧ q < w4.heap.size) (.slice AS callsL.length cS) callsL :=
    Kd.N_lower (Kd.N_step (Kd.N_bound HWS.out) (fun q hq hlt => (HGW.out.block q (Nat.lt_of_lt_of_le hlt HB45.out.size) (fun e => by have h1 := HFT3.out q e.symm; have h2 := hq.1; omega)).trans (HB45.out.block q hlt))) HZ3.out
   have hmbr : wr.heap[mb]? = some (.cells #[.slice AG x.globs.length cG, .slice AF x.fns.length cF, .slice AS callsL.length cS] 95 (0, 0)) := (HGW.out.block mb hmbl (fun e => by have h1 := HMF.out mb e.symm; omega)).trans HMB.out
   have h45 : w4.heap.size ≤ wr.heap.size := Nat.le_trans HB45.out.size HGW.out.size
   refine ⟨mb, AG, cG, AF, cF, AS, cS, rfl, ⟨HMW.out, blk_lt hmbr, fun w' hw' => ?_⟩, HBR.out⟩
   have hG2 := Kd.R_step (Kd.R_bound hGr) (fun q hq hlt => hw' q hq.2.1 hlt)
   have hF2 := Kd.R_step (Kd.R_bound hFr) (fun q hq hlt => hw' q hq.2.1 hlt)
   have hS2 := Kd.N_step hSr (fun q hq hlt => hw' q (Nat.le_trans HZ3.out hq.1) hlt)
   obtain ⟨_, lG, cG1⟩ := Kd.R_reads' hG2
   obtain ⟨_, lF, cF1⟩ := Kd.R_reads' hF2
   obtain ⟨AS', cS', hSe, lS, cS1⟩ := Kd.N_reads hS2
   injection hSe with hS3 _ hS4
   subst hS3 hS4
   exact ⟨(hw' mb HMW.out (blk_lt hmbr)).trans hmbr, cG1, cF1, cS1, lG, lF, lS, fun a ha => by subst ha; obtain ⟨b, hb⟩ := Kd.R_head hF2; exact ⟨b, hb⟩⟩
/-! ### A run to its end, in plain Lean -/
structure SRep where
 v : Int
 tr : Bool
def zRep : SRep := ⟨0, false⟩
def kRep : Kd SRep := Kd.iso (Kd.pair (Kd.int .i64) Kd.bool) (fun r : SRep => (r.v, r.tr))
theorem kRep_open {w : World} {x : SRep} {cs : List Value} (h : kRep.K w x cs) : cs = [.int .i64 x.v, .bool x.tr] := by
 obtain ⟨_, _, rfl, rfl, rfl⟩ := h; rfl
theorem C_tail {α : Type} {d : Kd α} {w : World} {ad a : Addr} {x : α} {xs : List α} (h : Kd.C d w (some ad) (xs.length + 1) (x :: xs)) (ha : 0 < xs.length → a = ad.add d.sz) : Kd.C d w (some a) xs.length xs := by
 obtain ⟨h1, h2, h3⟩ := h
 refine ⟨rfl, by omega, fun h0 => ⟨a, rfl, fun j p hj => ?_⟩⟩
 obtain ⟨ad', e, hc⟩ := h3 (by omega)
 injection e with e
 subst e
 obtain ⟨cs, q1, q2, q3⟩ := hc (j + 1) p (by simpa using hj)
 refine ⟨cs, q1, q2, fun i u hu => ?_⟩
 have := q3 i u hu
 rw [← this, ha h0, Go.Deep.add_add]
 congr 2
 rw [Nat.add_mul]; omega
theorem addr0 (ad : Addr) : ad.add 0 = ad := by unfold Addr.add; rfl
theorem C_first {w : World} {A : Option Addr} {x : SRep} {xs : List SRep} {n : Nat} (h : kRep.C w A n (x :: xs)) : ∃ ad, A = some ad ∧ w.cell? ad = some (.int .i64 x.v) ∧ w.cell? ⟨ad.block, ad.off + 1, none⟩ = some (.bool x.tr) := by
 have hn : n = xs.length + 1 := by have := h.1; simpa using this.symm
 obtain ⟨ad, c, e, _, hK, hc⟩ := Kd.C_get h zRep (0 : Int) (by omega) (by omega)
 have hK2 := kRep_open hK
 subst hK2
 refine ⟨ad, e, ?_, ?_⟩
 ·have h0 := hc 0 _ rfl
  rw [show Int.toNat 0 * kRep.sz + 0 = 0 by simp, addr0] at h0
  exact h0
 ·have h1 := hc 1 _ rfl
  rw [show Int.toNat 0 * kRep.sz + 1 = 0 + 1 by simp, add_field _ _ 1 (by omega), addr0] at h1
  exact h1
theorem loopR_le (x : SImage) : ∀ (n : Nat) (s : SRun), (loopR x n s).fuel ≤ s.fuel
 | 0, s => Nat.le_refl _
 | n + 1, s => by
  have h1 : (stepR x s).fuel ≤ s.fuel := by
   by_cases h0 : s.fuel = 0
   ·unfold stepR; rw [if_pos h0]; exact Nat.le_refl _
   ·have := stepR_fuel x s (s.fuel - 1) (by omega); omega
  show (if (stepR x s).ended || (stepR x s).waits then stepR x s else loopR x n (stepR x s)).fuel ≤ _
  split
  ·exact h1
  ·exact Nat.le_trans (loopR_le x n _) h1
theorem loopR_asks (x : SImage) (n : Nat) (s : SRun) (hw : s.waits = false) (h : (loopR x n s).waits = true) : (loopR x n s).fuel < s.fuel := by
 cases n with
 | zero => rw [show loopR x 0 s = s from rfl] at h; rw [hw] at h; cases h
 | succ n =>
  have hu : loopR x (n + 1) s = if (stepR x s).ended || (stepR x s).waits then stepR x s else loopR x n (stepR x s) := rfl
  by_cases h0 : s.fuel = 0
  ·have e : stepR x s = trapR 1 s := by unfold stepR; rw [if_pos h0]
   rw [hu, e, if_pos (by rfl)] at h
   rw [show (trapR 1 s).waits = s.waits from rfl, hw] at h; cases h
  ·have h1 := stepR_fuel x s (s.fuel - 1) (by omega)
   rw [hu]
   split
   ·omega
   ·have := loopR_le x n (stepR x s); omega
theorem loopR_stops (x : SImage) : ∀ (k : Nat) (s : SRun), s.fuel = k → ((loopR x (k + 1) s).ended || (loopR x (k + 1) s).waits) = true
 | 0, s, h => by
  have e : stepR x s = trapR 1 s := by unfold stepR; rw [if_pos h]
  have hu : loopR x 1 s = if (stepR x s).ended || (stepR x s).waits then stepR x s else loopR x 0 (stepR x s) := rfl
  rw [hu, e, if_pos (by rfl)]; rfl
 | k + 1, s, h => by
  have hu : loopR x (k + 1 + 1) s = if (stepR x s).ended || (stepR x s).waits then stepR x s else loopR x (k + 1) (stepR x s) := rfl
  rw [hu]
  split
  ·assumption
  ·exact loopR_stops x k _ (stepR_fuel x s k h)
theorem nextR_stops (x : SImage) (s : SRun) : ((nextR x s).ended || (nextR x s).waits) = true := by
 unfold nextR
 split
 ·assumption
 ·exact loopR_stops x s.fuel s rfl
theorem nextR_asks (x : SImage) (s : SRun) (hw : s.waits = false) (h : (nextR x s).waits = true) : (nextR x s).fuel < s.fuel := by
 unfold nextR at h ⊢
 split at h
 ·rw [hw] at h; cases h
 ·rename_i hn
  rw [if_neg hn]
  exact loopR_asks x _ s hw h
theorem replyR_fuel (v : Int) (tr : Bool) (s : SRun) : (replyR v tr s).fuel = s.fuel := by
 unfold replyR
 repeat' split
 all_goals rfl
theorem replyR_waits (v : Int) (tr : Bool) (s : SRun) : (replyR v tr s).waits = false := by
 unfold replyR
 split
 ·assumption
 ·repeat' split
  all_goals rfl
/-- asked and answered until it ends -/
def runX (x : SImage) : Nat → List SRep → SRun → SRun
 | 0, _, s => s
 | n + 1, rs, s => if (nextR x s).waits then runX x n rs.tail (replyR (rs.headD zRep).v (rs.headD zRep).tr (nextR x s)) else nextR x s
def zEnd : SEnd := ⟨0, 0, 0, [], []⟩
def execR (T : Nat → ByteArray × ByteArray) (x : SImage) (state : List (List Int)) (fn : Int) (args : List Int) (fuel : Int) (rs : List SRep) : SEnd × Int :=
 if (verifyS T x).1 = 0 then if rightR x state fn args fuel = true then (endR (runX x (fuel.toNat + 1) rs (beginR x state fn args fuel)), 0) else (zEnd, 1) else (zEnd, 120)
theorem runX_more (x : SImage) : ∀ (n : Nat) (rs : List SRep) (s : SRun), s.waits = false → s.fuel < n → ∀ m, s.fuel < m → runX x n rs s = runX x m rs s
 | 0, rs, s, _, h, _, _ => by omega
 | n + 1, rs, s, hw, h, 0, hm => by omega
 | n + 1, rs, s, hw, h, m + 1, hm => by
  show (if _ then _ else _) = (if _ then _ else _)
  split
  ·rename_i hn
   have h1 := nextR_asks x s hw hn
   exact runX_more x n _ _ (replyR_waits _ _ _) (by rw [replyR_fuel]; omega) m (by rw [replyR_fuel]; omega)
  ·rfl
/-! ### Execute -/
def ExecPost (w : World) (r : SEnd × Int) (e : Ending) (w' : World) : Prop := ∃ v, e = .returned (.tuple #[v, .int .i64 r.2]) ∧ EndV w.heap.size w' v r.1 ∧ Below w.heap.size w w'
theorem EndV.lower {base base' : Nat} {w : World} {v : Value} {e : SEnd} (h : EndV base w v e) (hb : base' ≤ base) : EndV base' w v e := by
 obtain ⟨vs, va, t, rfl, h1, h2⟩ := h
 exact ⟨vs, va, t, rfl, Kd.S_lower h1 hb, Kd.S_lower h2 hb⟩
theorem EndV.below {base : Nat} {w w' : World} {v : Value} {e : SEnd} (h : EndV base w v e) (hb : Below w.heap.size w w') : EndV base w' v e := by
 obtain ⟨vs, va, t, rfl, h1, h2⟩ := h
 exact ⟨vs, va, t, rfl, Kd.S_below h1 hb, Kd.S_below h2 hb⟩
theorem EndV.low {base b : Nat} {w w' : World} {v : Value} {e : SEnd} (h : EndV base w v e) (hk : ∀ k, base ≤ k → w'.heap[k]? = w.heap[k]?) : EndV base w' v e := by
 obtain ⟨vs, va, t, rfl, h1, h2⟩ := h
 exact ⟨vs, va, t, rfl, Kd.S_mono (Kd.S_step (Kd.S_bound h1) (fun k hk2 _ => hk k hk2.2.1)) (fun k hk2 => hk2.1), Kd.S_mono (Kd.S_step (Kd.S_bound h2) (fun k hk2 _ => hk k hk2.2.1)) (fun k hk2 => hk2.1)⟩
theorem EndV_zero (base : Nat) (w : World) : EndV base w (.agg #[.int .i64 0, .int .i64 0, .int .i64 0, .slice none 0 0, .slice none 0 0]) zEnd := ⟨_, _, fun _ => 0, rfl, Kd.S_nil _ _ _ _ _, Kd.S_nil _ _ _ _ _⟩
theorem img_sizes {T : Nat → ByteArray × ByteArray} {x : SImage} (h : (verifyS T x).1 = 0) : x.fns.length ≤ 64 ∧ x.globs.length ≤ 64 ∧ ∀ f ∈ x.fns, f.f1.length ≤ 1000 ∧ f.f1.length ≤ f.f3.length ∧ f.f3.length ≤ 1000 := by
 have ho := right_ok (verify_right h)
 have hI := imgOK_of ho
 obtain ⟨h1, h2, h3, h4⟩ := okB_bounds x ho
 refine ⟨hI.lf, hI.lg, fun f hf => ?_⟩
 have h5 := hI.fn f hf
 have h6 := h4 f hf
 unfold fnB at h6
 simp only [Bool.and_eq_true, decide_eq_true_eq] at h6
 exact ⟨by have := h5.lp; omega, h6.2.1, by have := h5.ll; omega⟩
theorem exec_bad (T : Nat → ByteArray × ByteArray) (x : SImage) (v : Value) (w : World) (hv : VImage w x v) (hs : imgSmall 1000000 x) (hG : Nib w) (hT : Pln T w) (hTK : TOK T) (hbad : ¬ (verifyS T x).1 = 0) (A : Option Addr) (c : Nat) (state : List (List Int)) (hS : kInts.C w A state.length state) (fn : Int) (Ba : Option Addr) (d : Nat) (args : List Int) (hA : (Kd.int .i64).C w Ba args.length args) (fuel : Int) (Ar : Option Addr) (cr : Nat) (rs : List SRep) (hRs : kRep.C w Ar rs.length rs) (hrc : rs.length ≤ cr) (hs1 : state.length ≤ 1000000) (hsl : ∀ r ∈ state, r.length ≤ 1000000) (ha1 : args.length ≤ 2000000) (hr1 : rs.length ≤ 1000000000) :
  Calls Tryz.prog 11 #[v, .slice A state.length c, .int .i64 fn, .slice Ba args.length d, .int .i64 fuel, .slice Ar rs.length cr] w (ExecPost w (zEnd, 120)) := by
 obtain ⟨A0, c0, A1, c1, hve, l0, hG0, l1, hF0⟩ := hv
 subst hve
 have hb1 := below_alloc (Below.refl w.heap.size w) (.cells #[.slice A0 x.globs.length c0, .slice A1 x.fns.length c1] 25)
 have hb2 := below_alloc (Below.refl (w.alloc (.cells #[.slice A0 x.globs.length c0, .slice A1 x.fns.length c1] 25)).heap.size (w.alloc (.cells #[.slice A0 x.globs.length c0, .slice A1 x.fns.length c1] 25))) (.cells #[.int .i64 0, .int .i64 0, .int .i64 0, .slice none 0 0, .slice none 0 0] 36)
 have hb := below_next hb1 hb2
 have HN := Lib.hid (new_no T x (.agg #[.slice A0 x.globs.length c0, .slice A1 x.fns.length c1]) ((w.alloc (.cells #[.slice A0 x.globs.length c0, .slice A1 x.fns.length c1] 25)).alloc (.cells #[.int .i64 0, .int .i64 0, .int .i64 0, .slice none 0 0, .slice none 0 0] 36)) (VImage.below ⟨A0, c0, A1, c1, rfl, l0, hG0, l1, hF0⟩ hb) ⟨by have := hs.1; omega, by have := hs.2.1; omega, fun f hf => by have := hs.2.2 f hf; unfold fnSmall at this ⊢; omega⟩ (hG.below hb) (hT.below hb) hTK hbad)
 have HB := Lib.hid hb
 have hx := heap_alloc_new (w.alloc (.cells #[.slice A0 x.globs.length c0, .slice A1 x.fns.length c1] 25)) (.cells #[.int .i64 0, .int .i64 0, .int .i64 0, .slice none 0 0, .slice none 0 0] 36)
 rw [show (w.alloc (.cells #[.slice A0 x.globs.length c0, .slice A1 x.fns.length c1] 25)).heap.size = w.heap.size + 1 by simp] at hx
 have HX := Lib.hid hx
 clear hG0 hF0 hG hT hS hA hRs hsl hb hb1 hb2 hx
 go_enter Tryz.func11, Tryz.ntmps11
 go_wp2_with fail
 refine HN.out.mono ?_
 rintro e w1 ⟨rfl, hbw⟩
 have hxw := (hbw.block (w.heap.size + 1) (by simp)).trans HX.out
 have HBW := Lib.hid (below_next HB.out hbw)
 obtain ⟨b2, hb2⟩ : ∃ b2, b2 = w.heap.size + 1 := ⟨_, rfl⟩
 rw [← hb2] at hxw ⊢
 have z0 : w1.cell? ⟨b2, 0, none⟩ = some (.int .i64 0) := (blk_cell hxw 0).trans rfl
 have z1 : w1.cell? ⟨b2, 1, none⟩ = some (.int .i64 0) := (blk_cell hxw 1).trans rfl
 have z2 : w1.cell? ⟨b2, 2, none⟩ = some (.int .i64 0) := (blk_cell hxw 2).trans rfl
 have z3 : w1.cell? ⟨b2, 3, none⟩ = some (.slice none 0 0) := (blk_cell hxw 3).trans rfl
 have z4 : w1.cell? ⟨b2, 4, none⟩ = some (.slice none 0 0) := (blk_cell hxw 4).trans rfl
 have f0 := blk_frozen hxw 0
 have f1 := blk_frozen hxw 1
 have f2 := blk_frozen hxw 2
 have f3 := blk_frozen hxw 3
 have f4 := blk_frozen hxw 4
 have HXW := Lib.hid hxw
 have hbb : w.heap.size ≤ b2 := by omega
 clear hbw hxw hb2
 go_wp2_with fail
 (try simp only [Exit.inBlock, Exit.then])
 refine bodyPost_ret (results_ct rfl _ _ b2 36 #[.int .i64 0, .int .i64 0, .int .i64 0, .slice none 0 0, .slice none 0 0] (0, 0) _ rfl (blk_put (blk_put (blk_put (blk_put (blk_put HXW.out 0 (.int .i64 0) rfl) 1 (.int .i64 0) rfl) 2 (.int .i64 0) rfl) 3 (.slice none 0 0) rfl) 4 (.slice none 0 0) rfl) Tryz.underlying36 rfl (by kernel_rfl)) rfl ?_
 exact ⟨_, rfl, EndV_zero _ _, below_set (below_set (below_set (below_set (below_set HBW.out hbb) hbb) hbb) hbb) hbb⟩
theorem exec_no (T : Nat → ByteArray × ByteArray) (x : SImage) (v : Value) (w : World) (hv : VImage w x v) (hs : imgSmall 1000000 x) (hG : Nib w) (hT : Pln T w) (hTK : TOK T) (hok : (verifyS T x).1 = 0) (A : Option Addr) (c : Nat) (state : List (List Int)) (hS : kInts.C w A state.length state) (fn : Int) (Ba : Option Addr) (d : Nat) (args : List Int) (hA : (Kd.int .i64).C w Ba args.length args) (fuel : Int) (Ar : Option Addr) (cr : Nat) (rs : List SRep) (hRs : kRep.C w Ar rs.length rs) (hrc : rs.length ≤ cr) (hs1 : state.length ≤ 1000000) (hsl : ∀ r ∈ state, r.length ≤ 1000000) (ha1 : args.length ≤ 2000000) (hr1 : rs.length ≤ 1000000000) (hrt : rightR x state fn args fuel = false) :
  Calls Tryz.prog 11 #[v, .slice A state.length c, .int .i64 fn, .slice Ba args.length d, .int .i64 fuel, .slice Ar rs.length cr] w (ExecPost w (zEnd, 1)) := by
 obtain ⟨A0, c0, A1, c1, hve, l0, hG0, l1, hF0⟩ := hv
 subst hve
 have hb1 := below_alloc (Below.refl w.heap.size w) (.cells #[.slice A0 x.globs.length c0, .slice A1 x.fns.length c1] 25)
 have hb2 := below_alloc (Below.refl (w.alloc (.cells #[.slice A0 x.globs.length c0, .slice A1 x.fns.length c1] 25)).heap.size (w.alloc (.cells #[.slice A0 x.globs.length c0, .slice A1 x.fns.length c1] 25))) (.cells #[.int .i64 0, .int .i64 0, .int .i64 0, .slice none 0 0, .slice none 0 0] 36)
 have hb := below_next hb1 hb2
 have HN := Lib.hid (new_yes T x (.agg #[.slice A0 x.globs.length c0, .slice A1 x.fns.length c1]) ((w.alloc (.cells #[.slice A0 x.globs.length c0, .slice A1 x.fns.length c1] 25)).alloc (.cells #[.int .i64 0, .int .i64 0, .int .i64 0, .slice none 0 0, .slice none 0 0] 36)) (VImage.below ⟨A0, c0, A1, c1, rfl, l0, hG0, l1, hF0⟩ hb) hs (hG.below hb) (hT.below hb) hTK hok)
 have HB := Lib.hid hb
 have hx := heap_alloc_new (w.alloc (.cells #[.slice A0 x.globs.length c0, .slice A1 x.fns.length c1] 25)) (.cells #[.int .i64 0, .int .i64 0, .int .i64 0, .slice none 0 0, .slice none 0 0] 36)
 rw [show (w.alloc (.cells #[.slice A0 x.globs.length c0, .slice A1 x.fns.length c1] 25)).heap.size = w.heap.size + 1 by simp] at hx
 have HX := Lib.hid hx
 have HS := Lib.hid hS
 have HA := Lib.hid hA
 have HRs := Lib.hid hRs
 have HSL := Lib.hid hsl
 obtain ⟨hi1, hi2, hi3⟩ := img_sizes hok
 have HI3 := Lib.hid hi3
 have HRT := Lib.hid hrt
 clear hG0 hF0 hG hT hS hA hRs hsl hb hb1 hb2 hx hok hi3 hrt
 go_enter Tryz.func11, Tryz.ntmps11
 go_wp2_with fail
 refine HN.out.mono ?_
 rintro e w1 ⟨mb, AG, cG, AF, cF, AS, cS, rfl, hM, hbw⟩
 have HBW := Lib.hid (below_next HB.out hbw)
 have HNO := Lib.hid (begin_no w1 mb x AG cG AF cF AS cS hM.mach (by omega) (by omega) (fun f hf => (HI3.out f hf).1) A c state (Kd.C_below HS.out HBW.out) fn Ba d args (Kd.C_below HA.out HBW.out) fuel hs1 HSL.out ha1 HRT.out)
 have HXW1 := Lib.hid ((hbw.block (w.heap.size + 1) (by simp)).trans HX.out)
 clear hM hbw
 go_wp2_with fail
 refine HNO.out.mono ?_
 rintro e w2 ⟨rfl, hbw2⟩
 have hxw := (hbw2.block (w.heap.size + 1) (blk_lt HXW1.out)).trans HXW1.out
 have HBW2 := Lib.hid (below_next HBW.out hbw2)
 obtain ⟨b2, hb2⟩ : ∃ b2, b2 = w.heap.size + 1 := ⟨_, rfl⟩
 rw [← hb2] at hxw ⊢
 have z0 : w2.cell? ⟨b2, 0, none⟩ = some (.int .i64 0) := (blk_cell hxw 0).trans rfl
 have z1 : w2.cell? ⟨b2, 1, none⟩ = some (.int .i64 0) := (blk_cell hxw 1).trans rfl
 have z2 : w2.cell? ⟨b2, 2, none⟩ = some (.int .i64 0) := (blk_cell hxw 2).trans rfl
 have z3 : w2.cell? ⟨b2, 3, none⟩ = some (.slice none 0 0) := (blk_cell hxw 3).trans rfl
 have z4 : w2.cell? ⟨b2, 4, none⟩ = some (.slice none 0 0) := (blk_cell hxw 4).trans rfl
 have f0 := blk_frozen hxw 0
 have f1 := blk_frozen hxw 1
 have f2 := blk_frozen hxw 2
 have f3 := blk_frozen hxw 3
 have f4 := blk_frozen hxw 4
 have HXW := Lib.hid hxw
 have hbb : w.heap.size ≤ b2 := by omega
 clear hbw2 hxw hb2
 go_wp2_with fail
 (try simp only [Exit.inBlock, Exit.then])
 refine bodyPost_ret (results_ct rfl _ _ b2 36 #[.int .i64 0, .int .i64 0, .int .i64 0, .slice none 0 0, .slice none 0 0] (0, 0) _ rfl (blk_put (blk_put (blk_put (blk_put (blk_put HXW.out 0 (.int .i64 0) rfl) 1 (.int .i64 0) rfl) 2 (.int .i64 0) rfl) 3 (.slice none 0 0) rfl) 4 (.slice none 0 0) rfl) Tryz.underlying36 rfl (by kernel_rfl)) rfl ?_
 exact ⟨_, rfl, EndV_zero _ _, below_set (below_set (below_set (below_set (below_set HBW2.out hbb) hbb) hbb) hbb) hbb⟩
theorem exec_yes (T : Nat → ByteArray × ByteArray) (x : SImage) (v : Value) (w : World) (hv : VImage w x v) (hs : imgSmall 1000000 x) (hG : Nib w) (hT : Pln T w) (hTK : TOK T) (hok : (verifyS T x).1 = 0) (A : Option Addr) (c : Nat) (state : List (List Int)) (hS : kInts.C w A state.length state) (fn : Int) (Ba : Option Addr) (d : Nat) (args : List Int) (hA : (Kd.int .i64).C w Ba args.length args) (fuel : Int) (Ar : Option Addr) (cr : Nat) (rs : List SRep) (hRs : kRep.C w Ar rs.length rs) (hrc : rs.length ≤ cr) (hs1 : state.length ≤ 1000000) (hsl : ∀ r ∈ state, r.length ≤ 1000000) (ha1 : args.length ≤ 2000000) (hr1 : rs.length ≤ 1000000000) (hrt : rightR x state fn args fuel = true)
  (Inv : SRun → Prop) (hO : InvOK x Inv) (hI : Inv (beginR x state fn args fuel)) (hRep : ∀ s r, (r ∈ rs ∨ r = zRep) → Inv s → s.waits = true → Inv (replyR r.v r.tr s)) :
  Calls Tryz.prog 11 #[v, .slice A state.length c, .int .i64 fn, .slice Ba args.length d, .int .i64 fuel, .slice Ar rs.length cr] w (ExecPost w (endR (runX x (fuel.toNat + 1) rs (beginR x state fn args fuel)), 0)) := by
 obtain ⟨A0, c0, A1, c1, hve, l0, hG0, l1, hF0⟩ := hv
 subst hve
 have hb1 := below_alloc (Below.refl w.heap.size w) (.cells #[.slice A0 x.globs.length c0, .slice A1 x.fns.length c1] 25)
 have hb2 := below_alloc (Below.refl (w.alloc (.cells #[.slice A0 x.globs.length c0, .slice A1 x.fns.length c1] 25)).heap.size (w.alloc (.cells #[.slice A0 x.globs.length c0, .slice A1 x.fns.length c1] 25))) (.cells #[.int .i64 0, .int .i64 0, .int .i64 0, .slice none 0 0, .slice none 0 0] 36)
 have hb := below_next hb1 hb2
 have HN := Lib.hid (new_yes T x (.agg #[.slice A0 x.globs.length c0, .slice A1 x.fns.length c1]) ((w.alloc (.cells #[.slice A0 x.globs.length c0, .slice A1 x.fns.length c1] 25)).alloc (.cells #[.int .i64 0, .int .i64 0, .int .i64 0, .slice none 0 0, .slice none 0 0] 36)) (VImage.below ⟨A0, c0, A1, c1, rfl, l0, hG0, l1, hF0⟩ hb) hs (hG.below hb) (hT.below hb) hTK hok)
 have HB := Lib.hid hb
 have hx := heap_alloc_new (w.alloc (.cells #[.slice A0 x.globs.length c0, .slice A1 x.fns.length c1] 25)) (.cells #[.int .i64 0, .int .i64 0, .int .i64 0, .slice none 0 0, .slice none 0 0] 36)
 rw [show (w.alloc (.cells #[.slice A0 x.globs.length c0, .slice A1 x.fns.length c1] 25)).heap.size = w.heap.size + 1 by simp] at hx
 have HX := Lib.hid hx
 have HS := Lib.hid hS
 have HA := Lib.hid hA
 have HRs := Lib.hid hRs
 have HSL := Lib.hid hsl
 obtain ⟨hi1, hi2, hi3⟩ := img_sizes hok
 have HI3 := Lib.hid hi3
 have HRT := Lib.hid hrt
 have HO := Lib.hid hO
 have HI := Lib.hid hI
 have HREP := Lib.hid hRep
 have hfn : 0 < x.fns.length := by
  have hh : headR x state fn args fuel = true := by
   cases hh : headR x state fn args fuel
   ·unfold rightR at hrt; rw [hh] at hrt; cases hrt
   ·rfl
  have := headR_parts hh; omega
 obtain ⟨fin, hfin⟩ : ∃ fin, fin = runX x (fuel.toNat + 1) rs (beginR x state fn args fuel) := ⟨_, rfl⟩
 rw [← hfin]
 have HFIN := Lib.hid (show runX x ((beginR x state fn args fuel).fuel + 1) rs (beginR x state fn args fuel) = fin from hfin.symm)
 clear hG0 hF0 hG hT hS hA hRs hsl hb hb1 hb2 hx hok hi3 hrt hO hI hRep hfin
 go_enter Tryz.func11, Tryz.ntmps11
 go_wp2_with fail
 refine HN.out.mono ?_
 rintro e w1 ⟨mb, AG, cG, AF, cF, AS, cS, rfl, hM, hbw⟩
 have HBW := Lib.hid (below_next HB.out hbw)
 obtain ⟨fb, hfb⟩ := hM.mach.form hfn
 have HM := Lib.hid (hM.mach.mach hfb)
 have HYES := Lib.hid (begin_yes w1 mb fb x AG cG AF cF AS cS hM.mach hfb (by omega) (by omega) HI3.out A c state (Kd.C_below HS.out HBW.out) fn Ba d args (Kd.C_below HA.out HBW.out) fuel hs1 HSL.out ha1 HRT.out)
 have HXW1 := Lib.hid ((hbw.block (w.heap.size + 1) (by simp)).trans HX.out)
 clear hM hbw hfb
 go_wp2_with fail
 refine HYES.out.mono ?_
 rintro e w2 ⟨g, f, vS, vF, vK, vA, rfl, hR, hbw2⟩
 have HR := Lib.hid hR
 have HB2 := Lib.hid hbw2
 have HXW2 := Lib.hid ((hbw2.block (w.heap.size + 1) (blk_lt HXW1.out)).trans HXW1.out)
 clear hR hbw2
 go_wp2_with fail
 have HRS1 := Lib.hid (Kd.C_below HRs.out HBW.out)
 have HE2 := Lib.hid (show ∃ f vS vF vK vA, RUN w1.heap.size mb fb w2 g f vS vF vK vA (beginR x state fn args fuel) from ⟨f, vS, vF, vK, vA, HR.out⟩)
 have HI0 := Lib.hid (show Inv (beginR x state fn args fuel) ∧ (beginR x state fn args fuel).waits = false from ⟨HI.out, rfl⟩)
 have hB2lt := blk_lt HXW1.out
 clear HN HB HX HS HA HRs HSL HI3 HRT HYES HXW2 HR HI
 obtain ⟨b2, hb2⟩ : ∃ b2, b2 = w.heap.size + 1 := ⟨_, rfl⟩
 rw [← hb2]
 rw [← hb2] at HXW1 hB2lt
 have HB2E := Lib.hid hb2
 clear hb2
 go_loopw [5] (fun u wr => ∃ (l : List SRep) (s : SRun) (A' : Option Addr) (c' : Nat), u = .slice A' l.length c' ∧ l.length ≤ c' ∧ l.length ≤ 1000000000 ∧ Hid (kRep.C w1 A' l.length l) ∧ Hid (∀ r ∈ l, r ∈ rs) ∧ Hid (∃ f vS vF vK vA, RUN w1.heap.size mb fb wr g f vS vF vK vA s) ∧ Hid (Below w1.heap.size w1 wr) ∧ Hid (Inv s ∧ s.waits = false) ∧ Hid (runX x (s.fuel + 1) l s = fin)) (fun _ wr => fuelW g wr)
 case atStart => exact ⟨rs, _, Ar, cr, rfl, hrc, hr1, HRS1, Lib.hid (fun r h => h), HE2, HB2, HI0, HFIN⟩
 case round =>
  clear HE2 HB2 HI0 HFIN hrc hr1
  obtain ⟨l, s, A', c', rfl, hlc, hl1, HC, HL, HRU, HBr, HIS, HUN⟩ := hrel
  obtain ⟨f, vS, vF, vK, vA, hR⟩ := HRU.out
  have HNX := Lib.hid (rnext_any w1.heap.size mb fb g wr f vS vF vK vA s hR HBr.out.size x AG cG cF AS cS w1 HM.out rfl HBr.out (by omega) Inv HO.out HIS.out.1)
  have HR := Lib.hid hR
  have HFU := Lib.hid (fuelW_eq hR)
  clear hR HRU
  go_wp2_with fail
  refine HNX.out.mono ?_
  rintro e w3 ⟨v, f3, vS3, vF3, vK3, vA3, rfl, hR3, hS3, sq, rfl, hQ3⟩
  obtain ⟨QA, QC, rfl⟩ := Kd.R_slice hQ3
  obtain ⟨t, ht⟩ : ∃ t, t = nextR x s := ⟨_, rfl⟩
  rw [← ht] at hR3 hQ3 ⊢
  have HT := Lib.hid ht
  have HIT := Lib.hid (show Inv t by rw [ht]; exact nextR_inv HO.out s HIS.out.1)
  have HB3 := Lib.hid (hS3.low HBr.out HR.out.gB HR.out.fB (Nat.le_refl _))
  have HR3 := Lib.hid hR3
  have hszr : w1.heap.size ≤ w3.heap.size := HB3.out.size
  obtain ⟨qc, hqc⟩ : ∃ qc, qc = (askN t).call := ⟨_, rfl⟩
  obtain ⟨qn, hqn⟩ : ∃ qn, qn = (askN t).args.length := ⟨_, rfl⟩
  rw [← hqc, ← hqn]
  obtain ⟨wt, hwt⟩ : ∃ wt, wt = t.waits := ⟨_, rfl⟩
  rw [← hwt]
  clear ht hR3 hS3 hQ3 hqc hqn HNX
  have HWT := Lib.hid hwt
  clear hwt
  cases wt
  ·have hend : t.ended = true := by
    have := nextR_stops x s
    rw [← HT.out, ← HWT.out, Bool.or_false] at this
    exact this
   have HEND := Lib.hid (fun W (hb : Below w3.heap.size w3 W) => rend_any w1.heap.size mb fb g W f3 vS3 vF3 vK3 vA3 t (HR3.out.below hb) hend (HO.out.srow t HIT.out).1 (HO.out.srow t HIT.out).2 (HO.out.alen t HIT.out) (HO.out.aargs t HIT.out))
   have HFT := Lib.hid (show fin = t from by
    rw [← HUN.out]
    show (if (nextR x s).waits then _ else nextR x s) = t
    rw [← HT.out, ← HWT.out]; rfl)
   clear hend
   go_wp2_with fail
   have hba := below_alloc (Below.refl w3.heap.size w3) (.cells #[.int .i64 qc, .slice QA qn QC] 81)
   refine (HEND.out _ hba).mono ?_
   rintro e w4 ⟨v, rfl, hE, hbw⟩
   obtain ⟨vs, va, h, rfl, hE1, hE2⟩ := hE
   obtain ⟨Av, cv, rfl⟩ := Kd.S_slice hE1
   obtain ⟨Aw, cw, rfl⟩ := Kd.S_slice hE2
   have hbw1 : Below w1.heap.size w1 w4 := below_next (below_next HB3.out hba) hbw
   have hxw := (hbw1.block b2 hB2lt).trans HXW1.out
   have z0 : w4.cell? ⟨b2, 0, none⟩ = some (.int .i64 0) := (blk_cell hxw 0).trans rfl
   have z1 : w4.cell? ⟨b2, 1, none⟩ = some (.int .i64 0) := (blk_cell hxw 1).trans rfl
   have z2 : w4.cell? ⟨b2, 2, none⟩ = some (.int .i64 0) := (blk_cell hxw 2).trans rfl
   have z3 : w4.cell? ⟨b2, 3, none⟩ = some (.slice none 0 0) := (blk_cell hxw 3).trans rfl
   have z4 : w4.cell? ⟨b2, 4, none⟩ = some (.slice none 0 0) := (blk_cell hxw 4).trans rfl
   have f0 := blk_frozen hxw 0
   have f1 := blk_frozen hxw 1
   have f2 := blk_frozen hxw 2
   have f3 := blk_frozen hxw 3
   have f4 := blk_frozen hxw 4
   have hb4lt : b2 < w4.heap.size := blk_lt hxw
   have HXW := Lib.hid hxw
   have HB4 := Lib.hid (show Below w.heap.size w w4 from below_then HBW.out (by exact HBW.out.size) hbw1)
   have hbb : w.heap.size ≤ b2 := by rw [HB2E.out]; omega
   have HSZ := Lib.hid (show b2 < (w3.alloc (.cells #[.int .i64 qc, .slice QA qn QC] 81)).heap.size from by have := HB3.out.size; have := hba.size; omega)
   obtain ⟨e0, he0⟩ : ∃ e0, e0 = (endR t).trap := ⟨_, rfl⟩
   obtain ⟨e1, he1⟩ : ∃ e1, e1 = (endR t).value := ⟨_, rfl⟩
   obtain ⟨e2, he2⟩ : ∃ e2, e2 = (endR t).fuel := ⟨_, rfl⟩
   obtain ⟨n3, hn3⟩ : ∃ n3, n3 = (endR t).state.length := ⟨_, rfl⟩
   obtain ⟨n4, hn4⟩ : ∃ n4, n4 = (endR t).asks.length := ⟨_, rfl⟩
   have HEV := Lib.hid (show EndV (w3.alloc (.cells #[.int .i64 qc, .slice QA qn QC] 81)).heap.size w4 (.agg #[.int .i64 e0, .int .i64 e1, .int .i64 e2, .slice Av n3 cv, .slice Aw n4 cw]) (endR fin) from by
    rw [he0, he1, he2, hn3, hn4, HFT.out]; exact ⟨_, _, h, rfl, hE1, hE2⟩)
   rw [← he0, ← he1, ← he2, ← hn3, ← hn4]
   clear he0 he1 he2 hn3 hn4 hbw1 hxw hba hbw hE1 hE2 HEND
   go_wp2_with fail
   (try simp only [Exit.inBlock, Exit.then])
   obtain ⟨V, hV⟩ : ∃ V, V = ((((w4.setCell ⟨b2, 0, none⟩ (.int .i64 e0)).setCell ⟨b2, 1, none⟩ (.int .i64 e1)).setCell ⟨b2, 2, none⟩ (.int .i64 e2)).setCell ⟨b2, 3, none⟩ (.slice Av n3 cv)).setCell ⟨b2, 4, none⟩ (.slice Aw n4 cw) := ⟨_, rfl⟩
   rw [← hV]
   have hVb : V.heap[b2]? = some (.cells #[.int .i64 e0, .int .i64 e1, .int .i64 e2, .slice Av n3 cv, .slice Aw n4 cw] 36 (0, 0)) := by rw [hV]; exact blk_put (blk_put (blk_put (blk_put (blk_put HXW.out 0 (.int .i64 e0) rfl) 1 (.int .i64 e1) rfl) 2 (.int .i64 e2) rfl) 3 (.slice Av n3 cv) rfl) 4 (.slice Aw n4 cw) rfl
   have hst : ∀ k, k ≠ b2 → V.heap[k]? = w4.heap[k]? := fun k hk => by rw [hV]; exact (Below.heap_setCell _ _ _ k hk).trans ((Below.heap_setCell _ _ _ k hk).trans ((Below.heap_setCell _ _ _ k hk).trans ((Below.heap_setCell _ _ _ k hk).trans (Below.heap_setCell _ _ _ k hk))))
   have hVB : Below w.heap.size w V := by rw [hV]; exact below_set (below_set (below_set (below_set (below_set HB4.out hbb) hbb) hbb) hbb) hbb
   refine bodyPost_ret (results_ct rfl _ _ b2 36 #[.int .i64 e0, .int .i64 e1, .int .i64 e2, .slice Av n3 cv, .slice Aw n4 cw] (0, 0) _ rfl (((below_alloc (Below.refl V.heap.size V) _).block b2 (blk_lt hVb)).trans hVb) Tryz.underlying36 rfl (by kernel_rfl)) rfl ?_
   exact ⟨_, rfl, ((HEV.out.low (b := 0) (fun k hk => hst k (fun e => by have h1 := HSZ.out; omega))).below (below_alloc (Below.refl _ _) _)).lower (by have h1 := HSZ.out; have h2 := HB2E.out; omega), below_next hVB (below_alloc (Below.refl _ _) _)⟩
  ·have HRPL := Lib.hid (fun W (hb : Below w3.heap.size w3 W) v tr => rreply_any w1.heap.size mb fb g W f3 vS3 vF3 vK3 vA3 t (HR3.out.below hb) (Nat.le_trans HB3.out.size hb.size) x AG cG cF AS cS w1 HM.out rfl (below_next HB3.out hb) Inv HO.out HIT.out v tr)
   have HBK := Lib.hid (fun W (hb : Below w3.heap.size w3 W) W5 s5 (h : RP w1.heap.size mb fb g W f3 s5 W5) => (by
    obtain ⟨vS5, vF5, vK5, vA5, f5, h1, h2⟩ := h
    exact ⟨⟨f5, vS5, vF5, vK5, vA5, h1⟩, h2.low (below_next HB3.out hb) HR3.out.gB HR3.out.fB (Nat.le_refl _), fuelW_eq h1⟩ : (∃ f vS vF vK vA, RUN w1.heap.size mb fb W5 g f vS vF vK vA s5) ∧ Below w1.heap.size w1 W5 ∧ fuelW g W5 = s5.fuel))
   have HFL := Lib.hid (show t.fuel < s.fuel from by rw [HT.out]; exact nextR_asks x s HIS.out.2 (by rw [← HT.out]; exact HWT.out.symm))
   have HUN2 := Lib.hid (show runX x ((replyR (l.headD zRep).v (l.headD zRep).tr t).fuel + 1) l.tail (replyR (l.headD zRep).v (l.headD zRep).tr t) = fin from by
    rw [← HUN.out]
    have h1 : runX x (s.fuel + 1) l s = runX x s.fuel l.tail (replyR (l.headD zRep).v (l.headD zRep).tr t) := by
     show (if (nextR x s).waits then _ else _) = _
     rw [← HT.out, ← HWT.out]; rfl
    rw [h1]
    exact runX_more x _ _ _ (replyR_waits _ _ _) (by rw [replyR_fuel]; exact Nat.lt_succ_self _) _ (by rw [replyR_fuel]; exact HFL.out))
   have HIN2 := Lib.hid (show Inv (replyR (l.headD zRep).v (l.headD zRep).tr t) from HREP.out t (l.headD zRep) (by cases l with | nil => exact .inr rfl | cons r l => exact .inl (HL.out r (by simp))) HIT.out HWT.out.symm)
   cases l with
   | nil =>
    go_wp2_with fail
    have hb := below_next (below_alloc (Below.refl w3.heap.size w3) (.cells #[.int .i64 qc, .slice QA qn QC] 81)) (below_alloc (Below.refl _ (w3.alloc (.cells #[.int .i64 qc, .slice QA qn QC] 81))) (.cells #[.int .i64 0, .bool false] 71))
    refine (HRPL.out _ hb 0 false).mono ?_
    rintro e w5 ⟨rfl, hr⟩
    have HX := Lib.hid (HBK.out _ hb w5 _ hr)
    clear hr hb
    go_wp2_with fail
    go_roundw
    case rel => exact ⟨[], replyR 0 false t, A', c', rfl, hlc, hl1, HC, HL, Lib.hid HX.out.1, Lib.hid HX.out.2.1, Lib.hid ⟨HIN2.out, replyR_waits _ _ _⟩, HUN2⟩
    case measure =>
     rw [HX.out.2.2, HFU.out, replyR_fuel]
     exact HFL.out
   | cons r l =>
    obtain ⟨ad, hA', q0, q1⟩ := C_first HC.out
    subst hA'
    obtain ⟨ln, hln⟩ : ∃ ln, ln = l.length := ⟨_, rfl⟩
    rw [show (r :: l).length = l.length + 1 from rfl] at HC
    have hlc2 : l.length + 1 ≤ c' := hlc
    clear hlc
    rw [← hln] at HC hlc2
    have hln2 : ln ≤ 1000000000 := by rw [hln]; have : l.length + 1 ≤ 1000000000 := hl1; omega
    have HQ0 := Lib.hid q0
    have HQ1 := Lib.hid q1
    have hadl := cell_lt q1
    clear q0 q1 hl1
    have hgt : (0 : Int) < (ln : Int) + 1 := by omega
    have hge : (1 : Int) ≤ (ln : Int) + 1 := by omega
    rw [show (r :: l).length = l.length + 1 from rfl, ← hln]
    have HLN := Lib.hid hln
    clear hln
    go_wp2_with fail
    obtain ⟨W4, hW4⟩ : ∃ W4, W4 = (w3.alloc (.cells #[.int .i64 qc, .slice QA qn QC] 81)).alloc (.cells #[.int .i64 0, .bool false] 71) := ⟨_, rfl⟩
    have hb4 : Below w3.heap.size w3 W4 := by rw [hW4]; exact below_next (below_alloc (Below.refl w3.heap.size w3) (.cells #[.int .i64 qc, .slice QA qn QC] 81)) (below_alloc (Below.refl _ (w3.alloc (.cells #[.int .i64 qc, .slice QA qn QC] 81))) (.cells #[.int .i64 0, .bool false] 71))
    obtain ⟨b9, hb9⟩ : ∃ b9, b9 = w3.heap.size + 1 := ⟨_, rfl⟩
    have hx9 : W4.heap[b9]? = some (.cells #[.int .i64 0, .bool false] 71 (0, 0)) := by
     rw [hW4, hb9, show w3.heap.size + 1 = (w3.alloc (.cells #[.int .i64 qc, .slice QA qn QC] 81)).heap.size by simp]
     exact heap_alloc_new _ _
    rw [← hb9, ← hW4]
    have HB4 := Lib.hid hb4
    have HX9 := Lib.hid hx9
    have HB9 := Lib.hid (show w3.heap.size ≤ b9 by omega)
    have hab : ¬ b9 = ad.block := by omega
    clear hW4 hb9 hx9 hb4
    refine wp_region_E (fun w' => w'.cell? ad = some (.int .i64 r.v) ∧ w'.cell? ⟨ad.block, ad.off + 1, none⟩ = some (.bool r.tr)) 5 (by kernel_rfl) ?_
    intro X HX
    have hbX : Below W4.heap.size W4 X := by rw [HX.out]; exact below_drew (Below.refl _ _)
    have HBX := Lib.hid (below_next HB3.out (below_next HB4.out hbX))
    have HLX := Lib.hid (show X.cell? ad = some (.int .i64 r.v) ∧ X.cell? ⟨ad.block, ad.off + 1, none⟩ = some (.bool r.tr) from ⟨(HBX.out.cell (p := ad) hadl).trans HQ0.out, cell_up HBX.out HQ1.out⟩)
    have HXB := Lib.hid ((hbX.block b9 (blk_lt HX9.out)).trans HX9.out)
    have HXN := Lib.hid hbX
    clear hbX
    refine wpAnyE_fr 0 ?v_1 rfl (by kernel_rfl) (fun _ _ _ h => h) (.inr HLX.out) (by rfl) ?h_1 ?r_1
    case h_1 => intro w' hS'; clear hS'; go_simp; try with_reducible rfl
    refine wpAnyE_fr 1 ?v_2 rfl (by kernel_rfl) (fun _ _ _ h => h) (.inr HLX.out) (by rfl) ?h_2 ?r_2
    case h_2 => intro w' hS'; clear hS'; go_simp; try with_reducible rfl
    refine wpAnyE_tk 2 ?v_3 rfl (by kernel_rfl) (fun _ _ _ h => h) HLX.out (by rfl) ?h_3 ?r_3
    case h_3 => intro w' hS'; obtain ⟨s1, s2⟩ := hS'; go_simp; try with_reducible rfl
    refine wpAnyE_fr 3 ?v_4 rfl (by kernel_rfl) (fun _ _ _ h => h) (.inr HLX.out) (by rfl) ?h_4 ?r_4
    case h_4 => intro w' hS'; clear hS'; go_simp; try with_reducible rfl
    refine wpAnyE_fr 4 ?v_5 rfl (by kernel_rfl) (fun _ _ _ h => h) (.inr HLX.out) (by rfl) ?h_5 ?r_5
    case h_5 => intro w' hS'; clear hS'; go_simp; try with_reducible rfl
    have y0 : X.cell? ⟨b9, 0, none⟩ = some (.int .i64 0) := (blk_cell HXB.out 0).trans rfl
    have y1 : X.cell? ⟨b9, 1, none⟩ = some (.bool false) := (blk_cell HXB.out 1).trans rfl
    have g0 := blk_frozen HXB.out 0
    have g1 := blk_frozen HXB.out 1
    refine wpAnyE_one (i := 5) (by kernel_rfl) rfl (fun K hK => ?_)
    go_simp
    refine hK _ _ (.inl (by kernel_rfl)) ?_
    clear hK K
    refine wpAnyE_one (i := 6) (by kernel_rfl) rfl (fun K hK => ?_)
    go_simp
    refine hK _ _ (.inl (by kernel_rfl)) ?_
    clear hK K
    refine wpAnyE_done (by kernel_rfl) ?_ _
    obtain ⟨A2, hA2⟩ : ∃ A2, A2 = if c' = 1 then some ad else some ⟨ad.block, ad.off + 2, none⟩ := ⟨_, rfl⟩
    rw [← hA2]
    have HC2 := Lib.hid (show kRep.C w1 A2 ln l from by
     rw [hA2, HLN.out]
     by_cases h1 : c' = 1
     ·rw [if_pos h1]
      exact C_tail (by rw [HLN.out] at HC; exact HC.out) (fun h => by rw [HLN.out] at hlc2; omega)
     ·rw [if_neg h1]
      exact C_tail (by rw [HLN.out] at HC; exact HC.out) (fun _ => rfl))
    clear hA2 HC
    go_wp2_with fail
    have hb : Below w3.heap.size w3 ((X.setCell ⟨b9, 0, none⟩ (.int .i64 r.v)).setCell ⟨b9, 1, none⟩ (.bool r.tr)) := below_set (below_set (below_next HB4.out HXN.out) HB9.out) HB9.out
    refine (HRPL.out _ hb r.v r.tr).mono ?_
    rintro e w5 ⟨rfl, hr⟩
    have HX5 := Lib.hid (HBK.out _ hb w5 _ hr)
    clear hr hb y0 y1 g0 g1
    go_wp2_with fail
    go_roundw
    case rel => exact ⟨l, replyR r.v r.tr t, A2, c' - 1, by rw [HLN.out], by rw [← HLN.out]; omega, by rw [← HLN.out]; exact hln2, by rw [← HLN.out]; exact HC2, Lib.hid (fun q hq => HL.out q (List.mem_cons_of_mem _ hq)), Lib.hid HX5.out.1, Lib.hid HX5.out.2.1, Lib.hid ⟨HIN2.out, replyR_waits _ _ _⟩, HUN2⟩
    case measure =>
     rw [HX5.out.2.2, HFU.out, replyR_fuel]
     exact HFL.out
theorem exec_any (T : Nat → ByteArray × ByteArray) (x : SImage) (v : Value) (w : World) (hv : VImage w x v) (hs : imgSmall 1000000 x) (hG : Nib w) (hT : Pln T w) (hTK : TOK T) (A : Option Addr) (c : Nat) (state : List (List Int)) (hS : kInts.C w A state.length state) (fn : Int) (Ba : Option Addr) (d : Nat) (args : List Int) (hA : (Kd.int .i64).C w Ba args.length args) (fuel : Int) (Ar : Option Addr) (cr : Nat) (rs : List SRep) (hRs : kRep.C w Ar rs.length rs) (hrc : rs.length ≤ cr) (hs1 : state.length ≤ 1000000) (hsl : ∀ r ∈ state, r.length ≤ 1000000) (ha1 : args.length ≤ 2000000) (hr1 : rs.length ≤ 1000000000)
  (hInv : (verifyS T x).1 = 0 → rightR x state fn args fuel = true → ∃ Inv : SRun → Prop, InvOK x Inv ∧ Inv (beginR x state fn args fuel) ∧ ∀ s r, (r ∈ rs ∨ r = zRep) → Inv s → s.waits = true → Inv (replyR r.v r.tr s)) :
  Calls Tryz.prog 11 #[v, .slice A state.length c, .int .i64 fn, .slice Ba args.length d, .int .i64 fuel, .slice Ar rs.length cr] w (ExecPost w (execR T x state fn args fuel rs)) := by
 unfold execR
 by_cases hok : (verifyS T x).1 = 0
 ·rw [if_pos hok]
  cases hrt : rightR x state fn args fuel
  ·rw [if_neg (by decide)]
   exact exec_no T x v w hv hs hG hT hTK hok A c state hS fn Ba d args hA fuel Ar cr rs hRs hrc hs1 hsl ha1 hr1 hrt
  ·rw [if_pos rfl]
   obtain ⟨Inv, hO, hI, hRep⟩ := hInv hok hrt
   exact exec_yes T x v w hv hs hG hT hTK hok A c state hS fn Ba d args hA fuel Ar cr rs hRs hrc hs1 hsl ha1 hr1 hrt Inv hO hI hRep
 ·rw [if_neg hok]
  exact exec_bad T x v w hv hs hG hT hTK hok A c state hS fn Ba d args hA fuel Ar cr rs hRs hrc hs1 hsl ha1 hr1
set_option maxHeartbeats 2000000
/-! ### What verify.function noted is closed under its steps: plain -/
theorem swapL_back (xs : List Int) (i j : Nat) (hi : i < xs.length) (hj : j < xs.length) (x : Int) (h : x ∈ xs) : x ∈ swapL xs i j := by
 obtain ⟨n, hn, rfl⟩ := List.getElem_of_mem h
 have gi : xs.getD i 0 = xs[i] := by rw [List.getD_eq_getElem?_getD, List.getElem?_eq_getElem hi]; rfl
 have gj : xs.getD j 0 = xs[j] := by rw [List.getD_eq_getElem?_getD, List.getElem?_eq_getElem hj]; rfl
 rw [List.mem_iff_getElem?]
 unfold swapL
 rw [gi, gj]
 by_cases e1 : n = i
 ·subst e1
  exact ⟨j, by rw [List.getElem?_set_self (by simpa using hj)]⟩
 ·by_cases e2 : n = j
  ·subst e2
   exact ⟨i, by rw [List.getElem?_set_ne e1, List.getElem?_set_self hi]⟩
  ·exact ⟨n, by rw [List.getElem?_set_ne (Ne.symm e2), List.getElem?_set_ne (Ne.symm e1), List.getElem?_eq_getElem hn]⟩
theorem upL_back (xs : List Int) (j : Nat) (hj : j < xs.length) (x : Int) (h : x ∈ xs) : x ∈ upL xs j := by
 fun_induction upL xs j with
 | case1 => exact h
 | case2 xs j hc ih =>
  have hi : (j - 1) / 2 < xs.length := by omega
  exact ih (by rw [swapL_length]; exact hi) (swapL_back xs _ _ hi hj x h)
theorem pushL_back (xs : List Int) (y x : Int) (h : x ∈ xs ∨ x = y) : x ∈ pushL xs y :=
 upL_back (xs ++ [y]) xs.length (by simp) x (by simpa using h)
theorem downL_back (n : Nat) (xs : List Int) (i : Nat) (hn : n ≤ xs.length) (x : Int) (h : x ∈ xs) : x ∈ downL n xs i := by
 fun_induction downL n xs i with
 | case1 xs i hc h2 ih =>
  have hc2 := childL_lt n xs i hc
  exact ih (by rw [swapL_length]; exact hn) (swapL_back xs _ _ (by omega) (by omega) x h)
 | case2 => exact h
 | case3 => exact h
theorem popL_back (xs : List Int) (x : Int) (h0 : 0 < xs.length) (h : x ∈ xs) : x ∈ popL xs := by
 unfold popL
 exact downL_back _ _ _ (by rw [swapL_length]; omega) x (swapL_back xs _ _ h0 (by omega) x h)
theorem popS_back (st : VSt) (h0 : 0 < st.waits.length) (k : Int) (h : k ∈ st.waits) : k = topS st ∨ k ∈ (popS st).waits := by
 have h1 := popL_back st.waits k h0 h
 obtain ⟨n, hn, e⟩ := List.getElem_of_mem h1
 have hn2 := hn
 rw [popL_length] at hn2
 by_cases hl : n = st.waits.length - 1
 ·left
  unfold topS
  rw [List.getD_eq_getElem?_getD, ← hl, List.getElem?_eq_getElem hn, e]; rfl
 ·right
  show k ∈ (popL st.waits).take (st.waits.length - 1)
  rw [List.mem_iff_getElem?]
  exact ⟨n, by rw [List.getElem?_take, if_pos (by omega), List.getElem?_eq_getElem hn, e]⟩
structure Ext (st st' : VSt) : Prop where
 kept : ∀ k s, st.noted.lookup k = some s → st'.noted.lookup k = some s
 new : ∀ k s, st'.noted.lookup k = some s → st.noted.lookup k = some s ∨ k ∈ st'.waits
 wait : ∀ k, k ∈ st.waits → k ∈ st'.waits
theorem Ext.refl (st : VSt) : Ext st st := ⟨fun _ _ h => h, fun _ _ h => .inl h, fun _ h => h⟩
theorem Ext.trans {a b c : VSt} (h : Ext a b) (h' : Ext b c) : Ext a c :=
 ⟨fun k s hk => h'.kept k s (h.kept k s hk), fun k s hk => by
  rcases h'.new k s hk with h1 | h1
  ·rcases h.new k s h1 with h2 | h2
   ·exact .inl h2
   ·exact .inr (h'.wait k h2)
  ·exact .inr h1, fun k hk => h'.wait k (h.wait k hk)⟩
theorem toList_inj {s t : ByteArray} (h : (s.toList == t.toList) = true) : s = t := by
 have h1 : s.toList = t.toList := eq_of_beq h
 rw [ByteArray.toList_eq, ByteArray.toList_eq] at h1
 have h2 : s.data = t.data := Array.toList_inj.1 h1
 cases s; cases t; cases h2; rfl
theorem goesS_ext (f : SFn) (nn : Int) (st : VSt) (fr dst : Int) (s : ByteArray) (h : (goesS f nn st fr dst s).1 = true) :
  Ext st (goesS f nn st fr dst s).2 ∧ (goesS f nn st fr dst s).2.noted.lookup dst = some s := by
 unfold goesS at h ⊢
 by_cases e : dst = f.f4.length
 ·rw [if_pos e] at h; cases h
 ·rw [if_neg e] at h ⊢
  cases hl : st.noted.lookup dst with
  | some old =>
   rw [hl] at h
   simp only at h ⊢
   by_cases hq : (old.toList == s.toList) = true
   ·rw [if_pos hq]
    exact ⟨Ext.refl _, by rw [hl, toList_inj hq]⟩
   ·rw [if_neg hq] at h; cases h
  | none =>
   simp only
   refine ⟨⟨fun k t hk => ?_, fun k t hk => ?_, fun k hk => pushL_back _ _ _ (.inl hk)⟩, ?_⟩
   ·rw [List.lookup_append, hk]; rfl
   ·rw [List.lookup_append] at hk
    cases hk2 : st.noted.lookup k with
    | some v => rw [hk2] at hk; exact .inl hk
    | none =>
     rw [hk2] at hk
     simp only [Option.none_or, List.lookup] at hk
     split at hk
     ·rename_i he
      exact .inr (pushL_back _ _ _ (.inr (by simpa using he)))
     ·cases hk
   ·rw [List.lookup_append, hl]
    simp [List.lookup]
section
variable (T : Nat → ByteArray × ByteArray) (x : SImage) (f : SFn) (nn : Int)
/-- an instruction that was looked at, and found right -/
structure Looked (st : VSt) (k : Int) (s : ByteArray) : Prop where
 ok : (meansS T x f (zi f.f4 k.toNat)).2.2 = true
 en : endsB s (meansS T x f (zi f.f4 k.toNat)).1 = true
 sz : (cutS s (meansS T x f (zi f.f4 k.toNat)).1 (meansS T x f (zi f.f4 k.toNat)).2.1).size ≤ 400
 ret : (zi f.f4 k.toNat).f0 = 32 → (cutS s (meansS T x f (zi f.f4 k.toNat)).1 (meansS T x f (zi f.f4 k.toNat)).2.1).toList = []
 jmp : (zi f.f4 k.toNat).f0 = 28 ∨ (zi f.f4 k.toNat).f0 = 29 → st.noted.lookup (zi f.f4 k.toNat).f1 = some (cutS s (meansS T x f (zi f.f4 k.toNat)).1 (meansS T x f (zi f.f4 k.toNat)).2.1)
 nxt : ¬ ((zi f.f4 k.toNat).f0 = 28 ∨ (zi f.f4 k.toNat).f0 = 32) → st.noted.lookup (k + 1) = some (cutS s (meansS T x f (zi f.f4 k.toNat)).1 (meansS T x f (zi f.f4 k.toNat)).2.1)
theorem Looked.ext {st st' : VSt} {k : Int} {s : ByteArray} (h : Looked T x f st k s) (e : ∀ k s, st.noted.lookup k = some s → st'.noted.lookup k = some s) : Looked T x f st' k s :=
 ⟨h.ok, h.en, h.sz, h.ret, fun c => e _ _ (h.jmp c), fun c => e _ _ (h.nxt c)⟩
theorem onS_ext (st : VSt) (k : Nat) (i : SInstr) (s : ByteArray) (h : (onS f nn st k i s).1 = true) :
  Ext st (onS f nn st k i s).2 ∧ (i.f0 = 28 ∨ i.f0 = 29 → (onS f nn st k i s).2.noted.lookup i.f1 = some s) ∧ (¬ (i.f0 = 28 ∨ i.f0 = 32) → (onS f nn st k i s).2.noted.lookup ((k : Int) + 1) = some s) := by
 unfold onS at h ⊢
 simp only at h ⊢
 have hr : (if i.f0 = 28 ∨ i.f0 = 29 then goesS f nn st k i.f1 s else (true, st)).1 = true → Ext st (if i.f0 = 28 ∨ i.f0 = 29 then goesS f nn st k i.f1 s else (true, st)).2 ∧ (i.f0 = 28 ∨ i.f0 = 29 → (if i.f0 = 28 ∨ i.f0 = 29 then goesS f nn st k i.f1 s else (true, st)).2.noted.lookup i.f1 = some s) := by
  intro h1
  by_cases hc : i.f0 = 28 ∨ i.f0 = 29
  ·rw [if_pos hc] at h1 ⊢
   have := goesS_ext f nn st k i.f1 s h1
   exact ⟨this.1, fun _ => this.2⟩
  ·rw [if_neg hc]
   exact ⟨Ext.refl _, fun c => absurd c hc⟩
 generalize (if i.f0 = 28 ∨ i.f0 = 29 then goesS f nn st k i.f1 s else (true, st)) = r at h hr ⊢
 by_cases h1 : r.1 = true
 ·rw [if_pos h1] at h ⊢
  obtain ⟨e1, e2⟩ := hr h1
  by_cases hc : i.f0 = 28 ∨ i.f0 = 32
  ·rw [if_pos hc]
   exact ⟨e1, e2, fun c => absurd hc c⟩
  ·rw [if_neg hc] at h ⊢
   have h3 := goesS_ext f nn r.2 k (k + 1) s h
   exact ⟨e1.trans h3.1, fun c => h3.1.kept _ _ (e2 c), fun _ => h3.2⟩
 ·rw [if_neg h1] at h; cases h
theorem lookS_ext (st : VSt) (k : Nat) (s : ByteArray) (hs : st.noted.lookup (k : Int) = some s) (h : (lookS T x f nn st k).1 = true) :
  Ext st (lookS T x f nn st k).2 ∧ Looked T x f (lookS T x f nn st k).2 k s := by
 have hstk : stackAt st k = s := by unfold stackAt; rw [hs]; rfl
 unfold lookS at h ⊢
 simp only [hstk] at h ⊢
 by_cases h1 : (meansS T x f (zi f.f4 k)).2.2 = true
 ·rw [if_pos h1] at h ⊢
  by_cases h2 : endsB s (meansS T x f (zi f.f4 k)).1 = true
  ·rw [if_pos h2] at h ⊢
   by_cases h3 : 400 < (cutS s (meansS T x f (zi f.f4 k)).1 (meansS T x f (zi f.f4 k)).2.1).size ∨ ((zi f.f4 k).f0 = 32 ∧ ((cutS s (meansS T x f (zi f.f4 k)).1 (meansS T x f (zi f.f4 k)).2.1).toList == []) = false)
   ·rw [if_pos h3] at h; cases h
   ·rw [if_neg h3] at h ⊢
    have h4 := onS_ext f nn _ k (zi f.f4 k) _ h
    refine ⟨⟨h4.1.kept, h4.1.new, h4.1.wait⟩, ⟨?_, ?_, ?_, ?_, ?_, ?_⟩⟩
    all_goals simp only [Int.toNat_natCast]
    ·exact h1
    ·exact h2
    ·have := fun c => h3 (.inl c); omega
    ·intro c
     cases hd : ((cutS s (meansS T x f (zi f.f4 k)).1 (meansS T x f (zi f.f4 k)).2.1).toList == [])
     ·exact absurd (.inr ⟨c, hd⟩) h3
     ·exact eq_of_beq hd
    ·exact h4.2.1
    ·exact h4.2.2
  ·rw [if_neg h2] at h; cases h
 ·rw [if_neg h1] at h; cases h
def Clo (st : VSt) : Prop := st.noted.lookup 0 = some ⟨#[]⟩ ∧ ∀ k s, st.noted.lookup k = some s → k ∈ st.waits ∨ Looked T x f st k s
theorem stepS_clo (st : VSt) (hi : INV f.f4.length st) (h0 : 0 < st.waits.length) (hc : Clo T x f st) (h : (stepS T x f nn st).1 = true) : Clo T x f (stepS T x f nn st).2 := by
 have hk := hi.wt _ (topS_mem st h0)
 obtain ⟨p, hp, hpe⟩ := List.mem_map.1 hk
 have hr := hi.rng p hp
 have he : ((topS st).toNat : Int) = topS st := by omega
 obtain ⟨s, hs⟩ := lookup_of_key hk
 have h1 := lookS_ext T x f nn (popS st) (topS st).toNat s (by rw [he]; exact hs) h
 refine ⟨h1.1.kept _ _ hc.1, fun k t hkt => ?_⟩
 rcases h1.1.new k t hkt with h2 | h2
 ·rcases hc.2 k t h2 with h3 | h3
  ·rcases popS_back st h0 k h3 with h4 | h4
   ·have h5 : s = t := by
     have h6 : st.noted.lookup k = some t := h2
     rw [h4] at h6
     rw [hs] at h6
     injection h6
    have h7 := h1.2
    rw [he] at h7
    rw [h4, ← h5]
    exact .inr h7
   ·exact .inl (h1.1.wait k h4)
  ·exact .inr (h3.ext T x f h1.1.kept)
 ·exact .inl h2
theorem runS_clo (hX : ImgOK x) (hF : FnOK f) (hT : TOK T) : ∀ (n : Nat) (r : Bool × VSt), INV f.f4.length r.2 → Clo T x f r.2 → (runS T x f nn n r).1 = true → Clo T x f (runS T x f nn n r).2
 | 0, r, _, h, _ => h
 | n + 1, r, hi, h, ht => by
  by_cases hg : goOn r = true
  ·have e : runS T x f nn (n + 1) r = runS T x f nn n (stepS T x f nn r.2) := by
    show (if goOn r then runS T x f nn n (stepS T x f nn r.2) else r) = _
    rw [if_pos hg]
   have h0 : 0 < r.2.waits.length := by
    unfold goOn at hg; rw [Bool.and_eq_true] at hg; exact of_decide_eq_true hg.2
   rw [e] at ht ⊢
   have hs : (stepS T x f nn r.2).1 = true := by
    cases hc : (stepS T x f nn r.2).1
    ·rw [show stepS T x f nn r.2 = (false, (stepS T x f nn r.2).2) from by rw [← hc], runS_false] at ht; cases ht
    ·rfl
   exact runS_clo hX hF hT n _ (stepS_inv T x f nn r.2 hi hX hF hT h0).1 (stepS_clo T x f nn r.2 hi h0 h hs) ht
  ·rw [runS_stop T x f nn r (Bool.eq_false_iff.2 hg)]
   exact h
/-- all that was noted was looked at -/
theorem fn_closed (hX : ImgOK x) (hF : FnOK f) (hT : TOK T) (h : (fnS T x f nn).2.fc = 0) :
  (fnS T x f nn).2.noted.lookup 0 = some ⟨#[]⟩ ∧ ∀ k s, (fnS T x f nn).2.noted.lookup k = some s → (0 ≤ k ∧ k < f.f4.length ∧ s.size ≤ 400) ∧ Looked T x f (fnS T x f nn).2 k s := by
 have hok := fnS_ok h
 obtain ⟨hi, hmu⟩ := beginS_inv f nn
 have hb : (beginS f nn).1 = true := by
  cases hc : (beginS f nn).1
  ·unfold fnS at hok
   rw [show beginS f nn = (false, (beginS f nn).2) from by rw [← hc], runS_false] at hok; cases hok
  ·rfl
 have hx := goesS_ext f nn st0 0 0 ⟨#[]⟩ hb
 have hc0 : Clo T x f (beginS f nn).2 := ⟨hx.2, fun k s hk => by
  rcases hx.1.new k s hk with h1 | h1
  ·cases h1
  ·exact .inl h1⟩
 have hcl := runS_clo T x f nn hX hF hT _ _ hi hc0 hok
 have hend := runS_ends T x f nn hX hF hT (2 * f.f4.length + 1) (beginS f nn) hi (by omega)
 have hw : ¬ 0 < (fnS T x f nn).2.waits.length := by
  intro hp
  have : goOn (fnS T x f nn) = true := by unfold goOn; rw [hok, decide_eq_true hp]; rfl
  unfold fnS at this
  rw [hend] at this; cases this
 have hI := fnS_inv T x f nn hX hF hT
 refine ⟨hcl.1, fun k s hk => ⟨?_, ?_⟩⟩
 ·obtain ⟨j, hj⟩ := lookup_mem hk
  have := hI.rng _ (List.mem_of_getElem? hj)
  exact this
 ·rcases hcl.2 k s hk with h1 | h1
  ·have : 0 < (fnS T x f nn).2.waits.length := List.length_pos_of_mem h1
   exact absurd this hw
  ·exact h1
end
/-! ### Values of a type: plain -/
def In (v : Int) : Prop := -9223372036854775808 ≤ v ∧ v ≤ 9223372036854775807
def VL (c : UInt8) (v : Int) : Prop := In v ∧ (c = 98 → v = 0 ∨ v = 1)
theorem In_wrap (x : Int) : In (wrap64 x) := by unfold In wrap64; omega
theorem In_bit (b : Bool) : In (bitV b) ∧ (bitV b = 0 ∨ bitV b = 1) := by cases b <;> (unfold bitV In; simp)
theorem VL_bit (c : UInt8) (b : Bool) : VL c (bitV b) := ⟨(In_bit b).1, fun _ => (In_bit b).2⟩
theorem In_0 : In 0 := by unfold In; omega
theorem VL_0 (c : UInt8) : VL c 0 := ⟨In_0, fun _ => .inl rfl⟩
theorem end_in (b : Bool) (r : Int) (h : fix_end.f b = some r) : In r := by
 unfold fix_end.f at h
 split at h <;> (injection h with h; subst h; unfold In; omega)
theorem signed_in (a b : Int) (c : Bool) (r : Int) (h : fix_signed.f 1 a b c = some r) : In r := by
 have hj : ∀ x y z r, fix_signed.j0 1 x y z = some r → In r := by
  intro x y z r h
  replace h : (if z = true then (if y = true then (some (-9223372036854775808)) else (some 9223372036854775807)) else (if y = true then (some (wrap64 (-(wrap64 (x))))) else (some (wrap64 (x))))) = some r := h
  split at h <;> split at h <;> injection h with h <;> subst h
  ·unfold In; omega
  ·unfold In; omega
  ·exact In_wrap _
  ·exact In_wrap _
 unfold fix_signed.f at h
 split at h
 ·exact hj _ _ _ _ h
 ·exact hj _ _ _ _ h
theorem bind_in {α : Type} {o : Option α} {g : α → Option Int} (hg : ∀ x r, o = some x → g x = some r → In r) (r : Int) (h : o.bind g = some r) : In r := by
 cases o with
 | none => cases h
 | some x => exact hg x r rfl h
theorem pass_in {o : Option Int} (ho : ∀ r, o = some r → In r) (r : Int) (h : (o.bind fun t => some t) = some r) : In r :=
 bind_in (fun x r h1 h => by injection h with h; subst h; exact ho _ h1) r h
theorem some_in {o : Option Int} (h : ∀ r, o = some r → In r) : In (o.getD 0) := by
 cases o with
 | none => exact In_0
 | some x => exact h x rfl
theorem wrap_in (x r : Int) (h : some (wrap64 x) = some r) : In r := by injection h with h; subst h; exact In_wrap _
theorem add_in (a b : Int) : In (addF a b) := by
 refine some_in (fun r h => ?_)
 unfold fix_Add.f at h
 split at h
 ·split at h
  ·exact pass_in (end_in _) r h
  ·exact wrap_in _ _ h
 ·exact wrap_in _ _ h
theorem sub_in (a b : Int) : In (subF a b) := by
 refine some_in (fun r h => ?_)
 unfold fix_Sub.f at h
 split at h
 ·split at h
  ·exact pass_in (end_in _) r h
  ·exact wrap_in _ _ h
 ·exact wrap_in _ _ h
theorem mul_in (a b : Int) : In (mulF a b) := by
 refine some_in (fun r h => ?_)
 unfold fix_Mul.f at h
 exact bind_in (fun _ r _ h => bind_in (fun _ r _ h => bind_in (fun _ r _ h => pass_in (signed_in _ _ _) r h) r h) r h) r h
theorem from_in (a : Int) : In (fromF a) := by
 refine some_in (fun r h => ?_)
 unfold fix_From.f at h
 exact bind_in (fun _ r _ h => pass_in (signed_in _ _ _) r h) r h
theorem to_in (a : Int) : In (toF a) := by
 refine some_in (fun r h => ?_)
 unfold fix_To.f at h
 exact bind_in (fun _ r _ h => pass_in (signed_in _ _ _) r h) r h
theorem div_in (a b : Int) : In (divF a b) := some_in (fun r h => signed_in _ _ _ r h)
theorem mod_in (a b : Int) (ha : In a) : In (a.tmod b) := by
 unfold In at ha ⊢
 have h1 : (a.tmod b).natAbs ≤ a.natAbs := by
  rw [Int.natAbs_tmod]; exact Nat.mod_le _ _
 by_cases h0 : 0 ≤ a
 ·omega
 ·have h2 : 0 ≤ (-a).tmod b := Int.tmod_nonneg _ (by omega)
  rw [Int.neg_tmod] at h2
  omega
/-- what an instruction makes of two values, of one -/
theorem two_in (op a b : Int) (ha : In a) : In (twoV op a b) ∧ (19 ≤ op → twoV op a b = 0 ∨ twoV op a b = 1) := by
 unfold twoV
 by_cases h8 : op = 8
 ·rw [if_pos h8]; exact ⟨In_wrap _, fun h => by omega⟩
 rw [if_neg h8]
 by_cases h9 : op = 9
 ·rw [if_pos h9]; exact ⟨In_wrap _, fun h => by omega⟩
 rw [if_neg h9]
 by_cases h10 : op = 10
 ·rw [if_pos h10]; exact ⟨In_wrap _, fun h => by omega⟩
 rw [if_neg h10]
 by_cases h11 : op = 11
 ·rw [if_pos h11]; exact ⟨In_wrap _, fun h => by omega⟩
 rw [if_neg h11]
 by_cases h12 : op = 12
 ·rw [if_pos h12]; exact ⟨mod_in _ _ ha, fun h => by omega⟩
 rw [if_neg h12]
 by_cases h14 : op = 14
 ·rw [if_pos h14]; exact ⟨add_in _ _, fun h => by omega⟩
 rw [if_neg h14]
 by_cases h15 : op = 15
 ·rw [if_pos h15]; exact ⟨sub_in _ _, fun h => by omega⟩
 rw [if_neg h15]
 by_cases h16 : op = 16
 ·rw [if_pos h16]; exact ⟨mul_in _ _, fun h => by omega⟩
 rw [if_neg h16]
 by_cases h17 : op = 17
 ·rw [if_pos h17]; exact ⟨div_in _ _, fun h => by omega⟩
 rw [if_neg h17]
 have hb : ∀ c : Bool, In (bitV c) ∧ (19 ≤ op → bitV c = 0 ∨ bitV c = 1) := fun c => ⟨(In_bit c).1, fun _ => (In_bit c).2⟩
 split
 ·exact hb _
 split
 ·exact hb _
 split
 ·exact hb _
 split
 ·exact hb _
 split
 ·exact hb _
 ·exact hb _
theorem one_in (op v : Int) (hv : op = 25 → v = 0 ∨ v = 1) : In (oneV op v) ∧ (op = 25 → oneV op v = 0 ∨ oneV op v = 1) := by
 unfold oneV
 by_cases h13 : op = 13
 ·rw [if_pos h13]; exact ⟨In_wrap _, fun h => by omega⟩
 rw [if_neg h13]
 by_cases h18 : op = 18
 ·rw [if_pos h18]; exact ⟨sub_in _ _, fun h => by omega⟩
 rw [if_neg h18]
 by_cases h25 : op = 25
 ·rw [if_pos h25]
  rcases hv h25 with rfl | rfl
  ·rw [show bits .xor .i64 0 1 = 1 by decide]; exact ⟨by unfold In; omega, fun _ => .inr rfl⟩
  ·rw [show bits .xor .i64 1 1 = 0 by decide]; exact ⟨by unfold In; omega, fun _ => .inl rfl⟩
 rw [if_neg h25]
 by_cases h26 : op = 26
 ·rw [if_pos h26]; exact ⟨from_in _, fun h => absurd h h25⟩
 rw [if_neg h26]
 exact ⟨to_in _, fun h => absurd h h25⟩
theorem szF_ne (a : Int) (ha : In a) (h : a ≠ 0) : szF a ≠ 0 := by
 unfold szF fix_size.f
 unfold In at ha
 by_cases h0 : a < 0
 ·rw [if_pos h0, Option.getD_some, IntKind.wrap_u64, IntKind.wrap_u64]; omega
 ·rw [if_neg h0, Option.getD_some, IntKind.wrap_u64]; omega
/-- a push's bool -/
theorem push_bool (v : Int) (hv : In v) (h : bits .andNot .i64 v 1 = 0) : v = 0 ∨ v = 1 := by
 have h1 : IntKind.i64.wrap ((BitVec.ofInt 64 v &&& ~~~(BitVec.ofInt 64 1)).toNat : Int) = 0 := h
 rw [IntKind.wrap_i64] at h1
 have h2 := (BitVec.ofInt 64 v &&& ~~~(BitVec.ofInt 64 1)).isLt
 have h3 : (BitVec.ofInt 64 v &&& ~~~(BitVec.ofInt 64 1)).toNat = 0 := by
  obtain ⟨n, hn⟩ : ∃ n, n = (BitVec.ofInt 64 v &&& ~~~(BitVec.ofInt 64 1)).toNat := ⟨_, rfl⟩
  rw [← hn] at h1 h2 ⊢
  omega
 have h4 : BitVec.ofInt 64 v &&& ~~~(BitVec.ofInt 64 1) = 0#64 := BitVec.eq_of_toNat_eq (by rw [h3]; rfl)
 have h5 : (BitVec.ofInt 64 v).toNat / 2 = 0 := by
  apply Nat.eq_of_testBit_eq
  intro i
  rw [Nat.testBit_div_two, Nat.zero_testBit, ← BitVec.getLsbD]
  have h6 := congrArg (fun b : BitVec 64 => b.getLsbD (i + 1)) h4
  simp only [BitVec.getLsbD_and, BitVec.getLsbD_not, BitVec.getLsbD_zero] at h6
  by_cases hl : i + 1 < 64
  ·have h7 : (BitVec.ofInt 64 1).getLsbD (i + 1) = false := by
    rw [show BitVec.ofInt 64 1 = 1#64 by rfl, BitVec.getLsbD_one]; simp
   rw [h7, decide_eq_true hl] at h6
   simpa using h6
  ·exact BitVec.getLsbD_of_ge _ _ (by omega)
 have h8 := BitVec.toNat_ofInt (n := 64) v
 rw [h8] at h5
 unfold In at hv
 omega
/-! ### Typed stacks, typed states, a run's invariant: plain -/
def bl (s : ByteArray) : List UInt8 := s.data.toList
def TS : List UInt8 → List Int → Prop
 | [], [] => True
 | c :: l, v :: vs => VL c v ∧ TS l vs
 | _, _ => False
theorem TS_length : ∀ {l : List UInt8} {vs : List Int}, TS l vs → l.length = vs.length
 | [], [], _ => rfl
 | c :: l, v :: vs, h => by simp [TS_length h.2]
 | [], _ :: _, h => h.elim
 | _ :: _, [], h => h.elim
theorem TS_append : ∀ {l : List UInt8} {vs : List Int} {l' : List UInt8} {vs' : List Int}, TS l vs → TS l' vs' → TS (l ++ l') (vs ++ vs')
 | [], [], _, _, _, h => h
 | c :: l, v :: vs, _, _, h, h' => ⟨h.1, TS_append h.2 h'⟩
 | [], _ :: _, _, _, h, _ => h.elim
 | _ :: _, [], _, _, h, _ => h.elim
theorem TS_split : ∀ {l l' : List UInt8} {vs : List Int}, TS (l ++ l') vs → ∃ a b, vs = a ++ b ∧ TS l a ∧ TS l' b
 | [], l', vs, h => ⟨[], vs, rfl, trivial, h⟩
 | c :: l, l', [], h => h.elim
 | c :: l, l', v :: vs, h => by
  obtain ⟨a, b, rfl, h1, h2⟩ := TS_split (l := l) h.2
  exact ⟨v :: a, b, rfl, ⟨h.1, h1⟩, h2⟩
theorem TS_get : ∀ {l : List UInt8} {vs : List Int}, TS l vs → ∀ i, i < l.length → VL (l.getD i 0) (vs.getD i 0)
 | [], [], _, i, hi => by simp at hi
 | c :: l, v :: vs, h, 0, _ => h.1
 | c :: l, v :: vs, h, i + 1, hi => TS_get h.2 i (by simpa using hi)
 | [], _ :: _, h, _, _ => h.elim
 | _ :: _, [], h, _, _ => h.elim
theorem TS_set : ∀ {l : List UInt8} {vs : List Int}, TS l vs → ∀ i v, VL (l.getD i 0) v → TS l (vs.set i v)
 | [], [], h, i, v, _ => h
 | c :: l, w :: vs, h, 0, v, hv => ⟨hv, h.2⟩
 | c :: l, w :: vs, h, i + 1, v, hv => ⟨h.1, TS_set h.2 i v hv⟩
 | [], _ :: _, h, _, _, _ => h.elim
 | _ :: _, [], h, _, _, _ => h.elim
theorem TS_one {c : UInt8} {v : Int} (h : VL c v) : TS [c] [v] := ⟨h, trivial⟩
theorem TS_nil' {vs : List Int} (h : TS [] vs) : vs = [] := by
 match vs, h with
 | [], _ => rfl
theorem TS_zero : ∀ (l : List UInt8), TS l (List.replicate l.length 0)
 | [] => trivial
 | c :: l => ⟨VL_0 c, TS_zero l⟩
theorem letter_b (t : Int) : letterOf t = 98 ↔ t = 3 := by
 unfold letterOf
 repeat' split
 all_goals constructor
 all_goals intro h
 all_goals first
  | (exfalso; revert h; decide)
  | omega
  | rfl
theorem VL_letter (t : Int) (v : Int) (h : In v) (hb : t = 3 → v = 0 ∨ v = 1) : VL (letterOf t) v := ⟨h, fun e => hb ((letter_b t).1 e)⟩
def lets (l : List Int) : List UInt8 := l.map letterOf
theorem bl_row (l : List Int) : bl (rowS l) = lets l := by unfold bl rowS lets; simp
def resL (t : Int) : List UInt8 := if t = 0 then [] else [letterOf t]
theorem bl_result (t : Int) : bl (resultS t) = resL t := by
 unfold resultS resL
 split
 ·rfl
 ·rw [bl_row]; rfl
/-- typed states -/
def ST (gs : List SGlob) (state : List (List Int)) : Prop := state.length = gs.length ∧ ∀ i, i < gs.length → (state.getD i []).length = sizeG (gs.getD i zGlob) ∧ ∀ v ∈ state.getD i [], VL (letterOf (gs.getD i zGlob).f0) v
theorem ST_set {gs : List SGlob} {state : List (List Int)} (h : ST gs state) (i j : Nat) (v : Int) (hi : i < gs.length) (hv : VL (letterOf (gs.getD i zGlob).f0) v) : ST gs (state.set i ((state.getD i []).set j v)) := by
 refine ⟨by rw [List.length_set]; exact h.1, fun k hk => ?_⟩
 have h2 := h.2 k hk
 by_cases e : i = k
 ·subst e
  rw [List.getD_eq_getElem?_getD, List.getElem?_set_self (by rw [h.1]; exact hi)]
  refine ⟨by rw [Option.getD_some, List.length_set]; exact h2.1, fun u hu => ?_⟩
  rw [Option.getD_some] at hu
  rcases List.mem_or_eq_of_mem_set hu with hu | hu
  ·exact h2.2 u hu
  ·rw [hu]; exact hv
 ·rw [List.getD_eq_getElem?_getD, List.getElem?_set_ne e, ← List.getD_eq_getElem?_getD]
  exact h2
section
variable (T : Nat → ByteArray × ByteArray) (x : SImage)
def OKs : List UInt8 → List SFrm → List Int → Prop
 | _, [], stack => stack = []
 | pend, fr :: fs, stack => fr.fi < x.fns.length ∧ TS (lets (x.fns.getD fr.fi zFn).f3) fr.loc ∧ ∃ (s : ByteArray) (low seg : List Int) (l : List UInt8), stack = low ++ seg ∧ fr.base = low.length ∧ (fnAt T x fr.fi).noted.lookup (fr.at_ : Int) = some s ∧ bl s = l ++ pend ∧ TS l seg ∧ OKs (resL (x.fns.getD fr.fi zFn).f2) fs low
/-- an image that is right, as it is used here -/
structure XOK : Prop where
 lf : x.fns.length ≤ 64
 lg : x.globs.length ≤ 64
 img : ImgOK x
 fl : ∀ f ∈ x.fns, f.f1.length ≤ 8 ∧ f.f3.length ≤ 32 ∧ f.f1.length ≤ f.f3.length ∧ f.f4.length ≤ 32768 ∧ f.f1 = f.f3.take f.f1.length
 gl : ∀ g ∈ x.globs, 0 ≤ g.f1 ∧ g.f1 ≤ 256
 ins : ∀ f ∈ x.fns, ∀ i ∈ f.f4, In i.f1
 noted : ∀ n, n < x.fns.length → (fnAt T x n).noted.lookup 0 = some ⟨#[]⟩ ∧ ∀ k s, (fnAt T x n).noted.lookup k = some s → (0 ≤ k ∧ k < (x.fns.getD n zFn).f4.length ∧ s.size ≤ 400) ∧ Looked T x (x.fns.getD n zFn) (fnAt T x n) k s
variable {T x}
theorem bl_size (s : ByteArray) : (bl s).length = s.size := by unfold bl ByteArray.size; simp
theorem OKs_len (hX : XOK T x) : ∀ {pend : List UInt8} {fs : List SFrm} {stack : List Int}, OKs T x pend fs stack → stack.length ≤ 400 * fs.length
 | _, [], stack, h => by rw [show stack = [] from h]; simp
 | pend, fr :: fs, stack, ⟨h1, h2, s, low, seg, l, e, _, hn, hb, ht, ho⟩ => by
  have h3 := OKs_len hX ho
  have h4 := ((hX.noted fr.fi h1).2 _ _ hn).1.2.2
  have h5 := TS_length ht
  have h6 := bl_size s
  rw [hb, List.length_append] at h6
  rw [e, List.length_append, List.length_cons]
  omega
end
/-- what a run keeps besides its frames -/
structure RB (x : SImage) (F0 : Nat) (s : SRun) : Prop where
 fl : s.frames.length ≤ 64
 st : ST x.globs s.state
 fu : s.asks.length + s.fuel ≤ F0
 tr : 0 ≤ s.trap ∧ s.trap ≤ 5
 tf : s.trap = 1 → s.fuel = 0
 ak : ∀ a ∈ s.asks, a.args.length ≤ 1000
 sk : s.stack.length ≤ 25600
def pendR (s : SRun) : List UInt8 := if s.waits = true then resL (resR s) else []
structure RI (T : Nat → ByteArray × ByteArray) (x : SImage) (F0 : Nat) (s : SRun) : Prop where
 rb : RB x F0 s
 wt : s.waits = true → s.ended = false ∧ 0 < s.asks.length ∧ ∃ c : Nat, (s.asks.getD (s.asks.length - 1) zAsk).call = c ∧ c < callsL.length
 fr : s.ended = false → 1 ≤ s.frames.length ∧ OKs T x (pendR s) s.frames.reverse s.stack
/-! ### Takes at the end of a stack -/
theorem bl_cut (s t p : ByteArray) : bl (cutS s t p) = (bl s).take (s.size - t.size) ++ bl p := by
 unfold bl cutS
 rw [ByteArray.data_append, ByteArray.data_extract, Array.toList_append, Array.toList_extract]
 rfl
theorem bl_got (s t : ByteArray) (h : t.size ≤ s.size) : bl (gotS s t) = (bl s).drop (s.size - t.size) := by
 unfold bl gotS
 rw [ByteArray.data_extract, Array.toList_extract]
 show (s.data.toList.drop _).take _ = _
 rw [List.take_of_length_le (by rw [List.length_drop, Array.length_toList]; show s.data.size - _ ≤ s.data.size - _; omega)]
theorem ends_parts (s t : ByteArray) (h : endsB s t = true) : ∃ l1 g, bl s = l1 ++ g ∧ g.length = (bl t).length ∧ (∀ p, bl (cutS s t p) = l1 ++ bl p) ∧ (bl t = [84] ∨ bl t = [84, 84] ∨ bl t = [78, 78] ∨ g = bl t ∨ (Lib.hasPrefix (bl t) [84] = true)) := by
 unfold endsB at h
 rw [Bool.and_eq_true] at h
 have hle : t.size ≤ s.size := of_decide_eq_true h.1
 refine ⟨(bl s).take (s.size - t.size), (bl s).drop (s.size - t.size), (List.take_append_drop _ _).symm, ?_, fun p => bl_cut s t p, ?_⟩
 ·rw [List.length_drop, bl_size, bl_size]; omega
 ·have h2 := h.2
  by_cases hp : Lib.hasPrefix t.data.toList [84] = true
  ·exact .inr (.inr (.inr (.inr hp)))
  ·rw [if_neg hp] at h2
   by_cases hn : (t.toList == [78, 78]) = true
   ·exact .inr (.inr (.inl (by unfold bl; rw [← ByteArray.toList_eq]; exact eq_of_beq hn)))
   ·rw [if_neg hn] at h2
    refine .inr (.inr (.inr (.inl ?_)))
    rw [← bl_got s t hle]
    have := eq_of_beq h2
    rw [ByteArray.toList_eq, ByteArray.toList_eq] at this
    exact this
/-! ### Where a run stands behind its fetching: plain -/
structure CTX (T : Nat → ByteArray × ByteArray) (x : SImage) (F0 : Nat) (s : SRun) (A : List SFrm) (fr : SFrm) (low seg : List Int) (l : List UInt8) (k : Nat) (s0 : ByteArray) : Prop where
 rb : RB x F0 s
 en : s.ended = false
 wa : s.waits = false
 frs : s.frames = A ++ [fr]
 fi : fr.fi < x.fns.length
 loc : TS (lets (x.fns.getD fr.fi zFn).f3) fr.loc
 stk : s.stack = low ++ seg
 base : fr.base = low.length
 ts : TS l seg
 ok : OKs T x (resL (x.fns.getD fr.fi zFn).f2) A.reverse low
 bl0 : bl s0 = l
 lk : Looked T x (x.fns.getD fr.fi zFn) (fnAt T x fr.fi) k s0
 at_ : fr.at_ = k + 1
 kl : k < (x.fns.getD fr.fi zFn).f4.length
 sl : s.asks.length + s.fuel + 1 ≤ F0
theorem top_of {s : SRun} {A : List SFrm} {fr : SFrm} (h : s.frames = A ++ [fr]) : s.top = fr := by
 unfold SRun.top
 rw [h, List.length_append, List.length_singleton, Nat.add_sub_cancel, List.getD_eq_getElem?_getD, List.getElem?_append_right (Nat.le_refl _), Nat.sub_self]; rfl
theorem setTop_of {s : SRun} {A : List SFrm} {fr : SFrm} (h : s.frames = A ++ [fr]) (fr2 : SFrm) : (s.setTop fr2).frames = A ++ [fr2] := by
 unfold SRun.setTop
 show s.frames.set _ _ = _
 rw [h, List.length_append, List.length_singleton, Nat.add_sub_cancel, List.set_append_right _ _ (Nat.le_refl _), Nat.sub_self]; rfl
theorem last_of {s : SRun} {L : List Int} {v : Int} (h : s.stack = L ++ [v]) : s.last = v ∧ (s.cut 1).stack = L := by
 constructor
 ·unfold SRun.last
  rw [h, List.length_append, List.length_singleton, Nat.add_sub_cancel, List.getD_eq_getElem?_getD, List.getElem?_append_right (Nat.le_refl _), Nat.sub_self]; rfl
 ·unfold SRun.cut
  show s.stack.take _ = _
  rw [h, List.length_append, List.length_singleton, Nat.add_sub_cancel, List.take_left']; rfl
theorem cut_of {s : SRun} {L vs : List Int} (h : s.stack = L ++ vs) (n : Nat) (hn : vs.length = n) : (s.cut n).stack = L ∧ s.args n = vs := by
 subst hn
 constructor
 ·unfold SRun.cut
  show s.stack.take _ = _
  rw [h, List.length_append, Nat.add_sub_cancel, List.take_left']; rfl
 ·unfold SRun.args
  rw [h, List.length_append, Nat.add_sub_cancel, List.drop_left']; rfl
def PT (tk : List UInt8) : Prop := tk ≠ [84] ∧ tk ≠ [84, 84] ∧ tk ≠ [78, 78] ∧ Lib.hasPrefix tk [84] = false
instance (tk : List UInt8) : Decidable (PT tk) := by unfold PT; infer_instance
theorem letter_ne (t : Int) : letterOf t ≠ 84 ∧ letterOf t ≠ 78 := by
 unfold letterOf
 repeat' split
 all_goals decide
theorem PT_lets (l : List Int) : PT (lets l) := by
 cases l with
 | nil => decide
 | cons t l =>
  have h := letter_ne t
  have hc : lets (t :: l) = letterOf t :: lets l := rfl
  rw [hc]
  refine ⟨fun e => h.1 (List.cons.inj e).1, fun e => h.1 (List.cons.inj e).1, fun e => h.2 (List.cons.inj e).1, ?_⟩
  unfold Lib.hasPrefix
  simp [List.isPrefixOf]
  exact fun e => h.1 e.symm
theorem PT_res (t : Int) : PT (resL t) := by
 unfold resL
 split
 ·decide
 ·exact PT_lets [t]
section
variable {T : Nat → ByteArray × ByteArray} {x : SImage} {F0 : Nat} {s : SRun} {A : List SFrm} {fr : SFrm} {low seg : List Int} {l : List UInt8} {k : Nat} {s0 : ByteArray}
theorem CTX.takes (h : CTX T x F0 s A fr low seg l k s0) (i : SInstr) (hi : zi (x.fns.getD fr.fi zFn).f4 k = i) (tk pt : List UInt8) (htk : bl (meansS T x (x.fns.getD fr.fi zFn) i).1 = tk) (hpt : bl (meansS T x (x.fns.getD fr.fi zFn) i).2.1 = pt) :
  ∃ l1 g a sv, s.stack = (low ++ a) ++ sv ∧ TS l1 a ∧ TS g sv ∧ g.length = tk.length ∧ (PT tk → g = tk) ∧
   (¬ (i.f0 = 28 ∨ i.f0 = 32) → ∃ s3, (fnAt T x fr.fi).noted.lookup (fr.at_ : Int) = some s3 ∧ bl s3 = l1 ++ pt) ∧
   (i.f0 = 28 ∨ i.f0 = 29 → ∃ s3, (fnAt T x fr.fi).noted.lookup i.f1 = some s3 ∧ bl s3 = l1 ++ pt) ∧ (i.f0 = 32 → l1 ++ pt = []) := by
 have L := h.lk
 have hk : (((k : Nat) : Int)).toNat = k := Int.toNat_natCast k
 obtain ⟨ok, en, sz, ret, jmp, nxt⟩ := L
 rw [hk, hi] at ok en sz ret jmp nxt
 obtain ⟨l1, g, e1, e2, e3, e4⟩ := ends_parts _ _ en
 have hts := h.ts
 rw [← h.bl0, e1] at hts
 obtain ⟨a, sv, rfl, t1, t2⟩ := TS_split hts
 rw [htk] at e2 e4
 refine ⟨l1, g, a, sv, by rw [h.stk, List.append_assoc], t1, t2, e2, fun hp => ?_, fun c => ⟨cutS s0 (meansS T x (x.fns.getD fr.fi zFn) i).1 (meansS T x (x.fns.getD fr.fi zFn) i).2.1, ?_, ?_⟩, fun c => ⟨cutS s0 (meansS T x (x.fns.getD fr.fi zFn) i).1 (meansS T x (x.fns.getD fr.fi zFn) i).2.1, jmp c, ?_⟩, fun c => ?_⟩
 ·rcases e4 with e | e | e | e | e
  ·exact absurd e hp.1
  ·exact absurd e hp.2.1
  ·exact absurd e hp.2.2.1
  ·exact e
  ·rw [hp.2.2.2] at e; cases e
 ·have := nxt c
  rw [h.at_]
  exact this
 ·rw [e3, hpt]
 ·rw [e3, hpt]
 ·have := ret c
  rw [ByteArray.toList_eq] at this
  have h3 := e3 (meansS T x (x.fns.getD fr.fi zFn) i).2.1
  rw [hpt] at h3
  rw [← h3]; exact this
theorem CTX.ok_ (h : CTX T x F0 s A fr low seg l k s0) (i : SInstr) (hi : zi (x.fns.getD fr.fi zFn).f4 k = i) : (meansS T x (x.fns.getD fr.fi zFn) i).2.2 = true := by
 have := h.lk.ok
 rw [Int.toNat_natCast, hi] at this
 exact this
/-- it goes on in its frame -/
theorem CTX.run (hX : XOK T x) (h : CTX T x F0 s A fr low seg l k s0) {s2 : SRun} (hst : ST x.globs s2.state) (ha : s2.asks = s.asks) (hf : s2.fuel = s.fuel) (ht : s2.trap = s.trap) (he : s2.ended = false) (hw : s2.waits = false)
  {fr2 : SFrm} (hfr : s2.frames = A ++ [fr2]) (h1 : fr2.fi = fr.fi) (h2 : fr2.base = fr.base) (h3 : TS (lets (x.fns.getD fr.fi zFn).f3) fr2.loc) {l1 p : List UInt8} {a pv : List Int} (hk : s2.stack = (low ++ a) ++ pv) (t1 : TS l1 a) (t2 : TS p pv)
  (hn : ∃ s3, (fnAt T x fr.fi).noted.lookup (fr2.at_ : Int) = some s3 ∧ bl s3 = l1 ++ p) : RI T x F0 s2 := by
 obtain ⟨s3, hn, hb⟩ := hn
 have hfl : s2.frames.length = s.frames.length := by rw [hfr, h.frs]; simp
 have hO : OKs T x [] s2.frames.reverse s2.stack := by
  rw [hfr, List.reverse_append]
  refine ⟨by rw [h1]; exact h.fi, by rw [h1]; exact h3, s3, low, a ++ pv, l1 ++ p, by rw [hk, List.append_assoc], by rw [h2]; exact h.base, by rw [h1]; exact hn, by rw [hb, List.append_nil], TS_append t1 t2, by rw [h1]; exact h.ok⟩
 have hlen := OKs_len hX hO
 rw [List.length_reverse, hfl] at hlen
 have hb := h.rb
 refine ⟨⟨by rw [hfl]; exact hb.fl, hst, by rw [ha, hf]; exact hb.fu, by rw [ht]; exact hb.tr, by rw [ht, hf]; exact hb.tf, by rw [ha]; exact hb.ak, by have := hb.fl; omega⟩, fun e => (by rw [hw] at e; cases e), fun _ => ⟨by rw [hfr]; simp, ?_⟩⟩
 unfold pendR
 rw [hw, if_neg (by decide)]
 exact hO
/-- it is trapped -/
theorem CTX.trap (h : CTX T x F0 s A fr low seg l k s0) {s2 : SRun} (t : Int) (ht : 2 ≤ t ∧ t ≤ 5) (hs : s2.state = s.state) (ha : s2.asks = s.asks) (hf : s2.fuel = s.fuel) (hw : s2.waits = false) (hfr : s2.frames.length ≤ s.frames.length) (hk : s2.stack.length ≤ s.stack.length) : RI T x F0 (trapR t s2) := by
 have hb := h.rb
 refine ⟨⟨Nat.le_trans hfr hb.fl, by show ST x.globs s2.state; rw [hs]; exact hb.st, by show s2.asks.length + s2.fuel ≤ F0; rw [ha, hf]; exact hb.fu, ⟨by show 0 ≤ t; omega, ht.2⟩, fun e => ?_, by show ∀ a ∈ s2.asks, _; rw [ha]; exact hb.ak, Nat.le_trans hk hb.sk⟩, fun e => ?_, fun e => ?_⟩
 ·have : t = 1 := e
  omega
 ·have : s2.waits = true := e
  rw [hw] at this; cases this
 ·cases e
end
/-! ### Each instruction keeps a run right: plain -/
def tabD : List (List UInt8 × List UInt8) := [([], []), ([], []), ([], []), ([], []), ([], []), ([], []), ([], []), ([], []), ([105, 105], [105]), ([105, 105], [105]), ([105, 105], [105]), ([105, 105], [105]), ([105, 105], [105]), ([105], [105]), ([102, 102], [102]), ([102, 102], [102]), ([102, 102], [102]), ([102, 102], [102]), ([102], [102]), ([84, 84], [98]), ([84, 84], [98]), ([78, 78], [98]), ([78, 78], [98]), ([78, 78], [98]), ([78, 78], [98]), ([98], [98]), ([105], [102]), ([102], [105]), ([], []), ([], []), ([], []), ([], []), ([], []), ([84], [])]
/-- the table is the program's -/
def TAB (T : Nat → ByteArray × ByteArray) : Prop := ∀ j, j < 34 → bl (T j).1 = (tabD.getD j ([], [])).1 ∧ bl (T j).2 = (tabD.getD j ([], [])).2
theorem means_tab (T : Nat → ByteArray × ByteArray) (hT : TAB T) (x : SImage) (f : SFn) (o : Nat) (A b : Int) (ho : (8 ≤ o ∧ o ≤ 27) ∨ o = 33) : bl (meansS T x f ⟨(o : Int), A, b⟩).1 = (tabD.getD o ([], [])).1 ∧ bl (meansS T x f ⟨(o : Int), A, b⟩).2.1 = (tabD.getD o ([], [])).2 := by
 have e : meansS T x f ⟨(o : Int), A, b⟩ = ((T o).1, (T o).2, decide (b = 0) && decide (A = 0)) := by
  unfold meansS
  simp only
  rw [if_neg (by omega), if_neg (by omega), if_neg (by omega), if_neg (by omega), if_neg (by omega), if_neg (by omega), if_neg (by omega), if_neg (by omega), if_neg (by omega), if_neg (by omega), if_neg (by omega), if_neg (by omega), Int.toNat_natCast]
 rw [e]
 exact hT o (by omega)
theorem len_one {l : List Int} (h : l.length = 1) : ∃ v, l = [v] := by
 match l, h with
 | [v], _ => exact ⟨v, rfl⟩
theorem len_two {l : List Int} (h : l.length = 2) : ∃ u v, l = [u, v] := by
 match l, h with
 | [u, v], _ => exact ⟨u, v, rfl⟩
theorem TS_in : ∀ {l : List UInt8} {vs : List Int}, TS l vs → ∀ v ∈ vs, In v
 | [], [], _, v, hv => by cases hv
 | c :: l, w :: vs, h, v, hv => by
  rcases List.mem_cons.1 hv with rfl | hv
  ·exact h.1.1
  ·exact TS_in h.2 v hv
 | [], _ :: _, h, _, _ => h.elim
 | _ :: _, [], h, _, _ => h.elim
section
variable {T : Nat → ByteArray × ByteArray} {x : SImage} {F0 : Nat} {s : SRun} {A : List SFrm} {fr : SFrm} {low seg : List Int} {l : List UInt8} {k : Nat} {s0 : ByteArray}
/-- what makes one value of two -/
theorem two_ok (hX : XOK T x) (h : CTX T x F0 s A fr low seg l k s0) (o a1 b1 : Int) (hi : zi (x.fns.getD fr.fi zFn).f4 k = ⟨o, a1, b1⟩) (tk : List UInt8) (c : UInt8) (htk : bl (meansS T x (x.fns.getD fr.fi zFn) ⟨o, a1, b1⟩).1 = tk) (hl : tk.length = 2) (hpt : bl (meansS T x (x.fns.getD fr.fi zFn) ⟨o, a1, b1⟩).2.1 = [c]) (hc : c = 98 → 19 ≤ o) (ho : o ≠ 28 ∧ o ≠ 32)
  (hs : stepI x ⟨o, a1, b1⟩ s = ((s.cut 1).cut 1).put (twoV o (s.cut 1).last s.last) ∨ stepI x ⟨o, a1, b1⟩ s = if s.last = 0 then trapR 2 ((s.cut 1).cut 1) else ((s.cut 1).cut 1).put (twoV o (s.cut 1).last s.last)) :
  RI T x F0 (stepI x ⟨o, a1, b1⟩ s) ∧ 1 < s.stack.length ∧ In s.last := by
 obtain ⟨l1, g, a, sv, hk, t1, t2, hg, _, hn, _, _⟩ := h.takes _ hi tk [c] htk hpt
 have hsv : sv.length = 2 := by rw [← TS_length t2, hg, hl]
 obtain ⟨u, v, rfl⟩ := len_two hsv
 have hin := TS_in t2
 have h1 := last_of (s := s) (L := (low ++ a) ++ [u]) (v := v) (by rw [hk]; simp)
 have h2 := last_of (s := s.cut 1) h1.2
 have hR : RI T x F0 (((s.cut 1).cut 1).put (twoV o (s.cut 1).last s.last)) := by
  rw [h1.1, h2.1]
  have h3 := two_in o u v (hin u (by simp))
  exact h.run hX (fr2 := fr) h.rb.st rfl rfl rfl h.en h.wa h.frs rfl rfl h.loc (a := a) (pv := [twoV o u v]) (by show ((s.cut 1).cut 1).stack ++ [twoV o u v] = _; rw [h2.2]) t1 (TS_one ⟨h3.1, fun e => h3.2 (hc e)⟩) (hn (by simp only; omega))
 refine ⟨?_, by rw [hk]; simp; omega, by rw [h1.1]; exact hin v (by simp)⟩
 rcases hs with e | e
 ·rw [e]; exact hR
 ·rw [e]
  split
  ·refine h.trap 2 (by omega) rfl rfl rfl h.wa (Nat.le_refl _) ?_
   rw [h2.2, hk]; simp
  ·exact hR
/-- what makes one value of one -/
theorem one_ok (hX : XOK T x) (h : CTX T x F0 s A fr low seg l k s0) (o a1 b1 : Int) (hi : zi (x.fns.getD fr.fi zFn).f4 k = ⟨o, a1, b1⟩) (tk : List UInt8) (c : UInt8) (htk : bl (meansS T x (x.fns.getD fr.fi zFn) ⟨o, a1, b1⟩).1 = tk) (hl : tk.length = 1) (hp : o = 25 → tk = [98]) (hpt : bl (meansS T x (x.fns.getD fr.fi zFn) ⟨o, a1, b1⟩).2.1 = [c]) (hc : c = 98 → o = 25) (ho : o ≠ 28 ∧ o ≠ 32)
  (hs : stepI x ⟨o, a1, b1⟩ s = (s.cut 1).put (oneV o s.last)) :
  RI T x F0 (stepI x ⟨o, a1, b1⟩ s) ∧ 0 < s.stack.length := by
 obtain ⟨l1, g, a, sv, hk, t1, t2, hg, hpl, hn, _, _⟩ := h.takes _ hi tk [c] htk hpt
 have hsv : sv.length = 1 := by rw [← TS_length t2, hg, hl]
 obtain ⟨v, rfl⟩ := len_one hsv
 have h1 := last_of (s := s) (L := low ++ a) (v := v) hk
 have hv : o = 25 → v = 0 ∨ v = 1 := fun e => by
  have e2 := hp e
  have e3 := hpl (by rw [e2]; decide)
  rw [e3, e2] at t2
  exact t2.1.2 rfl
 have h3 := one_in o v hv
 refine ⟨?_, by rw [hk]; simp; omega⟩
 rw [hs, h1.1]
 exact h.run hX (fr2 := fr) h.rb.st rfl rfl rfl h.en h.wa h.frs rfl rfl h.loc (a := a) (pv := [oneV o v]) (by show (s.cut 1).stack ++ [oneV o v] = _; rw [h1.2]) t1 (TS_one ⟨h3.1, fun e => h3.2 (hc e)⟩) (hn (by simp only; omega))
theorem ri_8 (hX : XOK T x) (hT : TAB T) (h : CTX T x F0 s A fr low seg l k s0) (a1 b1 : Int) (hi : zi (x.fns.getD fr.fi zFn).f4 k = ⟨8, a1, b1⟩) : PreI x ⟨8, a1, b1⟩ s ∧ RI T x F0 (stepI x ⟨8, a1, b1⟩ s) := by
 have hm := means_tab T hT x (x.fns.getD fr.fi zFn) 8 a1 b1 (by omega)
 obtain ⟨r1, r2, r3⟩ := two_ok hX h 8 a1 b1 hi [105, 105] 105 hm.1 rfl hm.2 (by decide) (by decide) (.inl (stepI_8 x s a1 b1))
 exact ⟨⟨show 1 ≤ (8 : Int) ∧ (8 : Int) ≤ 33 by decide, (fun h => absurd h (show ¬ ((8 : Int) = 2 ∨ (8 : Int) = 3) by decide)), (fun h => absurd h (show ¬ ((8 : Int) = 4 ∨ (8 : Int) = 5 ∨ (8 : Int) = 6 ∨ (8 : Int) = 7) by decide)), (fun h => absurd h (show ¬ ((8 : Int) = 28 ∨ (8 : Int) = 29) by decide)), (fun h => absurd h (show ¬ ((8 : Int) = 3 ∨ (8 : Int) = 5 ∨ (8 : Int) = 6 ∨ (8 : Int) = 29 ∨ (8 : Int) = 33 ∨ oneB (8 : Int) = true) by decide)), (fun _ => r2), (fun h => absurd h (show ¬ ((8 : Int) = 30) by decide)), (fun h => absurd h (show ¬ ((8 : Int) = 31) by decide)), (fun h => absurd h (show ¬ ((8 : Int) = 17) by decide)), (fun h => absurd h (show ¬ ((8 : Int) = 32) by decide))⟩, r1⟩
theorem ri_9 (hX : XOK T x) (hT : TAB T) (h : CTX T x F0 s A fr low seg l k s0) (a1 b1 : Int) (hi : zi (x.fns.getD fr.fi zFn).f4 k = ⟨9, a1, b1⟩) : PreI x ⟨9, a1, b1⟩ s ∧ RI T x F0 (stepI x ⟨9, a1, b1⟩ s) := by
 have hm := means_tab T hT x (x.fns.getD fr.fi zFn) 9 a1 b1 (by omega)
 obtain ⟨r1, r2, r3⟩ := two_ok hX h 9 a1 b1 hi [105, 105] 105 hm.1 rfl hm.2 (by decide) (by decide) (.inl (stepI_9 x s a1 b1))
 exact ⟨⟨show 1 ≤ (9 : Int) ∧ (9 : Int) ≤ 33 by decide, (fun h => absurd h (show ¬ ((9 : Int) = 2 ∨ (9 : Int) = 3) by decide)), (fun h => absurd h (show ¬ ((9 : Int) = 4 ∨ (9 : Int) = 5 ∨ (9 : Int) = 6 ∨ (9 : Int) = 7) by decide)), (fun h => absurd h (show ¬ ((9 : Int) = 28 ∨ (9 : Int) = 29) by decide)), (fun h => absurd h (show ¬ ((9 : Int) = 3 ∨ (9 : Int) = 5 ∨ (9 : Int) = 6 ∨ (9 : Int) = 29 ∨ (9 : Int) = 33 ∨ oneB (9 : Int) = true) by decide)), (fun _ => r2), (fun h => absurd h (show ¬ ((9 : Int) = 30) by decide)), (fun h => absurd h (show ¬ ((9 : Int) = 31) by decide)), (fun h => absurd h (show ¬ ((9 : Int) = 17) by decide)), (fun h => absurd h (show ¬ ((9 : Int) = 32) by decide))⟩, r1⟩
theorem ri_10 (hX : XOK T x) (hT : TAB T) (h : CTX T x F0 s A fr low seg l k s0) (a1 b1 : Int) (hi : zi (x.fns.getD fr.fi zFn).f4 k = ⟨10, a1, b1⟩) : PreI x ⟨10, a1, b1⟩ s ∧ RI T x F0 (stepI x ⟨10, a1, b1⟩ s) := by
 have hm := means_tab T hT x (x.fns.getD fr.fi zFn) 10 a1 b1 (by omega)
 obtain ⟨r1, r2, r3⟩ := two_ok hX h 10 a1 b1 hi [105, 105] 105 hm.1 rfl hm.2 (by decide) (by decide) (.inl (stepI_10 x s a1 b1))
 exact ⟨⟨show 1 ≤ (10 : Int) ∧ (10 : Int) ≤ 33 by decide, (fun h => absurd h (show ¬ ((10 : Int) = 2 ∨ (10 : Int) = 3) by decide)), (fun h => absurd h (show ¬ ((10 : Int) = 4 ∨ (10 : Int) = 5 ∨ (10 : Int) = 6 ∨ (10 : Int) = 7) by decide)), (fun h => absurd h (show ¬ ((10 : Int) = 28 ∨ (10 : Int) = 29) by decide)), (fun h => absurd h (show ¬ ((10 : Int) = 3 ∨ (10 : Int) = 5 ∨ (10 : Int) = 6 ∨ (10 : Int) = 29 ∨ (10 : Int) = 33 ∨ oneB (10 : Int) = true) by decide)), (fun _ => r2), (fun h => absurd h (show ¬ ((10 : Int) = 30) by decide)), (fun h => absurd h (show ¬ ((10 : Int) = 31) by decide)), (fun h => absurd h (show ¬ ((10 : Int) = 17) by decide)), (fun h => absurd h (show ¬ ((10 : Int) = 32) by decide))⟩, r1⟩
theorem ri_11 (hX : XOK T x) (hT : TAB T) (h : CTX T x F0 s A fr low seg l k s0) (a1 b1 : Int) (hi : zi (x.fns.getD fr.fi zFn).f4 k = ⟨11, a1, b1⟩) : PreI x ⟨11, a1, b1⟩ s ∧ RI T x F0 (stepI x ⟨11, a1, b1⟩ s) := by
 have hm := means_tab T hT x (x.fns.getD fr.fi zFn) 11 a1 b1 (by omega)
 obtain ⟨r1, r2, r3⟩ := two_ok hX h 11 a1 b1 hi [105, 105] 105 hm.1 rfl hm.2 (by decide) (by decide) (.inr (stepI_11 x s a1 b1))
 exact ⟨⟨show 1 ≤ (11 : Int) ∧ (11 : Int) ≤ 33 by decide, (fun h => absurd h (show ¬ ((11 : Int) = 2 ∨ (11 : Int) = 3) by decide)), (fun h => absurd h (show ¬ ((11 : Int) = 4 ∨ (11 : Int) = 5 ∨ (11 : Int) = 6 ∨ (11 : Int) = 7) by decide)), (fun h => absurd h (show ¬ ((11 : Int) = 28 ∨ (11 : Int) = 29) by decide)), (fun h => absurd h (show ¬ ((11 : Int) = 3 ∨ (11 : Int) = 5 ∨ (11 : Int) = 6 ∨ (11 : Int) = 29 ∨ (11 : Int) = 33 ∨ oneB (11 : Int) = true) by decide)), (fun _ => r2), (fun h => absurd h (show ¬ ((11 : Int) = 30) by decide)), (fun h => absurd h (show ¬ ((11 : Int) = 31) by decide)), (fun h => absurd h (show ¬ ((11 : Int) = 17) by decide)), (fun h => absurd h (show ¬ ((11 : Int) = 32) by decide))⟩, r1⟩
theorem ri_12 (hX : XOK T x) (hT : TAB T) (h : CTX T x F0 s A fr low seg l k s0) (a1 b1 : Int) (hi : zi (x.fns.getD fr.fi zFn).f4 k = ⟨12, a1, b1⟩) : PreI x ⟨12, a1, b1⟩ s ∧ RI T x F0 (stepI x ⟨12, a1, b1⟩ s) := by
 have hm := means_tab T hT x (x.fns.getD fr.fi zFn) 12 a1 b1 (by omega)
 obtain ⟨r1, r2, r3⟩ := two_ok hX h 12 a1 b1 hi [105, 105] 105 hm.1 rfl hm.2 (by decide) (by decide) (.inr (stepI_12 x s a1 b1))
 exact ⟨⟨show 1 ≤ (12 : Int) ∧ (12 : Int) ≤ 33 by decide, (fun h => absurd h (show ¬ ((12 : Int) = 2 ∨ (12 : Int) = 3) by decide)), (fun h => absurd h (show ¬ ((12 : Int) = 4 ∨ (12 : Int) = 5 ∨ (12 : Int) = 6 ∨ (12 : Int) = 7) by decide)), (fun h => absurd h (show ¬ ((12 : Int) = 28 ∨ (12 : Int) = 29) by decide)), (fun h => absurd h (show ¬ ((12 : Int) = 3 ∨ (12 : Int) = 5 ∨ (12 : Int) = 6 ∨ (12 : Int) = 29 ∨ (12 : Int) = 33 ∨ oneB (12 : Int) = true) by decide)), (fun _ => r2), (fun h => absurd h (show ¬ ((12 : Int) = 30) by decide)), (fun h => absurd h (show ¬ ((12 : Int) = 31) by decide)), (fun h => absurd h (show ¬ ((12 : Int) = 17) by decide)), (fun h => absurd h (show ¬ ((12 : Int) = 32) by decide))⟩, r1⟩
theorem ri_14 (hX : XOK T x) (hT : TAB T) (h : CTX T x F0 s A fr low seg l k s0) (a1 b1 : Int) (hi : zi (x.fns.getD fr.fi zFn).f4 k = ⟨14, a1, b1⟩) : PreI x ⟨14, a1, b1⟩ s ∧ RI T x F0 (stepI x ⟨14, a1, b1⟩ s) := by
 have hm := means_tab T hT x (x.fns.getD fr.fi zFn) 14 a1 b1 (by omega)
 obtain ⟨r1, r2, r3⟩ := two_ok hX h 14 a1 b1 hi [102, 102] 102 hm.1 rfl hm.2 (by decide) (by decide) (.inl (stepI_14 x s a1 b1))
 exact ⟨⟨show 1 ≤ (14 : Int) ∧ (14 : Int) ≤ 33 by decide, (fun h => absurd h (show ¬ ((14 : Int) = 2 ∨ (14 : Int) = 3) by decide)), (fun h => absurd h (show ¬ ((14 : Int) = 4 ∨ (14 : Int) = 5 ∨ (14 : Int) = 6 ∨ (14 : Int) = 7) by decide)), (fun h => absurd h (show ¬ ((14 : Int) = 28 ∨ (14 : Int) = 29) by decide)), (fun h => absurd h (show ¬ ((14 : Int) = 3 ∨ (14 : Int) = 5 ∨ (14 : Int) = 6 ∨ (14 : Int) = 29 ∨ (14 : Int) = 33 ∨ oneB (14 : Int) = true) by decide)), (fun _ => r2), (fun h => absurd h (show ¬ ((14 : Int) = 30) by decide)), (fun h => absurd h (show ¬ ((14 : Int) = 31) by decide)), (fun h => absurd h (show ¬ ((14 : Int) = 17) by decide)), (fun h => absurd h (show ¬ ((14 : Int) = 32) by decide))⟩, r1⟩
theorem ri_15 (hX : XOK T x) (hT : TAB T) (h : CTX T x F0 s A fr low seg l k s0) (a1 b1 : Int) (hi : zi (x.fns.getD fr.fi zFn).f4 k = ⟨15, a1, b1⟩) : PreI x ⟨15, a1, b1⟩ s ∧ RI T x F0 (stepI x ⟨15, a1, b1⟩ s) := by
 have hm := means_tab T hT x (x.fns.getD fr.fi zFn) 15 a1 b1 (by omega)
 obtain ⟨r1, r2, r3⟩ := two_ok hX h 15 a1 b1 hi [102, 102] 102 hm.1 rfl hm.2 (by decide) (by decide) (.inl (stepI_15 x s a1 b1))
 exact ⟨⟨show 1 ≤ (15 : Int) ∧ (15 : Int) ≤ 33 by decide, (fun h => absurd h (show ¬ ((15 : Int) = 2 ∨ (15 : Int) = 3) by decide)), (fun h => absurd h (show ¬ ((15 : Int) = 4 ∨ (15 : Int) = 5 ∨ (15 : Int) = 6 ∨ (15 : Int) = 7) by decide)), (fun h => absurd h (show ¬ ((15 : Int) = 28 ∨ (15 : Int) = 29) by decide)), (fun h => absurd h (show ¬ ((15 : Int) = 3 ∨ (15 : Int) = 5 ∨ (15 : Int) = 6 ∨ (15 : Int) = 29 ∨ (15 : Int) = 33 ∨ oneB (15 : Int) = true) by decide)), (fun _ => r2), (fun h => absurd h (show ¬ ((15 : Int) = 30) by decide)), (fun h => absurd h (show ¬ ((15 : Int) = 31) by decide)), (fun h => absurd h (show ¬ ((15 : Int) = 17) by decide)), (fun h => absurd h (show ¬ ((15 : Int) = 32) by decide))⟩, r1⟩
theorem ri_16 (hX : XOK T x) (hT : TAB T) (h : CTX T x F0 s A fr low seg l k s0) (a1 b1 : Int) (hi : zi (x.fns.getD fr.fi zFn).f4 k = ⟨16, a1, b1⟩) : PreI x ⟨16, a1, b1⟩ s ∧ RI T x F0 (stepI x ⟨16, a1, b1⟩ s) := by
 have hm := means_tab T hT x (x.fns.getD fr.fi zFn) 16 a1 b1 (by omega)
 obtain ⟨r1, r2, r3⟩ := two_ok hX h 16 a1 b1 hi [102, 102] 102 hm.1 rfl hm.2 (by decide) (by decide) (.inl (stepI_16 x s a1 b1))
 exact ⟨⟨show 1 ≤ (16 : Int) ∧ (16 : Int) ≤ 33 by decide, (fun h => absurd h (show ¬ ((16 : Int) = 2 ∨ (16 : Int) = 3) by decide)), (fun h => absurd h (show ¬ ((16 : Int) = 4 ∨ (16 : Int) = 5 ∨ (16 : Int) = 6 ∨ (16 : Int) = 7) by decide)), (fun h => absurd h (show ¬ ((16 : Int) = 28 ∨ (16 : Int) = 29) by decide)), (fun h => absurd h (show ¬ ((16 : Int) = 3 ∨ (16 : Int) = 5 ∨ (16 : Int) = 6 ∨ (16 : Int) = 29 ∨ (16 : Int) = 33 ∨ oneB (16 : Int) = true) by decide)), (fun _ => r2), (fun h => absurd h (show ¬ ((16 : Int) = 30) by decide)), (fun h => absurd h (show ¬ ((16 : Int) = 31) by decide)), (fun h => absurd h (show ¬ ((16 : Int) = 17) by decide)), (fun h => absurd h (show ¬ ((16 : Int) = 32) by decide))⟩, r1⟩
theorem ri_17 (hX : XOK T x) (hT : TAB T) (h : CTX T x F0 s A fr low seg l k s0) (a1 b1 : Int) (hi : zi (x.fns.getD fr.fi zFn).f4 k = ⟨17, a1, b1⟩) : PreI x ⟨17, a1, b1⟩ s ∧ RI T x F0 (stepI x ⟨17, a1, b1⟩ s) := by
 have hm := means_tab T hT x (x.fns.getD fr.fi zFn) 17 a1 b1 (by omega)
 obtain ⟨r1, r2, r3⟩ := two_ok hX h 17 a1 b1 hi [102, 102] 102 hm.1 rfl hm.2 (by decide) (by decide) (.inr (stepI_17 x s a1 b1))
 exact ⟨⟨show 1 ≤ (17 : Int) ∧ (17 : Int) ≤ 33 by decide, (fun h => absurd h (show ¬ ((17 : Int) = 2 ∨ (17 : Int) = 3) by decide)), (fun h => absurd h (show ¬ ((17 : Int) = 4 ∨ (17 : Int) = 5 ∨ (17 : Int) = 6 ∨ (17 : Int) = 7) by decide)), (fun h => absurd h (show ¬ ((17 : Int) = 28 ∨ (17 : Int) = 29) by decide)), (fun h => absurd h (show ¬ ((17 : Int) = 3 ∨ (17 : Int) = 5 ∨ (17 : Int) = 6 ∨ (17 : Int) = 29 ∨ (17 : Int) = 33 ∨ oneB (17 : Int) = true) by decide)), (fun _ => r2), (fun h => absurd h (show ¬ ((17 : Int) = 30) by decide)), (fun h => absurd h (show ¬ ((17 : Int) = 31) by decide)), (fun _ h0 => szF_ne _ r3 h0), (fun h => absurd h (show ¬ ((17 : Int) = 32) by decide))⟩, r1⟩
theorem ri_19 (hX : XOK T x) (hT : TAB T) (h : CTX T x F0 s A fr low seg l k s0) (a1 b1 : Int) (hi : zi (x.fns.getD fr.fi zFn).f4 k = ⟨19, a1, b1⟩) : PreI x ⟨19, a1, b1⟩ s ∧ RI T x F0 (stepI x ⟨19, a1, b1⟩ s) := by
 have hm := means_tab T hT x (x.fns.getD fr.fi zFn) 19 a1 b1 (by omega)
 obtain ⟨r1, r2, r3⟩ := two_ok hX h 19 a1 b1 hi [84, 84] 98 hm.1 rfl hm.2 (by decide) (by decide) (.inl (stepI_19 x s a1 b1))
 exact ⟨⟨show 1 ≤ (19 : Int) ∧ (19 : Int) ≤ 33 by decide, (fun h => absurd h (show ¬ ((19 : Int) = 2 ∨ (19 : Int) = 3) by decide)), (fun h => absurd h (show ¬ ((19 : Int) = 4 ∨ (19 : Int) = 5 ∨ (19 : Int) = 6 ∨ (19 : Int) = 7) by decide)), (fun h => absurd h (show ¬ ((19 : Int) = 28 ∨ (19 : Int) = 29) by decide)), (fun h => absurd h (show ¬ ((19 : Int) = 3 ∨ (19 : Int) = 5 ∨ (19 : Int) = 6 ∨ (19 : Int) = 29 ∨ (19 : Int) = 33 ∨ oneB (19 : Int) = true) by decide)), (fun _ => r2), (fun h => absurd h (show ¬ ((19 : Int) = 30) by decide)), (fun h => absurd h (show ¬ ((19 : Int) = 31) by decide)), (fun h => absurd h (show ¬ ((19 : Int) = 17) by decide)), (fun h => absurd h (show ¬ ((19 : Int) = 32) by decide))⟩, r1⟩
theorem ri_20 (hX : XOK T x) (hT : TAB T) (h : CTX T x F0 s A fr low seg l k s0) (a1 b1 : Int) (hi : zi (x.fns.getD fr.fi zFn).f4 k = ⟨20, a1, b1⟩) : PreI x ⟨20, a1, b1⟩ s ∧ RI T x F0 (stepI x ⟨20, a1, b1⟩ s) := by
 have hm := means_tab T hT x (x.fns.getD fr.fi zFn) 20 a1 b1 (by omega)
 obtain ⟨r1, r2, r3⟩ := two_ok hX h 20 a1 b1 hi [84, 84] 98 hm.1 rfl hm.2 (by decide) (by decide) (.inl (stepI_20 x s a1 b1))
 exact ⟨⟨show 1 ≤ (20 : Int) ∧ (20 : Int) ≤ 33 by decide, (fun h => absurd h (show ¬ ((20 : Int) = 2 ∨ (20 : Int) = 3) by decide)), (fun h => absurd h (show ¬ ((20 : Int) = 4 ∨ (20 : Int) = 5 ∨ (20 : Int) = 6 ∨ (20 : Int) = 7) by decide)), (fun h => absurd h (show ¬ ((20 : Int) = 28 ∨ (20 : Int) = 29) by decide)), (fun h => absurd h (show ¬ ((20 : Int) = 3 ∨ (20 : Int) = 5 ∨ (20 : Int) = 6 ∨ (20 : Int) = 29 ∨ (20 : Int) = 33 ∨ oneB (20 : Int) = true) by decide)), (fun _ => r2), (fun h => absurd h (show ¬ ((20 : Int) = 30) by decide)), (fun h => absurd h (show ¬ ((20 : Int) = 31) by decide)), (fun h => absurd h (show ¬ ((20 : Int) = 17) by decide)), (fun h => absurd h (show ¬ ((20 : Int) = 32) by decide))⟩, r1⟩
theorem ri_21 (hX : XOK T x) (hT : TAB T) (h : CTX T x F0 s A fr low seg l k s0) (a1 b1 : Int) (hi : zi (x.fns.getD fr.fi zFn).f4 k = ⟨21, a1, b1⟩) : PreI x ⟨21, a1, b1⟩ s ∧ RI T x F0 (stepI x ⟨21, a1, b1⟩ s) := by
 have hm := means_tab T hT x (x.fns.getD fr.fi zFn) 21 a1 b1 (by omega)
 obtain ⟨r1, r2, r3⟩ := two_ok hX h 21 a1 b1 hi [78, 78] 98 hm.1 rfl hm.2 (by decide) (by decide) (.inl (stepI_21 x s a1 b1))
 exact ⟨⟨show 1 ≤ (21 : Int) ∧ (21 : Int) ≤ 33 by decide, (fun h => absurd h (show ¬ ((21 : Int) = 2 ∨ (21 : Int) = 3) by decide)), (fun h => absurd h (show ¬ ((21 : Int) = 4 ∨ (21 : Int) = 5 ∨ (21 : Int) = 6 ∨ (21 : Int) = 7) by decide)), (fun h => absurd h (show ¬ ((21 : Int) = 28 ∨ (21 : Int) = 29) by decide)), (fun h => absurd h (show ¬ ((21 : Int) = 3 ∨ (21 : Int) = 5 ∨ (21 : Int) = 6 ∨ (21 : Int) = 29 ∨ (21 : Int) = 33 ∨ oneB (21 : Int) = true) by decide)), (fun _ => r2), (fun h => absurd h (show ¬ ((21 : Int) = 30) by decide)), (fun h => absurd h (show ¬ ((21 : Int) = 31) by decide)), (fun h => absurd h (show ¬ ((21 : Int) = 17) by decide)), (fun h => absurd h (show ¬ ((21 : Int) = 32) by decide))⟩, r1⟩
theorem ri_22 (hX : XOK T x) (hT : TAB T) (h : CTX T x F0 s A fr low seg l k s0) (a1 b1 : Int) (hi : zi (x.fns.getD fr.fi zFn).f4 k = ⟨22, a1, b1⟩) : PreI x ⟨22, a1, b1⟩ s ∧ RI T x F0 (stepI x ⟨22, a1, b1⟩ s) := by
 have hm := means_tab T hT x (x.fns.getD fr.fi zFn) 22 a1 b1 (by omega)
 obtain ⟨r1, r2, r3⟩ := two_ok hX h 22 a1 b1 hi [78, 78] 98 hm.1 rfl hm.2 (by decide) (by decide) (.inl (stepI_22 x s a1 b1))
 exact ⟨⟨show 1 ≤ (22 : Int) ∧ (22 : Int) ≤ 33 by decide, (fun h => absurd h (show ¬ ((22 : Int) = 2 ∨ (22 : Int) = 3) by decide)), (fun h => absurd h (show ¬ ((22 : Int) = 4 ∨ (22 : Int) = 5 ∨ (22 : Int) = 6 ∨ (22 : Int) = 7) by decide)), (fun h => absurd h (show ¬ ((22 : Int) = 28 ∨ (22 : Int) = 29) by decide)), (fun h => absurd h (show ¬ ((22 : Int) = 3 ∨ (22 : Int) = 5 ∨ (22 : Int) = 6 ∨ (22 : Int) = 29 ∨ (22 : Int) = 33 ∨ oneB (22 : Int) = true) by decide)), (fun _ => r2), (fun h => absurd h (show ¬ ((22 : Int) = 30) by decide)), (fun h => absurd h (show ¬ ((22 : Int) = 31) by decide)), (fun h => absurd h (show ¬ ((22 : Int) = 17) by decide)), (fun h => absurd h (show ¬ ((22 : Int) = 32) by decide))⟩, r1⟩
theorem ri_23 (hX : XOK T x) (hT : TAB T) (h : CTX T x F0 s A fr low seg l k s0) (a1 b1 : Int) (hi : zi (x.fns.getD fr.fi zFn).f4 k = ⟨23, a1, b1⟩) : PreI x ⟨23, a1, b1⟩ s ∧ RI T x F0 (stepI x ⟨23, a1, b1⟩ s) := by
 have hm := means_tab T hT x (x.fns.getD fr.fi zFn) 23 a1 b1 (by omega)
 obtain ⟨r1, r2, r3⟩ := two_ok hX h 23 a1 b1 hi [78, 78] 98 hm.1 rfl hm.2 (by decide) (by decide) (.inl (stepI_23 x s a1 b1))
 exact ⟨⟨show 1 ≤ (23 : Int) ∧ (23 : Int) ≤ 33 by decide, (fun h => absurd h (show ¬ ((23 : Int) = 2 ∨ (23 : Int) = 3) by decide)), (fun h => absurd h (show ¬ ((23 : Int) = 4 ∨ (23 : Int) = 5 ∨ (23 : Int) = 6 ∨ (23 : Int) = 7) by decide)), (fun h => absurd h (show ¬ ((23 : Int) = 28 ∨ (23 : Int) = 29) by decide)), (fun h => absurd h (show ¬ ((23 : Int) = 3 ∨ (23 : Int) = 5 ∨ (23 : Int) = 6 ∨ (23 : Int) = 29 ∨ (23 : Int) = 33 ∨ oneB (23 : Int) = true) by decide)), (fun _ => r2), (fun h => absurd h (show ¬ ((23 : Int) = 30) by decide)), (fun h => absurd h (show ¬ ((23 : Int) = 31) by decide)), (fun h => absurd h (show ¬ ((23 : Int) = 17) by decide)), (fun h => absurd h (show ¬ ((23 : Int) = 32) by decide))⟩, r1⟩
theorem ri_24 (hX : XOK T x) (hT : TAB T) (h : CTX T x F0 s A fr low seg l k s0) (a1 b1 : Int) (hi : zi (x.fns.getD fr.fi zFn).f4 k = ⟨24, a1, b1⟩) : PreI x ⟨24, a1, b1⟩ s ∧ RI T x F0 (stepI x ⟨24, a1, b1⟩ s) := by
 have hm := means_tab T hT x (x.fns.getD fr.fi zFn) 24 a1 b1 (by omega)
 obtain ⟨r1, r2, r3⟩ := two_ok hX h 24 a1 b1 hi [78, 78] 98 hm.1 rfl hm.2 (by decide) (by decide) (.inl (stepI_24 x s a1 b1))
 exact ⟨⟨show 1 ≤ (24 : Int) ∧ (24 : Int) ≤ 33 by decide, (fun h => absurd h (show ¬ ((24 : Int) = 2 ∨ (24 : Int) = 3) by decide)), (fun h => absurd h (show ¬ ((24 : Int) = 4 ∨ (24 : Int) = 5 ∨ (24 : Int) = 6 ∨ (24 : Int) = 7) by decide)), (fun h => absurd h (show ¬ ((24 : Int) = 28 ∨ (24 : Int) = 29) by decide)), (fun h => absurd h (show ¬ ((24 : Int) = 3 ∨ (24 : Int) = 5 ∨ (24 : Int) = 6 ∨ (24 : Int) = 29 ∨ (24 : Int) = 33 ∨ oneB (24 : Int) = true) by decide)), (fun _ => r2), (fun h => absurd h (show ¬ ((24 : Int) = 30) by decide)), (fun h => absurd h (show ¬ ((24 : Int) = 31) by decide)), (fun h => absurd h (show ¬ ((24 : Int) = 17) by decide)), (fun h => absurd h (show ¬ ((24 : Int) = 32) by decide))⟩, r1⟩
theorem ri_13 (hX : XOK T x) (hT : TAB T) (h : CTX T x F0 s A fr low seg l k s0) (a1 b1 : Int) (hi : zi (x.fns.getD fr.fi zFn).f4 k = ⟨13, a1, b1⟩) : PreI x ⟨13, a1, b1⟩ s ∧ RI T x F0 (stepI x ⟨13, a1, b1⟩ s) := by
 have hm := means_tab T hT x (x.fns.getD fr.fi zFn) 13 a1 b1 (by omega)
 obtain ⟨r1, r2⟩ := one_ok hX h 13 a1 b1 hi [105] 105 hm.1 rfl (by decide) hm.2 (by decide) (by decide) (stepI_13 x s a1 b1)
 exact ⟨⟨show 1 ≤ (13 : Int) ∧ (13 : Int) ≤ 33 by decide, (fun h => absurd h (show ¬ ((13 : Int) = 2 ∨ (13 : Int) = 3) by decide)), (fun h => absurd h (show ¬ ((13 : Int) = 4 ∨ (13 : Int) = 5 ∨ (13 : Int) = 6 ∨ (13 : Int) = 7) by decide)), (fun h => absurd h (show ¬ ((13 : Int) = 28 ∨ (13 : Int) = 29) by decide)), (fun _ => r2), (fun h => absurd h (show ¬ ((13 : Int) = 7 ∨ (8 ≤ (13 : Int) ∧ (13 : Int) ≤ 24 ∧ oneB (13 : Int) = false)) by decide)), (fun h => absurd h (show ¬ ((13 : Int) = 30) by decide)), (fun h => absurd h (show ¬ ((13 : Int) = 31) by decide)), (fun h => absurd h (show ¬ ((13 : Int) = 17) by decide)), (fun h => absurd h (show ¬ ((13 : Int) = 32) by decide))⟩, r1⟩
theorem ri_18 (hX : XOK T x) (hT : TAB T) (h : CTX T x F0 s A fr low seg l k s0) (a1 b1 : Int) (hi : zi (x.fns.getD fr.fi zFn).f4 k = ⟨18, a1, b1⟩) : PreI x ⟨18, a1, b1⟩ s ∧ RI T x F0 (stepI x ⟨18, a1, b1⟩ s) := by
 have hm := means_tab T hT x (x.fns.getD fr.fi zFn) 18 a1 b1 (by omega)
 obtain ⟨r1, r2⟩ := one_ok hX h 18 a1 b1 hi [102] 102 hm.1 rfl (by decide) hm.2 (by decide) (by decide) (stepI_18 x s a1 b1)
 exact ⟨⟨show 1 ≤ (18 : Int) ∧ (18 : Int) ≤ 33 by decide, (fun h => absurd h (show ¬ ((18 : Int) = 2 ∨ (18 : Int) = 3) by decide)), (fun h => absurd h (show ¬ ((18 : Int) = 4 ∨ (18 : Int) = 5 ∨ (18 : Int) = 6 ∨ (18 : Int) = 7) by decide)), (fun h => absurd h (show ¬ ((18 : Int) = 28 ∨ (18 : Int) = 29) by decide)), (fun _ => r2), (fun h => absurd h (show ¬ ((18 : Int) = 7 ∨ (8 ≤ (18 : Int) ∧ (18 : Int) ≤ 24 ∧ oneB (18 : Int) = false)) by decide)), (fun h => absurd h (show ¬ ((18 : Int) = 30) by decide)), (fun h => absurd h (show ¬ ((18 : Int) = 31) by decide)), (fun h => absurd h (show ¬ ((18 : Int) = 17) by decide)), (fun h => absurd h (show ¬ ((18 : Int) = 32) by decide))⟩, r1⟩
theorem ri_25 (hX : XOK T x) (hT : TAB T) (h : CTX T x F0 s A fr low seg l k s0) (a1 b1 : Int) (hi : zi (x.fns.getD fr.fi zFn).f4 k = ⟨25, a1, b1⟩) : PreI x ⟨25, a1, b1⟩ s ∧ RI T x F0 (stepI x ⟨25, a1, b1⟩ s) := by
 have hm := means_tab T hT x (x.fns.getD fr.fi zFn) 25 a1 b1 (by omega)
 obtain ⟨r1, r2⟩ := one_ok hX h 25 a1 b1 hi [98] 98 hm.1 rfl (by decide) hm.2 (by decide) (by decide) (stepI_25 x s a1 b1)
 exact ⟨⟨show 1 ≤ (25 : Int) ∧ (25 : Int) ≤ 33 by decide, (fun h => absurd h (show ¬ ((25 : Int) = 2 ∨ (25 : Int) = 3) by decide)), (fun h => absurd h (show ¬ ((25 : Int) = 4 ∨ (25 : Int) = 5 ∨ (25 : Int) = 6 ∨ (25 : Int) = 7) by decide)), (fun h => absurd h (show ¬ ((25 : Int) = 28 ∨ (25 : Int) = 29) by decide)), (fun _ => r2), (fun h => absurd h (show ¬ ((25 : Int) = 7 ∨ (8 ≤ (25 : Int) ∧ (25 : Int) ≤ 24 ∧ oneB (25 : Int) = false)) by decide)), (fun h => absurd h (show ¬ ((25 : Int) = 30) by decide)), (fun h => absurd h (show ¬ ((25 : Int) = 31) by decide)), (fun h => absurd h (show ¬ ((25 : Int) = 17) by decide)), (fun h => absurd h (show ¬ ((25 : Int) = 32) by decide))⟩, r1⟩
theorem ri_26 (hX : XOK T x) (hT : TAB T) (h : CTX T x F0 s A fr low seg l k s0) (a1 b1 : Int) (hi : zi (x.fns.getD fr.fi zFn).f4 k = ⟨26, a1, b1⟩) : PreI x ⟨26, a1, b1⟩ s ∧ RI T x F0 (stepI x ⟨26, a1, b1⟩ s) := by
 have hm := means_tab T hT x (x.fns.getD fr.fi zFn) 26 a1 b1 (by omega)
 obtain ⟨r1, r2⟩ := one_ok hX h 26 a1 b1 hi [105] 102 hm.1 rfl (by decide) hm.2 (by decide) (by decide) (stepI_26 x s a1 b1)
 exact ⟨⟨show 1 ≤ (26 : Int) ∧ (26 : Int) ≤ 33 by decide, (fun h => absurd h (show ¬ ((26 : Int) = 2 ∨ (26 : Int) = 3) by decide)), (fun h => absurd h (show ¬ ((26 : Int) = 4 ∨ (26 : Int) = 5 ∨ (26 : Int) = 6 ∨ (26 : Int) = 7) by decide)), (fun h => absurd h (show ¬ ((26 : Int) = 28 ∨ (26 : Int) = 29) by decide)), (fun _ => r2), (fun h => absurd h (show ¬ ((26 : Int) = 7 ∨ (8 ≤ (26 : Int) ∧ (26 : Int) ≤ 24 ∧ oneB (26 : Int) = false)) by decide)), (fun h => absurd h (show ¬ ((26 : Int) = 30) by decide)), (fun h => absurd h (show ¬ ((26 : Int) = 31) by decide)), (fun h => absurd h (show ¬ ((26 : Int) = 17) by decide)), (fun h => absurd h (show ¬ ((26 : Int) = 32) by decide))⟩, r1⟩
theorem ri_27 (hX : XOK T x) (hT : TAB T) (h : CTX T x F0 s A fr low seg l k s0) (a1 b1 : Int) (hi : zi (x.fns.getD fr.fi zFn).f4 k = ⟨27, a1, b1⟩) : PreI x ⟨27, a1, b1⟩ s ∧ RI T x F0 (stepI x ⟨27, a1, b1⟩ s) := by
 have hm := means_tab T hT x (x.fns.getD fr.fi zFn) 27 a1 b1 (by omega)
 obtain ⟨r1, r2⟩ := one_ok hX h 27 a1 b1 hi [102] 105 hm.1 rfl (by decide) hm.2 (by decide) (by decide) (stepI_27 x s a1 b1)
 exact ⟨⟨show 1 ≤ (27 : Int) ∧ (27 : Int) ≤ 33 by decide, (fun h => absurd h (show ¬ ((27 : Int) = 2 ∨ (27 : Int) = 3) by decide)), (fun h => absurd h (show ¬ ((27 : Int) = 4 ∨ (27 : Int) = 5 ∨ (27 : Int) = 6 ∨ (27 : Int) = 7) by decide)), (fun h => absurd h (show ¬ ((27 : Int) = 28 ∨ (27 : Int) = 29) by decide)), (fun _ => r2), (fun h => absurd h (show ¬ ((27 : Int) = 7 ∨ (8 ≤ (27 : Int) ∧ (27 : Int) ≤ 24 ∧ oneB (27 : Int) = false)) by decide)), (fun h => absurd h (show ¬ ((27 : Int) = 30) by decide)), (fun h => absurd h (show ¬ ((27 : Int) = 31) by decide)), (fun h => absurd h (show ¬ ((27 : Int) = 17) by decide)), (fun h => absurd h (show ¬ ((27 : Int) = 32) by decide))⟩, r1⟩
theorem ri_33 (hX : XOK T x) (hT : TAB T) (h : CTX T x F0 s A fr low seg l k s0) (a1 b1 : Int) (hi : zi (x.fns.getD fr.fi zFn).f4 k = ⟨33, a1, b1⟩) : PreI x ⟨33, a1, b1⟩ s ∧ RI T x F0 (stepI x ⟨33, a1, b1⟩ s) := by
 have hm := means_tab T hT x (x.fns.getD fr.fi zFn) 33 a1 b1 (by omega)
 obtain ⟨l1, g, a, sv, hk, t1, t2, hg, hpl, hn, _, _⟩ := h.takes _ hi [84] [] hm.1 hm.2
 obtain ⟨v, rfl⟩ := len_one (by rw [← TS_length t2, hg]; rfl)
 have h1 := last_of (s := s) (L := low ++ a) (v := v) hk
 have r2 : 0 < s.stack.length := by rw [hk]; simp; omega
 refine ⟨⟨show 1 ≤ (33 : Int) ∧ (33 : Int) ≤ 33 by decide, (fun h => absurd h (show ¬ ((33 : Int) = 2 ∨ (33 : Int) = 3) by decide)), (fun h => absurd h (show ¬ ((33 : Int) = 4 ∨ (33 : Int) = 5 ∨ (33 : Int) = 6 ∨ (33 : Int) = 7) by decide)), (fun h => absurd h (show ¬ ((33 : Int) = 28 ∨ (33 : Int) = 29) by decide)), (fun _ => r2), (fun h => absurd h (show ¬ ((33 : Int) = 7 ∨ (8 ≤ (33 : Int) ∧ (33 : Int) ≤ 24 ∧ oneB (33 : Int) = false)) by decide)), (fun h => absurd h (show ¬ ((33 : Int) = 30) by decide)), (fun h => absurd h (show ¬ ((33 : Int) = 31) by decide)), (fun h => absurd h (show ¬ ((33 : Int) = 17) by decide)), (fun h => absurd h (show ¬ ((33 : Int) = 32) by decide))⟩, ?_⟩
 rw [stepI_33]
 exact h.run hX (fr2 := fr) (p := []) (pv := []) h.rb.st rfl rfl rfl h.en h.wa h.frs rfl rfl h.loc (a := a) (by rw [h1.2, List.append_nil]) t1 trivial (hn (by simp only; omega))
theorem ri_28 (hX : XOK T x) (hT : TAB T) (h : CTX T x F0 s A fr low seg l k s0) (a1 b1 : Int) (hi : zi (x.fns.getD fr.fi zFn).f4 k = ⟨28, a1, b1⟩) : PreI x ⟨28, a1, b1⟩ s ∧ RI T x F0 (stepI x ⟨28, a1, b1⟩ s) := by
 obtain ⟨l1, g, a, sv, hk, t1, t2, hg, hpl, _, hj, _⟩ := h.takes _ hi [] [] (by rfl) (by rfl)
 have hok : (decide (b1 = 0) && decide (0 ≤ a1 ∧ a1 < (x.fns.getD fr.fi zFn).f4.length)) = true := h.ok_ _ hi
 simp only [Bool.and_eq_true, decide_eq_true_eq] at hok
 have e0 : sv = [] := List.eq_nil_of_length_eq_zero (by rw [← TS_length t2, hg]; rfl)
 subst e0
 refine ⟨⟨show 1 ≤ (28 : Int) ∧ (28 : Int) ≤ 33 by decide, (fun h => absurd h (show ¬ ((28 : Int) = 2 ∨ (28 : Int) = 3) by decide)), (fun h => absurd h (show ¬ ((28 : Int) = 4 ∨ (28 : Int) = 5 ∨ (28 : Int) = 6 ∨ (28 : Int) = 7) by decide)), (fun _ => hok.2.1), (fun h => absurd h (show ¬ ((28 : Int) = 3 ∨ (28 : Int) = 5 ∨ (28 : Int) = 6 ∨ (28 : Int) = 29 ∨ (28 : Int) = 33 ∨ oneB (28 : Int) = true) by decide)), (fun h => absurd h (show ¬ ((28 : Int) = 7 ∨ (8 ≤ (28 : Int) ∧ (28 : Int) ≤ 24 ∧ oneB (28 : Int) = false)) by decide)), (fun h => absurd h (show ¬ ((28 : Int) = 30) by decide)), (fun h => absurd h (show ¬ ((28 : Int) = 31) by decide)), (fun h => absurd h (show ¬ ((28 : Int) = 17) by decide)), (fun h => absurd h (show ¬ ((28 : Int) = 32) by decide))⟩, ?_⟩
 rw [stepI_28, top_of h.frs]
 refine h.run hX (fr2 := { fr with at_ := a1.toNat }) (p := []) (pv := []) h.rb.st rfl rfl rfl h.en h.wa (setTop_of h.frs _) rfl rfl h.loc (a := a) hk t1 trivial ?_
 show ∃ s3, (fnAt T x fr.fi).noted.lookup ((a1.toNat : Nat) : Int) = some s3 ∧ _
 rw [Int.toNat_of_nonneg hok.2.1]
 exact hj (.inl rfl)
theorem ri_29 (hX : XOK T x) (hT : TAB T) (h : CTX T x F0 s A fr low seg l k s0) (a1 b1 : Int) (hi : zi (x.fns.getD fr.fi zFn).f4 k = ⟨29, a1, b1⟩) : PreI x ⟨29, a1, b1⟩ s ∧ RI T x F0 (stepI x ⟨29, a1, b1⟩ s) := by
 obtain ⟨l1, g, a, sv, hk, t1, t2, hg, hpl, hn, hj, _⟩ := h.takes _ hi [98] [] (by rfl) (by rfl)
 have hok : (decide (b1 = 0) && decide (0 ≤ a1 ∧ a1 < (x.fns.getD fr.fi zFn).f4.length)) = true := h.ok_ _ hi
 simp only [Bool.and_eq_true, decide_eq_true_eq] at hok
 obtain ⟨v, rfl⟩ := len_one (by rw [← TS_length t2, hg]; rfl)
 have h1 := last_of (s := s) (L := low ++ a) (v := v) hk
 have r2 : 0 < s.stack.length := by rw [hk]; simp; omega
 refine ⟨⟨show 1 ≤ (29 : Int) ∧ (29 : Int) ≤ 33 by decide, (fun h => absurd h (show ¬ ((29 : Int) = 2 ∨ (29 : Int) = 3) by decide)), (fun h => absurd h (show ¬ ((29 : Int) = 4 ∨ (29 : Int) = 5 ∨ (29 : Int) = 6 ∨ (29 : Int) = 7) by decide)), (fun _ => hok.2.1), (fun _ => r2), (fun h => absurd h (show ¬ ((29 : Int) = 7 ∨ (8 ≤ (29 : Int) ∧ (29 : Int) ≤ 24 ∧ oneB (29 : Int) = false)) by decide)), (fun h => absurd h (show ¬ ((29 : Int) = 30) by decide)), (fun h => absurd h (show ¬ ((29 : Int) = 31) by decide)), (fun h => absurd h (show ¬ ((29 : Int) = 17) by decide)), (fun h => absurd h (show ¬ ((29 : Int) = 32) by decide))⟩, ?_⟩
 rw [stepI_29, top_of h.frs]
 split
 ·refine h.run hX (fr2 := { fr with at_ := a1.toNat }) (p := []) (pv := []) h.rb.st rfl rfl rfl h.en h.wa (setTop_of (s := s.cut 1) h.frs _) rfl rfl h.loc (a := a) (by show (s.cut 1).stack = _; rw [h1.2, List.append_nil]) t1 trivial ?_
  show ∃ s3, (fnAt T x fr.fi).noted.lookup ((a1.toNat : Nat) : Int) = some s3 ∧ _
  rw [Int.toNat_of_nonneg hok.2.1]
  exact hj (.inr rfl)
 ·exact h.run hX (fr2 := fr) (p := []) (pv := []) h.rb.st rfl rfl rfl h.en h.wa h.frs rfl rfl h.loc (a := a) (by rw [h1.2, List.append_nil]) t1 trivial (hn (by simp only; omega))
end
/-! ### The instructions that reach places, variables, functions: plain -/
theorem lets_getD (l : List Int) (i : Nat) (h : i < l.length) : (lets l).getD i 0 = letterOf (l.getD i 0) := by
 unfold lets
 rw [List.getD_eq_getElem?_getD, List.getD_eq_getElem?_getD, List.getElem?_map, List.getElem?_eq_getElem h]; rfl
theorem lets_length (l : List Int) : (lets l).length = l.length := by unfold lets; simp
theorem glob_ok (x : SImage) (a : Int) (el : Bool) (h : (!(globS x a el).toList.isEmpty) = true) : (0 ≤ a ∧ a < x.globs.length ∧ decide (0 < (zg x.globs a).f1) = el) ∧ bl (globS x a el) = [letterOf (zg x.globs a).f0] := by
 unfold globS at h ⊢
 by_cases hc : 0 ≤ a ∧ a < x.globs.length ∧ decide (0 < (zg x.globs a).f1) = el
 ·rw [if_pos hc]
  exact ⟨hc, by rw [bl_row]; rfl⟩
 ·rw [if_neg hc] at h
  rw [ByteArray.toList_eq] at h
  exact absurd h (by decide)
section
variable {T : Nat → ByteArray × ByteArray} {x : SImage} {F0 : Nat} {s : SRun} {A : List SFrm} {fr : SFrm} {low seg : List Int} {l : List UInt8} {k : Nat} {s0 : ByteArray}
theorem CTX.inst (hX : XOK T x) (h : CTX T x F0 s A fr low seg l k s0) (i : SInstr) (hi : zi (x.fns.getD fr.fi zFn).f4 k = i) : In i.f1 ∧ 1 ≤ i.f0 ∧ i.f0 ≤ 33 := by
 have hf : x.fns.getD fr.fi zFn ∈ x.fns := getD_mem x.fns zFn fr.fi h.fi _ rfl
 have hm : zi (x.fns.getD fr.fi zFn).f4 k ∈ (x.fns.getD fr.fi zFn).f4 := getD_mem _ zInstr k h.kl _ rfl
 have h1 := hX.ins _ hf _ hm
 have h2 := (hX.img.fn _ hf).ins _ hm
 rw [hi] at h1 h2
 exact ⟨h1, h2.1, h2.2.1⟩
theorem ST_row (hX : XOK T x) {state : List (List Int)} (h : ST x.globs state) (a : Int) (h0 : 0 ≤ a) (h1 : a < x.globs.length) : a < state.length ∧ 0 < (state.getD a.toNat []).length ∧ (state.getD a.toNat []).length ≤ 1000 ∧ ∀ v ∈ state.getD a.toNat [], VL (letterOf (zg x.globs a).f0) v := by
 have hi : a.toNat < x.globs.length := by omega
 have h2 := h.2 a.toNat hi
 have hg := hX.gl _ (getD_mem x.globs zGlob a.toNat hi _ rfl)
 have hs : 1 ≤ sizeG (x.globs.getD a.toNat zGlob) ∧ sizeG (x.globs.getD a.toNat zGlob) ≤ 256 := by
  unfold sizeG mx
  split <;> omega
 exact ⟨by rw [h.1]; omega, by rw [h2.1]; omega, by rw [h2.1]; omega, h2.2⟩
theorem getD_mem_i' (l : List Int) (i : Nat) (h : i < l.length) : l.getD i 0 ∈ l := by
 rw [List.getD_eq_getElem?_getD, List.getElem?_eq_getElem h]; exact List.getElem_mem h
theorem ri_1 (hX : XOK T x) (hT : TAB T) (h : CTX T x F0 s A fr low seg l k s0) (a1 b1 : Int) (hi : zi (x.fns.getD fr.fi zFn).f4 k = ⟨1, a1, b1⟩) : PreI x ⟨1, a1, b1⟩ s ∧ RI T x F0 (stepI x ⟨1, a1, b1⟩ s) := by
 have hin := (h.inst hX _ hi).1
 obtain ⟨l1, g, a, sv, hk, t1, t2, hg, hpl, hn, _, _⟩ := h.takes _ hi [] [letterOf b1] (by rfl) (by show bl (rowS [b1]) = _; rw [bl_row]; rfl)
 have hok : pushB ⟨1, a1, b1⟩ = true := h.ok_ _ hi
 have e0 : sv = [] := List.eq_nil_of_length_eq_zero (by rw [← TS_length t2, hg]; rfl)
 subst e0
 rw [List.append_nil] at hk
 refine ⟨⟨show 1 ≤ (1 : Int) ∧ (1 : Int) ≤ 33 by decide, (fun h => absurd h (show ¬ ((1 : Int) = 2 ∨ (1 : Int) = 3) by decide)), (fun h => absurd h (show ¬ ((1 : Int) = 4 ∨ (1 : Int) = 5 ∨ (1 : Int) = 6 ∨ (1 : Int) = 7) by decide)), (fun h => absurd h (show ¬ ((1 : Int) = 28 ∨ (1 : Int) = 29) by decide)), (fun h => absurd h (show ¬ ((1 : Int) = 3 ∨ (1 : Int) = 5 ∨ (1 : Int) = 6 ∨ (1 : Int) = 29 ∨ (1 : Int) = 33 ∨ oneB (1 : Int) = true) by decide)), (fun h => absurd h (show ¬ ((1 : Int) = 7 ∨ (8 ≤ (1 : Int) ∧ (1 : Int) ≤ 24 ∧ oneB (1 : Int) = false)) by decide)), (fun h => absurd h (show ¬ ((1 : Int) = 30) by decide)), (fun h => absurd h (show ¬ ((1 : Int) = 31) by decide)), (fun h => absurd h (show ¬ ((1 : Int) = 17) by decide)), (fun h => absurd h (show ¬ ((1 : Int) = 32) by decide))⟩, ?_⟩
 rw [stepI_1]
 refine h.run hX (fr2 := fr) (p := [letterOf b1]) (pv := [a1]) h.rb.st rfl rfl rfl h.en h.wa h.frs rfl rfl h.loc (a := a) (by show s.stack ++ [a1] = _; rw [hk]) t1 (TS_one (VL_letter b1 a1 hin (fun e => ?_))) (hn (by simp only; omega))
 unfold pushB at hok
 simp only [Bool.or_eq_true, Bool.and_eq_true, decide_eq_true_eq] at hok
 rcases hok with ((hc | hc) | hc) | hc
 ·omega
 ·omega
 ·exact push_bool a1 hin hc.2
 ·omega
theorem ri_2 (hX : XOK T x) (hT : TAB T) (h : CTX T x F0 s A fr low seg l k s0) (a1 b1 : Int) (hi : zi (x.fns.getD fr.fi zFn).f4 k = ⟨2, a1, b1⟩) : PreI x ⟨2, a1, b1⟩ s ∧ RI T x F0 (stepI x ⟨2, a1, b1⟩ s) := by
 have hok := h.ok_ _ hi
 by_cases hc : 0 ≤ a1 ∧ a1 < (x.fns.getD fr.fi zFn).f3.length
 ·have hm : meansS T x (x.fns.getD fr.fi zFn) ⟨2, a1, b1⟩ = (eS, rowS [(x.fns.getD fr.fi zFn).f3.getD a1.toNat 0], decide (b1 = 0)) := by
   unfold meansS; simp only; rw [if_neg (by decide), if_pos trivial, if_pos hc]
  obtain ⟨l1, g, a, sv, hk, t1, t2, hg, hpl, hn, _, _⟩ := h.takes _ hi [] [letterOf ((x.fns.getD fr.fi zFn).f3.getD a1.toNat 0)] (by rw [hm]; rfl) (by rw [hm, bl_row]; rfl)
  have e0 : sv = [] := List.eq_nil_of_length_eq_zero (by rw [← TS_length t2, hg]; rfl)
  subst e0
  rw [List.append_nil] at hk
  have hll := TS_length h.loc
  rw [lets_length] at hll
  have hv := TS_get h.loc a1.toNat (by rw [lets_length]; omega)
  rw [lets_getD _ _ (by omega)] at hv
  refine ⟨⟨show 1 ≤ (2 : Int) ∧ (2 : Int) ≤ 33 by decide, (fun _ => by rw [top_of h.frs]; show 0 ≤ a1 ∧ a1 < fr.loc.length; omega), (fun h => absurd h (show ¬ ((2 : Int) = 4 ∨ (2 : Int) = 5 ∨ (2 : Int) = 6 ∨ (2 : Int) = 7) by decide)), (fun h => absurd h (show ¬ ((2 : Int) = 28 ∨ (2 : Int) = 29) by decide)), (fun h => absurd h (show ¬ ((2 : Int) = 3 ∨ (2 : Int) = 5 ∨ (2 : Int) = 6 ∨ (2 : Int) = 29 ∨ (2 : Int) = 33 ∨ oneB (2 : Int) = true) by decide)), (fun h => absurd h (show ¬ ((2 : Int) = 7 ∨ (8 ≤ (2 : Int) ∧ (2 : Int) ≤ 24 ∧ oneB (2 : Int) = false)) by decide)), (fun h => absurd h (show ¬ ((2 : Int) = 30) by decide)), (fun h => absurd h (show ¬ ((2 : Int) = 31) by decide)), (fun h => absurd h (show ¬ ((2 : Int) = 17) by decide)), (fun h => absurd h (show ¬ ((2 : Int) = 32) by decide))⟩, ?_⟩
  rw [stepI_2, top_of h.frs]
  exact h.run hX (fr2 := fr) (p := [letterOf ((x.fns.getD fr.fi zFn).f3.getD a1.toNat 0)]) (pv := [fr.loc.getD a1.toNat 0]) h.rb.st rfl rfl rfl h.en h.wa h.frs rfl rfl h.loc (a := a) (by show s.stack ++ [_] = _; rw [hk]) t1 (TS_one hv) (hn (by simp only; omega))
 ·have hm : meansS T x (x.fns.getD fr.fi zFn) ⟨2, a1, b1⟩ = (eS, eS, false) := by
   unfold meansS; simp only; rw [if_neg (by decide), if_pos trivial, if_neg hc]
  rw [hm] at hok; cases hok
theorem ri_3 (hX : XOK T x) (hT : TAB T) (h : CTX T x F0 s A fr low seg l k s0) (a1 b1 : Int) (hi : zi (x.fns.getD fr.fi zFn).f4 k = ⟨3, a1, b1⟩) : PreI x ⟨3, a1, b1⟩ s ∧ RI T x F0 (stepI x ⟨3, a1, b1⟩ s) := by
 have hok := h.ok_ _ hi
 by_cases hc : 0 ≤ a1 ∧ a1 < (x.fns.getD fr.fi zFn).f3.length
 ·have hm : meansS T x (x.fns.getD fr.fi zFn) ⟨3, a1, b1⟩ = (rowS [(x.fns.getD fr.fi zFn).f3.getD a1.toNat 0], eS, decide (b1 = 0)) := by
   unfold meansS; simp only; rw [if_neg (by decide), if_neg (by decide), if_pos trivial, if_pos hc]
  obtain ⟨l1, g, a, sv, hk, t1, t2, hg, hpl, hn, _, _⟩ := h.takes _ hi [letterOf ((x.fns.getD fr.fi zFn).f3.getD a1.toNat 0)] [] (by rw [hm, bl_row]; rfl) (by rw [hm]; rfl)
  obtain ⟨v, rfl⟩ := len_one (by rw [← TS_length t2, hg]; rfl)
  rw [hpl (PT_lets [_])] at t2
  have h1 := last_of (s := s) (L := low ++ a) (v := v) hk
  have hll := TS_length h.loc
  rw [lets_length] at hll
  refine ⟨⟨show 1 ≤ (3 : Int) ∧ (3 : Int) ≤ 33 by decide, (fun _ => by rw [top_of h.frs]; show 0 ≤ a1 ∧ a1 < fr.loc.length; omega), (fun h => absurd h (show ¬ ((3 : Int) = 4 ∨ (3 : Int) = 5 ∨ (3 : Int) = 6 ∨ (3 : Int) = 7) by decide)), (fun h => absurd h (show ¬ ((3 : Int) = 28 ∨ (3 : Int) = 29) by decide)), (fun _ => by rw [hk]; simp; omega), (fun h => absurd h (show ¬ ((3 : Int) = 7 ∨ (8 ≤ (3 : Int) ∧ (3 : Int) ≤ 24 ∧ oneB (3 : Int) = false)) by decide)), (fun h => absurd h (show ¬ ((3 : Int) = 30) by decide)), (fun h => absurd h (show ¬ ((3 : Int) = 31) by decide)), (fun h => absurd h (show ¬ ((3 : Int) = 17) by decide)), (fun h => absurd h (show ¬ ((3 : Int) = 32) by decide))⟩, ?_⟩
  rw [stepI_3, top_of h.frs, h1.1]
  refine h.run hX (fr2 := { fr with loc := fr.loc.set a1.toNat v }) (p := []) (pv := []) h.rb.st rfl rfl rfl h.en h.wa (setTop_of (s := s.cut 1) h.frs _) rfl rfl (TS_set h.loc _ _ ?_) (a := a) (by show (s.cut 1).stack = _; rw [h1.2, List.append_nil]) t1 trivial (hn (by simp only; omega))
  rw [lets_getD _ _ (by omega)]
  exact t2.1
 ·have hm : meansS T x (x.fns.getD fr.fi zFn) ⟨3, a1, b1⟩ = (eS, eS, false) := by
   unfold meansS; simp only; rw [if_neg (by decide), if_neg (by decide), if_pos trivial, if_neg hc]
  rw [hm] at hok; cases hok
theorem ri_4 (hX : XOK T x) (hT : TAB T) (h : CTX T x F0 s A fr low seg l k s0) (a1 b1 : Int) (hi : zi (x.fns.getD fr.fi zFn).f4 k = ⟨4, a1, b1⟩) : PreI x ⟨4, a1, b1⟩ s ∧ RI T x F0 (stepI x ⟨4, a1, b1⟩ s) := by
 have hok : (decide (b1 = 0) && !(globS x a1 false).toList.isEmpty) = true := h.ok_ _ hi
 rw [Bool.and_eq_true] at hok
 obtain ⟨hc, hgl⟩ := glob_ok x a1 false hok.2
 have hrow := ST_row hX h.rb.st a1 hc.1 hc.2.1
 obtain ⟨l1, g, a, sv, hk, t1, t2, hg, hpl, hn, _, _⟩ := h.takes _ hi [] [letterOf (zg x.globs a1).f0] (by rfl) hgl
 have e0 : sv = [] := List.eq_nil_of_length_eq_zero (by rw [← TS_length t2, hg]; rfl)
 subst e0
 rw [List.append_nil] at hk
 refine ⟨⟨show 1 ≤ (4 : Int) ∧ (4 : Int) ≤ 33 by decide, (fun h => absurd h (show ¬ ((4 : Int) = 2 ∨ (4 : Int) = 3) by decide)), (fun _ => ⟨hc.1, hrow.1, hrow.2.1, hrow.2.2.1⟩), (fun h => absurd h (show ¬ ((4 : Int) = 28 ∨ (4 : Int) = 29) by decide)), (fun h => absurd h (show ¬ ((4 : Int) = 3 ∨ (4 : Int) = 5 ∨ (4 : Int) = 6 ∨ (4 : Int) = 29 ∨ (4 : Int) = 33 ∨ oneB (4 : Int) = true) by decide)), (fun h => absurd h (show ¬ ((4 : Int) = 7 ∨ (8 ≤ (4 : Int) ∧ (4 : Int) ≤ 24 ∧ oneB (4 : Int) = false)) by decide)), (fun h => absurd h (show ¬ ((4 : Int) = 30) by decide)), (fun h => absurd h (show ¬ ((4 : Int) = 31) by decide)), (fun h => absurd h (show ¬ ((4 : Int) = 17) by decide)), (fun h => absurd h (show ¬ ((4 : Int) = 32) by decide))⟩, ?_⟩
 rw [stepI_4]
 exact h.run hX (fr2 := fr) (p := [letterOf (zg x.globs a1).f0]) (pv := [(s.state.getD a1.toNat []).getD 0 0]) h.rb.st rfl rfl rfl h.en h.wa h.frs rfl rfl h.loc (a := a) (by show s.stack ++ [_] = _; rw [hk]) t1 (TS_one (hrow.2.2.2 _ (getD_mem_i' _ 0 hrow.2.1))) (hn (by simp only; omega))
theorem ri_5 (hX : XOK T x) (hT : TAB T) (h : CTX T x F0 s A fr low seg l k s0) (a1 b1 : Int) (hi : zi (x.fns.getD fr.fi zFn).f4 k = ⟨5, a1, b1⟩) : PreI x ⟨5, a1, b1⟩ s ∧ RI T x F0 (stepI x ⟨5, a1, b1⟩ s) := by
 have hok : (decide (b1 = 0) && !(globS x a1 false).toList.isEmpty) = true := h.ok_ _ hi
 rw [Bool.and_eq_true] at hok
 obtain ⟨hc, hgl⟩ := glob_ok x a1 false hok.2
 have hrow := ST_row hX h.rb.st a1 hc.1 hc.2.1
 obtain ⟨l1, g, a, sv, hk, t1, t2, hg, hpl, hn, _, _⟩ := h.takes _ hi [letterOf (zg x.globs a1).f0] [] hgl (by rfl)
 obtain ⟨v, rfl⟩ := len_one (by rw [← TS_length t2, hg]; rfl)
 rw [hpl (PT_lets [_])] at t2
 have h1 := last_of (s := s) (L := low ++ a) (v := v) hk
 refine ⟨⟨show 1 ≤ (5 : Int) ∧ (5 : Int) ≤ 33 by decide, (fun h => absurd h (show ¬ ((5 : Int) = 2 ∨ (5 : Int) = 3) by decide)), (fun _ => ⟨hc.1, hrow.1, hrow.2.1, hrow.2.2.1⟩), (fun h => absurd h (show ¬ ((5 : Int) = 28 ∨ (5 : Int) = 29) by decide)), (fun _ => by rw [hk]; simp; omega), (fun h => absurd h (show ¬ ((5 : Int) = 7 ∨ (8 ≤ (5 : Int) ∧ (5 : Int) ≤ 24 ∧ oneB (5 : Int) = false)) by decide)), (fun h => absurd h (show ¬ ((5 : Int) = 30) by decide)), (fun h => absurd h (show ¬ ((5 : Int) = 31) by decide)), (fun h => absurd h (show ¬ ((5 : Int) = 17) by decide)), (fun h => absurd h (show ¬ ((5 : Int) = 32) by decide))⟩, ?_⟩
 rw [stepI_5, h1.1]
 exact h.run hX (fr2 := fr) (p := []) (pv := []) (ST_set h.rb.st a1.toNat 0 v (by omega) t2.1) rfl rfl rfl h.en h.wa h.frs rfl rfl h.loc (a := a) (by show (s.cut 1).stack = _; rw [h1.2, List.append_nil]) t1 trivial (hn (by simp only; omega))
theorem ri_6 (hX : XOK T x) (hT : TAB T) (h : CTX T x F0 s A fr low seg l k s0) (a1 b1 : Int) (hi : zi (x.fns.getD fr.fi zFn).f4 k = ⟨6, a1, b1⟩) : PreI x ⟨6, a1, b1⟩ s ∧ RI T x F0 (stepI x ⟨6, a1, b1⟩ s) := by
 have hok : (decide (b1 = 0) && !(globS x a1 true).toList.isEmpty) = true := h.ok_ _ hi
 rw [Bool.and_eq_true] at hok
 obtain ⟨hc, hgl⟩ := glob_ok x a1 true hok.2
 have hrow := ST_row hX h.rb.st a1 hc.1 hc.2.1
 obtain ⟨l1, g, a, sv, hk, t1, t2, hg, hpl, hn, _, _⟩ := h.takes _ hi [105] [letterOf (zg x.globs a1).f0] (by rfl) hgl
 obtain ⟨v, rfl⟩ := len_one (by rw [← TS_length t2, hg]; rfl)
 have h1 := last_of (s := s) (L := low ++ a) (v := v) hk
 refine ⟨⟨show 1 ≤ (6 : Int) ∧ (6 : Int) ≤ 33 by decide, (fun h => absurd h (show ¬ ((6 : Int) = 2 ∨ (6 : Int) = 3) by decide)), (fun _ => ⟨hc.1, hrow.1, hrow.2.1, hrow.2.2.1⟩), (fun h => absurd h (show ¬ ((6 : Int) = 28 ∨ (6 : Int) = 29) by decide)), (fun _ => by rw [hk]; simp; omega), (fun h => absurd h (show ¬ ((6 : Int) = 7 ∨ (8 ≤ (6 : Int) ∧ (6 : Int) ≤ 24 ∧ oneB (6 : Int) = false)) by decide)), (fun h => absurd h (show ¬ ((6 : Int) = 30) by decide)), (fun h => absurd h (show ¬ ((6 : Int) = 31) by decide)), (fun h => absurd h (show ¬ ((6 : Int) = 17) by decide)), (fun h => absurd h (show ¬ ((6 : Int) = 32) by decide))⟩, ?_⟩
 rw [stepI_6]
 unfold atR
 rw [h1.1]
 by_cases hr : inRow v (s.state.getD a1.toNat []) = true
 ·rw [if_pos hr, if_pos rfl]
  have hr2 := hr
  unfold inRow at hr2
  rw [Bool.and_eq_true, decide_eq_true_eq, decide_eq_true_eq] at hr2
  exact h.run hX (fr2 := fr) (p := [letterOf (zg x.globs a1).f0]) (pv := [(s.state.getD a1.toNat []).getD v.toNat 0]) h.rb.st rfl rfl rfl h.en h.wa h.frs rfl rfl h.loc (a := a) (by show (s.cut 1).stack ++ [_] = _; rw [h1.2]) t1 (TS_one (hrow.2.2.2 _ (getD_mem_i' _ _ (by omega)))) (hn (by simp only; omega))
 ·rw [if_neg hr, if_neg Bool.false_ne_true]
  exact h.trap 3 (by omega) rfl rfl rfl h.wa (Nat.le_refl _) (by rw [h1.2, hk]; simp)
theorem ri_7 (hX : XOK T x) (hT : TAB T) (h : CTX T x F0 s A fr low seg l k s0) (a1 b1 : Int) (hi : zi (x.fns.getD fr.fi zFn).f4 k = ⟨7, a1, b1⟩) : PreI x ⟨7, a1, b1⟩ s ∧ RI T x F0 (stepI x ⟨7, a1, b1⟩ s) := by
 have hok : (decide (b1 = 0) && !(globS x a1 true).toList.isEmpty) = true := h.ok_ _ hi
 rw [Bool.and_eq_true] at hok
 obtain ⟨hc, hgl⟩ := glob_ok x a1 true hok.2
 have hrow := ST_row hX h.rb.st a1 hc.1 hc.2.1
 obtain ⟨l1, g, a, sv, hk, t1, t2, hg, hpl, hn, _, _⟩ := h.takes _ hi [105, letterOf (zg x.globs a1).f0] [] (by show bl (⟨#[105]⟩ ++ globS x a1 true) = _; rw [show bl ((⟨#[105]⟩ : ByteArray) ++ globS x a1 true) = bl ⟨#[105]⟩ ++ bl (globS x a1 true) from by unfold bl; rw [ByteArray.data_append, Array.toList_append], hgl]; rfl) (by rfl)
 obtain ⟨u, v, rfl⟩ := len_two (by rw [← TS_length t2, hg]; rfl)
 rw [hpl (PT_lets [1, (zg x.globs a1).f0])] at t2
 have h1 := last_of (s := s) (L := (low ++ a) ++ [u]) (v := v) (by rw [hk]; simp)
 have h2 := last_of (s := s.cut 1) h1.2
 refine ⟨⟨show 1 ≤ (7 : Int) ∧ (7 : Int) ≤ 33 by decide, (fun h => absurd h (show ¬ ((7 : Int) = 2 ∨ (7 : Int) = 3) by decide)), (fun _ => ⟨hc.1, hrow.1, hrow.2.1, hrow.2.2.1⟩), (fun h => absurd h (show ¬ ((7 : Int) = 28 ∨ (7 : Int) = 29) by decide)), (fun h => absurd h (show ¬ ((7 : Int) = 3 ∨ (7 : Int) = 5 ∨ (7 : Int) = 6 ∨ (7 : Int) = 29 ∨ (7 : Int) = 33 ∨ oneB (7 : Int) = true) by decide)), (fun _ => by rw [hk]; simp; omega), (fun h => absurd h (show ¬ ((7 : Int) = 30) by decide)), (fun h => absurd h (show ¬ ((7 : Int) = 31) by decide)), (fun h => absurd h (show ¬ ((7 : Int) = 17) by decide)), (fun h => absurd h (show ¬ ((7 : Int) = 32) by decide))⟩, ?_⟩
 rw [stepI_7]
 unfold putR
 rw [h1.1, h2.1]
 by_cases hr : inRow u (s.state.getD a1.toNat []) = true
 ·rw [if_pos hr, if_pos rfl]
  exact h.run hX (fr2 := fr) (p := []) (pv := []) (ST_set h.rb.st a1.toNat u.toNat v (by omega) t2.2.1) rfl rfl rfl h.en h.wa h.frs rfl rfl h.loc (a := a) (by show ((s.cut 1).cut 1).stack = _; rw [h2.2, List.append_nil]) t1 trivial (hn (by simp only; omega))
 ·rw [if_neg hr, if_neg Bool.false_ne_true]
  exact h.trap 3 (by omega) rfl rfl rfl h.wa (Nat.le_refl _) (by rw [h2.2, hk]; simp)
theorem OKs_pop {p : List UInt8} {fs : List SFrm} {lo sv : List Int} (h : OKs T x p fs lo) (hne : fs ≠ []) (t : TS p sv) : OKs T x [] fs (lo ++ sv) := by
 cases fs with
 | nil => exact absurd rfl hne
 | cons fr fs =>
  obtain ⟨h1, h2, s, low, seg, l, e, hb, hn, hl, ht, ho⟩ := h
  exact ⟨h1, h2, s, low, seg ++ sv, l ++ p, by rw [e, List.append_assoc], hb, hn, by rw [hl, List.append_nil], TS_append ht t, ho⟩
theorem zeros_drop (n m : Nat) : (List.replicate n (0 : Int)).drop m = List.replicate (n - m) 0 := by simp
theorem TS_args (f : SFn) (args : List Int) (hle : f.f1.length ≤ f.f3.length) (heq : f.f1 = f.f3.take f.f1.length) (t : TS (lets f.f1) args) : TS (lets f.f3) (args ++ (List.replicate f.f3.length 0).drop args.length) := by
 have hl := TS_length t
 rw [lets_length] at hl
 have e : lets f.f3 = lets f.f1 ++ lets (f.f3.drop f.f1.length) := by
  unfold lets
  rw [← List.map_append]
  have h2 : f.f1 ++ f.f3.drop f.f1.length = f.f3 := by
   have h3 := List.take_append_drop f.f1.length f.f3
   rw [← heq] at h3
   exact h3
  rw [h2]
 rw [e]
 refine TS_append t ?_
 have h4 := TS_zero (lets (f.f3.drop f.f1.length))
 rw [lets_length, List.length_drop] at h4
 rw [zeros_drop, ← hl]
 exact h4
/-- a function that begins -/
theorem enter_ok (hX : XOK T x) (n : Nat) (hn : n < x.fns.length) (args : List Int) (t : TS (lets (x.fns.getD n zFn).f1) args) {fs : List SFrm} {lo : List Int} (ho : OKs T x (resL (x.fns.getD n zFn).f2) fs lo) :
  OKs T x [] (⟨n, 0, args ++ (List.replicate (x.fns.getD n zFn).f3.length 0).drop args.length, lo.length⟩ :: fs) lo := by
 have hf := hX.fl _ (getD_mem x.fns zFn n hn _ rfl)
 exact ⟨hn, TS_args _ args hf.2.2.1 hf.2.2.2.2 t, ⟨#[]⟩, lo, [], [], by rw [List.append_nil], rfl, (hX.noted n hn).1, rfl, trivial, ho⟩
theorem ri_30 (hX : XOK T x) (hT : TAB T) (h : CTX T x F0 s A fr low seg l k s0) (a1 b1 : Int) (hi : zi (x.fns.getD fr.fi zFn).f4 k = ⟨30, a1, b1⟩) : PreI x ⟨30, a1, b1⟩ s ∧ RI T x F0 (stepI x ⟨30, a1, b1⟩ s) := by
 have hok := h.ok_ _ hi
 by_cases hc : 0 ≤ a1 ∧ a1 < x.fns.length
 ·have hm : meansS T x (x.fns.getD fr.fi zFn) ⟨30, a1, b1⟩ = (rowS (fnA x a1).f1, resultS (fnA x a1).f2, decide (b1 = 0)) := by
   unfold meansS
   simp only
   rw [if_neg (by decide), if_neg (by decide), if_neg (by decide), if_neg (by decide), if_neg (by decide), if_neg (by decide), if_neg (by decide), if_neg (by decide), if_neg (by decide), if_pos trivial, if_pos hc]
   rfl
  obtain ⟨l1, g, a, sv, hk, t1, t2, hg, hpl, hn, _, _⟩ := h.takes _ hi (lets (fnA x a1).f1) (resL (fnA x a1).f2) (by rw [hm, bl_row]) (by rw [hm, bl_result])
  rw [hpl (PT_lets _)] at t2
  have hsl := TS_length t2
  rw [lets_length] at hsl
  have hcut := cut_of hk _ hsl.symm
  have hai : a1.toNat < x.fns.length := by omega
  have hf := hX.fl _ (getD_mem x.fns zFn a1.toNat hai _ rfl)
  have hfr64 := h.rb.fl
  refine ⟨⟨show 1 ≤ (30 : Int) ∧ (30 : Int) ≤ 33 by decide, (fun h => absurd h (show ¬ ((30 : Int) = 2 ∨ (30 : Int) = 3) by decide)), (fun h => absurd h (show ¬ ((30 : Int) = 4 ∨ (30 : Int) = 5 ∨ (30 : Int) = 6 ∨ (30 : Int) = 7) by decide)), (fun h => absurd h (show ¬ ((30 : Int) = 28 ∨ (30 : Int) = 29) by decide)), (fun h => absurd h (show ¬ ((30 : Int) = 3 ∨ (30 : Int) = 5 ∨ (30 : Int) = 6 ∨ (30 : Int) = 29 ∨ (30 : Int) = 33 ∨ oneB (30 : Int) = true) by decide)), (fun h => absurd h (show ¬ ((30 : Int) = 7 ∨ (8 ≤ (30 : Int) ∧ (30 : Int) ≤ 24 ∧ oneB (30 : Int) = false)) by decide)), (fun _ => ⟨hc.1, hc.2, by show (fnA x a1).f1.length ≤ _; rw [hk, List.length_append]; omega, hf.2.2.1, by show (x.fns.getD a1.toNat zFn).f3.length ≤ 1000; omega⟩), (fun h => absurd h (show ¬ ((30 : Int) = 31) by decide)), (fun h => absurd h (show ¬ ((30 : Int) = 17) by decide)), (fun h => absurd h (show ¬ ((30 : Int) = 32) by decide))⟩, ?_⟩
  rw [stepI_30]
  by_cases h64 : s.frames.length = 64
  ·rw [if_pos h64]
   exact h.trap 4 (by omega) rfl rfl rfl h.wa (Nat.le_refl _) (by rw [hcut.1, hk]; simp)
  ·rw [if_neg h64, hcut.2]
   obtain ⟨s3, hn3, hb3⟩ := hn (by simp only; omega)
   have hO1 : OKs T x (resL (fnA x a1).f2) (fr :: A.reverse) (low ++ a) := ⟨h.fi, h.loc, s3, low, a, l1, rfl, h.base, hn3, hb3, t1, h.ok⟩
   have hO := enter_ok hX a1.toNat hai sv t2 hO1
   have hst : (enterR x a1.toNat sv (s.cut (fnA x a1).f1.length)).stack = low ++ a := hcut.1
   have hfs : (enterR x a1.toNat sv (s.cut (fnA x a1).f1.length)).frames.reverse = ⟨a1.toNat, 0, sv ++ (List.replicate (x.fns.getD a1.toNat zFn).f3.length 0).drop sv.length, (low ++ a).length⟩ :: fr :: A.reverse := by
    show (s.frames ++ [_]).reverse = _
    rw [h.frs, hcut.1, List.reverse_append, List.reverse_append]; rfl
   have hlen : (enterR x a1.toNat sv (s.cut (fnA x a1).f1.length)).frames.length = s.frames.length + 1 := by
    show (s.frames ++ [_]).length = _
    simp
   have hb := h.rb
   refine ⟨⟨by rw [hlen]; omega, hb.st, hb.fu, hb.tr, hb.tf, hb.ak, ?_⟩, fun e => ?_, fun _ => ⟨by rw [hlen]; omega, ?_⟩⟩
   ·rw [hst]
    have := hb.sk
    rw [hk, List.length_append] at this
    omega
   ·have e2 : s.waits = true := e
    rw [h.wa] at e2; cases e2
   ·have hp : pendR (enterR x a1.toNat sv (s.cut (fnA x a1).f1.length)) = [] := by
     unfold pendR
     rw [if_neg (by show ¬ s.waits = true; rw [h.wa]; decide)]
    rw [hfs, hst, hp]
    exact hO
 ·have hm : meansS T x (x.fns.getD fr.fi zFn) ⟨30, a1, b1⟩ = (eS, eS, false) := by
   unfold meansS
   simp only
   rw [if_neg (by decide), if_neg (by decide), if_neg (by decide), if_neg (by decide), if_neg (by decide), if_neg (by decide), if_neg (by decide), if_neg (by decide), if_neg (by decide), if_pos trivial, if_neg hc]
  rw [hm] at hok; cases hok
theorem ri_31 (hX : XOK T x) (hT : TAB T) (h : CTX T x F0 s A fr low seg l k s0) (a1 b1 : Int) (hi : zi (x.fns.getD fr.fi zFn).f4 k = ⟨31, a1, b1⟩) : PreI x ⟨31, a1, b1⟩ s ∧ RI T x F0 (stepI x ⟨31, a1, b1⟩ s) := by
 have hok := h.ok_ _ hi
 by_cases hc : 0 ≤ a1 ∧ a1 < callsL.length
 ·have hm : meansS T x (x.fns.getD fr.fi zFn) ⟨31, a1, b1⟩ = (rowS (sysA a1).f1, resultS (sysA a1).f2, decide (b1 = 0)) := by
   unfold meansS
   simp only
   rw [if_neg (by decide), if_neg (by decide), if_neg (by decide), if_neg (by decide), if_neg (by decide), if_neg (by decide), if_neg (by decide), if_neg (by decide), if_neg (by decide), if_neg (by decide), if_pos trivial, if_pos hc]
   rfl
  obtain ⟨l1, g, a, sv, hk, t1, t2, hg, hpl, hn, _, _⟩ := h.takes _ hi (lets (sysA a1).f1) (resL (sysA a1).f2) (by rw [hm, bl_row]) (by rw [hm, bl_result])
  rw [hpl (PT_lets _)] at t2
  have hsl := TS_length t2
  rw [lets_length] at hsl
  have hcut := cut_of hk _ hsl.symm
  have hp3 : (sysA a1).f1.length ≤ 3 := by
   have h3 : ∀ y ∈ callsL, y.f1.length ≤ 3 := by decide
   exact h3 _ (getD_mem callsL zSys a1.toNat (by omega) _ rfl)
  refine ⟨⟨show 1 ≤ (31 : Int) ∧ (31 : Int) ≤ 33 by decide, (fun h => absurd h (show ¬ ((31 : Int) = 2 ∨ (31 : Int) = 3) by decide)), (fun h => absurd h (show ¬ ((31 : Int) = 4 ∨ (31 : Int) = 5 ∨ (31 : Int) = 6 ∨ (31 : Int) = 7) by decide)), (fun h => absurd h (show ¬ ((31 : Int) = 28 ∨ (31 : Int) = 29) by decide)), (fun h => absurd h (show ¬ ((31 : Int) = 3 ∨ (31 : Int) = 5 ∨ (31 : Int) = 6 ∨ (31 : Int) = 29 ∨ (31 : Int) = 33 ∨ oneB (31 : Int) = true) by decide)), (fun h => absurd h (show ¬ ((31 : Int) = 7 ∨ (8 ≤ (31 : Int) ∧ (31 : Int) ≤ 24 ∧ oneB (31 : Int) = false)) by decide)), (fun h => absurd h (show ¬ ((31 : Int) = 30) by decide)), (fun _ => ⟨hc.1, hc.2, by show (sysA a1).f1.length ≤ _; rw [hk, List.length_append]; omega⟩), (fun h => absurd h (show ¬ ((31 : Int) = 17) by decide)), (fun h => absurd h (show ¬ ((31 : Int) = 32) by decide))⟩, ?_⟩
  rw [stepI_31, hcut.2]
  obtain ⟨s3, hn3, hb3⟩ := hn (by simp only; omega)
  have hO1 : OKs T x (resL (sysA a1).f2) (fr :: A.reverse) (low ++ a) := ⟨h.fi, h.loc, s3, low, a, l1, rfl, h.base, hn3, hb3, t1, h.ok⟩
  have hb := h.rb
  have hlast : (s.asks ++ [(⟨a1, sv⟩ : SAsk)]).getD ((s.asks ++ [(⟨a1, sv⟩ : SAsk)]).length - 1) zAsk = ⟨a1, sv⟩ := by
   rw [List.length_append, List.length_singleton, Nat.add_sub_cancel, List.getD_eq_getElem?_getD, List.getElem?_append_right (Nat.le_refl _), Nat.sub_self]; rfl
  refine ⟨⟨hb.fl, hb.st, ?_, hb.tr, hb.tf, fun q hq => ?_, ?_⟩, fun _ => ⟨h.en, by show 0 < (s.asks ++ [_]).length; simp, a1.toNat, ?_, by omega⟩, fun _ => ⟨by show 1 ≤ s.frames.length; rw [h.frs]; simp, ?_⟩⟩
  ·show (s.asks ++ [_]).length + s.fuel ≤ F0
   rw [List.length_append, List.length_singleton]
   have := h.sl
   omega
  ·rcases List.mem_append.1 hq with hq | hq
   ·exact hb.ak q hq
   ·rw [List.mem_singleton.1 hq]
    show sv.length ≤ 1000
    omega
  ·show (s.cut _).stack.length ≤ _
   rw [hcut.1]
   have := hb.sk
   rw [hk, List.length_append] at this
   omega
  ·show ((s.asks ++ [(⟨a1, sv⟩ : SAsk)]).getD ((s.asks ++ [(⟨a1, sv⟩ : SAsk)]).length - 1) zAsk).call = _
   rw [hlast]
   show a1 = _
   omega
  ·have hp : pendR { s.cut (sysA a1).f1.length with asks := s.asks ++ [⟨a1, sv⟩], waits := true } = resL (sysA a1).f2 := by
    unfold pendR
    rw [if_pos rfl]
    unfold resR
    show resL (sysA ((s.asks ++ [(⟨a1, sv⟩ : SAsk)]).getD ((s.asks ++ [(⟨a1, sv⟩ : SAsk)]).length - 1) zAsk).call).f2 = _
    rw [hlast]
   rw [hp]
   show OKs T x _ s.frames.reverse (s.cut (sysA a1).f1.length).stack
   rw [hcut.1, h.frs, List.reverse_append]
   exact hO1
 ·have hm : meansS T x (x.fns.getD fr.fi zFn) ⟨31, a1, b1⟩ = (eS, eS, false) := by
   unfold meansS
   simp only
   rw [if_neg (by decide), if_neg (by decide), if_neg (by decide), if_neg (by decide), if_neg (by decide), if_neg (by decide), if_neg (by decide), if_neg (by decide), if_neg (by decide), if_neg (by decide), if_pos trivial, if_neg hc]
  rw [hm] at hok; cases hok
theorem ri_32 (hX : XOK T x) (hT : TAB T) (h : CTX T x F0 s A fr low seg l k s0) (a1 b1 : Int) (hi : zi (x.fns.getD fr.fi zFn).f4 k = ⟨32, a1, b1⟩) : PreI x ⟨32, a1, b1⟩ s ∧ RI T x F0 (stepI x ⟨32, a1, b1⟩ s) := by
 obtain ⟨l1, g, a, sv, hk, t1, t2, hg, hpl, _, _, hr⟩ := h.takes _ hi (resL (x.fns.getD fr.fi zFn).f2) [] (by show bl (resultS _) = _; rw [bl_result]) (by rfl)
 rw [hpl (PT_res _)] at t2
 have hl1 := hr rfl
 rw [List.append_nil] at hl1
 subst hl1
 have ha := TS_nil' t1
 subst ha
 rw [List.append_nil] at hk
 have hsl := TS_length t2
 have hb := h.rb
 have hlow : low.length ≤ s.stack.length := by rw [hk, List.length_append]; omega
 refine ⟨⟨show 1 ≤ (32 : Int) ∧ (32 : Int) ≤ 33 by decide, (fun h => absurd h (show ¬ ((32 : Int) = 2 ∨ (32 : Int) = 3) by decide)), (fun h => absurd h (show ¬ ((32 : Int) = 4 ∨ (32 : Int) = 5 ∨ (32 : Int) = 6 ∨ (32 : Int) = 7) by decide)), (fun h => absurd h (show ¬ ((32 : Int) = 28 ∨ (32 : Int) = 29) by decide)), (fun h => absurd h (show ¬ ((32 : Int) = 3 ∨ (32 : Int) = 5 ∨ (32 : Int) = 6 ∨ (32 : Int) = 29 ∨ (32 : Int) = 33 ∨ oneB (32 : Int) = true) by decide)), (fun h => absurd h (show ¬ ((32 : Int) = 7 ∨ (8 ≤ (32 : Int) ∧ (32 : Int) ≤ 24 ∧ oneB (32 : Int) = false)) by decide)), (fun h => absurd h (show ¬ ((32 : Int) = 30) by decide)), (fun h => absurd h (show ¬ ((32 : Int) = 31) by decide)), (fun h => absurd h (show ¬ ((32 : Int) = 17) by decide)), (fun _ => ⟨by rw [top_of h.frs, h.base]; exact hlow, fun e => by rw [top_of h.frs] at e ⊢; rw [h.base, hk, List.length_append]; have h1 : resL (x.fns.getD fr.fi zFn).f2 = [letterOf (x.fns.getD fr.fi zFn).f2] := (by unfold resL; rw [if_neg e]); rw [h1] at hsl; have : sv.length = 1 := hsl.symm; omega⟩)⟩, ?_⟩
 rw [stepI_32, top_of h.frs]
 obtain ⟨rs, hrs⟩ : ∃ rs, rs = decide ((x.fns.getD fr.fi zFn).f2 ≠ 0) := ⟨_, rfl⟩
 rw [← hrs]
 have hcutv : rs = true → ∃ v, sv = [v] ∧ s.last = v ∧ (s.cut 1).stack = low := by
  intro e
  rw [hrs, decide_eq_true_eq] at e
  have h1 : resL (x.fns.getD fr.fi zFn).f2 = [letterOf (x.fns.getD fr.fi zFn).f2] := by unfold resL; rw [if_neg e]
  rw [h1] at hsl
  obtain ⟨v, rfl⟩ := len_one hsl.symm
  have h2 := last_of hk
  exact ⟨v, rfl, h2.1, h2.2⟩
 have hnov : rs = false → sv = [] := by
  intro e
  rw [hrs, decide_eq_false_iff_not, Decidable.not_not] at e
  have h1 : resL (x.fns.getD fr.fi zFn).f2 = [] := by unfold resL; rw [if_pos e]
  rw [h1] at hsl
  exact List.eq_nil_of_length_eq_zero hsl.symm
 have htk : s.frames.take (s.frames.length - 1) = A := by rw [h.frs, List.length_append, List.length_singleton, Nat.add_sub_cancel, List.take_left']; rfl
 have hAl : A.length ≤ 64 := by have := hb.fl; rw [h.frs, List.length_append] at this; omega
 have hlen : s.frames.length = A.length + 1 := by rw [h.frs]; simp
 have hlowk : low.length ≤ 25600 := by have := hb.sk; omega
 have hO : A ≠ [] → OKs T x [] A.reverse (low ++ sv) := fun hne => OKs_pop h.ok (by simpa using hne) t2
 cases rs
 ·have hsv := hnov rfl
  subst hsv
  rw [List.append_nil] at hk hO
  have hst : s.stack.take s.top.base = low := by rw [top_of h.frs, h.base, hk, List.take_length]
  unfold backR
  simp only [Bool.false_eq_true, if_false, htk, hst]
  by_cases h1 : s.frames.length = 1
  ·rw [if_pos h1, if_pos rfl]
   exact ⟨⟨hAl, hb.st, hb.fu, hb.tr, hb.tf, hb.ak, hlowk⟩, fun e => (by have e2 : s.waits = true := e; rw [h.wa] at e2; cases e2), fun e => by cases e⟩
  ·rw [if_neg h1, if_neg Bool.false_ne_true]
   have hne : A ≠ [] := by intro e; rw [e] at hlen; exact h1 hlen
   refine ⟨⟨hAl, hb.st, hb.fu, hb.tr, hb.tf, hb.ak, hlowk⟩, fun e => (by have e2 : s.waits = true := e; rw [h.wa] at e2; cases e2), fun _ => ⟨List.length_pos_iff.2 hne, ?_⟩⟩
   unfold pendR
   rw [if_neg (by show ¬ s.waits = true; rw [h.wa]; decide)]
   exact hO hne
 ·obtain ⟨v, rfl, hv, hc1⟩ := hcutv rfl
  have hst : (s.cut 1).stack.take s.top.base = low := by rw [top_of h.frs, h.base, hc1, List.take_length]
  unfold backR
  simp only [if_true, htk, hst, hv]
  by_cases h1 : s.frames.length = 1
  ·rw [if_pos h1, if_pos rfl]
   exact ⟨⟨hAl, hb.st, hb.fu, hb.tr, hb.tf, hb.ak, hlowk⟩, fun e => (by have e2 : s.waits = true := e; rw [h.wa] at e2; cases e2), fun e => by cases e⟩
  ·rw [if_neg h1, if_neg Bool.false_ne_true]
   have hne : A ≠ [] := by intro e; rw [e] at hlen; exact h1 hlen
   have hsk2 : (low ++ [v]).length ≤ 25600 := by have := hb.sk; rw [hk] at this; exact this
   refine ⟨⟨hAl, hb.st, hb.fu, hb.tr, hb.tf, hb.ak, hsk2⟩, fun e => (by have e2 : s.waits = true := e; rw [h.wa] at e2; cases e2), fun _ => ⟨List.length_pos_iff.2 hne, ?_⟩⟩
   unfold pendR
   rw [if_neg (by show ¬ s.waits = true; rw [h.wa]; decide)]
   exact hO hne
end
/-! ### What verify lets through runs right: plain -/
section
variable {T : Nat → ByteArray × ByteArray} {x : SImage} {F0 : Nat}
theorem CTX.step (hX : XOK T x) (hT : TAB T) {s : SRun} {A : List SFrm} {fr : SFrm} {low seg : List Int} {l : List UInt8} {k : Nat} {s0 : ByteArray} (h : CTX T x F0 s A fr low seg l k s0) (i : SInstr) (hi : zi (x.fns.getD fr.fi zFn).f4 k = i) : PreI x i s ∧ RI T x F0 (stepI x i s) := by
 obtain ⟨_, h1, h2⟩ := h.inst hX i hi
 obtain ⟨o, a1, b1⟩ := i
 simp only at h1 h2
 have ho : o = 1 ∨ o = 2 ∨ o = 3 ∨ o = 4 ∨ o = 5 ∨ o = 6 ∨ o = 7 ∨ o = 8 ∨ o = 9 ∨ o = 10 ∨ o = 11 ∨ o = 12 ∨ o = 13 ∨ o = 14 ∨ o = 15 ∨ o = 16 ∨ o = 17 ∨ o = 18 ∨ o = 19 ∨ o = 20 ∨ o = 21 ∨ o = 22 ∨ o = 23 ∨ o = 24 ∨ o = 25 ∨ o = 26 ∨ o = 27 ∨ o = 28 ∨ o = 29 ∨ o = 30 ∨ o = 31 ∨ o = 32 ∨ o = 33 := by omega
 rcases ho with rfl | rfl | rfl | rfl | rfl | rfl | rfl | rfl | rfl | rfl | rfl | rfl | rfl | rfl | rfl | rfl | rfl | rfl | rfl | rfl | rfl | rfl | rfl | rfl | rfl | rfl | rfl | rfl | rfl | rfl | rfl | rfl | rfl
 ·exact ri_1 hX hT h a1 b1 hi
 ·exact ri_2 hX hT h a1 b1 hi
 ·exact ri_3 hX hT h a1 b1 hi
 ·exact ri_4 hX hT h a1 b1 hi
 ·exact ri_5 hX hT h a1 b1 hi
 ·exact ri_6 hX hT h a1 b1 hi
 ·exact ri_7 hX hT h a1 b1 hi
 ·exact ri_8 hX hT h a1 b1 hi
 ·exact ri_9 hX hT h a1 b1 hi
 ·exact ri_10 hX hT h a1 b1 hi
 ·exact ri_11 hX hT h a1 b1 hi
 ·exact ri_12 hX hT h a1 b1 hi
 ·exact ri_13 hX hT h a1 b1 hi
 ·exact ri_14 hX hT h a1 b1 hi
 ·exact ri_15 hX hT h a1 b1 hi
 ·exact ri_16 hX hT h a1 b1 hi
 ·exact ri_17 hX hT h a1 b1 hi
 ·exact ri_18 hX hT h a1 b1 hi
 ·exact ri_19 hX hT h a1 b1 hi
 ·exact ri_20 hX hT h a1 b1 hi
 ·exact ri_21 hX hT h a1 b1 hi
 ·exact ri_22 hX hT h a1 b1 hi
 ·exact ri_23 hX hT h a1 b1 hi
 ·exact ri_24 hX hT h a1 b1 hi
 ·exact ri_25 hX hT h a1 b1 hi
 ·exact ri_26 hX hT h a1 b1 hi
 ·exact ri_27 hX hT h a1 b1 hi
 ·exact ri_28 hX hT h a1 b1 hi
 ·exact ri_29 hX hT h a1 b1 hi
 ·exact ri_30 hX hT h a1 b1 hi
 ·exact ri_31 hX hT h a1 b1 hi
 ·exact ri_32 hX hT h a1 b1 hi
 ·exact ri_33 hX hT h a1 b1 hi
/-- a run that goes on, behind its fetching -/
theorem RI.ctx (hX : XOK T x) {s : SRun} (h : RI T x F0 s) (he : s.ended = false) (hw : s.waits = false) (hf : s.fuel ≠ 0) :
  ∃ A fr low seg l s0, s.frames = A ++ [fr] ∧ CTX T x F0 s.fetch A { fr with at_ := fr.at_ + 1 } low seg l fr.at_ s0 := by
 obtain ⟨hb, _, hfr⟩ := h
 obtain ⟨h1, hO⟩ := hfr he
 have hp : pendR s = [] := by unfold pendR; rw [hw, if_neg (by decide)]
 rw [hp] at hO
 cases hr : s.frames.reverse with
 | nil =>
  have : s.frames.length = 0 := by rw [← List.length_reverse, hr]; rfl
  omega
 | cons fr fs =>
  rw [hr] at hO
  obtain ⟨hi, hl, s0, low, seg, l, hk, hbs, hn, hbl, ht, ho⟩ := hO
  have hA : s.frames = fs.reverse ++ [fr] := by
   have := congrArg List.reverse hr
   rw [List.reverse_reverse, List.reverse_cons] at this
   exact this
  have hnt := (hX.noted fr.fi hi).2 _ _ hn
  have hfet : s.fetch.frames = fs.reverse ++ [{ fr with at_ := fr.at_ + 1 }] := by
   unfold SRun.fetch
   rw [top_of hA]
   exact setTop_of (s := { s with fuel := s.fuel - 1 }) hA _
  have hfl : s.fetch.frames.length = s.frames.length := by rw [hfet, hA]; simp
  refine ⟨fs.reverse, fr, low, seg, l, s0, hA, ?_⟩
  rw [List.append_nil] at hbl
  exact ⟨⟨by rw [hfl]; exact hb.fl, hb.st, by show s.asks.length + (s.fuel - 1) ≤ F0; have := hb.fu; omega, hb.tr, fun e => by show s.fuel - 1 = 0; have := hb.tf e; omega, hb.ak, hb.sk⟩, he, hw, hfet, hi, hl, hk, hbs, ht, by rw [List.reverse_reverse]; exact ho, hbl, hnt.2, rfl, by show fr.at_ < (x.fns.getD fr.fi zFn).f4.length; have := hnt.1; omega, by show s.asks.length + (s.fuel - 1) + 1 ≤ F0; have := hb.fu; omega⟩
theorem RI.pre (hX : XOK T x) (hT : TAB T) (hF : F0 ≤ 1048576) {s : SRun} (h : RI T x F0 s) (he : s.ended = false) (hw : s.waits = false) (hf : s.fuel ≠ 0) : Pre x s ∧ RI T x F0 (stepI x (s.instr x) s.fetch) := by
 obtain ⟨A, fr, low, seg, l, s0, hA, hc⟩ := h.ctx hX he hw hf
 have htop := top_of hA
 have hi : zi (x.fns.getD ({ fr with at_ := fr.at_ + 1 } : SFrm).fi zFn).f4 fr.at_ = s.instr x := by
  unfold SRun.instr; rw [htop]
 obtain ⟨p1, p2⟩ := hc.step hX hT _ hi
 have hb := h.rb
 have hm := getD_mem x.fns zFn fr.fi hc.fi _ rfl
 refine ⟨⟨⟨?_, ?_, hb.fl, ?_, ?_, ?_⟩, ?_, ?_, ?_, ?_, p1⟩, p2⟩
 ·have h1 := hb.st.1; have h2 := hX.lg; omega
 ·have := hb.sk; omega
 ·rw [hA]; simp
 ·have := hb.fu; omega
 ·have := hb.fu; omega
 ·rw [htop]; exact hc.fi
 ·have := hX.lf; omega
 ·rw [htop]; exact hc.kl
 ·rw [htop]; have := (hX.fl _ hm).2.2.2.1; omega
theorem RI.step (hX : XOK T x) (hT : TAB T) (hF : F0 ≤ 1048576) {s : SRun} (h : RI T x F0 s) (he : s.ended = false) (hw : s.waits = false) : RI T x F0 (stepR x s) := by
 unfold stepR
 split
 ·rename_i h0
  have hb := h.rb
  exact ⟨⟨hb.fl, hb.st, hb.fu, ⟨by show (0 : Int) ≤ 1; decide, by show (1 : Int) ≤ 5; decide⟩, fun _ => h0, hb.ak, hb.sk⟩, fun e => (by have e2 : s.waits = true := e; rw [hw] at e2; cases e2), fun e => by cases e⟩
 ·rename_i h0
  exact (h.pre hX hT hF he hw h0).2
theorem RI.inv (hX : XOK T x) (hT : TAB T) (hF : F0 ≤ 1048576) : InvOK x (RI T x F0) := by
 refine ⟨fun s h he hw hf => (h.pre hX hT hF he hw hf).1, fun s h he hw => h.step hX hT hF he hw, fun s h hw => (h.wt hw).2.1, fun s h => ?_, fun s h => h.rb.ak, fun s h hw => (h.wt hw).2.2, fun s h => ?_, fun s h => ⟨?_, fun r hr => ?_⟩⟩
 ·have := h.rb.fu; omega
 ·have := h.rb.sk; omega
 ·have h1 := h.rb.st.1; have h2 := hX.lg; omega
 ·obtain ⟨i, hi, rfl⟩ := List.getElem_of_mem hr
  have h1 := h.rb.st.1
  have h2 := ST_row hX h.rb.st (i : Int) (by omega) (by omega)
  rw [Int.toNat_natCast, List.getD_eq_getElem?_getD, List.getElem?_eq_getElem hi] at h2
  have := h2.2.2.1
  rw [Option.getD_some] at this
  omega
theorem RI.reply (hX : XOK T x) {s : SRun} (h : RI T x F0 s) (v : Int) (tr : Bool) (hv : In v) : RI T x F0 (replyR v tr s) := by
 unfold replyR
 split
 ·exact h
 ·rename_i hw
  have hw2 : s.waits = true := by simpa using hw
  obtain ⟨he, _, _⟩ := h.wt hw2
  obtain ⟨h1, hO⟩ := h.fr he
  have hb := h.rb
  have hp : pendR s = resL (resR s) := by unfold pendR; rw [if_pos hw2]
  rw [hp] at hO
  have hne : s.frames.reverse ≠ [] := by
   intro e
   have : s.frames.length = 0 := by rw [← List.length_reverse, e]; rfl
   omega
  have hput : ∀ u, TS (resL (resR s)) [u] → RI T x F0 (({ s with waits := false } : SRun).put u) := by
   intro u hu
   have hO2 := OKs_pop hO hne hu
   have hlen := OKs_len hX hO2
   rw [List.length_reverse] at hlen
   exact ⟨⟨hb.fl, hb.st, hb.fu, hb.tr, hb.tf, hb.ak, by show (s.stack ++ [u]).length ≤ 25600; have := hb.fl; omega⟩, (fun e => by cases e), fun _ => ⟨h1, hO2⟩⟩
  split
  ·exact ⟨⟨hb.fl, hb.st, hb.fu, ⟨by show (0 : Int) ≤ 5; decide, by show (5 : Int) ≤ 5; decide⟩, (fun e => absurd e (show ¬ ((5 : Int) = 1) by decide)), hb.ak, hb.sk⟩, (fun e => by cases e), (fun e => by cases e)⟩
  ·split
   ·rename_i h0
    have e0 : resL (resR s) = [] := by unfold resL; rw [if_pos h0]
    rw [e0] at hO
    exact ⟨⟨hb.fl, hb.st, hb.fu, hb.tr, hb.tf, hb.ak, hb.sk⟩, (fun e => by cases e), fun _ => ⟨h1, hO⟩⟩
   ·rename_i h0
    have e0 : resL (resR s) = [letterOf (resR s)] := by unfold resL; rw [if_neg h0]
    split
    ·exact hput _ (by rw [e0]; exact TS_one (VL_bit _ _))
    ·rename_i h3
     exact hput _ (by rw [e0]; exact TS_one (VL_letter _ _ hv (fun e => absurd e h3)))
theorem fits_in (t : Int) (l : List Int) (h : fitsB t l = true) (hl : ∀ v ∈ l, In v) : ∀ v ∈ l, VL (letterOf t) v := by
 intro v hv
 refine VL_letter t v (hl v hv) (fun e => ?_)
 unfold fitsB at h
 rw [e] at h
 have h2 : l.any notBit = false := by simpa using h
 have h3 := List.any_eq_false.1 h2 v hv
 have h4 : bits .andNot .i64 v 1 = 0 := by
  unfold notBit at h3
  simpa using h3
 exact push_bool v (hl v hv) h4
theorem none_all {p : Nat → Bool} {n : Nat} (h : (firstFrom p 0 n).isNone = true) : ∀ j, j < n → p j = false :=
 fun j hj => (firstFrom_none.1 (Option.isNone_iff_eq_none.1 h)) j (Nat.zero_le j) hj
theorem TS_mk : ∀ (l : List UInt8) (vs : List Int), l.length = vs.length → (∀ i, i < l.length → VL (l.getD i 0) (vs.getD i 0)) → TS l vs
 | [], [], _, _ => trivial
 | c :: l, v :: vs, h, hv => ⟨hv 0 (by simp), TS_mk l vs (by simpa using h) (fun i hi => hv (i + 1) (by simpa using hi))⟩
 | [], _ :: _, h, _ => by simp at h
 | _ :: _, [], h, _ => by simp at h
theorem right_ST (state : List (List Int)) (hl : state.length = x.globs.length) (h : stateR x state = true) (hin : ∀ r ∈ state, ∀ v ∈ r, In v) : ST x.globs state := by
 refine ⟨hl, fun i hi => ?_⟩
 have h1 := none_all h i hi
 unfold stateBad at h1
 rw [Bool.or_eq_false_iff, decide_eq_false_iff_not, Decidable.not_not, Bool.not_eq_false'] at h1
 have hm : state.getD i [] ∈ state := getD_mem state [] i (by omega) _ rfl
 exact ⟨h1.1, fits_in _ _ h1.2 (hin _ hm)⟩
theorem RI.begin (hX : XOK T x) (state : List (List Int)) (fn : Int) (args : List Int) (fuel : Int) (h : rightR x state fn args fuel = true) (hin : ∀ r ∈ state, ∀ v ∈ r, In v) (ha : ∀ v ∈ args, In v) : RI T x fuel.toNat (beginR x state fn args fuel) := by
 unfold rightR at h
 rw [Bool.and_eq_true, Bool.and_eq_true] at h
 obtain ⟨h1, h2, h3⟩ := h
 obtain ⟨k1, k2, k3, k4, k5, k6⟩ := headR_parts h1
 have hn : fn.toNat < x.fns.length := by omega
 have hst := right_ST state k1 h2 hin
 have ht : TS (lets (x.fns.getD fn.toNat zFn).f1) args := by
  refine TS_mk _ _ (by rw [lets_length]; exact k6.symm) (fun i hi => ?_)
  rw [lets_length] at hi
  have h4 := none_all h3 i hi
  unfold argBad at h4
  rw [Bool.not_eq_false'] at h4
  rw [lets_getD _ _ hi]
  have hm : args.getD i 0 ∈ args := getD_mem args 0 i (by rw [k6]; exact hi) _ rfl
  exact fits_in _ _ h4 (fun v hv => by rw [List.mem_singleton.1 hv]; exact ha _ hm) _ (by simp)
 have hO := enter_ok hX fn.toNat hn args ht (fs := []) (lo := []) rfl
 refine ⟨⟨by show (([] : List SFrm) ++ [_]).length ≤ 64; simp, hst, by show ([] : List SAsk).length + fuel.toNat ≤ fuel.toNat; simp, ⟨by show (0 : Int) ≤ 0; decide, by show (0 : Int) ≤ 5; decide⟩, (fun e => absurd e (show ¬ ((0 : Int) = 1) by decide)), (fun a ha => by cases ha), by show ([] : List Int).length ≤ 25600; simp⟩, (fun e => by cases e), fun _ => ⟨by show 1 ≤ (([] : List SFrm) ++ [_]).length; simp, ?_⟩⟩
 exact hO
theorem XOK_of (hT : TOK T) (hv : (verifyS T x).1 = 0) (hin : ∀ f ∈ x.fns, ∀ i ∈ f.f4, In i.f1) : XOK T x := by
 have ho := right_ok (verify_right hv)
 have hI := imgOK_of ho
 obtain ⟨h1, h2, h3, h4⟩ := okB_bounds x ho
 refine ⟨h2, h1, hI, fun f hf => ?_, fun g hg => ?_, hin, fun n hn => ?_⟩
 ·have h6 := h4 f hf
  obtain ⟨_, b1, b2, b3, b4, _⟩ := fnB_bound f h6
  unfold fnB at h6
  simp only [Bool.and_eq_true, decide_eq_true_eq] at h6
  exact ⟨b1, b2, b3, b4, eq_of_beq h6.2.2.1⟩
 ·have := globB_bound g (h3 g hg)
  omega
 ·have hm := getD_mem x.fns zFn n hn _ rfl
  refine fn_closed T x (x.fns.getD n zFn) n hI (hI.fn _ hm) hT ?_
  unfold verifyS at hv
  rw [if_pos (verify_right hv)] at hv
  cases hq : firstFrom (headBad x.fns) 0 x.fns.length with
  | some k => rw [hq] at hv; exact absurd (show (163 : Int) = 0 from hv) (by decide)
  | none =>
   rw [hq] at hv
   simp only at hv
   cases hq2 : firstFrom (fun k => (fnAt T x k).fc != 0) 0 x.fns.length with
   | some k =>
    rw [hq2] at hv
    simp only at hv
    have : (fun k => (fnAt T x k).fc != 0) k = true := by
     have hs : ∀ i, firstFrom (fun k => (fnAt T x k).fc != 0) i x.fns.length = some k → (fun k => (fnAt T x k).fc != 0) k = true := by
      intro i
      fun_induction firstFrom (fun k => (fnAt T x k).fc != 0) i x.fns.length with
      | case1 i h hp => intro e; injection e with e; subst e; exact hp
      | case2 i h hp ih => exact ih
      | case3 i h => intro e; cases e
     exact hs 0 hq2
    simp only [hv] at this
    exact absurd this (by decide)
   | none =>
    have := firstFrom_none.1 hq2 n (Nat.zero_le n) hn
    simpa [fnAt] using this
/-- a run of an image that is right, as Execute wants it -/
theorem inv_of (hT : TOK T) (hTB : TAB T) (hv : (verifyS T x).1 = 0) (hin : ∀ f ∈ x.fns, ∀ i ∈ f.f4, In i.f1) (state : List (List Int)) (fn : Int) (args : List Int) (fuel : Int) (rs : List SRep) (h : rightR x state fn args fuel = true) (hs : ∀ r ∈ state, ∀ v ∈ r, In v) (ha : ∀ v ∈ args, In v) (hr : ∀ r ∈ rs, In r.v) :
  ∃ Inv : SRun → Prop, InvOK x Inv ∧ Inv (beginR x state fn args fuel) ∧ ∀ s r, (r ∈ rs ∨ r = zRep) → Inv s → s.waits = true → Inv (replyR r.v r.tr s) := by
 have hX := XOK_of hT hv hin
 have hF : fuel.toNat ≤ 1048576 := by
  unfold rightR at h
  rw [Bool.and_eq_true] at h
  have := headR_parts h.1
  omega
 refine ⟨RI T x fuel.toNat, RI.inv hX hTB hF, RI.begin hX state fn args fuel h hs ha, fun s r hr2 hI _ => hI.reply hX r.v r.tr ?_⟩
 rcases hr2 with hr2 | rfl
 ·exact hr r hr2
 ·exact In_0
end
/-! ### The document's examples: plain -/
def tabT (j : Nat) : ByteArray × ByteArray := (⟨(tabD.getD j ([], [])).1.toArray⟩, ⟨(tabD.getD j ([], [])).2.toArray⟩)
theorem tabOK : TOK tabT := by
 have h : ∀ j, j < 34 → (tabD.getD j ([], [])).1.length ≤ 2 ∧ (tabD.getD j ([], [])).2.length ≤ 1 := by decide
 intro j hj
 have := h j hj
 simpa [tabT, ByteArray.size] using this
theorem tabTAB : TAB tabT := fun j _ => ⟨rfl, rfl⟩
def fA : SFn := ⟨⟨#[102]⟩, [1], 1, [1], [⟨2, 0, 0⟩, ⟨1, 2, 1⟩, ⟨10, 0, 0⟩, ⟨32, 0, 0⟩]⟩
def gA : SFn := ⟨⟨#[103]⟩, [], 3, [], [⟨1, 0, 4⟩, ⟨31, 2, 0⟩, ⟨32, 0, 0⟩]⟩
def xA : SImage := ⟨[], [fA, gA]⟩
def xB : SImage := ⟨[], [⟨⟨#[102]⟩, [], 0, [], []⟩]⟩
theorem verA : verifyS tabT xA = (0, 0) := by kernel_rfl
theorem verB : (verifyS tabT xB).1 = 161 := by kernel_rfl
theorem runA1 : execR tabT xA [] 0 [21] 10 [] = (⟨0, 42, 6, [], []⟩, 0) := by kernel_rfl
theorem runA2 : execR tabT xA [] 0 [21] 3 [] = (⟨1, 0, 0, [], []⟩, 0) := by kernel_rfl
theorem runA3 : execR tabT xA [] 1 [] 5 [⟨7, false⟩] = (⟨0, 1, 2, [], [⟨2, [0]⟩]⟩, 0) := by kernel_rfl
theorem findA1 : findS xA ⟨#[103]⟩ = 1 := by kernel_rfl
theorem findA2 : findS xA ⟨#[104]⟩ = -1 := by kernel_rfl
theorem insA : ∀ f ∈ xA.fns, ∀ i ∈ f.f4, In i.f1 := by unfold In; decide
set_option maxHeartbeats 4000000
/-! ### The examples' images in memory -/
def inst3 (i : SInstr) : List Value := [.int .i64 i.f0, .int .i64 i.f1, .int .i64 i.f2]
theorem flat3 : ∀ (l : List SInstr) (j i : Nat) (x : SInstr), l[j]? = some x → i < 3 → (l.flatMap inst3)[j * 3 + i]? = (inst3 x)[i]?
 | [], j, i, x, h, _ => by simp at h
 | y :: l, 0, i, x, h, hi => by
  obtain rfl : y = x := by simpa using h
  rw [List.flatMap_cons, Nat.zero_mul, Nat.zero_add, List.getElem?_append_left (by simpa [inst3] using hi)]
 | y :: l, j + 1, i, x, h, hi => by
  rw [List.flatMap_cons, List.getElem?_append_right (by simp [inst3]; omega)]
  have e : (j + 1) * 3 + i - (inst3 y).length = j * 3 + i := by simp [inst3]; omega
  rw [e]
  exact flat3 l j i x (by simpa using h) hi
theorem C_instrs {W : World} {g : Nat} (l : List SInstr) (hblk : W.heap[g]? = some (.cells (l.flatMap inst3).toArray 56 (0, 0))) (hl : l.length ≤ 1000000) :
  kInstr.C W (some ⟨g, 0, none⟩) l.length l := by
 refine ⟨rfl, by omega, fun _ => ⟨_, rfl, fun j p hj => ⟨inst3 p, rfl, kInstr_mk W p, fun i u hu => ?_⟩⟩⟩
 have hi : i < 3 := by
  have := (List.getElem?_eq_some_iff.1 hu).1
  simpa [inst3] using this
 have hcell : ∀ i, W.cell? ⟨g, i, none⟩ = ((l.flatMap inst3).toArray)[i]? := fun i => cell_of_row W g i _ _ (0, 0) hblk
 rw [add_plain, hcell]
 have e : (l.flatMap inst3).toArray[0 + (j * kInstr.sz + i)]? = (l.flatMap inst3)[j * 3 + i]? := by
  have hs : kInstr.sz = 3 := rfl
  rw [hs, Nat.zero_add]; simp
 first | (rw [e, flat3 l j i p hj hi]; exact hu) | (simp only [show kInstr.sz = 3 from rfl]; rw [show (l.flatMap inst3).toArray[j * 3 + i]? = (l.flatMap inst3)[j * 3 + i]? from by simp, flat3 l j i p hj hi]; exact hu)
theorem C_int1 {W : World} {g : Nat} (v : Int) (hblk : W.heap[g]? = some (.cells #[.int .i64 v] 3 (0, 0))) : (Kd.int .i64).C W (some ⟨g, 0, none⟩) 1 [v] := by
 refine ⟨rfl, by decide, fun _ => ⟨_, rfl, fun j p hj => ⟨[.int .i64 p], rfl, rfl, fun i u hu => ?_⟩⟩⟩
 have hj0 : j = 0 := by
  have := (List.getElem?_eq_some_iff.1 hj).1
  simpa using this
 subst hj0
 have hi : i = 0 := by
  have := (List.getElem?_eq_some_iff.1 hu).1
  simpa using this
 subst hi
 have hp : v = p := by simpa using hj
 subst hp
 have hu2 : Value.int .i64 v = u := by simpa using hu
 rw [add_plain]
 show W.cell? ⟨g, _, none⟩ = some u
 rw [← hu2, show 0 * (Kd.int .i64).sz + 0 = 0 by simp]
 exact (blk_cell hblk 0).trans rfl
theorem C_rep1 {W : World} {g : Nat} (r : SRep) (hblk : W.heap[g]? = some (.cells #[.int .i64 r.v, .bool r.tr] 71 (0, 0))) : kRep.C W (some ⟨g, 0, none⟩) 1 [r] := by
 refine ⟨rfl, by decide, fun _ => ⟨_, rfl, fun j p hj => ?_⟩⟩
 have hj0 : j = 0 := by
  have := (List.getElem?_eq_some_iff.1 hj).1
  simpa using this
 subst hj0
 have hp : r = p := by simpa using hj
 subst hp
 refine ⟨[.int .i64 r.v, .bool r.tr], rfl, ⟨[.int .i64 r.v], [.bool r.tr], rfl, rfl, rfl⟩, fun i u hu => ?_⟩
 rw [add_plain]
 have hi : i < 2 := by
  have := (List.getElem?_eq_some_iff.1 hu).1
  simpa using this
 have e : 0 * kRep.sz + i = i := by simp
 rw [e, blk_cell hblk i, ← hu]
 simp
theorem imgA {W : World} {p1 p3 p4 q4 b : Nat} (h1 : W.heap[p1]? = some (.cells #[.int .i64 1] 3 (0, 0))) (h3 : W.heap[p3]? = some (.cells #[.int .i64 1] 3 (0, 0)))
  (h4 : W.heap[p4]? = some (.cells (fA.f4.flatMap inst3).toArray 56 (0, 0))) (h5 : W.heap[q4]? = some (.cells (gA.f4.flatMap inst3).toArray 56 (0, 0)))
  (hb : W.heap[b]? = some (.cells #[.string ⟨#[102]⟩, .slice (some ⟨p1, 0, none⟩) 1 1, .int .i64 1, .slice (some ⟨p3, 0, none⟩) 1 1, .slice (some ⟨p4, 0, none⟩) 4 4, .string ⟨#[103]⟩, .slice none 0 0, .int .i64 3, .slice none 0 0, .slice (some ⟨q4, 0, none⟩) 3 3] 54 (0, 0))) :
  VImage W xA (.agg #[.slice none 0 0, .slice (some ⟨b, 0, none⟩) 2 2]) := by
 refine ⟨none, 0, some ⟨b, 0, none⟩, 2, rfl, Nat.le_refl _, Kd.C_nil _ _, Nat.le_refl _, ⟨rfl, by decide, fun _ => ⟨_, rfl, fun j p hj => ?_⟩⟩⟩
 have hjl : j < 2 := (List.getElem?_eq_some_iff.1 hj).1
 have hs : kFn.sz = 5 := rfl
 rcases (show j = 0 ∨ j = 1 by omega) with rfl | rfl
 ·have hp : fA = p := by injection hj
  subst hp
  refine ⟨_, rfl, kFn_mk W fA (A1 := some ⟨p1, 0, none⟩) (c1 := 1) (Nat.le_refl _) (C_int1 1 h1) (A3 := some ⟨p3, 0, none⟩) (c3 := 1) (Nat.le_refl _) (C_int1 1 h3) (A4 := some ⟨p4, 0, none⟩) (c4 := 4) (Nat.le_refl _) (C_instrs fA.f4 h4 (by decide)), fun i u hu => ?_⟩
  have hi : i < 5 := (List.getElem?_eq_some_iff.1 hu).1
  rw [add_plain, show 0 * kFn.sz + i = i by simp, blk_cell hb i, ← hu]
  rcases (show i = 0 ∨ i = 1 ∨ i = 2 ∨ i = 3 ∨ i = 4 by omega) with rfl | rfl | rfl | rfl | rfl <;> rfl
 ·have hp : gA = p := by injection hj
  subst hp
  refine ⟨_, rfl, kFn_mk W gA (A1 := none) (c1 := 0) (Nat.le_refl _) (Kd.C_nil _ _) (A3 := none) (c3 := 0) (Nat.le_refl _) (Kd.C_nil _ _) (A4 := some ⟨q4, 0, none⟩) (c4 := 3) (Nat.le_refl _) (C_instrs gA.f4 h5 (by decide)), fun i u hu => ?_⟩
  have hi : i < 5 := (List.getElem?_eq_some_iff.1 hu).1
  rw [add_plain, show 1 * kFn.sz + i = 5 + i by rw [hs], blk_cell hb (5 + i), ← hu]
  rcases (show i = 0 ∨ i = 1 ∨ i = 2 ∨ i = 3 ∨ i = 4 by omega) with rfl | rfl | rfl | rfl | rfl <;> rfl
theorem imgB {W : World} {b : Nat} (hb : W.heap[b]? = some (.cells #[.string ⟨#[102]⟩, .slice none 0 0, .int .i64 0, .slice none 0 0, .slice none 0 0] 54 (0, 0))) :
  VImage W xB (.agg #[.slice none 0 0, .slice (some ⟨b, 0, none⟩) 1 1]) := by
 refine ⟨none, 0, some ⟨b, 0, none⟩, 1, rfl, Nat.le_refl _, Kd.C_nil _ _, Nat.le_refl _, ⟨rfl, by decide, fun _ => ⟨_, rfl, fun j p hj => ?_⟩⟩⟩
 have hjl : j < 1 := (List.getElem?_eq_some_iff.1 hj).1
 obtain rfl : j = 0 := by omega
 have hp : (⟨⟨#[102]⟩, [], 0, [], []⟩ : SFn) = p := by injection hj
 subst hp
 refine ⟨_, rfl, kFn_mk W ⟨⟨#[102]⟩, [], 0, [], []⟩ (A1 := none) (c1 := 0) (Nat.le_refl _) (Kd.C_nil _ _) (A3 := none) (c3 := 0) (Nat.le_refl _) (Kd.C_nil _ _) (A4 := none) (c4 := 0) (Nat.le_refl _) (Kd.C_nil _ _), fun i u hu => ?_⟩
 have hi : i < 5 := (List.getElem?_eq_some_iff.1 hu).1
 rw [add_plain, show 0 * kFn.sz + i = i by simp, blk_cell hb i, ← hu]
 rcases (show i = 0 ∨ i = 1 ∨ i = 2 ∨ i = 3 ∨ i = 4 by omega) with rfl | rfl | rfl | rfl | rfl <;> rfl
theorem smallA : imgSmall 1000000 xA := by
 refine ⟨by decide, by decide, fun f hf => ?_⟩
 rcases (show f = fA ∨ f = gA by simpa [xA] using hf) with rfl | rfl <;> exact ⟨by decide, by decide, by decide, by decide⟩
theorem smallB : imgSmall 1099511620000 xB := by
 refine ⟨by decide, by decide, fun f hf => ?_⟩
 have : f = ⟨⟨#[102]⟩, [], 0, [], []⟩ := by simpa [xB] using hf
 subst this
 exact ⟨by decide, by decide, by decide, by decide⟩
/-! ### Execute, of any image; law 17's awake -/
theorem exec_all (T : Nat → ByteArray × ByteArray) (x : SImage) (v : Value) (w : World) (hv : VImage w x v) (hs : imgSmall 1000000 x) (hG : Nib w) (hT : Pln T w) (hTK : TOK T) (hTB : TAB T) (hin : ∀ f ∈ x.fns, ∀ i ∈ f.f4, In i.f1) (A : Option Addr) (c : Nat) (state : List (List Int)) (hS : kInts.C w A state.length state) (fn : Int) (Ba : Option Addr) (d : Nat) (args : List Int) (hA : (Kd.int .i64).C w Ba args.length args) (fuel : Int) (Ar : Option Addr) (cr : Nat) (rs : List SRep) (hRs : kRep.C w Ar rs.length rs) (hrc : rs.length ≤ cr) (hs1 : state.length ≤ 1000000) (hsl : ∀ r ∈ state, r.length ≤ 1000000) (ha1 : args.length ≤ 2000000) (hr1 : rs.length ≤ 1000000000)
  (i1 : ∀ r ∈ state, ∀ v ∈ r, In v) (i2 : ∀ v ∈ args, In v) (i3 : ∀ r ∈ rs, In r.v) :
  Calls Tryz.prog 11 #[v, .slice A state.length c, .int .i64 fn, .slice Ba args.length d, .int .i64 fuel, .slice Ar rs.length cr] w (ExecPost w (execR T x state fn args fuel rs)) :=
 exec_any T x v w hv hs hG hT hTK A c state hS fn Ba d args hA fuel Ar cr rs hRs hrc hs1 hsl ha1 hr1 (fun h1 h2 => inv_of hTK hTB h1 hin state fn args fuel rs h2 i1 i2 i3)
theorem execA {v : Value} {w : World} (hv : VImage w xA v) (hG : Nib w) (hT : Pln tabT w) (fn : Int) (Ba : Option Addr) (d : Nat) (args : List Int) (hA : (Kd.int .i64).C w Ba args.length args) (fuel : Int) (Ar : Option Addr) (cr : Nat) (rs : List SRep) (hRs : kRep.C w Ar rs.length rs) (hrc : rs.length ≤ cr) (ha1 : args.length ≤ 2000000) (hr1 : rs.length ≤ 1000000000)
  (i2 : ∀ v ∈ args, In v) (i3 : ∀ r ∈ rs, In r.v) (r : SEnd × Int) (hr : execR tabT xA [] fn args fuel rs = r) :
  Calls Tryz.prog 11 #[v, .slice none 0 0, .int .i64 fn, .slice Ba args.length d, .int .i64 fuel, .slice Ar rs.length cr] w (ExecPost w r) := by
 rw [← hr]
 exact exec_all tabT xA v w hv smallA hG hT tabOK tabTAB insA none 0 [] (Kd.C_nil _ _) fn Ba d args hA fuel Ar cr rs hRs hrc (by simp) (by simp) ha1 hr1 (by simp) i2 i3
theorem MADE.mach_up {base : Nat} {w w' : World} {mb : Nat} {x : SImage} {AG : Option Addr} {cG : Nat} {AF : Option Addr} {cF : Nat} {AS : Option Addr} {cS : Nat} (h : MADE base w mb x AG cG AF cF AS cS) (hb : Below w.heap.size w w') : MACHX w' mb x AG cG AF cF AS cS := h.2.2 w' (fun k _ h2 => hb.block k h2)
theorem awake17_any (w : World) (hG : Nib w) (hT : Pln tabT w) :
  Calls Tryz.prog 8 #[] w fun e w' => e = .returned (.bool true) ∧ Below w.heap.size w w' := by
 have HG := Lib.hid hG
 have HT := Lib.hid hT
 clear hG hT
 go_enter Tryz.func8, Tryz.ntmps8
 go_wp2_with fail
 obtain ⟨b0, hb0⟩ : ∃ b, b = w.heap.size := ⟨_, rfl⟩
 obtain ⟨b1, hb1⟩ : ∃ b, b = w.heap.size + 1 := ⟨_, rfl⟩
 obtain ⟨b2, hb2⟩ : ∃ b, b = b1 + 1 := ⟨_, rfl⟩
 obtain ⟨b3, hb3⟩ : ∃ b, b = b2 + 1 := ⟨_, rfl⟩
 obtain ⟨b4, hb4⟩ : ∃ b, b = b3 + 1 := ⟨_, rfl⟩
 obtain ⟨b5, hb5⟩ : ∃ b, b = b4 + 1 := ⟨_, rfl⟩
 obtain ⟨b6, hb6⟩ : ∃ b, b = b5 + 1 := ⟨_, rfl⟩
 obtain ⟨b7, hb7⟩ : ∃ b, b = b6 + 1 := ⟨_, rfl⟩
 obtain ⟨b8, hb8⟩ : ∃ b, b = b7 + 1 := ⟨_, rfl⟩
 rw [← hb1, ← hb2, ← hb3, ← hb4, ← hb5, ← hb6, ← hb7, ← hb8, ← hb0]
 obtain ⟨P0, hP0⟩ : ∃ P, P = w.alloc (.cells #[.int .i64 1] 3) := ⟨_, rfl⟩
 rw [← hP0]
 have s0 : P0.heap.size = b0 + 1 := by rw [hP0]; simp; omega
 have N0 : P0.heap[b0]? = some (.cells #[.int .i64 1] 3 (0, 0)) := by rw [hP0, show b0 = w.heap.size from by omega]; exact heap_alloc_new _ _
 have B0 : Below w.heap.size w P0 := by rw [hP0]; exact below_alloc (Below.refl _ _) _
 obtain ⟨P1, hP1⟩ : ∃ P, P = P0.alloc (.cells #[.int .i64 1] 3) := ⟨_, rfl⟩
 rw [← hP1]
 have s1 : P1.heap.size = b1 + 1 := by rw [hP1]; simp; omega
 have N1 : P1.heap[b1]? = some (.cells #[.int .i64 1] 3 (0, 0)) := by rw [hP1, show b1 = P0.heap.size from by omega]; exact heap_alloc_new _ _
 have B1 : Below P0.heap.size P0 P1 := by rw [hP1]; exact below_alloc (Below.refl _ _) _
 obtain ⟨P2, hP2⟩ : ∃ P, P = P1.alloc (.cells #[.int .i64 2, .int .i64 0, .int .i64 0, .int .i64 1, .int .i64 2, .int .i64 1, .int .i64 10, .int .i64 0, .int .i64 0, .int .i64 32, .int .i64 0, .int .i64 0] 56) := ⟨_, rfl⟩
 rw [← hP2]
 have s2 : P2.heap.size = b2 + 1 := by rw [hP2]; simp; omega
 have N2 : P2.heap[b2]? = some (.cells #[.int .i64 2, .int .i64 0, .int .i64 0, .int .i64 1, .int .i64 2, .int .i64 1, .int .i64 10, .int .i64 0, .int .i64 0, .int .i64 32, .int .i64 0, .int .i64 0] 56 (0, 0)) := by rw [hP2, show b2 = P1.heap.size from by omega]; exact heap_alloc_new _ _
 have B2 : Below P1.heap.size P1 P2 := by rw [hP2]; exact below_alloc (Below.refl _ _) _
 obtain ⟨P3, hP3⟩ : ∃ P, P = P2.alloc (.cells #[.string { data := #[102] }, .slice (some ⟨b0, 0, none⟩) 1 1, .int .i64 1, .slice (some ⟨b1, 0, none⟩) 1 1, .slice (some ⟨b2, 0, none⟩) 4 4] 54) := ⟨_, rfl⟩
 rw [← hP3]
 have s3 : P3.heap.size = b3 + 1 := by rw [hP3]; simp; omega
 have N3 : P3.heap[b3]? = some (.cells #[.string { data := #[102] }, .slice (some ⟨b0, 0, none⟩) 1 1, .int .i64 1, .slice (some ⟨b1, 0, none⟩) 1 1, .slice (some ⟨b2, 0, none⟩) 4 4] 54 (0, 0)) := by rw [hP3, show b3 = P2.heap.size from by omega]; exact heap_alloc_new _ _
 have B3 : Below P2.heap.size P2 P3 := by rw [hP3]; exact below_alloc (Below.refl _ _) _
 obtain ⟨P4, hP4⟩ : ∃ P, P = P3.alloc (.cells #[.int .i64 1, .int .i64 0, .int .i64 4, .int .i64 31, .int .i64 2, .int .i64 0, .int .i64 32, .int .i64 0, .int .i64 0] 56) := ⟨_, rfl⟩
 rw [← hP4]
 have s4 : P4.heap.size = b4 + 1 := by rw [hP4]; simp; omega
 have N4 : P4.heap[b4]? = some (.cells #[.int .i64 1, .int .i64 0, .int .i64 4, .int .i64 31, .int .i64 2, .int .i64 0, .int .i64 32, .int .i64 0, .int .i64 0] 56 (0, 0)) := by rw [hP4, show b4 = P3.heap.size from by omega]; exact heap_alloc_new _ _
 have B4 : Below P3.heap.size P3 P4 := by rw [hP4]; exact below_alloc (Below.refl _ _) _
 obtain ⟨P5, hP5⟩ : ∃ P, P = P4.alloc (.cells #[.string { data := #[103] }, .slice none 0 0, .int .i64 3, .slice none 0 0, .slice (some ⟨b4, 0, none⟩) 3 3] 54) := ⟨_, rfl⟩
 rw [← hP5]
 have s5 : P5.heap.size = b5 + 1 := by rw [hP5]; simp; omega
 have N5 : P5.heap[b5]? = some (.cells #[.string { data := #[103] }, .slice none 0 0, .int .i64 3, .slice none 0 0, .slice (some ⟨b4, 0, none⟩) 3 3] 54 (0, 0)) := by rw [hP5, show b5 = P4.heap.size from by omega]; exact heap_alloc_new _ _
 have B5 : Below P4.heap.size P4 P5 := by rw [hP5]; exact below_alloc (Below.refl _ _) _
 obtain ⟨P6, hP6⟩ : ∃ P, P = P5.alloc (.cells #[.string { data := #[102] }, .slice (some ⟨b0, 0, none⟩) 1 1, .int .i64 1, .slice (some ⟨b1, 0, none⟩) 1 1, .slice (some ⟨b2, 0, none⟩) 4 4, .string { data := #[103] }, .slice none 0 0, .int .i64 3, .slice none 0 0, .slice (some ⟨b4, 0, none⟩) 3 3] 54) := ⟨_, rfl⟩
 rw [← hP6]
 have s6 : P6.heap.size = b6 + 1 := by rw [hP6]; simp; omega
 have N6 : P6.heap[b6]? = some (.cells #[.string { data := #[102] }, .slice (some ⟨b0, 0, none⟩) 1 1, .int .i64 1, .slice (some ⟨b1, 0, none⟩) 1 1, .slice (some ⟨b2, 0, none⟩) 4 4, .string { data := #[103] }, .slice none 0 0, .int .i64 3, .slice none 0 0, .slice (some ⟨b4, 0, none⟩) 3 3] 54 (0, 0)) := by rw [hP6, show b6 = P5.heap.size from by omega]; exact heap_alloc_new _ _
 have B6 : Below P5.heap.size P5 P6 := by rw [hP6]; exact below_alloc (Below.refl _ _) _
 obtain ⟨P7, hP7⟩ : ∃ P, P = P6.alloc (.cells #[.slice none 0 0, .slice (some ⟨b6, 0, none⟩) 2 2] 25) := ⟨_, rfl⟩
 rw [← hP7]
 have s7 : P7.heap.size = b7 + 1 := by rw [hP7]; simp; omega
 have N7 : P7.heap[b7]? = some (.cells #[.slice none 0 0, .slice (some ⟨b6, 0, none⟩) 2 2] 25 (0, 0)) := by rw [hP7, show b7 = P6.heap.size from by omega]; exact heap_alloc_new _ _
 have B7 : Below P6.heap.size P6 P7 := by rw [hP7]; exact below_alloc (Below.refl _ _) _
 obtain ⟨P8, hP8⟩ : ∃ P, P = P7.alloc (.cells #[.int .i64 21] 3) := ⟨_, rfl⟩
 rw [← hP8]
 have s8 : P8.heap.size = b8 + 1 := by rw [hP8]; simp; omega
 have N8 : P8.heap[b8]? = some (.cells #[.int .i64 21] 3 (0, 0)) := by rw [hP8, show b8 = P7.heap.size from by omega]; exact heap_alloc_new _ _
 have B8 : Below P7.heap.size P7 P8 := by rw [hP8]; exact below_alloc (Below.refl _ _) _
 have L8 : Below P8.heap.size P8 P8 := Below.refl _ _
 have L7 : Below P7.heap.size P7 P8 := below_next B8 L8
 have L6 : Below P6.heap.size P6 P8 := below_next B7 L7
 have L5 : Below P5.heap.size P5 P8 := below_next B6 L6
 have L4 : Below P4.heap.size P4 P8 := below_next B5 L5
 have L3 : Below P3.heap.size P3 P8 := below_next B4 L4
 have L2 : Below P2.heap.size P2 P8 := below_next B3 L3
 have L1 : Below P1.heap.size P1 P8 := below_next B2 L2
 have L0 : Below P0.heap.size P0 P8 := below_next B1 L1
 have M0 : P8.heap[b0]? = some (.cells #[.int .i64 1] 3 (0, 0)) := (L0.block b0 (blk_lt N0)).trans N0
 have M1 : P8.heap[b1]? = some (.cells #[.int .i64 1] 3 (0, 0)) := (L1.block b1 (blk_lt N1)).trans N1
 have M2 : P8.heap[b2]? = some (.cells #[.int .i64 2, .int .i64 0, .int .i64 0, .int .i64 1, .int .i64 2, .int .i64 1, .int .i64 10, .int .i64 0, .int .i64 0, .int .i64 32, .int .i64 0, .int .i64 0] 56 (0, 0)) := (L2.block b2 (blk_lt N2)).trans N2
 have M3 : P8.heap[b3]? = some (.cells #[.string { data := #[102] }, .slice (some ⟨b0, 0, none⟩) 1 1, .int .i64 1, .slice (some ⟨b1, 0, none⟩) 1 1, .slice (some ⟨b2, 0, none⟩) 4 4] 54 (0, 0)) := (L3.block b3 (blk_lt N3)).trans N3
 have M4 : P8.heap[b4]? = some (.cells #[.int .i64 1, .int .i64 0, .int .i64 4, .int .i64 31, .int .i64 2, .int .i64 0, .int .i64 32, .int .i64 0, .int .i64 0] 56 (0, 0)) := (L4.block b4 (blk_lt N4)).trans N4
 have M5 : P8.heap[b5]? = some (.cells #[.string { data := #[103] }, .slice none 0 0, .int .i64 3, .slice none 0 0, .slice (some ⟨b4, 0, none⟩) 3 3] 54 (0, 0)) := (L5.block b5 (blk_lt N5)).trans N5
 have M6 : P8.heap[b6]? = some (.cells #[.string { data := #[102] }, .slice (some ⟨b0, 0, none⟩) 1 1, .int .i64 1, .slice (some ⟨b1, 0, none⟩) 1 1, .slice (some ⟨b2, 0, none⟩) 4 4, .string { data := #[103] }, .slice none 0 0, .int .i64 3, .slice none 0 0, .slice (some ⟨b4, 0, none⟩) 3 3] 54 (0, 0)) := (L6.block b6 (blk_lt N6)).trans N6
 have M7 : P8.heap[b7]? = some (.cells #[.slice none 0 0, .slice (some ⟨b6, 0, none⟩) 2 2] 25 (0, 0)) := (L7.block b7 (blk_lt N7)).trans N7
 have M8 : P8.heap[b8]? = some (.cells #[.int .i64 21] 3 (0, 0)) := (L8.block b8 (blk_lt N8)).trans N8
 have HBW := Lib.hid (below_next B0 L0)
 have HIM := Lib.hid (imgA M0 M1 (show P8.heap[b2]? = some (.cells (fA.f4.flatMap inst3).toArray 56 (0, 0)) from M2) (show P8.heap[b4]? = some (.cells (gA.f4.flatMap inst3).toArray 56 (0, 0)) from M4) M6)
 have HK := Lib.hid M7
 have HAR := Lib.hid (C_int1 21 M8)
 clear hP0 s0 N0 B0 L0 M0 hb0 hP1 s1 N1 B1 L1 M1 hb1 hP2 s2 N2 B2 L2 M2 hb2 hP3 s3 N3 B3 L3 M3 hb3 hP4 s4 N4 B4 L4 M4 hb4 hP5 s5 N5 B5 L5 M5 hb5 hP6 s6 N6 B6 L6 M6 hb6 hP7 s7 N7 B7 L7 M7 hb7 hP8 s8 N8 B8 L8 M8 hb8
 refine (execA HIM.out (HG.out.below HBW.out) (HT.out.below HBW.out) 0 (some ⟨b8, 0, none⟩) 1 [21] HAR.out 10 none 0 [] (Kd.C_nil _ _) (by decide) (by decide) (by decide) (by unfold In; decide) (by simp) _ runA1).mono ?_
 rintro e w1 ⟨v1, rfl, hE1, hb1⟩
 obtain ⟨vs1, va1, t1, rfl, hs1, ha1⟩ := hE1
 obtain ⟨sA1, sC1, rfl⟩ := Kd.S_slice hs1
 obtain ⟨aA1, aC1, rfl⟩ := Kd.S_slice ha1
 have HB1 := Lib.hid hb1
 have K1_0 := Lib.hid ((hb1.block b7 (blk_lt HK.out)).trans HK.out)
 clear hb1 hs1 ha1
 have lt1_0 := blk_lt K1_0.out
 have c1_0_0 : w1.cell? ⟨b7, 0, none⟩ = some (.slice none 0 0) := (blk_cell K1_0.out 0).trans rfl
 have c1_0_1 : w1.cell? ⟨b7, 1, none⟩ = some (.slice (some ⟨b6, 0, none⟩) 2 2) := (blk_cell K1_0.out 1).trans rfl
 (try simp only [List.length_nil, List.length_cons])
 go_wp2_with fail
 clear lt1_0 c1_0_0 c1_0_1
 obtain ⟨e1, he1⟩ : ∃ b, b = w1.heap.size := ⟨_, rfl⟩
 obtain ⟨Q1, hQ1⟩ : ∃ P, P = w1.alloc (.cells #[.int .i64 0, .int .i64 42, .int .i64 6, .slice sA1 0 sC1, .slice aA1 0 aC1] 36) := ⟨_, rfl⟩
 have sQ1 : Q1.heap.size = w1.heap.size + 1 := by rw [hQ1]; simp
 have NQ1 : Q1.heap[e1]? = some (.cells #[.int .i64 0, .int .i64 42, .int .i64 6, .slice sA1 0 sC1, .slice aA1 0 aC1] 36 (0, 0)) := by rw [hQ1, he1]; exact heap_alloc_new _ _
 have BQ1 : Below w1.heap.size w1 Q1 := by rw [hQ1]; exact below_alloc (Below.refl _ _) _
 rw [← hQ1]
 obtain ⟨R1, hR1⟩ : ∃ P, P = Q1.alloc (.cells #[.int .i64 21] 3) := ⟨_, rfl⟩
 obtain ⟨r1, hr1⟩ : ∃ b, b = w1.heap.size + 1 := ⟨_, rfl⟩
 have NR1 : R1.heap[r1]? = some (.cells #[.int .i64 21] 3 (0, 0)) := by rw [hR1, hr1, ← sQ1]; exact heap_alloc_new _ _
 have BR1 : Below Q1.heap.size Q1 R1 := by rw [hR1]; exact below_alloc (Below.refl _ _) _
 rw [← hR1]
 (try rw [← hr1])
 rw [← he1]
 have HBR1 := Lib.hid (below_next BQ1 BR1)
 have HW1 := Lib.hid (below_next HB1.out HBR1.out)
 refine (execA (HIM.out.below HW1.out) ((HG.out.below HBW.out).below HW1.out) ((HT.out.below HBW.out).below HW1.out) 0 (some ⟨r1, 0, none⟩) 1 [21] (C_int1 21 NR1) 3 none 0 [] (Kd.C_nil _ _) (by decide) (by decide) (by decide) (by unfold In; decide) (by simp) _ runA2).mono ?_
 rintro e w2 ⟨v2, rfl, hE2, hb2⟩
 obtain ⟨vs2, va2, t2, rfl, hs2, ha2⟩ := hE2
 obtain ⟨sA2, sC2, rfl⟩ := Kd.S_slice hs2
 obtain ⟨aA2, aC2, rfl⟩ := Kd.S_slice ha2
 have HB2 := Lib.hid (below_next HW1.out hb2)
 have K2_0 := Lib.hid ((hb2.block b7 (Nat.lt_of_lt_of_le (blk_lt K1_0.out) HBR1.out.size)).trans ((HBR1.out.block b7 (blk_lt K1_0.out)).trans K1_0.out))
 have K2_1 := Lib.hid ((hb2.block e1 (Nat.lt_of_lt_of_le (blk_lt NQ1) BR1.size)).trans ((BR1.block e1 (blk_lt NQ1)).trans NQ1))
 clear hb2 hs2 ha2 he1 hQ1 sQ1 NQ1 BQ1 hR1 hr1 NR1 BR1
 have lt2_0 := blk_lt K2_0.out
 have c2_0_0 : w2.cell? ⟨b7, 0, none⟩ = some (.slice none 0 0) := (blk_cell K2_0.out 0).trans rfl
 have c2_0_1 : w2.cell? ⟨b7, 1, none⟩ = some (.slice (some ⟨b6, 0, none⟩) 2 2) := (blk_cell K2_0.out 1).trans rfl
 have lt2_1 := blk_lt K2_1.out
 (try simp only [List.length_nil, List.length_cons])
 go_wp2_with fail
 clear lt2_0 c2_0_0 c2_0_1 lt2_1
 obtain ⟨e2, he2⟩ : ∃ b, b = w2.heap.size := ⟨_, rfl⟩
 obtain ⟨Q2, hQ2⟩ : ∃ P, P = w2.alloc (.cells #[.int .i64 1, .int .i64 0, .int .i64 0, .slice sA2 0 sC2, .slice aA2 0 aC2] 36) := ⟨_, rfl⟩
 have sQ2 : Q2.heap.size = w2.heap.size + 1 := by rw [hQ2]; simp
 have NQ2 : Q2.heap[e2]? = some (.cells #[.int .i64 1, .int .i64 0, .int .i64 0, .slice sA2 0 sC2, .slice aA2 0 aC2] 36 (0, 0)) := by rw [hQ2, he2]; exact heap_alloc_new _ _
 have BQ2 : Below w2.heap.size w2 Q2 := by rw [hQ2]; exact below_alloc (Below.refl _ _) _
 rw [← hQ2]
 obtain ⟨R2, hR2⟩ : ∃ P, P = Q2.alloc (.cells #[.int .i64 7, .bool false] 71) := ⟨_, rfl⟩
 obtain ⟨r2, hr2⟩ : ∃ b, b = w2.heap.size + 1 := ⟨_, rfl⟩
 have NR2 : R2.heap[r2]? = some (.cells #[.int .i64 7, .bool false] 71 (0, 0)) := by rw [hR2, hr2, ← sQ2]; exact heap_alloc_new _ _
 have BR2 : Below Q2.heap.size Q2 R2 := by rw [hR2]; exact below_alloc (Below.refl _ _) _
 rw [← hR2]
 (try rw [← hr2])
 rw [← he2]
 have HBR2 := Lib.hid (below_next BQ2 BR2)
 have HW2 := Lib.hid (below_next HB2.out HBR2.out)
 refine (execA (HIM.out.below HW2.out) ((HG.out.below HBW.out).below HW2.out) ((HT.out.below HBW.out).below HW2.out) 1 none 0 [] (Kd.C_nil _ _) 5 (some ⟨r2, 0, none⟩) 1 [⟨7, false⟩] (C_rep1 ⟨7, false⟩ NR2) (by decide) (by decide) (by decide) (by simp) (by unfold In; decide) _ runA3).mono ?_
 rintro e w3 ⟨v3, rfl, hE3, hb3⟩
 obtain ⟨vs3, va3, t3, rfl, hs3, ha3⟩ := hE3
 obtain ⟨sA3, sC3, rfl⟩ := Kd.S_slice hs3
 obtain ⟨aA3, aC3, rfl⟩ := Kd.S_slice ha3
 have HB3 := Lib.hid (below_next HW2.out hb3)
 have K3_0 := Lib.hid ((hb3.block b7 (Nat.lt_of_lt_of_le (blk_lt K2_0.out) HBR2.out.size)).trans ((HBR2.out.block b7 (blk_lt K2_0.out)).trans K2_0.out))
 have K3_1 := Lib.hid ((hb3.block e1 (Nat.lt_of_lt_of_le (blk_lt K2_1.out) HBR2.out.size)).trans ((HBR2.out.block e1 (blk_lt K2_1.out)).trans K2_1.out))
 have K3_2 := Lib.hid ((hb3.block e2 (Nat.lt_of_lt_of_le (blk_lt NQ2) BR2.size)).trans ((BR2.block e2 (blk_lt NQ2)).trans NQ2))
 clear hb3 hs3 ha3 he2 hQ2 sQ2 NQ2 BQ2 hR2 hr2 NR2 BR2
 have lt3_0 := blk_lt K3_0.out
 have c3_0_0 : w3.cell? ⟨b7, 0, none⟩ = some (.slice none 0 0) := (blk_cell K3_0.out 0).trans rfl
 have c3_0_1 : w3.cell? ⟨b7, 1, none⟩ = some (.slice (some ⟨b6, 0, none⟩) 2 2) := (blk_cell K3_0.out 1).trans rfl
 have lt3_1 := blk_lt K3_1.out
 have lt3_2 := blk_lt K3_2.out
 (try simp only [List.length_nil, List.length_cons])
 go_wp2_with fail
 clear lt3_0 c3_0_0 c3_0_1 lt3_1 lt3_2
 obtain ⟨e3, he3⟩ : ∃ b, b = w3.heap.size := ⟨_, rfl⟩
 obtain ⟨Q3, hQ3⟩ : ∃ P, P = w3.alloc (.cells #[.int .i64 0, .int .i64 1, .int .i64 2, .slice sA3 0 sC3, .slice aA3 1 aC3] 36) := ⟨_, rfl⟩
 have sQ3 : Q3.heap.size = w3.heap.size + 1 := by rw [hQ3]; simp
 have NQ3 : Q3.heap[e3]? = some (.cells #[.int .i64 0, .int .i64 1, .int .i64 2, .slice sA3 0 sC3, .slice aA3 1 aC3] 36 (0, 0)) := by rw [hQ3, he3]; exact heap_alloc_new _ _
 have BQ3 : Below w3.heap.size w3 Q3 := by rw [hQ3]; exact below_alloc (Below.refl _ _) _
 rw [← hQ3]
 obtain ⟨R3, hR3⟩ : ∃ P, P = Q3.alloc (.cells #[.string { data := #[102] }, .slice none 0 0, .int .i64 0, .slice none 0 0, .slice none 0 0] 54) := ⟨_, rfl⟩
 obtain ⟨r3, hr3⟩ : ∃ b, b = w3.heap.size + 1 := ⟨_, rfl⟩
 have NR3 : R3.heap[r3]? = some (.cells #[.string { data := #[102] }, .slice none 0 0, .int .i64 0, .slice none 0 0, .slice none 0 0] 54 (0, 0)) := by rw [hR3, hr3, ← sQ3]; exact heap_alloc_new _ _
 have BR3 : Below Q3.heap.size Q3 R3 := by rw [hR3]; exact below_alloc (Below.refl _ _) _
 rw [← hR3]
 (try rw [← hr3])
 rw [← he3]
 have HBR3 := Lib.hid (below_next BQ3 BR3)
 have HW3 := Lib.hid (below_next HB3.out HBR3.out)
 refine (new_no tabT xB _ R3 (imgB NR3) smallB ((HG.out.below HBW.out).below HW3.out) ((HT.out.below HBW.out).below HW3.out) tabOK (by rw [verB]; decide)).mono ?_
 rintro e w4 ⟨rfl, hb4⟩
 have HB4 := Lib.hid (below_next HW3.out hb4)
 have K4_0 := Lib.hid ((hb4.block b7 (Nat.lt_of_lt_of_le (blk_lt K3_0.out) HBR3.out.size)).trans ((HBR3.out.block b7 (blk_lt K3_0.out)).trans K3_0.out))
 have K4_1 := Lib.hid ((hb4.block e1 (Nat.lt_of_lt_of_le (blk_lt K3_1.out) HBR3.out.size)).trans ((HBR3.out.block e1 (blk_lt K3_1.out)).trans K3_1.out))
 have K4_2 := Lib.hid ((hb4.block e2 (Nat.lt_of_lt_of_le (blk_lt K3_2.out) HBR3.out.size)).trans ((HBR3.out.block e2 (blk_lt K3_2.out)).trans K3_2.out))
 have K4_3 := Lib.hid ((hb4.block e3 (Nat.lt_of_lt_of_le (blk_lt NQ3) BR3.size)).trans ((BR3.block e3 (blk_lt NQ3)).trans NQ3))
 clear hb4 he3 hQ3 sQ3 NQ3 BQ3 hR3 hr3 NR3 BR3
 have lt4_0 := blk_lt K4_0.out
 have c4_0_0 : w4.cell? ⟨b7, 0, none⟩ = some (.slice none 0 0) := (blk_cell K4_0.out 0).trans rfl
 have c4_0_1 : w4.cell? ⟨b7, 1, none⟩ = some (.slice (some ⟨b6, 0, none⟩) 2 2) := (blk_cell K4_0.out 1).trans rfl
 have lt4_1 := blk_lt K4_1.out
 have lt4_2 := blk_lt K4_2.out
 have lt4_3 := blk_lt K4_3.out
 go_wp2_with fail
 refine (new_yes tabT xA _ w4 (HIM.out.below HB4.out) smallA ((HG.out.below HBW.out).below HB4.out) ((HT.out.below HBW.out).below HB4.out) tabOK (by rw [verA])).mono ?_
 rintro e w5 ⟨mb, AG, cG, AF, cF, AS, cS, rfl, hM, hb5⟩
 have HB5 := Lib.hid (below_next HB4.out hb5)
 have HM := Lib.hid hM.mach
 have HMM := Lib.hid hM
 have K5_0 := Lib.hid ((hb5.block b7 (blk_lt K4_0.out)).trans K4_0.out)
 have K5_1 := Lib.hid ((hb5.block e1 (blk_lt K4_1.out)).trans K4_1.out)
 have K5_2 := Lib.hid ((hb5.block e2 (blk_lt K4_2.out)).trans K4_2.out)
 have K5_3 := Lib.hid ((hb5.block e3 (blk_lt K4_3.out)).trans K4_3.out)
 clear hb5 hM lt4_0 c4_0_0 c4_0_1 lt4_1 lt4_2 lt4_3
 have lt5_0 := blk_lt K5_0.out
 have lt5_1 := blk_lt K5_1.out
 have c5_1_0 : w5.cell? ⟨e1, 0, none⟩ = some (.int .i64 0) := (blk_cell K5_1.out 0).trans rfl
 have c5_1_1 : w5.cell? ⟨e1, 1, none⟩ = some (.int .i64 42) := (blk_cell K5_1.out 1).trans rfl
 have c5_1_2 : w5.cell? ⟨e1, 2, none⟩ = some (.int .i64 6) := (blk_cell K5_1.out 2).trans rfl
 have c5_1_3 : w5.cell? ⟨e1, 3, none⟩ = some (.slice sA1 0 sC1) := (blk_cell K5_1.out 3).trans rfl
 have c5_1_4 : w5.cell? ⟨e1, 4, none⟩ = some (.slice aA1 0 aC1) := (blk_cell K5_1.out 4).trans rfl
 have lt5_2 := blk_lt K5_2.out
 have c5_2_0 : w5.cell? ⟨e2, 0, none⟩ = some (.int .i64 1) := (blk_cell K5_2.out 0).trans rfl
 have c5_2_1 : w5.cell? ⟨e2, 1, none⟩ = some (.int .i64 0) := (blk_cell K5_2.out 1).trans rfl
 have c5_2_2 : w5.cell? ⟨e2, 2, none⟩ = some (.int .i64 0) := (blk_cell K5_2.out 2).trans rfl
 have c5_2_3 : w5.cell? ⟨e2, 3, none⟩ = some (.slice sA2 0 sC2) := (blk_cell K5_2.out 3).trans rfl
 have c5_2_4 : w5.cell? ⟨e2, 4, none⟩ = some (.slice aA2 0 aC2) := (blk_cell K5_2.out 4).trans rfl
 have lt5_3 := blk_lt K5_3.out
 have c5_3_0 : w5.cell? ⟨e3, 0, none⟩ = some (.int .i64 0) := (blk_cell K5_3.out 0).trans rfl
 have c5_3_1 : w5.cell? ⟨e3, 1, none⟩ = some (.int .i64 1) := (blk_cell K5_3.out 1).trans rfl
 have c5_3_2 : w5.cell? ⟨e3, 2, none⟩ = some (.int .i64 2) := (blk_cell K5_3.out 2).trans rfl
 have c5_3_3 : w5.cell? ⟨e3, 3, none⟩ = some (.slice sA3 0 sC3) := (blk_cell K5_3.out 3).trans rfl
 have c5_3_4 : w5.cell? ⟨e3, 4, none⟩ = some (.slice aA3 1 aC3) := (blk_cell K5_3.out 4).trans rfl
 go_wp2_with fail
 refine (mFind_any w5 mb xA AG cG AF cF AS cS HM.out (by decide) _).mono ?_
 rintro e w6 ⟨rfl, hb6⟩
 rw [findA1]
 have HB6 := Lib.hid (below_next HB5.out hb6)
 have HMD := Lib.hid (MADE.mach_up HMM.out hb6)
 clear hb6
 clear lt5_0 lt5_1 c5_1_0 c5_1_1 c5_1_2 c5_1_3 c5_1_4 lt5_2 c5_2_0 c5_2_1 c5_2_2 c5_2_3 c5_2_4 lt5_3 c5_3_0 c5_3_1 c5_3_2 c5_3_3 c5_3_4
 go_wp2_with fail
 refine (mFind_any w6 mb xA AG cG AF cF AS cS HMD.out (by decide) _).mono ?_
 rintro e w7 ⟨rfl, hb7⟩
 rw [findA2]
 have HB7 := Lib.hid (below_next HB6.out hb7)
 clear hb7
 go_wp2_with fail
 go_ret
 exact ⟨rfl, below_then HBW.out HBW.out.size HB7.out⟩
/-! ### VmFinds: each name once -/
theorem globs_le {T : Nat → ByteArray × ByteArray} {x : SImage} (h : (verifyS T x).1 = 0) (g : SGlob) (hg : g ∈ x.globs) : g.f1 ≤ 1000 := by
 have := globB_bound g ((okB_bounds x (right_ok (verify_right h))).2.2.1 g hg)
 omega
theorem small_of {T : Nat → ByteArray × ByteArray} {x : SImage} (h : (verifyS T x).1 = 0) : imgSmall 1000000 x := by
 obtain ⟨h1, h2, h3, h4⟩ := okB_bounds x (right_ok (verify_right h))
 refine ⟨by omega, by omega, fun f hf => ?_⟩
 obtain ⟨b0, b1, b2, b3, b4, _⟩ := fnB_bound f (h4 f hf)
 exact ⟨by omega, by omega, by omega, by omega⟩
end Go.Proofs.YtedmncldelcbfaaGreatDoor.E
