import Derived.Test.YtpfdhihbecpbeaaGreatDoorProg
import Derived.Below
import Derived.Deep.Draws
import Derived.Deep.AppendLies
import Derived.Maps.AppendAt
import Derived.OwnWalk
import Derived.Laws.BytesArg
import Derived.Laws.MakeOwn
import Derived.Laws.OwnMore
import Derived.Deep.OwnRows
import Derived.Tactics
import Derived.Lib.ConvBytes
import Derived.Laws.Slices
import Derived.WalkKit
import Derived.KernelRfl
import Derived.RowKit3
import Derived.Deep.LoopGhost
import Derived.Deep.QuietTactic
import Derived.BigQuiet
import Derived.WideLaws
import Derived.Deep.DeepCutAuto
import Derived.Deep.CutBlock
import Derived.Deep.RegionHeld3
import Derived.Laws.Rows
import Derived.Lib.AppendStr
import Derived.ArgAppend
import Derived.Laws.IdiomCopy
import Derived.OrdersHeld
import Derived.Laws.BitsLemmas
import Derived.RowKit
import Derived.Test.YtpfdhihbecpbeaaGreatDoorKW
import Derived.Lib.Hide
import Derived.Deep.Slices
import Derived.Lib.AtoiErrMem
import Derived.WalkLawsBesides
import Derived.LoopN
/- Contracts of the program's functions, and lemmas: no statement of its own. -/
namespace Go.Proofs.YtpfdhihbecpbeaaGreatDoor.E
open Go Go.RowKit Go.Proofs.YtpfdhihbecpbeaaGreatDoorW.PrintWords Go.Proofs.YtpfdhihbecpbeaaGreatDoorW.PrintLast Go.Proofs.YtpfdhihbecpbeaaGreatDoorW.PrintMore
set_option linter.unusedVariables false
set_option linter.unusedSimpArgs false
set_option maxRecDepth 100000
set_option maxHeartbeats 2000000
theorem q0h {p : Prop} (h : p) : Hid p := h
def q1k (K : Nat) : Prop := ∀ (args : Array Value) (w : World), (callFunc K args).run Tryz.prog w = .ok (.enter K args) w
def q3r (K : Nat) (caps : Array Value) (v : Value) (w : World) (b : Bool) : Prop :=
 Calls Tryz.prog K (#[v] ++ caps) w fun e w' => e = .returned (.bool b) /\ Below w.heap.size w w'
theorem q0e {w W : World} (h : Below w.heap.size w W) {W' : World} (h' : Below W.heap.size W W') : Below w.heap.size w W' := x2g h h.size h'
theorem q9h {α : Type} (p : α -> Bool) (d : α) (l : List α) (k : Nat) (h : ∀ j, j < k -> p (l.getD j d) = false) (hk : p (l.getD k d) = false) : ∀ j, j < k + 1 -> p (l.getD j d) = false := by
 intro j hj
 by_cases e : j = k
 ·exact e ▸ hk
 ·exact h j (by omega)
theorem q1a {α : Type} (l : List α) (d : α) (k : Nat) (hk : k < l.length) (x : α) (hx : x = l.getD k d) : x ∈ l := by
 subst hx
 simp [List.getD_eq_getElem?_getD, hk]
theorem q9i {α : Type} (p : α -> Bool) (d : α) (l : List α) (h : ∀ j, j < l.length -> p (l.getD j d) = false) : l.any p = false := by
 rw [List.any_eq_false]
 intro x hx
 obtain ⟨j, hj, rfl⟩ := List.getElem_of_mem hx
 have := h j hj
 simp [List.getD_eq_getElem?_getD, hj] at this
 simp [this]
theorem q8a {α : Type} (p : α -> Bool) (d : α) (l : List α) (k : Nat) (hk : k < l.length) (h : p (l.getD k d) = true) : l.any p = true := by
 rw [List.any_eq_true]
 refine ⟨l[k], List.getElem_mem hk, ?_⟩
 simpa [List.getD_eq_getElem?_getD, hk] using h
theorem q0g {a b : Bool} (h : a = b) : Ending.returned (.bool a) = .returned (.bool b) := by rw [h]
theorem z6j {a b : Int} (h : a = b) : Ending.returned (.int .i64 a) = .returned (.int .i64 b) := by rw [h]
theorem asB {f : FuncId} {args : Array Value} {w : World} {B : Bool} {R : World -> Prop} (h : Calls Tryz.prog f args w fun e w' => e = .returned (.bool B) /\ R w') :
  Calls Tryz.prog f args w fun e w' => ∃ b, e = .returned (.bool b) /\ Hid (b = B) /\ Hid (R w') := h.mono fun e w' ⟨he, hr⟩ => ⟨B, he, rfl, hr⟩
theorem asI {f : FuncId} {args : Array Value} {w : World} {k : IntKind} {n : Int} {R : World -> Prop} (h : Calls Tryz.prog f args w fun e w' => e = .returned (.int k n) /\ R w') :
  Calls Tryz.prog f args w fun e w' => ∃ m, e = .returned (.int k m) /\ Hid (m = n) /\ Hid (R w') := h.mono fun e w' ⟨he, hr⟩ => ⟨n, he, rfl, hr⟩
def q1g (c : Int) : Bool := decide (97 <= c /\ c <= 122) || c == 95
def q0k (c : Int) : Bool := decide (48 <= c /\ c <= 57)
def q0s (c : Int) : Bool := q1g c || q0k c
theorem q2q (t : Int) (w : World) : Calls Tryz.prog 108 #[.int .u8 t] w fun e w' => e = .returned (.bool (q1g t)) /\ w = w' := by
 go_enter Tryz.func108, Tryz.ntmps108
 go_wp2
 all_goals go_ret
 all_goals exact ⟨q0g (by unfold q1g; rw [Bool.eq_iff_iff]; simp; try omega), rfl⟩
theorem q3u (t : Int) (w : World) : Calls Tryz.prog 111 #[.int .u8 t] w fun e w' => e = .returned (.bool (q0k t)) /\ w = w' := by
 go_enter Tryz.func111, Tryz.ntmps111
 go_wp2
 all_goals go_ret
 all_goals exact ⟨q0g (by unfold q0k; rw [Bool.eq_iff_iff]; simp; try omega), rfl⟩
theorem x2i (t : Int) (w : World) : Calls Tryz.prog 109 #[.int .u8 t] w fun e w' => e = .returned (.bool (q0s t)) /\ w = w' := by
 cases hl : q1g t
 all_goals
  have HL := q0h hl
  clear hl
  go_enter Tryz.func109, Tryz.ntmps109
  go_wp2_with (first | (go_at_call 108; refine (q2q _ _).mono ?_; rintro e w' ⟨rfl, rfl⟩; rw [HL.out]) | (go_at_call 111; refine (q3u _ _).mono ?_; rintro e w' ⟨rfl, rfl⟩))
  go_ret
  exact ⟨q0g (by unfold q0s; rw [HL.out]; simp), rfl⟩
def z4y (s : ByteArray) : Bool := s.toList == [98, 111, 111, 108] || s.toList == [101, 108, 115, 101] || s.toList == [101, 110, 116] || s.toList == [102, 97, 108, 115, 101] || s.toList == [102, 105, 120] || s.toList == [102, 110] || s.toList == [105, 102] || s.toList == [105, 110, 116] || s.toList == [108, 101, 116] || s.toList == [110, 117, 108, 108] || s.toList == [114, 101, 116, 117, 114, 110] || s.toList == [116, 114, 117, 101] || s.toList == [118, 97, 114] || s.toList == [119, 104, 105, 108, 101]
theorem x0m (s : ByteArray) (w : World) : Calls Tryz.prog 110 #[.string s] w fun e w' => e = .returned (.bool (z4y s)) /\ w = w' := by
 go_enter Tryz.func110, Tryz.ntmps110
 go_wp2
 all_goals go_ret
 all_goals exact ⟨q0g (by unfold z4y; simp_all), rfl⟩
def q2a (p : Int -> Bool) : List UInt8 -> Nat
 | [] => 0
 | c :: r => if p c.toNat then q2a p r + 1 else 0
theorem q4d (p : Int -> Bool) (l : List UInt8) : q2a p l <= l.length := by
 induction l with
 | nil => simp [q2a]
 | cons c r ih => simp only [q2a, List.length_cons]; split <;> omega
theorem j3c (p : Int -> Bool) (l : List UInt8) (k : Nat) (hk : k < l.length) (h : ∀ j (hj : j < l.length), j < k -> p (l[j].toNat) = true) (hs : p (l[k].toNat) = false) : q2a p l = k := by
 induction l generalizing k with
 | nil => simp at hk
 | cons c r ih =>
  cases k with
  | zero => simp at hs; simp [q2a, hs]
  | succ k =>
   have h0 := h 0 (by simp) (by omega)
   simp at h0
   have := ih k (by simpa using hk) (fun j hj hjk => by have q := h (j + 1) (by simpa using hj) (by omega); rwa [List.getElem_cons_succ] at q) (by simpa using hs)
   simp [q2a, h0, this]
theorem x8p (p : Int -> Bool) (l : List UInt8) (h : ∀ j (hj : j < l.length), p (l[j].toNat) = true) : q2a p l = l.length := by
 induction l with
 | nil => rfl
 | cons c r ih =>
  have h0 := h 0 (by simp)
  simp at h0
  have := ih (fun j hj => by have q := h (j + 1) (by simpa using hj); rwa [List.getElem_cons_succ] at q)
  simp [q2a, h0, this]
theorem z4z (K : Nat) (caps : Array Value) (p : Int -> Bool) (s : ByteArray) (w : World) (he : q1k K) (hp : ∀ x w, q3r K caps (.int .u8 x) w (p x)) (hs : s.size <= 9223372036854775806) :
  Calls Tryz.prog 61 #[.string s, .func (.func K) #[] caps] w fun e w' => e = .returned (.int .i64 (q2a p s.data.toList)) /\ Below w.heap.size w w' := by
 have HP := q0h hp; clear hp
 unfold q1k at he
 go_enter Tryz.func61, Tryz.ntmps61
 go_wp2
 go_loopw [8] (fun i w' => ∃ k : Nat, k <= s.size /\ i = .int .i64 k /\ Hid (∀ j (hj : j < s.data.toList.length), j < k -> p (s.data.toList[j].toNat) = true) /\ Hid (Below w.heap.size w w')) (fun i _ => s.size - (intOf i).toNat)
 case atStart => exact ⟨0, by omega, rfl, fun j _ hj => by omega, Below.refl _ _⟩
 case round =>
  obtain ⟨k, hk, rfl, HJ, HB⟩ := hrel
  by_cases hlt : k < s.size
  ·go_wp2_with fail
   refine (HP.out _ _).mono ?_
   rintro e w1 ⟨rfl, hb⟩
   have HB1 := q0h hb; clear hb
   have hat : s.data.toList[k]'(by simpa using hlt) = s[k] := rfl
   by_cases hpk : p (s[k].toNat) = true
   ·have HY : Hid (∀ j (hj : j < s.data.toList.length), j < k + 1 -> p (s.data.toList[j].toNat) = true) := by
     intro j hj hjk
     by_cases e : j = k
     ·subst e; rw [hat]; exact hpk
     ·exact HJ.out j hj (by omega)
    rw [hpk]
    clear hpk hat
    go_wp2_with fail
    go_roundw
    case rel => exact ⟨k + 1, by omega, by go_num, HY.out, q0e HB.out HB1.out⟩
    case measure => simp [intOf]; omega
   ·have hpk' := Bool.eq_false_iff.2 hpk
    have HY : Hid (q2a p s.data.toList = k) := j3c p _ k (by simpa using hlt) HJ.out (by rw [hat]; exact hpk')
    rw [hpk']
    clear hpk hpk' hat
    go_wp2_with fail
    go_ret
    exact ⟨z6j (by rw [HY.out]), q0e HB.out HB1.out⟩
  ·obtain rfl : k = s.size := by omega
   go_wp2_with fail
   go_ret
   exact ⟨z6j (by rw [x8p p _ (fun j hj => HJ.out j hj (by simpa using hj))]; simp), HB.out⟩
theorem z6k : q1k 109 := fun args w => q5r Tryz.func109 (by kernel_rfl) rfl args w
def q1p (s : ByteArray) : Bool := decide (0 < s.size) && decide (s.size <= 24) && q1g (bt s 0) && (q2a q0s s.data.toList == s.size) && !z4y s
theorem x0n (x : Int) (w : World) : q3r 109 #[] (.int .u8 x) w (q0s x) := (x2i x w).mono fun e w' ⟨he, hw⟩ => ⟨he, hw ▸ Below.refl _ _⟩
theorem q8q (s : ByteArray) (h : 0 < s.size) : (s.toList == []) = false /\ s.toList.isEmpty = false := by
 have : s.toList ≠ [] := by
  intro e
  rw [ByteArray.toList_eq] at e
  have h2 : s.data.toList.length = 0 := by rw [e]; rfl
  have h3 : s.data.size = 0 := by simpa using h2
  exact absurd (show s.size = 0 from h3) (by omega)
 exact ⟨by simpa using this, by simpa using this⟩
theorem q9j (s : ByteArray) (w : World) (hs : s.size <= 9223372036854775806) : Calls Tryz.prog 77 #[.string s] w fun e w' => e = .returned (.bool (q1p s)) /\ Below w.heap.size w w' := by
 have HB := q0h (Below.refl w.heap.size w)
 by_cases h0 : 0 < s.size
 ·obtain ⟨hn, ho⟩ := q8q s h0
  by_cases h24 : s.size <= 24
  ·have hq : ((s[0].toNat : Nat) : Int) = bt s 0 := j2w s 0 h0
   have HQ := q0h hq; clear hq
   go_enter Tryz.func77, Tryz.ntmps77
   go_wp2_with fail
   refine (asB (q2q _ _)).mono ?_
   rintro e w1 ⟨b, rfl, HL, HW⟩
   obtain rfl := HW.out
   clear HW
   cases b
   ·have HN := q0h (show q1p s = false from by unfold q1p; rw [<- HQ.out, <- HL.out]; simp)
    go_wp2_with fail
    go_ret
    exact ⟨q0g (by rw [HN.out]), HB.out⟩
   ·go_wp2_with fail
    refine (asI (z4z 109 #[] q0s s _ z6k x0n hs)).mono ?_
    rintro e w2 ⟨n, rfl, HR, HB2⟩
    by_cases hr : n = s.size
    ·have hr' : (n == (s.size : Int)) = true := by simpa using hr
     have HR' := q0h hr; clear hr
     go_wp2_with fail
     refine (asB (x0m s _)).mono ?_
     rintro e w3 ⟨b, rfl, HW, HE⟩
     obtain rfl := HE.out
     clear HE
     have HN := q0h (show q1p s = !b from by unfold q1p; rw [<- HQ.out, <- HL.out, <- HW.out]; have := HR.out; have := HR'.out; have hz : q2a q0s s.data.toList = s.size := (by omega); simp [hz, h0, h24])
     go_wp2_with fail
     go_ret
     exact ⟨q0g (by rw [HN.out]), HB2.out⟩
    ·have hr' : (n == (s.size : Int)) = false := by simpa using hr
     have HN := q0h (show q1p s = false from by unfold q1p; have := HR.out; have hz : ¬ q2a q0s s.data.toList = s.size := (by omega); simp [hz])
     clear hr
     go_wp2_with fail
     go_ret
     exact ⟨q0g (by rw [HN.out]), HB2.out⟩
  ·have HN := q0h (show q1p s = false from by unfold q1p; simp [h24])
   go_enter Tryz.func77, Tryz.ntmps77
   go_wp2_with fail
   go_ret
   exact ⟨q0g (by rw [HN.out]), HB.out⟩
 ·have HN := q0h (show q1p s = false from by unfold q1p; simp [h0])
  obtain rfl : s = ⟨#[]⟩ := by
   have : s.data.size = 0 := by simpa using h0
   have := Array.eq_empty_of_size_eq_zero this
   cases s
   simp_all
  go_enter Tryz.func77, Tryz.ntmps77
  go_wp2_with fail
  go_ret
  exact ⟨q0g (by rw [HN.out]), HB.out⟩
structure Tok where
 kind : Int
 text : ByteArray
 at_ : Int
def q2m : Tok := ⟨0, ⟨#[]⟩, 0⟩
inductive Ex where
 | mk (kind op num : Int) (name : ByteArray) (args : List Ex) (at_ type place : Int)
inductive St where
 | mk (kind : Int) (name : ByteArray) (type : Int) (exprs : List Ex) (body els : List St) (at_ place : Int)
structure Vr where
 name : ByteArray
 type : Int
 size : Int
 value : Int
 at_ : Int
structure Pm where
 name : ByteArray
 type : Int
structure Fc where
 name : ByteArray
 params : List Pm
 type : Int
 body : List St
 at_ : Int
 locals : List Int
structure Md where
 vars : List Vr
 funcs : List Fc
def decU (l : List UInt8) : Nat := l.foldl (fun n c => n * 10 + (c.toNat - 48)) 0
def q4v : List Nat -> Nat × List Nat
 | [] => (0, [])
 | d :: ds => ((2 * d + (q4v ds).1) / 10, (2 * d + (q4v ds).1) % 10 :: (q4v ds).2)
def q6k : Nat -> Nat -> List Nat -> Nat
 | 0, w, _ => w
 | k + 1, w, ds => q6k k (2 * w + (q4v ds).1) (q4v ds).2
def z8g (l : List UInt8) : Option Int :=
 let whole := l.takeWhile (· != 46)
 let part := (l.dropWhile (· != 46)).tail
 if l.dropWhile (· != 46) = [] \/ whole.length < 1 \/ 10 < whole.length \/ part.length < 1 \/ 32 < part.length \/ (whole.headD 0 = 48 /\ 1 < whole.length) then none
 else if !((whole ++ part).all (fun c => decide (48 <= c.toNat) && decide (c.toNat <= 57))) then none
 else if 2147483647 < decU whole then none
 else some (q6k 32 (decU whole) (part.map (fun c => c.toNat - 48)))
def j7t (l : List UInt8) : Prop := ∃ ws ps, l = ws ++ 46 :: ps /\ ws ≠ [] /\ ps ≠ [] /\ (∀ c ∈ ws ++ ps, 48 <= c.toNat /\ c.toNat <= 57)
def z1o (t : Tok) : Prop := t.text.size <= 16384 /\ (t.kind = 3 -> t.text.size ≠ 0 /\ (∀ c ∈ t.text.data.toList, 48 <= c.toNat /\ c.toNat <= 57) /\ decU t.text.data.toList < 9223372036854775808) /\ (t.kind = 4 -> j7t t.text.data.toList /\ (z8g t.text.data.toList).isSome)
def q1v (t : Tok) : Int := if t.kind = 4 then (z8g t.text.data.toList).getD 0 else decU t.text.data.toList
abbrev Flt := Int × Int
abbrev PM (α : Type) := List Tok -> Option (Except Flt (α × List Tok))
def PM.ret {α : Type} (a : α) : PM α := fun ts => some (.ok (a, ts))
def PM.bind {α β : Type} (m : PM α) (f : α -> PM β) : PM β := fun ts => match m ts with
 | none => none
 | some (.error e) => some (.error e)
 | some (.ok (a, ts')) => f a ts'
def PM.fail {α : Type} (c : Int) : PM α := fun ts => some (.error (c, (ts.headD q2m).at_))
def PM.none {α : Type} : PM α := fun _ => Option.none
def isT (s : ByteArray) (ts : List Tok) : Bool := (ts.headD q2m).text.toList == s.toList && ((ts.headD q2m).kind == 2 || (ts.headD q2m).kind == 5)
def q0w (ts : List Tok) : List Tok := if (ts.headD q2m).kind = 6 then ts else ts.tail
def x4e : PM Tok := fun ts => some (.ok (ts.headD q2m, q0w ts))
def z4a (s : ByteArray) : PM Bool := fun ts => if isT s ts then some (.ok (true, q0w ts)) else some (.ok (false, ts))
def q1y (s : ByteArray) : PM Unit := fun ts => if isT s ts then some (.ok ((), q0w ts)) else PM.fail 90 ts
def q1x {α : Type} (lv : Nat) (read : Nat -> PM α) : PM α := fun ts => if lv = 30 then PM.fail 91 ts else read (lv + 1) ts
def q2n {α : Type} (lv : Nat) (left : ByteArray) (read : Nat -> PM α) (right : ByteArray) : PM α := fun ts =>
 if isT left ts then q1x lv (fun lv ts => (read lv).bind (fun a => (q1y right).bind (fun _ => .ret a)) (q0w ts)) ts else PM.fail 90 ts
def q6a : PM Tok := fun ts => if (ts.headD q2m).kind = 1 then x4e ts else PM.fail 90 ts
def tx (l : List UInt8) : ByteArray := ⟨l.toArray⟩
def q2v : PM Int := fun ts =>
 if isT (tx [105, 110, 116]) ts then some (.ok (1, q0w ts))
 else if isT (tx [102, 105, 120]) ts then some (.ok (2, q0w ts))
 else if isT (tx [98, 111, 111, 108]) ts then some (.ok (3, q0w ts))
 else if isT (tx [101, 110, 116]) ts then some (.ok (4, q0w ts))
 else PM.fail 90 ts
section
variable (num : Tok -> Int)
def q6g (t sign : Int) : PM Int := fun ts =>
 if (t = 1 /\ (ts.headD q2m).kind ≠ 3) \/ (t = 2 /\ (ts.headD q2m).kind ≠ 4) then PM.fail 90 ts else some (.ok (wrap64 (sign * num (ts.headD q2m)), q0w ts))
def q9k (t : Int) : PM Int :=
 if t = 3 then (z4a (tx [116, 114, 117, 101])).bind fun b => if b then .ret 1 else (q1y (tx [102, 97, 108, 115, 101])).bind fun _ => .ret 0
 else if t = 4 then (q1y (tx [110, 117, 108, 108])).bind fun _ => .ret 0
 else (z4a (tx [45])).bind fun b => q6g num t (if b then -1 else 1)
def x2j : PM Int := fun ts =>
 if (ts.headD q2m).kind ≠ 3 then PM.fail 90 ts
 else if num (ts.headD q2m) < 1 \/ num (ts.headD q2m) > 256 then PM.fail 113 ts
 else some (.ok (num (ts.headD q2m), q0w ts))
def q3h : PM Vr :=
  (q1y (tx [118, 97, 114])).bind fun _ => q6a.bind fun t => (q1y (tx [58])).bind fun _ => (z4a (tx [91])).bind fun b =>
  (if b then (x2j num).bind fun n => (q1y (tx [93])).bind fun _ => q2v.bind fun ty => .ret (⟨t.text, ty, n, 0, t.at_⟩ : Vr)
   else q2v.bind fun ty => (z4a (tx [61])).bind fun e => if e then (q9k num ty).bind fun v => .ret (⟨t.text, ty, 0, v, t.at_⟩ : Vr) else .ret (⟨t.text, ty, 0, 0, t.at_⟩ : Vr)).bind fun v =>
  (q1y (tx [59])).bind fun _ => .ret v
end
def z2p {α : Type} (stop : ByteArray) (read : List α -> PM α) : Nat -> List α -> PM (List α)
 | 0, _ => .none
 | n + 1, l => fun ts =>
  if isT stop ts then some (.ok (l, ts))
  else (read l).bind (fun a ts => if isT stop ts then some (.ok (l ++ [a], ts)) else (q1y (tx [44])).bind (fun _ ts => if isT stop ts then PM.fail 90 ts else z2p stop read n (l ++ [a]) ts) ts) ts
structure q4e where
 strong : Int -> Nat -> PM Ex
 one : Nat -> PM Ex
 stmt : Nat -> PM St
 choice : Nat -> PM St
 block : Nat -> PM (List St)
def q4e.zero : q4e := ⟨fun _ _ => .none, fun _ => .none, fun _ => .none, fun _ => .none, fun _ => .none⟩
def x2k : List (List UInt8 × Int × Int) := [([124, 124], 13, 1), ([38, 38], 12, 2), ([61, 61], 6, 3), ([33, 61], 7, 3), ([60], 8, 3), ([60, 61], 9, 3), ([62], 10, 3), ([62, 61], 11, 3), ([43], 1, 4), ([45], 2, 4), ([42], 3, 5), ([47], 4, 5), ([37], 5, 5)]
def q4y (s : ByteArray) : Int × Int := match x2k.find? (fun p => s.toList == p.1) with
 | some p => p.2
 | none => (0, 0)
section
variable (num : Tok -> Int) (n : Nat) (R : q4e)
def q3b (lv : Nat) : PM Ex := R.strong 1 lv
def q8k (lv : Nat) (t : Tok) : PM Ex :=
 (q2n lv (tx [40]) (fun lv => z2p (tx [41]) (fun _ => q3b R lv) n []) (tx [41])).bind fun l => .ret (.mk 7 0 0 t.text l t.at_ 0 0)
def q4m (lv : Nat) : PM (List Ex) := q2n lv (tx [91]) (fun lv => (q3b R lv).bind fun e => .ret [e]) (tx [93])
def z0r (lv : Nat) : PM Ex := fun ts =>
 let t := ts.headD q2m
 if t.kind = 3 then some (.ok (.mk 1 0 (num t) ⟨#[]⟩ [] t.at_ 0 0, q0w ts))
 else if t.kind = 4 then some (.ok (.mk 2 0 (num t) ⟨#[]⟩ [] t.at_ 0 0, q0w ts))
 else if isT (tx [116, 114, 117, 101]) ts then some (.ok (.mk 3 0 1 ⟨#[]⟩ [] t.at_ 0 0, q0w ts))
 else if isT (tx [102, 97, 108, 115, 101]) ts then some (.ok (.mk 3 0 0 ⟨#[]⟩ [] t.at_ 0 0, q0w ts))
 else if isT (tx [110, 117, 108, 108]) ts then some (.ok (.mk 4 0 0 ⟨#[]⟩ [] t.at_ 0 0, q0w ts))
 else if isT (tx [40]) ts then q2n lv (tx [40]) (fun lv => q3b R lv) (tx [41]) ts
 else q6a.bind (fun _ ts =>
  if isT (tx [40]) ts then q8k n R lv t ts
  else if isT (tx [91]) ts then (q4m R lv).bind (fun l => .ret (.mk 6 0 0 t.text l t.at_ 0 0)) ts
  else some (.ok (.mk 5 0 0 t.text [] t.at_ 0 0, ts))) ts
def x4f (lv : Nat) : PM Ex := fun ts =>
 if isT (tx [33]) ts then q1x lv (fun lv ts => (R.one lv).bind (fun e => .ret (.mk 8 15 0 ⟨#[]⟩ [e] (ts.headD q2m).at_ 0 0)) (q0w ts)) ts
 else if isT (tx [45]) ts then q1x lv (fun lv ts => (R.one lv).bind (fun e => .ret (.mk 8 14 0 ⟨#[]⟩ [e] (ts.headD q2m).at_ 0 0)) (q0w ts)) ts
 else z0r num n R lv ts
def q2r (least : Int) (lv : Nat) : Nat -> Int -> Ex -> PM Ex
 | 0, _, _ => .none
 | k + 1, most, e => fun ts =>
  let t := ts.headD q2m
  let b := q4y t.text
  if t.kind ≠ 5 \/ b.2 < least \/ b.2 > most then some (.ok (e, ts))
  else (R.strong (b.2 + 1) lv).bind (fun e2 => q2r least lv k (if b.2 = 3 then 2 else b.2) (.mk 9 b.1 0 ⟨#[]⟩ [e, e2] t.at_ 0 0)) (q0w ts)
def q8r (least : Int) (lv : Nat) : PM Ex := (R.one lv).bind fun e => q2r R least lv n 5 e
def q6h (ts : List Tok) : Bool := (ts.headD q2m).kind == 1 || isT (tx [108, 101, 116]) ts || isT (tx [105, 102]) ts || isT (tx [119, 104, 105, 108, 101]) ts || isT (tx [114, 101, 116, 117, 114, 110]) ts
def q5i (lv : Nat) : Nat -> List St -> PM (List St)
 | 0, _ => .none
 | k + 1, l => fun ts =>
  if q6h ts then if l.length = 400 then PM.fail 113 ts else (R.stmt lv).bind (fun s => q5i lv k (l ++ [s])) ts
  else some (.ok (l, ts))
def z4b (lv : Nat) : PM (List St) := q2n lv (tx [123]) (fun lv => q5i R lv n []) (tx [125])
def q4p (s : St) : PM St := (q1y (tx [59])).bind fun _ => .ret s
def q9l (lv : Nat) : PM St := fun ts =>
 let a := (ts.headD q2m).at_
 if isT (tx [105, 102]) ts then R.choice lv ts
 else if isT (tx [119, 104, 105, 108, 101]) ts then (q3b R lv).bind (fun e => (R.block lv).bind fun l => .ret (.mk 5 ⟨#[]⟩ 0 [e] l [] a 0)) (q0w ts)
 else if isT (tx [108, 101, 116]) ts then q6a.bind (fun t => (q1y (tx [58])).bind fun _ => q2v.bind fun ty => (q1y (tx [61])).bind fun _ => (q3b R lv).bind fun e => q4p (.mk 1 t.text ty [e] [] [] a 0)) (q0w ts)
 else if isT (tx [114, 101, 116, 117, 114, 110]) ts then (fun ts => if isT (tx [59]) ts then q4p (.mk 6 ⟨#[]⟩ 0 [] [] [] a 0) ts else (q3b R lv).bind (fun e => q4p (.mk 6 ⟨#[]⟩ 0 [e] [] [] a 0)) ts) (q0w ts)
 else q6a.bind (fun t ts =>
  if isT (tx [40]) ts then (q8k n R lv t).bind (fun e => q4p (.mk 7 ⟨#[]⟩ 0 [e] [] [] a 0)) ts
  else if isT (tx [91]) ts then (q4m R lv).bind (fun l => (q1y (tx [61])).bind fun _ => (q3b R lv).bind fun e => q4p (.mk 3 t.text 0 (l ++ [e]) [] [] a 0)) ts
  else (q1y (tx [61])).bind (fun _ => (q3b R lv).bind fun e => q4p (.mk 2 t.text 0 [e] [] [] a 0)) ts) ts
def q6t (lv : Nat) : PM St := fun ts =>
 let a := (ts.headD q2m).at_
 (q1y (tx [105, 102])).bind (fun _ => (q3b R lv).bind fun e => (R.block lv).bind fun l => (z4a (tx [101, 108, 115, 101])).bind fun b ts =>
  if b then
   if isT (tx [105, 102]) ts then (q1x lv (fun lv => R.choice lv)).bind (fun s => .ret (.mk 4 ⟨#[]⟩ 0 [e] l [s] a 0)) ts
   else (R.block lv).bind (fun l2 => .ret (.mk 4 ⟨#[]⟩ 0 [e] l l2 a 0)) ts
  else some (.ok (.mk 4 ⟨#[]⟩ 0 [e] l [] a 0, ts))) ts
def q4e.step : q4e := ⟨q8r n R, x4f num n R, q9l n R, q6t R, z4b n R⟩
end
def q2w (num : Tok -> Int) : Nat -> q4e
 | 0 => q4e.zero
 | n + 1 => (q2w num n).step num n
def q8p (l : List Pm) : PM Pm := fun ts =>
 if (ts.headD q2m).kind = 1 /\ l.length = 8 then PM.fail 113 ts
 else q6a.bind (fun t => (q1y (tx [58])).bind fun _ => q2v.bind fun ty => .ret (⟨t.text, ty⟩ : Pm)) ts
def q3i (n : Nat) (R : q4e) (lv : Nat) : PM Fc :=
 (q1y (tx [102, 110])).bind fun _ => q6a.bind fun t => (q1y (tx [40])).bind fun _ => (z2p (tx [41]) q8p n []).bind fun ps => (q1y (tx [41])).bind fun _ => (z4a (tx [58])).bind fun b =>
 (if b then q2v else .ret 0).bind fun ty => (R.block lv).bind fun l => .ret (⟨t.text, ps, ty, l, t.at_, []⟩ : Fc)
def q8s (num : Tok -> Int) : Nat -> List Vr -> PM (List Vr)
 | 0, _ => .none
 | k + 1, l => fun ts => if isT (tx [118, 97, 114]) ts then if l.length = 64 then PM.fail 113 ts else (q3h num).bind (fun v => q8s num k (l ++ [v])) ts else some (.ok (l, ts))
def q6l (n : Nat) (R : q4e) : Nat -> List Fc -> PM (List Fc)
 | 0, _ => .none
 | k + 1, l => fun ts => if isT (tx [102, 110]) ts then if l.length = 64 then PM.fail 113 ts else (q3i n R 0).bind (fun v => q6l n R k (l ++ [v])) ts else some (.ok (l, ts))
def x4g (num : Tok -> Int) (n : Nat) : PM Md :=
 (q8s num n []).bind fun vs => (q6l n (q2w num n) n []).bind fun fs ts => if (ts.headD q2m).kind = 6 then some (.ok (⟨vs, fs⟩, ts)) else PM.fail 90 ts
theorem j3d {w : World} {b o : Nat} {v : Value} (h : w.cell? ⟨b, o, none⟩ = some v) : b < w.heap.size := by
 rcases Nat.lt_or_ge b w.heap.size with h1 | h1
 ·exact h1
 ·simp [World.cell?, h1] at h
theorem q6u {w w' : World} (hb : Below w.heap.size w w') {b o : Nat} {v : Value} (h : w.cell? ⟨b, o, none⟩ = some v) : w'.cell? ⟨b, o, none⟩ = some v := (hb.cell (p := ⟨b, o, none⟩) (j3d h)).trans h
theorem z8l {w w' : World} {b : Nat} (h : w'.heap[b]? = w.heap[b]?) (o : Nat) : w'.cell? ⟨b, o, none⟩ = w.cell? ⟨b, o, none⟩ := by simp [World.cell?, h]
theorem q8t (ad : Addr) : ad.add 0 = ad := by unfold Addr.add; rfl
def z5a : Kd Tok := Kd.iso (Kd.pair (Kd.int .i64) (Kd.pair Kd.string (Kd.int .i64))) (fun t : Tok => (t.kind, t.text, t.at_))
theorem z6l {w : World} {x : Tok} {cs : List Value} (h : z5a.K w x cs) : cs = [.int .i64 x.kind, .string x.text, .int .i64 x.at_] := by
 obtain ⟨_, _, rfl, rfl, ⟨_, _, rfl, rfl, rfl⟩⟩ := h; rfl
theorem x4h {w : World} {A : Option Addr} {n : Nat} {t : Tok} {ts : List Tok} (h : z5a.C w A n (t :: ts)) : ∃ ad, A = some ad /\ w.cell? ad = some (.int .i64 t.kind) /\ w.cell? ⟨ad.block, ad.off + 1, none⟩ = some (.string t.text) /\ w.cell? ⟨ad.block, ad.off + 2, none⟩ = some (.int .i64 t.at_) := by
 have hn : n = ts.length + 1 := by have := h.1; simpa using this.symm
 obtain ⟨ad, c, e, _, hK, hc⟩ := Kd.C_get h q2m (0 : Int) (by omega) (by omega)
 have hK2 := z6l hK
 subst hK2
 have h0 := hc 0 _ rfl
 have h1 := hc 1 _ rfl
 have h2 := hc 2 _ rfl
 rw [show Int.toNat 0 * z5a.sz + 0 = 0 by simp, q8t] at h0
 rw [show Int.toNat 0 * z5a.sz + 1 = 0 + 1 by simp, q0z _ _ 1 (by omega), q8t] at h1
 rw [show Int.toNat 0 * z5a.sz + 2 = 0 + 2 by simp, q0z _ _ 2 (by omega), q8t] at h2
 exact ⟨ad, e, h0, h1, h2⟩
theorem j3e {α : Type} {d : Kd α} {w : World} {ad a : Addr} {x : α} {xs : List α} (h : Kd.C d w (some ad) (xs.length + 1) (x :: xs)) (ha : 0 < xs.length -> a = ad.add d.sz) : Kd.C d w (some a) xs.length xs := by
 obtain ⟨h1, h2, h3⟩ := h
 refine ⟨rfl, by omega, fun h0 => ⟨a, rfl, fun j p hj => ?_⟩⟩
 obtain ⟨ad', e, hc⟩ := h3 (by omega)
 injection e with e
 subst e
 obtain ⟨cs, q1, q2, q3⟩ := hc (j + 1) p (by simpa using hj)
 refine ⟨cs, q1, q2, fun i u hu => ?_⟩
 have := q3 i u hu
 rw [<- this, ha h0, Go.Deep.add_add]
 congr 2
 rw [Nat.add_mul]; omega
def j3f (ts : List Tok) : Prop := ∃ ini e, ts = ini ++ [e] /\ e.kind = 6
theorem j3f.cons {ts : List Tok} (h : j3f ts) : ∃ t r, ts = t :: r /\ (t.kind ≠ 6 -> j3f r) := by
 obtain ⟨ini, e, rfl, he⟩ := h
 cases ini with
 | nil => exact ⟨e, [], rfl, fun h => absurd he h⟩
 | cons a l => exact ⟨a, l ++ [e], rfl, fun _ => ⟨l, e, rfl, he⟩⟩
structure q1s (B : Nat) (X : Nat -> Prop) (w w' : World) : Prop where
 os : w'.os = w.os
 tape : w'.tape = w.tape
 output : w'.output = w.output
 size : w.heap.size <= w'.heap.size
 block : ∀ k, k < B -> ¬ X k -> w'.heap[k]? = w.heap[k]?
theorem q1m {B : Nat} {X : Nat -> Prop} {w w' : World} (h : Below B w w') : q1s B X w w' := ⟨h.os, h.tape, h.output, h.size, fun k hk _ => h.block k hk⟩
theorem q1s.refl (B : Nat) (X : Nat -> Prop) (w : World) : q1s B X w w := ⟨rfl, rfl, rfl, Nat.le_refl _, fun _ _ _ => rfl⟩
theorem q1s.next {X : Nat -> Prop} {w w1 w2 : World} (h : q1s w.heap.size X w w1) (k : q1s w1.heap.size X w1 w2) : q1s w.heap.size X w w2 :=
 ⟨k.os.trans h.os, k.tape.trans h.tape, k.output.trans h.output, Nat.le_trans h.size k.size, fun i hi hg => (k.block i (Nat.lt_of_lt_of_le hi h.size) hg).trans (h.block i hi hg)⟩
theorem q1s.mono {B B' : Nat} {X X' : Nat -> Prop} {w w' : World} (h : q1s B X w w') (hb : B' <= B) (hx : ∀ k, k < B' -> X k -> X' k) : q1s B' X' w w' := ⟨h.os, h.tape, h.output, h.size, fun k hk hn => h.block k (Nat.lt_of_lt_of_le hk hb) (fun hX => hn (hx k hk hX))⟩
theorem q1s.set {B : Nat} {X : Nat -> Prop} {w w' : World} (h : q1s B X w w') {b : Nat} (hb : B <= b \/ X b) (o : Nat) (u : Value) : q1s B X w (w'.setCell ⟨b, o, none⟩ u) := by
 have k := (Below.refl 0 w').setCell (p := ⟨b, o, none⟩) (Nat.zero_le _) u
 refine ⟨k.os.trans h.os, k.tape.trans h.tape, k.output.trans h.output, Nat.le_trans h.size k.size, fun i hi hn => (Below.heap_setCell _ _ _ _ (fun e => ?_)).trans (h.block i hi hn)⟩
 have e2 : i = b := e
 subst e2
 rcases hb with hb | hb
 ·omega
 ·exact hn hb
theorem q1s.alloc {B : Nat} {X : Nat -> Prop} {w w' : World} (h : q1s B X w w') (hB : B <= w'.heap.size) (o : Obj) : q1s B X w (w'.alloc o) := by
 have k := (Below.refl 0 w').alloc (Nat.zero_le _) o
 exact ⟨k.os.trans h.os, k.tape.trans h.tape, k.output.trans h.output, Nat.le_trans h.size k.size, fun i hi hn => (Below.heap_alloc _ _ _ (Nat.lt_of_lt_of_le hi hB)).trans (h.block i hi hn)⟩
theorem j3g (w : World) (x : Tok) : z5a.K w x [.int .i64 x.kind, .string x.text, .int .i64 x.at_] := ⟨[.int .i64 x.kind], [.string x.text, .int .i64 x.at_], rfl, rfl, ⟨[.string x.text], [.int .i64 x.at_], rfl, rfl, rfl⟩⟩
theorem j3h (ad : Addr) (k : Nat) : (ad.add k).block = ad.block := by unfold Addr.add; split <;> rfl
theorem z5b {w w' : World} {ad : Addr} {n : Nat} {ts : List Tok} (h : z5a.C w (some ad) n ts) (hb : w'.heap[ad.block]? = w.heap[ad.block]?) : z5a.C w' (some ad) n ts := by
 obtain ⟨h1, h2, h3⟩ := h
 refine ⟨h1, h2, fun h0 => ?_⟩
 obtain ⟨ad', e, hc⟩ := h3 h0
 injection e with e
 subst e
 refine ⟨ad, rfl, fun j p hj => ?_⟩
 obtain ⟨cs, q1, q2, q3⟩ := hc j p hj
 have q4 := z6l q2
 subst q4
 exact ⟨_, q1, j3g w' p, fun i u hu => by
  have h5 := q3 i u hu
  rw [World.cell?_of_block (w := w) (a := ad.add (j * z5a.sz + i)) (by rw [j3h]; exact hb)]
  exact h5⟩
structure RD (B : Nat) (w : World) (g : Nat) (ts : List Tok) (lv : Nat) : Prop where
 mem : ∃ ad c, w.heap[g]? = some (.cells #[.slice (some ad) ts.length c, .int .i64 lv] 58 (0, 0)) /\ ts.length <= c /\ z5a.C w (some ad) ts.length ts /\ ad.block ≠ g /\ ad.block < B
 et : j3f ts
 ll : ts.length <= 100000
 lv : lv <= 30
 gB : g < B
 Bw : B <= w.heap.size
 tk : ∀ t ∈ ts, z1o t
theorem RD.lt {B : Nat} {w : World} {g : Nat} {ts : List Tok} {lv : Nat} (h : RD B w g ts lv) : g < w.heap.size := Nat.lt_of_lt_of_le h.gB h.Bw
theorem RD.keep {B : Nat} {w w' : World} {g : Nat} {ts : List Tok} {lv : Nat} (h : RD B w g ts lv) (hs : w.heap.size <= w'.heap.size) (hk : ∀ k, k < B -> w'.heap[k]? = w.heap[k]?) : RD B w' g ts lv := by
 obtain ⟨ad, c, h1, h2, h3, h4, h5⟩ := h.mem
 exact ⟨⟨ad, c, (hk g h.gB).trans h1, h2, z5b h3 (hk _ h5), h4, h5⟩, h.et, h.ll, h.lv, h.gB, Nat.le_trans h.Bw hs, h.tk⟩
theorem RD.below {B : Nat} {w w' : World} {g : Nat} {ts : List Tok} {lv : Nat} (h : RD B w g ts lv) (hb : Below w.heap.size w w') : RD B w' g ts lv := h.keep hb.size (fun k hk => hb.block k (Nat.lt_of_lt_of_le hk h.Bw))
theorem RD.set {B : Nat} {w : World} {g : Nat} {ts : List Tok} {lv : Nat} (h : RD B w g ts lv) {b : Nat} (hb : B <= b) (o : Nat) (u : Value) : RD B (w.setCell ⟨b, o, none⟩ u) g ts lv := h.keep (by simp) (fun k hk => Below.heap_setCell _ _ _ _ (fun e => by have : k = b := e; omega))
theorem RD.level {B : Nat} {w : World} {g : Nat} {ts : List Tok} {lv : Nat} (h : RD B w g ts lv) (k : Nat) (hk : k <= 30) : RD B (w.setCell ⟨g, 1, none⟩ (.int .i64 k)) g ts k := by
 obtain ⟨ad, c, h1, h2, h3, h4, h5⟩ := h.mem
 exact ⟨⟨ad, c, z2o h1 1 _, h2, z5b h3 (Below.heap_setCell _ _ _ _ h4), h4, h5⟩, h.et, h.ll, hk, h.gB, by simpa using h.Bw, h.tk⟩
theorem RD.tail {B : Nat} {w : World} {g : Nat} {t : Tok} {r : List Tok} {lv : Nat} (h : RD B w g (t :: r) lv) (hk : t.kind ≠ 6) {ad a : Addr} {c : Nat} (hm : w.heap[g]? = some (.cells #[.slice (some ad) (r.length + 1) c, .int .i64 lv] 58 (0, 0))) (ha : 0 < r.length -> a = ad.add 3) (hc : r.length <= c - 1) (hab : a.block = ad.block) :
  RD B (w.setCell ⟨g, 0, none⟩ (.slice (some a) r.length (c - 1))) g r lv := by
 obtain ⟨ad', c', h1, h2, h3, h4, h5⟩ := h.mem
 rw [h1] at hm
 injection hm with hm
 injection hm with hm _ _
 injection hm with hm
 injection hm with hm _
 injection hm with e1 e2 e3
 injection e1 with e1
 subst e1 e3
 obtain ⟨t', r', e, he⟩ := h.et.cons
 injection e with e4 e5
 subst e4 e5
 refine ⟨⟨a, c' - 1, z2o h1 0 _, hc, z5b (j3e h3 ha) ?_, by rw [hab]; exact h4, by rw [hab]; exact h5⟩, he hk, by have := h.ll; simp at this; omega, h.lv, h.gB, by simpa using h.Bw, fun t ht => h.tk t (List.mem_cons_of_mem _ ht)⟩
 rw [hab]
 exact Below.heap_setCell _ _ _ _ h4
def Res {α : Type} (B : Nat) (w : World) (X : Nat -> Prop) (g lv : Nat) (V : World -> α -> Value -> Prop) (r : Except Flt (α × List Tok)) (e : Ending) (w' : World) : Prop := match r with
 | .ok (a, ts') => ∃ v, e = .returned v /\ V w' a v /\ RD B w' g ts' lv /\ q1s w.heap.size X w w'
 | .error f => e = .panicked [{ v := .iface 55 (.agg #[.int .i64 f.1, .int .i64 f.2]), recovered := false }] /\ q1s w.heap.size X w w'
def exT : Ex -> Int × Int × Int × ByteArray × List Ex × Int × Int × Int
 | .mk k o n s l a t p => (k, o, n, s, l, a, t, p)
def fEx (d : Kd Ex) : Kd Ex := Kd.iso (Kd.pair (Kd.int .i64) (Kd.pair (Kd.int .i64) (Kd.pair (Kd.int .i64) (Kd.pair Kd.string (Kd.pair (Kd.slice 86 d) (Kd.pair (Kd.int .i64) (Kd.pair (Kd.int .i64) (Kd.int .i64)))))))) exT
theorem x8q : Kd.Mono fEx := Kd.mono_iso exT (Kd.mono_pair (Kd.mono_const _) (Kd.mono_pair (Kd.mono_const _) (Kd.mono_pair (Kd.mono_const _) (Kd.mono_pair (Kd.mono_const _) (Kd.mono_pair (Kd.mono_slice _ Kd.mono_id) (Kd.mono_pair (Kd.mono_const _) (Kd.mono_pair (Kd.mono_const _) (Kd.mono_const _))))))))
theorem j3i : Kd.Sub fEx [86] := Kd.sub_iso exT (Kd.sub_pair (Kd.sub_const _ (by intro q h; cases h)) (Kd.sub_pair (Kd.sub_const _ (by intro q h; cases h)) (Kd.sub_pair (Kd.sub_const _ (by intro q h; cases h)) (Kd.sub_pair (Kd.sub_const _ (by intro q h; cases h)) (Kd.sub_pair (Kd.sub_slice _ List.mem_cons_self Kd.sub_id) (Kd.sub_pair (Kd.sub_const _ (by intro q h; cases h)) (Kd.sub_pair (Kd.sub_const _ (by intro q h; cases h)) (Kd.sub_const _ (by intro q h; cases h)))))))))
def kEx : Kd Ex := Kd.fix fEx 8 [86] (Kd.upto_sz (fun _ => rfl)) (Kd.upto_E j3i)
theorem q4z {w : World} {base : Nat} {ok : Nat -> Prop} (k o n : Int) (s : ByteArray) {l : List Ex} (a t p : Int) {v : Value} (h : kEx.R 86 w base ok v l) : kEx.M w base ok (.mk k o n s l a t p) [.int .i64 k, .int .i64 o, .int .i64 n, .string s, v, .int .i64 a, .int .i64 t, .int .i64 p] := by
 obtain ⟨m, hm⟩ := Kd.fix_R_back x8q h
 exact ⟨m + 1, [.int .i64 k], _, rfl, rfl, [.int .i64 o], _, rfl, rfl, [.int .i64 n], _, rfl, rfl, [.string s], _, rfl, rfl, [v], _, rfl, ⟨v, rfl, hm⟩, [.int .i64 a], _, rfl, rfl, [.int .i64 t], [.int .i64 p], rfl, rfl, rfl⟩
theorem q2x {w : World} {k o n : Int} {s : ByteArray} {l : List Ex} {a t p : Int} {cs : List Value} (h : kEx.K w (.mk k o n s l a t p) cs) : ∃ A c, cs = [.int .i64 k, .int .i64 o, .int .i64 n, .string s, .slice A l.length c, .int .i64 a, .int .i64 t, .int .i64 p] /\ l.length <= c /\ kEx.C w A l.length l := by
 obtain ⟨m, h⟩ := h
 cases m with
 | zero => exact h.elim
 | succ m =>
  obtain ⟨_, _, rfl, rfl, _, _, rfl, rfl, _, _, rfl, rfl, _, _, rfl, rfl, _, _, rfl, ⟨A, c, rfl, hl, hc⟩, _, _, rfl, rfl, _, _, rfl, rfl, rfl⟩ := h
  exact ⟨A, c, rfl, hl, Kd.fix_C hc⟩
theorem q2k {w : World} {base : Nat} {ok : Nat -> Prop} {k o n : Int} {s : ByteArray} {l : List Ex} {a t p : Int} {cs : List Value} (h : kEx.M w base ok (.mk k o n s l a t p) cs) : ∃ v, cs = [.int .i64 k, .int .i64 o, .int .i64 n, .string s, v, .int .i64 a, .int .i64 t, .int .i64 p] /\ kEx.R 86 w base ok v l := by
 obtain ⟨m, h⟩ := h
 cases m with
 | zero => exact h.elim
 | succ m =>
  obtain ⟨_, _, rfl, rfl, _, _, rfl, rfl, _, _, rfl, rfl, _, _, rfl, rfl, _, _, rfl, ⟨v, rfl, hc⟩, _, _, rfl, rfl, _, _, rfl, rfl, rfl⟩ := h
  exact ⟨v, rfl, Kd.fix_R hc⟩
def stT : St -> Int × ByteArray × Int × List Ex × List St × List St × Int × Int
 | .mk k s t l b e a p => (k, s, t, l, b, e, a, p)
def fSt (d : Kd St) : Kd St := Kd.iso (Kd.pair (Kd.int .i64) (Kd.pair Kd.string (Kd.pair (Kd.int .i64) (Kd.pair (Kd.slice 86 kEx) (Kd.pair (Kd.slice 67 d) (Kd.pair (Kd.slice 67 d) (Kd.pair (Kd.int .i64) (Kd.int .i64)))))))) stT
theorem z1t : Kd.Mono fSt := Kd.mono_iso stT (Kd.mono_pair (Kd.mono_const _) (Kd.mono_pair (Kd.mono_const _) (Kd.mono_pair (Kd.mono_const _) (Kd.mono_pair (Kd.mono_const _) (Kd.mono_pair (Kd.mono_slice _ Kd.mono_id) (Kd.mono_pair (Kd.mono_slice _ Kd.mono_id) (Kd.mono_pair (Kd.mono_const _) (Kd.mono_const _))))))))
theorem j3j : Kd.Sub fSt [67, 86] := Kd.sub_iso stT (Kd.sub_pair (Kd.sub_const _ (by intro q h; cases h)) (Kd.sub_pair (Kd.sub_const _ (by intro q h; cases h)) (Kd.sub_pair (Kd.sub_const _ (by intro q h; cases h)) (Kd.sub_pair (Kd.sub_const _ (by intro q h; rcases List.mem_cons.1 h with rfl | h; exact List.mem_cons_of_mem _ List.mem_cons_self; exact List.mem_cons_of_mem _ h)) (Kd.sub_pair (Kd.sub_slice _ List.mem_cons_self Kd.sub_id) (Kd.sub_pair (Kd.sub_slice _ List.mem_cons_self Kd.sub_id) (Kd.sub_pair (Kd.sub_const _ (by intro q h; cases h)) (Kd.sub_const _ (by intro q h; cases h)))))))))
def kSt : Kd St := Kd.fix fSt 8 [67, 86] (Kd.upto_sz (fun _ => rfl)) (Kd.upto_E j3j)
theorem q7m {w : World} {base : Nat} {ok : Nat -> Prop} (k : Int) (s : ByteArray) (t : Int) {l : List Ex} {b e : List St} (a p : Int) {v v1 v2 : Value} (h : kEx.R 86 w base ok v l) (h1 : kSt.R 67 w base ok v1 b) (h2 : kSt.R 67 w base ok v2 e) : kSt.M w base ok (.mk k s t l b e a p) [.int .i64 k, .string s, .int .i64 t, v, v1, v2, .int .i64 a, .int .i64 p] := by
 obtain ⟨m1, hm1⟩ := Kd.fix_R_back z1t h1
 obtain ⟨m2, hm2⟩ := Kd.fix_R_back z1t h2
 have g1 := Kd.upto_R_le z1t (Kd.upto_sz (fun _ => rfl)) (Nat.le_max_left m1 m2) hm1
 have g2 := Kd.upto_R_le z1t (Kd.upto_sz (fun _ => rfl)) (Nat.le_max_right m1 m2) hm2
 exact ⟨max m1 m2 + 1, [.int .i64 k], _, rfl, rfl, [.string s], _, rfl, rfl, [.int .i64 t], _, rfl, rfl, [v], _, rfl, ⟨v, rfl, h⟩, [v1], _, rfl, ⟨v1, rfl, g1⟩, [v2], _, rfl, ⟨v2, rfl, g2⟩, [.int .i64 a], [.int .i64 p], rfl, rfl, rfl⟩
theorem q3y {w : World} {k : Int} {s : ByteArray} {t : Int} {l : List Ex} {b e : List St} {a p : Int} {cs : List Value} (h : kSt.K w (.mk k s t l b e a p) cs) : ∃ A c A1 c1 A2 c2, cs = [.int .i64 k, .string s, .int .i64 t, .slice A l.length c, .slice A1 b.length c1, .slice A2 e.length c2, .int .i64 a, .int .i64 p] /\ kEx.C w A l.length l /\ kSt.C w A1 b.length b /\ kSt.C w A2 e.length e := by
 obtain ⟨m, h⟩ := h
 cases m with
 | zero => exact h.elim
 | succ m =>
  obtain ⟨_, _, rfl, rfl, _, _, rfl, rfl, _, _, rfl, rfl, _, _, rfl, ⟨A, c, rfl, hl, hc⟩, _, _, rfl, ⟨A1, c1, rfl, hl1, hc1⟩, _, _, rfl, ⟨A2, c2, rfl, hl2, hc2⟩, _, _, rfl, rfl, rfl⟩ := h
  exact ⟨A, c, A1, c1, A2, c2, rfl, hc, Kd.fix_C hc1, Kd.fix_C hc2⟩
def kVr : Kd Vr := Kd.iso (Kd.pair Kd.string (Kd.pair (Kd.int .i64) (Kd.pair (Kd.int .i64) (Kd.pair (Kd.int .i64) (Kd.int .i64))))) (fun v : Vr => (v.name, v.type, v.size, v.value, v.at_))
def kPm : Kd Pm := Kd.iso (Kd.pair Kd.string (Kd.int .i64)) (fun v : Pm => (v.name, v.type))
def kFc : Kd Fc := Kd.iso (Kd.pair Kd.string (Kd.pair (Kd.slice 49 kPm) (Kd.pair (Kd.int .i64) (Kd.pair (Kd.slice 67 kSt) (Kd.pair (Kd.int .i64) (Kd.slice 3 (Kd.int .i64))))))) (fun f : Fc => (f.name, f.params, f.type, f.body, f.at_, f.locals))
def kMd : Kd Md := Kd.iso (Kd.pair (Kd.slice 40 kVr) (Kd.slice 46 kFc)) (fun m : Md => (m.vars, m.funcs))
def q3v (l : List UInt8) (n : Nat) : Nat × Int := if 9223372036854775808 <= decU (l.take n) \/ (l.headD 0 = 48 /\ 1 < n) then (0, 0) else (n, 3)
def z6m (fx : List UInt8 -> Bool) (l : List UInt8) : Nat × Int :=
 let n := q2a q0k l
 if n = l.length \/ l.getD n 0 ≠ 46 then q3v l n
 else
  let m := q2a q0k (l.drop (n + 1))
  if 0 < m then if fx (l.take (n + 1 + m)) then (n + 1 + m, 4) else (0, 0) else q3v l n
def z2q : List UInt8 := [43, 45, 42, 47, 37, 40, 41, 123, 125, 91, 93, 44, 59, 58]
def q1b (fx : List UInt8 -> Bool) (l : List UInt8) : Nat × Int :=
 let c := l.headD 0
 if q1g c.toNat then
  let n := q2a q0s l
  if 24 < n then (0, 0) else if z4y ⟨(l.take n).toArray⟩ then (n, 2) else (n, 1)
 else if q0k c.toNat then z6m fx l
 else if c = 38 \/ c = 124 then if l.getD 1 0 = c /\ 1 < l.length then (2, 5) else (0, 0)
 else if (c = 61 \/ c = 33 \/ c = 60 \/ c = 62) /\ 1 < l.length /\ l.getD 1 0 = 61 then (2, 5)
 else if c = 61 \/ c = 33 \/ c = 60 \/ c = 62 \/ z2q.contains c then (1, 5)
 else (0, 0)
def q7e (c : Int) : Bool := c != 10
def q7n (fx : List UInt8 -> Bool) (l : List UInt8) : Nat -> Nat -> List Tok -> Option (Except Flt (List Tok))
 | 0, _, _ => none
 | k + 1, i, out =>
  if i < l.length then
   let c := l.getD i 0
   if c = 35 then q7n fx l k (i + q2a q7e (l.drop i)) out
   else if c = 9 \/ c = 10 \/ c = 13 \/ c = 32 then q7n fx l k (i + 1) out
   else
    let p := q1b fx (l.drop i)
    if p.1 = 0 then some (.error (80, i))
    else q7n fx l k (i + p.1) (out ++ [⟨p.2, ⟨((l.drop i).take p.1).toArray⟩, i⟩])
  else some (.ok (out ++ [⟨6, ⟨#[]⟩, l.length⟩]))
def q3j (fx : List UInt8 -> Bool) (l : List UInt8) : Except Flt (List Tok) :=
 if 16384 < l.length then .error (2, -1) else (q7n fx l (l.length + 1) 0 []).getD (.error (0, 0))
theorem x8r (p : Int -> Bool) (c : UInt8) (l : List UInt8) (h : p c.toNat = true) : 0 < q2a p (c :: l) := by
 unfold q2a; rw [if_pos h]; omega
theorem q6m (fx : List UInt8 -> Bool) (l : List UInt8) : ∀ (k i : Nat) (out : List Tok), l.length - i < k -> ∃ r, q7n fx l k i out = some r
 | 0, i, out, h => by omega
 | k + 1, i, out, h => by
  unfold q7n
  by_cases hi : i < l.length
  ·rw [if_pos hi]
   simp only
   split
   ·rename_i hc
    have h1 : 0 < q2a q7e (l.drop i) := by
     rw [List.drop_eq_getElem_cons hi]
     refine x8r _ _ _ ?_
     rw [List.getD_eq_getElem?_getD, List.getElem?_eq_getElem hi] at hc
     have hc' : l[i] = 35 := hc
     rw [hc']; decide
    exact q6m fx l k _ out (by omega)
   ·split
    ·exact q6m fx l k _ out (by omega)
    ·split
     ·exact ⟨_, rfl⟩
     ·exact q6m fx l k _ _ (by omega)
  ·rw [if_neg hi]
   exact ⟨_, rfl⟩
set_option maxHeartbeats 4000000
theorem q8u (l : List UInt8) : ∀ (m : List UInt8), decU l <= decU (l ++ m) := by
 intro m
 unfold decU
 rw [List.foldl_append]
 generalize l.foldl (fun n c => n * 10 + (c.toNat - 48)) 0 = n
 induction m generalizing n with
 | nil => exact Nat.le_refl _
 | cons c m ih => exact Nat.le_trans (by omega) (ih (n * 10 + (c.toNat - 48)))
theorem z2r (l : List UInt8) (c : UInt8) : decU (l ++ [c]) = decU l * 10 + (c.toNat - 48) := by unfold decU; rw [List.foldl_append]; rfl
def z6n (l : List UInt8) : Prop := ∀ c ∈ l, 48 <= c.toNat /\ c.toNat <= 57
set_option maxHeartbeats 32000000 in
theorem x4i (t : ByteArray) (hne : t.size ≠ 0) (hmax : t.size <= 1000000) (hd : z6n t.data.toList) (w : World) :
  Calls Tryz.prog 179 #[.string t, .int .i64 10, .int .i64 63] w fun e w' => e = .returned (if decU t.data.toList <= 9223372036854775807 then .tuple #[.int .u64 (decU t.data.toList : Nat), .nilIface] else .tuple #[.int .u64 9223372036854775807, .iface 185 (.int .i64 1)]) /\ w' = Lib.bytesWorld w 5 t := by
 have hemp : t.toList.isEmpty = false := by
  rw [<- decide_eq_emptyBytes]
  exact decide_eq_false (fun h => hne (by rw [h]; rfl))
 have hcv := Lib.run_convert_string_bytes (P := Tryz.prog) w 9 74 5 t (u := .string) Tryz.underlying9 Tryz.underlying74 Tryz.underlying5
 have hB : ∀ j, j < t.size -> (Lib.bytesWorld w 5 t).cell? ⟨w.heap.size, j, none⟩ = some (.int .u8 (t.data.toList.getD j 0).toNat) := fun j hj => Lib.bytesWorld_cell w 5 t j hj
 obtain ⟨W1, hW1⟩ : ∃ W1, W1 = Lib.bytesWorld w 5 t := ⟨_, rfl⟩
 rw [<- hW1] at hcv hB ⊢
 clear hW1
 obtain ⟨bs, hL⟩ : ∃ bs, bs = t.data.toList := ⟨_, rfl⟩
 have hLn : bs.length = t.size := by rw [hL]; exact Array.length_toList
 rw [<- hL] at hB hd ⊢
 have HD := q0h hd
 clear hL hd
 obtain ⟨ev, hev⟩ : ∃ v, v = (if decU bs <= 9223372036854775807 then Value.tuple #[.int .u64 (decU bs : Nat), .nilIface] else .tuple #[.int .u64 9223372036854775807, .iface 185 (.int .i64 1)]) := ⟨_, rfl⟩
 rw [<- hev]
 have HEV := q0h hev
 have HBB := q0h hB
 have HLN := q0h hLn
 have hmv : IntKind.u64.wrap (IntKind.u64.wrap 9223372036854775808 - 1) = 9223372036854775807 := by
  rw [IntKind.wrap_u64, IntKind.wrap_u64]
  decide
 clear hev hB hLn
 go_enter Tryz.func179, Tryz.ntmps179
 go_wp2
 go_loop [12, 13, 101] (fun vu vn vi => ∃ (k acc : Nat) (a : Int), vu = .bool false /\ vn = .int .u64 a /\ vi = .int .i64 k /\ k <= t.size /\ Hid (a = (acc : Int) /\ acc <= 9223372036854775807 /\ acc = decU (bs.take k)))
  (fun _ _ vi => t.size - (intOf vi).toNat)
 case atStart => exact ⟨0, 0, 0, rfl, rfl, rfl, by omega, rfl, by omega, rfl⟩
 case round =>
  obtain ⟨k, acc, a, rfl, rfl, rfl, hk, hh⟩ := hrel
  obtain ⟨ha, hacc, hdec⟩ := hh.out
  clear hh
  have a0 : 0 <= a := by omega
  have a1 : a <= 9223372036854775807 := by omega
  by_cases hkn : k < t.size
  ·have hc := HBB.out k hkn
   have hlk : k < bs.length := by rw [HLN.out]; exact hkn
   have htk : bs.take (k + 1) = bs.take k ++ [bs[k]'hlk] := by rw [List.take_add_one, List.getElem?_eq_getElem hlk]; rfl
   have hget : bs.getD k 0 = bs[k]'hlk := by simp [List.getD, List.getElem?_eq_getElem hlk]
   have hdg := HD.out _ (List.getElem_mem hlk)
   rw [hget] at hc
   have hnew : decU (bs.take (k + 1)) = acc * 10 + ((bs[k]'hlk).toNat - 48) := by rw [htk, z2r, hdec]
   have hmore : decU (bs.take (k + 1)) <= decU bs := by
    have h := q8u (bs.take (k + 1)) (bs.drop (k + 1))
    rwa [List.take_append_drop] at h
   generalize bs[k]'hlk = c at hc hdg hnew
   have hc256 : c.toNat < 256 := c.toNat_lt
   obtain ⟨hd0, hd1⟩ := hdg
   clear hget htk hlk
   by_cases hcut : 1844674407370955162 <= acc
   ·have HE := q0h (show ev = .tuple #[.int .u64 9223372036854775807, .iface 185 (.int .i64 1)] by rw [HEV.out, if_neg (by omega)])
    have icut : 1844674407370955162 <= a := by omega
    clear hnew hmore hcut hacc ha hdec
    go_wp2
    go_ret2
    exact ⟨by rw [HE.out]; rfl, rfl⟩
   ·by_cases hov : 9223372036854775807 < acc * 10 + (c.toNat - 48)
    ·have HE := q0h (show ev = .tuple #[.int .u64 9223372036854775807, .iface 185 (.int .i64 1)] by rw [HEV.out, if_neg (by omega)])
     have icut : a < 1844674407370955162 := by omega
     have iov : 9223372036854775807 < a * 10 + ((c.toNat : Int) - 48) := by omega
     by_cases hw : 18446744073709551616 <= a * 10 + ((c.toNat : Int) - 48)
     ·have hwr : IntKind.u64.wrap (a * 10 + ((c.toNat : Int) - 48)) = a * 10 + ((c.toNat : Int) - 48) - 18446744073709551616 := by
       rw [IntKind.wrap_u64]
       omega
      clear hnew hmore hcut hacc hov ha hdec
      go_wp2
      go_ret2
      exact ⟨by rw [HE.out]; rfl, rfl⟩
     ·have hw2 : a * 10 + ((c.toNat : Int) - 48) < 18446744073709551616 := by omega
      clear hnew hmore hcut hacc hov ha hdec hw
      go_wp2
      go_ret2
      exact ⟨by rw [HE.out]; rfl, rfl⟩
    ·have HN : Hid (a * 10 + ((c.toNat : Int) - 48) = ((acc * 10 + (c.toNat - 48) : Nat) : Int) /\ acc * 10 + (c.toNat - 48) <= 9223372036854775807 /\ acc * 10 + (c.toNat - 48) = decU (bs.take (k + 1))) := q0h ⟨by omega, by omega, hnew.symm⟩
     have iov : a * 10 + ((c.toNat : Int) - 48) <= 9223372036854775807 := by omega
     have icut : a < 1844674407370955162 := by omega
     clear hnew hmore hcut hacc hov hdec ha
     go_wp2
     refine ⟨⟨k + 1, acc * 10 + (c.toNat - 48), a * 10 + ((c.toNat : Int) - 48), rfl, (by first | rfl | (congr 1; omega)), (by first | rfl | (congr 1; omega)), by omega, HN⟩, by simp [intOf]; omega⟩
  ·have hkk : k = t.size := by omega
   subst hkk
   have hall : bs.take t.size = bs := List.take_of_length_le (by rw [HLN.out]; exact Nat.le_refl _)
   rw [hall] at hdec
   have HE := q0h (show ev = .tuple #[.int .u64 (acc : Nat), .nilIface] by rw [HEV.out, if_pos (by omega), hdec])
   subst ha
   clear hacc a0 a1 hall hdec
   go_wp2
   go_ret2
   exact ⟨by rw [HE.out]; rfl, rfl⟩
set_option maxHeartbeats 32000000 in
theorem x4j (t : ByteArray) (hne : t.size ≠ 0) (hmax : t.size <= 1000000) (hd : z6n t.data.toList) (w : World) :
  Calls Tryz.prog 179 #[.string t, .int .i64 10, .int .i64 31] w fun e w' => e = .returned (if decU t.data.toList <= 2147483647 then .tuple #[.int .u64 (decU t.data.toList : Nat), .nilIface] else .tuple #[.int .u64 2147483647, .iface 185 (.int .i64 1)]) /\ w' = Lib.bytesWorld w 5 t := by
 have hemp : t.toList.isEmpty = false := by
  rw [<- decide_eq_emptyBytes]
  exact decide_eq_false (fun h => hne (by rw [h]; rfl))
 have hcv := Lib.run_convert_string_bytes (P := Tryz.prog) w 9 74 5 t (u := .string) Tryz.underlying9 Tryz.underlying74 Tryz.underlying5
 have hB : ∀ j, j < t.size -> (Lib.bytesWorld w 5 t).cell? ⟨w.heap.size, j, none⟩ = some (.int .u8 (t.data.toList.getD j 0).toNat) := fun j hj => Lib.bytesWorld_cell w 5 t j hj
 obtain ⟨W1, hW1⟩ : ∃ W1, W1 = Lib.bytesWorld w 5 t := ⟨_, rfl⟩
 rw [<- hW1] at hcv hB ⊢
 clear hW1
 obtain ⟨bs, hL⟩ : ∃ bs, bs = t.data.toList := ⟨_, rfl⟩
 have hLn : bs.length = t.size := by rw [hL]; exact Array.length_toList
 rw [<- hL] at hB hd ⊢
 have HD := q0h hd
 clear hL hd
 obtain ⟨ev, hev⟩ : ∃ v, v = (if decU bs <= 2147483647 then Value.tuple #[.int .u64 (decU bs : Nat), .nilIface] else .tuple #[.int .u64 2147483647, .iface 185 (.int .i64 1)]) := ⟨_, rfl⟩
 rw [<- hev]
 have HEV := q0h hev
 have HBB := q0h hB
 have HLN := q0h hLn
 have hmv : IntKind.u64.wrap (IntKind.u64.wrap 2147483648 - 1) = 2147483647 := by
  rw [IntKind.wrap_u64, IntKind.wrap_u64]
  decide
 clear hev hB hLn
 go_enter Tryz.func179, Tryz.ntmps179
 go_wp2
 go_loop [12, 13, 101] (fun vu vn vi => ∃ (k acc : Nat) (a : Int), vu = .bool false /\ vn = .int .u64 a /\ vi = .int .i64 k /\ k <= t.size /\ Hid (a = (acc : Int) /\ acc <= 2147483647 /\ acc = decU (bs.take k)))
  (fun _ _ vi => t.size - (intOf vi).toNat)
 case atStart => exact ⟨0, 0, 0, rfl, rfl, rfl, by omega, rfl, by omega, rfl⟩
 case round =>
  obtain ⟨k, acc, a, rfl, rfl, rfl, hk, hh⟩ := hrel
  obtain ⟨ha, hacc, hdec⟩ := hh.out
  clear hh
  have a0 : 0 <= a := by omega
  have a1 : a <= 2147483647 := by omega
  by_cases hkn : k < t.size
  ·have hc := HBB.out k hkn
   have hlk : k < bs.length := by rw [HLN.out]; exact hkn
   have htk : bs.take (k + 1) = bs.take k ++ [bs[k]'hlk] := by rw [List.take_add_one, List.getElem?_eq_getElem hlk]; rfl
   have hget : bs.getD k 0 = bs[k]'hlk := by simp [List.getD, List.getElem?_eq_getElem hlk]
   have hdg := HD.out _ (List.getElem_mem hlk)
   rw [hget] at hc
   have hnew : decU (bs.take (k + 1)) = acc * 10 + ((bs[k]'hlk).toNat - 48) := by rw [htk, z2r, hdec]
   have hmore : decU (bs.take (k + 1)) <= decU bs := by
    have h := q8u (bs.take (k + 1)) (bs.drop (k + 1))
    rwa [List.take_append_drop] at h
   generalize bs[k]'hlk = c at hc hdg hnew
   have hc256 : c.toNat < 256 := c.toNat_lt
   obtain ⟨hd0, hd1⟩ := hdg
   clear hget htk hlk
   by_cases hcut : 1844674407370955162 <= acc
   ·have HE := q0h (show ev = .tuple #[.int .u64 2147483647, .iface 185 (.int .i64 1)] by rw [HEV.out, if_neg (by omega)])
    have icut : 1844674407370955162 <= a := by omega
    omega
   ·by_cases hov : 2147483647 < acc * 10 + (c.toNat - 48)
    ·have HE := q0h (show ev = .tuple #[.int .u64 2147483647, .iface 185 (.int .i64 1)] by rw [HEV.out, if_neg (by omega)])
     have icut : a < 1844674407370955162 := by omega
     have iov : 2147483647 < a * 10 + ((c.toNat : Int) - 48) := by omega
     clear hnew hmore hcut hacc hov ha hdec
     go_wp2
     go_ret2
     exact ⟨by rw [HE.out]; rfl, rfl⟩
    ·have HN : Hid (a * 10 + ((c.toNat : Int) - 48) = ((acc * 10 + (c.toNat - 48) : Nat) : Int) /\ acc * 10 + (c.toNat - 48) <= 2147483647 /\ acc * 10 + (c.toNat - 48) = decU (bs.take (k + 1))) := q0h ⟨by omega, by omega, hnew.symm⟩
     have iov : a * 10 + ((c.toNat : Int) - 48) <= 2147483647 := by omega
     have icut : a < 1844674407370955162 := by omega
     clear hnew hmore hcut hacc hov hdec ha
     go_wp2
     refine ⟨⟨k + 1, acc * 10 + (c.toNat - 48), a * 10 + ((c.toNat : Int) - 48), rfl, (by first | rfl | (congr 1; omega)), (by first | rfl | (congr 1; omega)), by omega, HN⟩, by simp [intOf]; omega⟩
  ·have hkk : k = t.size := by omega
   subst hkk
   have hall : bs.take t.size = bs := List.take_of_length_le (by rw [HLN.out]; exact Nat.le_refl _)
   rw [hall] at hdec
   have HE := q0h (show ev = .tuple #[.int .u64 (acc : Nat), .nilIface] by rw [HEV.out, if_pos (by omega), hdec])
   subst ha
   clear hacc a0 a1 hall hdec
   go_wp2
   go_ret2
   exact ⟨by rw [HE.out]; rfl, rfl⟩
set_option maxHeartbeats 32000000 in
theorem x4k (t : ByteArray) (hne : t.size ≠ 0) (hmax : t.size <= 1000000) (hd : z6n t.data.toList) (h63 : decU t.data.toList < 9223372036854775808) (w : World) :
  Calls Tryz.prog 179 #[.string t, .int .i64 10, .int .i64 64] w fun e w' => e = .returned (.tuple #[.int .u64 (decU t.data.toList : Nat), .nilIface]) /\ w' = Lib.bytesWorld w 5 t := by
 have hemp : t.toList.isEmpty = false := by
  rw [<- decide_eq_emptyBytes]
  exact decide_eq_false (fun h => hne (by rw [h]; rfl))
 have hcv := Lib.run_convert_string_bytes (P := Tryz.prog) w 9 74 5 t (u := .string) Tryz.underlying9 Tryz.underlying74 Tryz.underlying5
 have hB : ∀ j, j < t.size -> (Lib.bytesWorld w 5 t).cell? ⟨w.heap.size, j, none⟩ = some (.int .u8 (t.data.toList.getD j 0).toNat) := fun j hj => Lib.bytesWorld_cell w 5 t j hj
 obtain ⟨W1, hW1⟩ : ∃ W1, W1 = Lib.bytesWorld w 5 t := ⟨_, rfl⟩
 rw [<- hW1] at hcv hB ⊢
 clear hW1
 obtain ⟨bs, hL⟩ : ∃ bs, bs = t.data.toList := ⟨_, rfl⟩
 have hLn : bs.length = t.size := by rw [hL]; exact Array.length_toList
 rw [<- hL] at hB hd h63 ⊢
 have HD := q0h hd
 clear hL hd
 obtain ⟨ev, hev⟩ : ∃ v, v = Value.tuple #[.int .u64 (decU bs : Nat), .nilIface] := ⟨_, rfl⟩
 rw [<- hev]
 have HEV := q0h hev
 have HBB := q0h hB
 have HLN := q0h hLn
 have H63 := q0h h63
 have hmv : IntKind.u64.wrap (IntKind.u64.wrap 18446744073709551616 - 1) = 18446744073709551615 := by
  rw [IntKind.wrap_u64, IntKind.wrap_u64]
  decide
 clear hev hB hLn h63
 go_enter Tryz.func179, Tryz.ntmps179
 go_wp2
 go_loop [12, 13, 101] (fun vu vn vi => ∃ (k acc : Nat) (a : Int), vu = .bool false /\ vn = .int .u64 a /\ vi = .int .i64 k /\ k <= t.size /\ Hid (a = (acc : Int) /\ acc <= 9223372036854775807 /\ acc = decU (bs.take k)))
  (fun _ _ vi => t.size - (intOf vi).toNat)
 case atStart => exact ⟨0, 0, 0, rfl, rfl, rfl, by omega, rfl, by omega, rfl⟩
 case round =>
  obtain ⟨k, acc, a, rfl, rfl, rfl, hk, hh⟩ := hrel
  obtain ⟨ha, hacc, hdec⟩ := hh.out
  clear hh
  have a0 : 0 <= a := by omega
  have a1 : a <= 9223372036854775807 := by omega
  by_cases hkn : k < t.size
  ·have hc := HBB.out k hkn
   have hlk : k < bs.length := by rw [HLN.out]; exact hkn
   have htk : bs.take (k + 1) = bs.take k ++ [bs[k]'hlk] := by rw [List.take_add_one, List.getElem?_eq_getElem hlk]; rfl
   have hget : bs.getD k 0 = bs[k]'hlk := by simp [List.getD, List.getElem?_eq_getElem hlk]
   have hdg := HD.out _ (List.getElem_mem hlk)
   rw [hget] at hc
   have hnew : decU (bs.take (k + 1)) = acc * 10 + ((bs[k]'hlk).toNat - 48) := by rw [htk, z2r, hdec]
   have hmore : decU (bs.take (k + 1)) <= decU bs := by
    have h := q8u (bs.take (k + 1)) (bs.drop (k + 1))
    rwa [List.take_append_drop] at h
   generalize bs[k]'hlk = c at hc hdg hnew
   have hc256 : c.toNat < 256 := c.toNat_lt
   obtain ⟨hd0, hd1⟩ := hdg
   clear hget htk hlk
   have hlim : acc * 10 + (c.toNat - 48) < 9223372036854775808 := by have := H63.out; omega
   have hcut : ¬ 1844674407370955162 <= acc := by omega
   have hov : ¬ 9223372036854775807 < acc * 10 + (c.toNat - 48) := by omega
   clear hlim
   all_goals
    all_goals
     have HN : Hid (a * 10 + ((c.toNat : Int) - 48) = ((acc * 10 + (c.toNat - 48) : Nat) : Int) /\ acc * 10 + (c.toNat - 48) <= 9223372036854775807 /\ acc * 10 + (c.toNat - 48) = decU (bs.take (k + 1))) := q0h ⟨by omega, by omega, hnew.symm⟩
     have iov : a * 10 + ((c.toNat : Int) - 48) <= 9223372036854775807 := by omega
     have icut : a < 1844674407370955162 := by omega
     clear hnew hmore hcut hacc hov hdec ha
     go_wp2
     refine ⟨⟨k + 1, acc * 10 + (c.toNat - 48), a * 10 + ((c.toNat : Int) - 48), rfl, (by first | rfl | (congr 1; omega)), (by first | rfl | (congr 1; omega)), by omega, HN⟩, by simp [intOf]; omega⟩
  ·have hkk : k = t.size := by omega
   subst hkk
   have hall : bs.take t.size = bs := List.take_of_length_le (by rw [HLN.out]; exact Nat.le_refl _)
   rw [hall] at hdec
   have HE := q0h (show ev = .tuple #[.int .u64 (acc : Nat), .nilIface] by rw [HEV.out, hdec])
   subst ha
   clear hacc a0 a1 hall hdec
   go_wp2
   go_ret2
   exact ⟨by rw [HE.out]; rfl, rfl⟩
theorem q6v (w : World) (e : TypeId) (s : ByteArray) : Below w.heap.size w (Lib.bytesWorld w e s) := Lib.bytesWorld_below w e s
theorem j3k (t : ByteArray) (hne : t.size ≠ 0) (hmax : t.size <= 1000000) (hd : z6n t.data.toList) (h63 : decU t.data.toList < 9223372036854775808) (w : World) :
  Calls Tryz.prog 149 #[.string t, .int .i64 10, .int .i64 64] w fun e w' => e = .returned (.tuple #[.int .i64 (decU t.data.toList : Nat), .nilIface]) /\ Below w.heap.size w w' := by
 have hemp : t.toList.isEmpty = false := by
  rw [<- decide_eq_emptyBytes]
  exact decide_eq_false (fun h => hne (by rw [h]; rfl))
 have hC := q0h (x4k t hne hmax hd h63 w)
 obtain ⟨n, hn⟩ : ∃ n, n = decU t.data.toList := ⟨_, rfl⟩
 rw [<- hn] at hC h63 ⊢
 have hpos : 0 < t.size := by omega
 have hlen : t.data.toList.length = t.size := Array.length_toList
 have hgd : 48 <= (t[0]'hpos).toNat /\ (t[0]'hpos).toNat <= 57 := hd _ (by
  have h1 : t.data.toList[0]'(by omega) ∈ t.data.toList := List.getElem_mem _
  have h2 : t[0]'hpos = t.data.toList[0]'(by omega) := by simp [ByteArray.getElem_eq_getElem_data]
  rw [h2]; exact h1)
 have h43 : (((t[0]'hpos).toNat : Int) == 43) = false := by simp; omega
 have h45 : (((t[0]'hpos).toNat : Int) == 45) = false := by simp; omega
 obtain ⟨a, ha⟩ : ∃ a : Int, a = (n : Int) := ⟨_, rfl⟩
 rw [<- ha] at hC ⊢
 have a0 : 0 <= a := by omega
 have a1 : a < 9223372036854775808 := by omega
 have hsh : IntKind.u64.wrap 9223372036854775808 = 9223372036854775808 := by rw [IntKind.wrap_u64]; decide
 clear hd hn hlen hgd ha h63
 go_enter Tryz.func149, Tryz.ntmps149
 go_wp2_with fail
 refine hC.out.mono ?_
 rintro e w1 ⟨rfl, rfl⟩
 have HB := q0h (q6v w 5 t)
 go_wp2_with fail
 go_ret2
 exact ⟨rfl, HB.out⟩
theorem j3l (t : ByteArray) (hne : t.size ≠ 0) (hmax : t.size <= 1000000) (hd : z6n t.data.toList) (h63 : decU t.data.toList < 9223372036854775808) (w : World) :
  Calls Tryz.prog 116 #[.string t, .int .i64 10, .int .i64 64] w fun e w' => e = .returned (.tuple #[.int .i64 (decU t.data.toList : Nat), .nilIface]) /\ Below w.heap.size w w' := by
 have hC := q0h (j3k t hne hmax hd h63 w)
 clear hd h63 hne hmax
 go_enter Tryz.func116, Tryz.ntmps116
 go_wp2_with fail
 refine hC.out.mono ?_
 rintro e w1 ⟨rfl, hb⟩
 have HB := q0h hb
 clear hb
 go_wp2_with fail
 go_ret2
 exact ⟨rfl, HB.out⟩
theorem q0o {P : Program} {fn : Func} {p : Tmp} {ty : TypeId} (h : fn.results = #[.cell p ty]) (tmps : Array Value) (w : World) (g : Nat) (t : TypeId) (cs : Array Value) (fr : Nat × Nat) (d : TypeDesc)
  (hp : tmps.getD p undef = .pointer (some ⟨g, 0, none⟩)) (hg : w.heap[g]? = some (.cells cs t fr))
  (hu : P.underlying ty = some d) (hd : (match d with | .struct _ | .array _ _ => true | _ => false) = true) (hi : (P.info? ty).map (·.size) = some cs.size) :
  (results fn tmps).run P w = .ok (.agg cs) w := by
 have hp' : tmps[p]?.getD undef = .pointer (some ⟨g, 0, none⟩) := by simpa using hp
 simp [results, h, hp', asAddr, run_loadVar_row w g t ty cs fr d hg hu hd hi]
theorem RD.head {B : Nat} {w : World} {g : Nat} {ts : List Tok} {lv : Nat} (h : RD B w g ts lv) : ∃ t r ad c, ts = t :: r /\ w.cell? ⟨g, 0, none⟩ = some (.slice (some ad) (r.length + 1) c) /\ w.cell? ⟨g, 1, none⟩ = some (.int .i64 lv) /\
  w.cell? ad = some (.int .i64 t.kind) /\ w.cell? ⟨ad.block, ad.off + 1, none⟩ = some (.string t.text) /\ w.cell? ⟨ad.block, ad.off + 2, none⟩ = some (.int .i64 t.at_) /\ g < w.heap.size /\ ad.block < w.heap.size /\ ¬ ad.block = g /\ r.length + 1 <= c /\ r.length <= 100000 /\ Hid (w.heap[g]? = some (.cells #[.slice (some ad) (r.length + 1) c, .int .i64 lv] 58 (0, 0))) := by
 obtain ⟨ad, c, h1, h2, h3, h4, h5⟩ := h.mem
 obtain ⟨t, r, rfl, _⟩ := h.et.cons
 obtain ⟨ad', e, k0, k1, k2⟩ := x4h h3
 injection e with e
 subst e
 have hl := h.ll
 simp only [List.length_cons] at hl h2
 exact ⟨t, r, ad, c, rfl, (q0a h1 0).trans rfl, (q0a h1 1).trans rfl, k0, k1, k2, q0c h1, Nat.lt_of_lt_of_le h5 h.Bw, h4, h2, by omega, h1⟩
theorem q1t {B : Nat} {w : World} {g : Nat} {ts : List Tok} {lv : Nat} (h : RD B w g ts lv) (s : ByteArray) :
  Calls Tryz.prog 27 #[.pointer (some ⟨g, 0, none⟩), .string s] w fun e w' => e = .returned (.bool (isT s ts)) /\ Below w.heap.size w w' := by
 obtain ⟨t, r, ad, c, rfl, c0, c1, k0, k1, k2, hg, ha, hne, hc, hl, HM⟩ := h.head
 have hx : isT s (t :: r) = (t.text.toList == s.toList && (t.kind == 2 || t.kind == 5)) := rfl
 have HX := q0h hx
 clear hx h
 obtain ⟨b1, h1⟩ : ∃ b, (t.text.toList == s.toList) = b := ⟨_, rfl⟩
 obtain ⟨b2, h2⟩ : ∃ b, (t.kind == 2) = b := ⟨_, rfl⟩
 obtain ⟨b3, h3⟩ : ∃ b, (t.kind == 5) = b := ⟨_, rfl⟩
 have H1 := q0h h1
 have H2 := q0h h2
 have H3 := q0h h3
 cases b1 <;> cases b2 <;> cases b3
 all_goals
  go_enter Tryz.func27, Tryz.ntmps27
  go_wp2_with fail
  go_ret
  exact ⟨q0g (by rw [HX.out, H1.out, H2.out, H3.out]; rfl), q0d (Below.refl _ _) _⟩
theorem x8s {B : Nat} {w : World} {g : Nat} {ts : List Tok} {lv : Nat} (h : RD B w g ts lv) (code : Int) :
  Calls Tryz.prog 28 #[.pointer (some ⟨g, 0, none⟩), .int .i64 code] w fun e w' => e = .panicked [{ v := .iface 55 (.agg #[.int .i64 code, .int .i64 (ts.headD q2m).at_]), recovered := false }] /\ w = w' := by
 obtain ⟨t, r, ad, c, rfl, c0, c1, k0, k1, k2, hg, ha, hne, hc, hl, HM⟩ := h.head
 clear h
 go_enter Tryz.func28, Tryz.ntmps28
 go_wp2_with fail
 exact ⟨rfl, rfl, rfl⟩
theorem q4a {B : Nat} {w : World} {g : Nat} {ts : List Tok} {lv : Nat} (h : RD B w g ts lv) (code a : Int) (ha : Hid (a = (ts.headD q2m).at_)) :
  Calls Tryz.prog 28 #[.pointer (some ⟨g, 0, none⟩), .int .i64 code] w fun e w' => e = .panicked [{ v := .iface 55 (.agg #[.int .i64 code, .int .i64 a]), recovered := false }] /\ w = w' := by
 rw [ha.out]
 exact x8s h code
theorem q3z {B : Nat} {w : World} {g : Nat} {ts : List Tok} {lv : Nat} (h : RD B w g ts lv) :
  Calls Tryz.prog 69 #[.pointer (some ⟨g, 0, none⟩)] w fun e w' => e = .returned (.agg #[.int .i64 (ts.headD q2m).kind, .string (ts.headD q2m).text, .int .i64 (ts.headD q2m).at_]) /\ RD B w' g (q0w ts) lv /\ q1s w.heap.size (· = g) w w' := by
 have HH := q0h h
 obtain ⟨t, r, ad, c, rfl, c0, c1, k0, k1, k2, hg, ha, hne, hc, hl, HM⟩ := h.head
 clear h
 have hfz : w.frozen? ⟨g, 0, none⟩ = false := q0f HM.out 0
 by_cases hk : t.kind = 6
 ·have hk2 : (t.kind != 6) = false := by simpa using hk
  have HK := q0h (show q0w (t :: r) = t :: r from if_pos hk)
  clear hk
  go_enter Tryz.func69, Tryz.ntmps69
  go_wp2_with fail
  refine bodyPost_ret (q0o rfl _ _ w.heap.size 63 #[.int .i64 t.kind, .string t.text, .int .i64 t.at_] (0, 0) _ rfl (q7l (heap_alloc_new w _) _) Tryz.underlying63 rfl (by kernel_rfl)) rfl ?_
  have hb := q0d (q0d (Below.refl w.heap.size w) (.cells #[.int .i64 t.kind, .string t.text, .int .i64 t.at_] 63)) (.cells #[.int .i64 t.kind, .string t.text, .int .i64 t.at_] 63)
  exact ⟨rfl, by rw [HK.out]; exact HH.out.below hb, q1m hb⟩
 ·have hk2 : (t.kind != 6) = true := by simpa using hk
  have HK := q0h (show q0w (t :: r) = r from if_neg hk)
  have HK6 := q0h hk
  clear hk
  go_enter Tryz.func69, Tryz.ntmps69
  go_wp2_with fail
  ·have hc1 : c = 1 := by omega
   subst hc1
   have HR := q0h (HH.out.tail HK6.out HM.out (a := ad) (fun h => by omega) (by omega) rfl)
   obtain ⟨W, hW⟩ : ∃ W, W = w.setCell ⟨g, 0, none⟩ (.slice (some ad) r.length 0) := ⟨_, rfl⟩
   have hs : W.heap.size = w.heap.size := by rw [hW]; simp
   have HX := q0h (show q1s w.heap.size (· = g) w W from by rw [hW]; exact q1s.set (X := (· = g)) (q1s.refl _ _ _) (b := g) (.inr rfl) 0 _)
   have HRW := q0h (show RD B W g r lv from by rw [hW]; exact HR.out)
   rw [<- hW, <- hs]
   refine bodyPost_ret (q0o rfl _ _ W.heap.size 63 #[.int .i64 t.kind, .string t.text, .int .i64 t.at_] (0, 0) _ rfl (q7l (heap_alloc_new W _) _) Tryz.underlying63 rfl (by kernel_rfl)) rfl ?_
   have hb := q0d (q0d (Below.refl W.heap.size W) (.cells #[.int .i64 t.kind, .string t.text, .int .i64 t.at_] 63)) (.cells #[.int .i64 t.kind, .string t.text, .int .i64 t.at_] 63)
   exact ⟨rfl, by rw [HK.out]; exact HRW.out.below hb, by have h1 := q1s.next HX.out (q1m hb); rw [hs]; exact h1⟩
  ·have HR := q0h (HH.out.tail HK6.out HM.out (a := ⟨ad.block, ad.off + 3, none⟩) (fun h => by unfold Addr.add; rfl) (by omega) rfl)
   obtain ⟨W, hW⟩ : ∃ W, W = w.setCell ⟨g, 0, none⟩ (.slice (some ⟨ad.block, ad.off + 3, none⟩) r.length (c - 1)) := ⟨_, rfl⟩
   have hs : W.heap.size = w.heap.size := by rw [hW]; simp
   have HX := q0h (show q1s w.heap.size (· = g) w W from by rw [hW]; exact q1s.set (X := (· = g)) (q1s.refl _ _ _) (b := g) (.inr rfl) 0 _)
   have HRW := q0h (show RD B W g r lv from by rw [hW]; exact HR.out)
   rw [<- hW, <- hs]
   refine bodyPost_ret (q0o rfl _ _ W.heap.size 63 #[.int .i64 t.kind, .string t.text, .int .i64 t.at_] (0, 0) _ rfl (q7l (heap_alloc_new W _) _) Tryz.underlying63 rfl (by kernel_rfl)) rfl ?_
   have hb := q0d (q0d (Below.refl W.heap.size W) (.cells #[.int .i64 t.kind, .string t.text, .int .i64 t.at_] 63)) (.cells #[.int .i64 t.kind, .string t.text, .int .i64 t.at_] 63)
   exact ⟨rfl, by rw [HK.out]; exact HRW.out.below hb, by have h1 := q1s.next HX.out (q1m hb); rw [hs]; exact h1⟩
theorem q2b {B : Nat} {w : World} {g : Nat} {ts : List Tok} {lv : Nat} (h : RD B w g ts lv) (s : ByteArray) :
  Calls Tryz.prog 67 #[.pointer (some ⟨g, 0, none⟩), .string s] w fun e w' => e = .returned (.bool (isT s ts)) /\ RD B w' g (if isT s ts = true then q0w ts else ts) lv /\ q1s w.heap.size (· = g) w w' := by
 have HH := q0h h
 clear h
 obtain ⟨b, hb⟩ : ∃ b, b = isT s ts := ⟨_, rfl⟩
 rw [<- hb]
 have HB := q0h hb
 clear hb
 cases b
 all_goals
  go_enter Tryz.func67, Tryz.ntmps67
  go_wp2_with fail
  refine (q1t HH.out s).mono ?_
  rintro e w1 ⟨rfl, hb1⟩
  rw [<- HB.out]
  have HR1 := q0h (HH.out.below hb1)
  have HX1 := q0h (q1m (X := (· = g)) hb1)
  clear hb1
  go_wp2_with fail
 ·go_ret
  exact ⟨rfl, HR1.out, HX1.out⟩
 ·refine (q3z HR1.out).mono ?_
  rintro e w2 ⟨rfl, hr2, hx2⟩
  have HR2 := q0h hr2
  have HX2 := q0h (q1s.next HX1.out hx2)
  clear hr2 hx2
  go_wp2_with fail
  go_ret
  exact ⟨rfl, HR2.out, HX2.out⟩
theorem q1e {B : Nat} {w : World} {g : Nat} {ts : List Tok} {lv : Nat} (h : RD B w g ts lv) (s : ByteArray) {r : Except Flt (Unit × List Tok)} (hp : q1y s ts = some r) :
  Calls Tryz.prog 65 #[.pointer (some ⟨g, 0, none⟩), .string s] w (Res B w (· = g) g lv (fun _ _ v => v = .tuple #[]) r) := by
 have HH := q0h h
 clear h
 unfold q1y PM.fail at hp
 obtain ⟨b, hb⟩ : ∃ b, b = isT s ts := ⟨_, rfl⟩
 obtain ⟨a, ha⟩ : ∃ a, a = (ts.headD q2m).at_ := ⟨_, rfl⟩
 rw [<- hb, <- ha] at hp
 have HA := q0h ha
 clear ha
 have HB := q0h hb
 clear hb
 cases b
 ·have hr : r = .error (90, a) := by
   have h1 : some (Except.error (90, a)) = some r := hp
   injection h1 with h1
   exact h1.symm
  subst hr
  clear hp
  go_enter Tryz.func65, Tryz.ntmps65
  go_wp2_with fail
  refine (q2b HH.out s).mono ?_
  rintro e w1 ⟨rfl, hr1, hx1⟩
  rw [<- HB.out] at hr1 ⊢
  have HR1 := q0h hr1
  have HX1 := q0h hx1
  clear hr1 hx1
  go_wp2_with fail
  refine (q4a HR1.out 90 a HA.out).mono ?_
  rintro e w2 ⟨rfl, rfl⟩
  go_wp2_with fail
  exact ⟨rfl, rfl, HX1.out⟩
 ·have hr : r = .ok ((), q0w ts) := by
   have h1 : some (Except.ok ((), q0w ts)) = some r := hp
   injection h1 with h1
   exact h1.symm
  subst hr
  clear hp
  go_enter Tryz.func65, Tryz.ntmps65
  go_wp2_with fail
  refine (q2b HH.out s).mono ?_
  rintro e w1 ⟨rfl, hr1, hx1⟩
  rw [<- HB.out] at hr1 ⊢
  have HR1 := q0h hr1
  have HX1 := q0h hx1
  clear hr1 hx1
  go_wp2_with fail
  go_end0
  exact ⟨_, rfl, rfl, HR1.out, HX1.out⟩
def x4l (t : Tok) : Value := .agg #[.int .i64 t.kind, .string t.text, .int .i64 t.at_]
theorem q1s.step {X : Nat -> Prop} {w w1 w2 : World} {Y : Nat -> Prop} (h : q1s w.heap.size X w w1) (k : q1s w1.heap.size Y w1 w2) (hY : ∀ i, Y i -> X i) : q1s w.heap.size X w w2 := h.next (k.mono (Nat.le_refl _) (fun i _ hi => hY i hi))
theorem q8b {B : Nat} {w : World} {g : Nat} {ts : List Tok} {lv : Nat} (h : RD B w g ts lv) {r : Except Flt (Tok × List Tok)} (hp : q6a ts = some r) :
  Calls Tryz.prog 66 #[.pointer (some ⟨g, 0, none⟩)] w (Res B w (· = g) g lv (fun _ t v => v = x4l t) r) := by
 have HH := q0h h
 obtain ⟨t, rr, ad, c, rfl, c0, c1, k0, k1, k2, hg, ha, hne, hc, hl, HM⟩ := h.head
 clear h
 have hp2 : (if t.kind = 1 then some (Except.ok (t, q0w (t :: rr))) else some (Except.error (90, t.at_))) = some r := hp
 by_cases hk : t.kind = 1
 ·rw [if_pos hk] at hp2
  injection hp2 with hp2
  subst hp2
  have hk2 : (t.kind != 1) = false := by simpa using hk
  clear hp hk
  go_enter Tryz.func66, Tryz.ntmps66
  go_wp2_with fail
  obtain ⟨b, hb⟩ : ∃ b, b = w.heap.size := ⟨_, rfl⟩
  have hbl := q0d (Below.refl w.heap.size w) (.cells #[.int .i64 0, .string ⟨#[]⟩, .int .i64 0] 63)
  have hn0 := heap_alloc_new w (.cells #[.int .i64 0, .string ⟨#[]⟩, .int .i64 0] 63)
  refine (q3z (HH.out.below hbl)).mono ?_
  rintro e w1 ⟨rfl, hr1, hx1⟩
  have HR1 := q0h hr1
  have HX1 := q0h (q1s.next (q1m hbl) hx1)
  have HN1 := q0h ((hx1.block w.heap.size (by simp) (by omega)).trans hn0)
  rw [<- hb] at HN1 ⊢
  have HWB := q0h (show w.heap.size <= b by omega)
  have HBB := q0h (show B <= b by have := HH.out.Bw; omega)
  clear hr1 hx1 hn0 hbl hb
  have n0 : w1.cell? ⟨b, 0, none⟩ = some (.int .i64 0) := (q0a HN1.out 0).trans rfl
  have n1 : w1.cell? ⟨b, 1, none⟩ = some (.string ⟨#[]⟩) := (q0a HN1.out 1).trans rfl
  have n2 : w1.cell? ⟨b, 2, none⟩ = some (.int .i64 0) := (q0a HN1.out 2).trans rfl
  have f0 : w1.frozen? ⟨b, 0, none⟩ = false := q0f HN1.out 0
  have f1 : w1.frozen? ⟨b, 1, none⟩ = false := q0f HN1.out 1
  have f2 : w1.frozen? ⟨b, 2, none⟩ = false := q0f HN1.out 2
  go_wp2_with fail
  refine bodyPost_ret (q0o rfl _ _ b 63 #[.int .i64 t.kind, .string t.text, .int .i64 t.at_] (0, 0) _ rfl (q0y (q0y (q0y HN1.out 0 (.int .i64 t.kind) rfl) 1 (.string t.text) rfl) 2 (.int .i64 t.at_) rfl) Tryz.underlying63 rfl (by kernel_rfl)) rfl ?_
  exact ⟨_, rfl, rfl, ((HR1.out.set HBB.out 0 _).set HBB.out 1 _).set HBB.out 2 _, ((HX1.out.set (.inl HWB.out) 0 _).set (.inl HWB.out) 1 _).set (.inl HWB.out) 2 _⟩
 ·rw [if_neg hk] at hp2
  injection hp2 with hp2
  subst hp2
  have hk2 : (t.kind != 1) = true := by simpa using hk
  obtain ⟨a, ha2⟩ : ∃ a, a = t.at_ := ⟨_, rfl⟩
  have HA := q0h (show a = ((t :: rr).headD q2m).at_ from ha2)
  rw [<- ha2] at *
  clear hp hk ha2
  go_enter Tryz.func66, Tryz.ntmps66
  go_wp2_with fail
  have hbl := q0d (Below.refl w.heap.size w) (.cells #[.int .i64 0, .string ⟨#[]⟩, .int .i64 0] 63)
  refine (q4a (HH.out.below hbl) 90 a HA.out).mono ?_
  rintro e w1 ⟨rfl, rfl⟩
  go_wp2_with fail
  exact ⟨rfl, rfl, q1m hbl⟩
def j9q (B g lv : Nat) (Q : Ending -> World -> Prop) (e : Ending) (w' : World) : Prop :=
 (e = .returned (.tuple #[]) /\ (∃ ts', RD B w' g ts' (lv + 1)) /\ Q (.returned (.tuple #[])) (w'.setCell ⟨g, 1, none⟩ (.int .i64 lv))) \/ (∃ c, e = .panicked c /\ Q (.panicked c) w')
theorem q8c {B : Nat} {w : World} {g : Nat} {ts : List Tok} {lv : Nat} (h : RD B w g ts lv) (K : Nat) (caps : Array Value) (he : q1k K) (Q : Ending -> World -> Prop)
  (hfail : lv = 30 -> Q (.panicked [{ v := .iface 55 (.agg #[.int .i64 91, .int .i64 (ts.headD q2m).at_]), recovered := false }]) w)
  (hread : lv ≠ 30 -> RD B (w.setCell ⟨g, 1, none⟩ (.int .i64 ((lv : Int) + 1))) g ts (lv + 1) -> Calls Tryz.prog K caps (w.setCell ⟨g, 1, none⟩ (.int .i64 ((lv : Int) + 1))) (j9q B g lv Q)) :
  Calls Tryz.prog 151 #[.pointer (some ⟨g, 0, none⟩), .func (.func K) #[] caps] w Q := by
 have HH := q0h h
 obtain ⟨t, rr, ad, c, rfl, c0, c1, k0, k1, k2, hg, ha, hne, hc, hl, HM⟩ := h.head
 have hlv := h.lv
 clear h
 have hfz : w.frozen? ⟨g, 1, none⟩ = false := q0f HM.out 1
 by_cases hk : lv = 30
 ·have HF := q0h (hfail hk)
  have hk2 : ((lv : Int) == 30) = true := by simp; omega
  obtain ⟨a, ha2⟩ : ∃ a, a = ((t :: rr).headD q2m).at_ := ⟨_, rfl⟩
  rw [<- ha2] at HF
  have HA := q0h ha2
  clear hfail hread hk ha2
  go_enter Tryz.func151, Tryz.ntmps151
  go_wp2_with fail
  refine (q4a HH.out 91 a HA.out).mono ?_
  rintro e w1 ⟨rfl, rfl⟩
  go_wp2_with fail
  exact ⟨rfl, HF.out⟩
 ·have hk2 : ((lv : Int) == 30) = false := by simp; omega
  have HC := q0h (hread hk (by rw [show ((lv : Int) + 1) = ((lv + 1 : Nat) : Int) by omega]; exact HH.out.level (lv + 1) (by omega)))
  clear hfail hread
  go_enter Tryz.func151, Tryz.ntmps151
  have hent : ∀ (args : Array Value) (w : World), (callFunc K args).run Tryz.prog w = .ok (.enter K args) w := he
  go_wp2_with fail
  refine HC.out.mono ?_
  rintro e w1 (⟨rfl, ⟨ts', hR⟩, hQ⟩ | ⟨c2, rfl, hQ⟩)
  ·have HQ := q0h hQ
   obtain ⟨t', r', ad', c', rfl, _, d1, _, _, _, hg', _, _, _, _, HM'⟩ := hR.head
   have hfz' : w1.frozen? ⟨g, 1, none⟩ = false := q0f HM'.out 1
   have hd1 : w1.cell? ⟨g, 1, none⟩ = some (.int .i64 ((lv : Int) + 1)) := by rw [d1]; congr 2
   clear hQ hR d1 hent
   go_wp2_with fail
   go_end0
   exact HQ.out
  ·go_wp2_with fail
   exact ⟨rfl, hQ⟩
theorem bind_some {α β : Type} {m : PM α} {f : α -> PM β} {ts : List Tok} {r : Except Flt (β × List Tok)} (h : m.bind f ts = some r) :
  (∃ e, m ts = some (.error e) /\ r = .error e) \/ ∃ a ts', m ts = some (.ok (a, ts')) /\ f a ts' = some r := by
 unfold PM.bind at h
 cases hm : m ts with
 | none => rw [hm] at h; cases h
 | some x =>
  rw [hm] at h
  cases x with
  | error e => exact .inl ⟨e, rfl, by injection h with h; exact h.symm⟩
  | ok p => exact .inr ⟨p.1, p.2, rfl, h⟩
def x3x {α : Type} (B : Nat) (w : World) (X : Nat -> Prop) (g lv : Nat) (S : World -> α -> Prop) (r : Except Flt (α × List Tok)) : Ending -> World -> Prop := Res B w X g lv (fun w' a v => v = .tuple #[] /\ S w' a) r
def z5c {α : Type} (B : Nat) (w0 : World) (X : Nat -> Prop) (g lv : Nat) (K : Nat) (caps : Array Value) (read : PM α) (S : World -> α -> Prop) (Pre : World -> Prop) : Prop :=
 ∀ w ts, q1s w0.heap.size X w0 w -> Pre w -> RD B w g ts lv -> ∀ r, read ts = some r -> Calls Tryz.prog K caps w (x3x B w X g lv S r)
theorem q3c {X : Nat -> Prop} {w w' : World} (hx : q1s w.heap.size X w w') {b : Nat} {o : Obj} (h : w.heap[b]? = some o) (hn : ¬ X b) : w'.heap[b]? = some o := (hx.block b (by
 rcases Nat.lt_or_ge b w.heap.size with h1 | h1
 ·exact h1
 ·simp [h1] at h) hn).trans h
theorem z6o {α : Type} {B : Nat} {w w0 : World} {g : Nat} {ts : List Tok} {lv : Nat} (h : RD B w g ts lv) (X : Nat -> Prop) (hXg : X g) (K : Nat) (caps : Array Value) (he : q1k K) (read : PM α) (S : World -> α -> Prop) (right : ByteArray)
  (Pre : World -> Prop) (hcl : z5c B w0 X g lv K caps read S Pre) (hpre : Pre w) (hPS : ∀ w w', Pre w -> q1s w.heap.size (· = g) w w' -> Pre w') (hx0 : q1s w0.heap.size X w0 w) (hS : ∀ w w' a, S w a -> q1s w.heap.size (· = g) w w' -> S w' a)
  (b1 b2 b3 : Nat) (h1 : w.heap[b1]? = some (.cells #[.pointer (some ⟨g, 0, none⟩)] 56 (0, 0))) (h2 : w.heap[b2]? = some (.cells #[.func (.func K) #[] caps] 1 (0, 0))) (h3 : w.heap[b3]? = some (.cells #[.string right] 9 (0, 0)))
  (n1 : ¬ X b1) (n2 : ¬ X b2) (n3 : ¬ X b3) {r : Except Flt (α × List Tok)} (hp : PM.bind read (fun a => (q1y right).bind fun _ => .ret a) (q0w ts) = some r) :
  Calls Tryz.prog 152 #[.pointer (some ⟨b1, 0, none⟩), .pointer (some ⟨b2, 0, none⟩), .pointer (some ⟨b3, 0, none⟩)] w (x3x B w X g lv S r) := by
 have HH := q0h h
 have HCL := q0h hcl
 have HX0 := q0h hx0
 have HS := q0h hS
 have H1 := q0h h1
 have H2 := q0h h2
 have H3 := q0h h3
 have HP := q0h hp
 have N1 := q0h n1
 have N2 := q0h n2
 have N3 := q0h n3
 have HG := q0h hXg
 have l1 := q0c h1
 have c1 : w.cell? ⟨b1, 0, none⟩ = some (.pointer (some ⟨g, 0, none⟩)) := (q0a h1 0).trans rfl
 have HPRE := q0h hpre
 have HPS := q0h hPS
 clear h hcl hx0 hS h1 h2 h3 hp n1 n2 n3 hXg hpre hPS
 have hent : ∀ (args : Array Value) (w : World), (callFunc K args).run Tryz.prog w = .ok (.enter K args) w := he
 go_enter Tryz.func152, Tryz.ntmps152
 go_wp2_with fail
 refine (q3z HH.out).mono ?_
 rintro e w1 ⟨rfl, hr1, hx1⟩
 have HR1 := q0h hr1
 have HP1 := q0h (HPS.out _ _ HPRE.out hx1)
 have HX1 := q0h (hx1.mono (X' := X) (Nat.le_refl _) (fun k _ hk => by have hk2 : k = g := hk; rw [hk2]; exact HG.out))
 have HY1 := q0h (HX0.out.next HX1.out)
 have I1 := q0h (q3c HX1.out H1.out N1.out)
 have I2 := q0h (q3c HX1.out H2.out N2.out)
 have I3 := q0h (q3c HX1.out H3.out N3.out)
 clear hr1 hx1 l1 c1
 have l2 := q0c I2.out
 have c2 : w1.cell? ⟨b2, 0, none⟩ = some (.func (.func K) #[] caps) := (q0a I2.out 0).trans rfl
 go_wp2_with fail
 rcases bind_some HP.out with ⟨e, hm, rfl⟩ | ⟨a, ts2, hm, hq⟩
 ·refine (HCL.out w1 _ HY1.out HP1.out HR1.out _ hm).mono ?_
  rintro e' w2 ⟨rfl, hx2⟩
  have HX2 := q0h (HX1.out.next hx2)
  clear hx2
  go_wp2_with fail
  exact ⟨rfl, rfl, HX2.out⟩
 ·refine (HCL.out w1 _ HY1.out HP1.out HR1.out _ hm).mono ?_
  rintro e' w2 ⟨v, rfl, ⟨rfl, hs⟩, hr2, hx2⟩
  have HS2 := q0h hs
  have HR2 := q0h hr2
  have HQ := q0h hq
  have HX2 := q0h (HX1.out.next hx2)
  have J1 := q0h (q3c hx2 I1.out N1.out)
  have J3 := q0h (q3c hx2 I3.out N3.out)
  clear hs hr2 hx2 hm hq c2 l2
  have l1 := q0c J1.out
  have l3 := q0c J3.out
  have c1 : w2.cell? ⟨b1, 0, none⟩ = some (.pointer (some ⟨g, 0, none⟩)) := (q0a J1.out 0).trans rfl
  have c3 : w2.cell? ⟨b3, 0, none⟩ = some (.string right) := (q0a J3.out 0).trans rfl
  go_wp2_with fail
  rcases bind_some HQ.out with ⟨e, hm, rfl⟩ | ⟨u, ts3, hm, hq⟩
  ·refine (q1e HR2.out right hm).mono ?_
   rintro e' w3 ⟨rfl, hx3⟩
   have HX3 := q0h (HX2.out.step hx3 (fun k hk => by rw [hk]; exact HG.out))
   clear hx3 c1 c3 l1 l3
   go_wp2_with fail
   exact ⟨rfl, rfl, HX3.out⟩
  ·refine (q1e HR2.out right hm).mono ?_
   rintro e' w3 ⟨v, rfl, rfl, hr3, hx3⟩
   have hr : r = .ok (a, ts3) := by
    have h1 : some (Except.ok (a, ts3)) = some r := hq
    injection h1 with h1
    exact h1.symm
   subst hr
   have HR3 := q0h hr3
   have HS3 := q0h (HS.out _ _ _ HS2.out hx3)
   have HX3 := q0h (HX2.out.step hx3 (fun k hk => by rw [hk]; exact HG.out))
   clear hx3 hr3 hq hm c1 c3 l1 l3
   go_wp2_with fail
   go_end0
   exact ⟨_, rfl, ⟨rfl, HS3.out⟩, HR3.out, HX3.out⟩
theorem z8m : q1k 152 := fun args w => q5r Tryz.func152 (by kernel_rfl) rfl args w
theorem z2s (w : World) (o1 o2 o3 : Obj) : ∃ W, W = ((w.alloc o1).alloc o2).alloc o3 /\ Below w.heap.size w W /\ W.heap.size = w.heap.size + 3 /\ W.heap[w.heap.size]? = some o1 /\ W.heap[w.heap.size + 1]? = some o2 /\ W.heap[w.heap.size + 2]? = some o3 := by
 refine ⟨_, rfl, q0d (q0d (q0d (Below.refl _ _) _) _) _, by simp, ?_, ?_, ?_⟩
 ·exact (Below.heap_alloc _ _ _ (by simp; omega)).trans ((Below.heap_alloc _ _ _ (by simp)).trans (heap_alloc_new w o1))
 ·have h := heap_alloc_new (w.alloc o1) o2
  rw [show (w.alloc o1).heap.size = w.heap.size + 1 by simp] at h
  exact (Below.heap_alloc _ _ _ (by simp)).trans h
 ·have h := heap_alloc_new ((w.alloc o1).alloc o2) o3
  rw [show ((w.alloc o1).alloc o2).heap.size = w.heap.size + 2 by simp] at h
  exact h
theorem q6w {α : Type} {B : Nat} {w : World} {g : Nat} {ts : List Tok} {lv : Nat} (h : RD B w g ts lv) (X : Nat -> Prop) (hXg : X g) (hXl : ∀ k, X k -> k < w.heap.size) (K : Nat) (caps : Array Value) (he : q1k K) (read : Nat -> PM α) (S : World -> α -> Prop) (left right : ByteArray)
  (Pre : World -> Prop) (hcl : z5c B w X g (lv + 1) K caps (read (lv + 1)) S Pre) (hpre : Pre w) (hPS : ∀ w w', Pre w -> q1s w.heap.size (· = g) w w' -> Pre w') (hS : ∀ w w' a, S w a -> q1s w.heap.size (· = g) w w' -> S w' a)
  {r : Except Flt (α × List Tok)} (hp : q2n lv left read right ts = some r) :
  Calls Tryz.prog 117 #[.pointer (some ⟨g, 0, none⟩), .string left, .func (.func K) #[] caps, .string right] w (x3x B w X g lv S r) := by
 have HH := q0h h
 have HCL := q0h hcl
 have HPRE := q0h hpre
 have HPS := q0h hPS
 have HS := q0h hS
 have HG := q0h hXg
 have HXL := q0h hXl
 have HE := q0h he
 obtain ⟨bb, hb⟩ : ∃ b, b = isT left ts := ⟨_, rfl⟩
 unfold q2n at hp
 rw [<- hb] at hp
 have HP := q0h hp
 have HB := q0h hb
 obtain ⟨a, ha⟩ : ∃ a, a = (ts.headD q2m).at_ := ⟨_, rfl⟩
 have HA := q0h ha
 obtain ⟨W, hW, hbW, hsW, q1, q2, q3⟩ := z2s w (.cells #[.pointer (some ⟨g, 0, none⟩)] 56) (.cells #[.func (.func K) #[] caps] 1) (.cells #[.string right] 9)
 have HW := q0h hW
 have HBW := q0h hbW
 have HSW := q0h hsW
 have Q1 := q0h q1
 have Q2 := q0h q2
 have Q3 := q0h q3
 clear h hcl hS hXg hXl he hp hb ha hW hbW hsW q1 q2 q3 hpre hPS
 have hmf : ∀ (fn : Fn) (first cap : Array Value) (w : World), (Instr.makeFunc fn first cap).run Tryz.prog w = .ok (.func fn first cap) w := fun _ _ _ _ => rfl
 go_enter Tryz.func117, Tryz.ntmps117
 go_wp2_with fail
 rw [<- HW.out]
 obtain ⟨b1, hb1⟩ : ∃ b, b = w.heap.size := ⟨_, rfl⟩
 obtain ⟨b2, hb2⟩ : ∃ b, b = w.heap.size + 1 := ⟨_, rfl⟩
 obtain ⟨b3, hb3⟩ : ∃ b, b = w.heap.size + 1 + 1 := ⟨_, rfl⟩
 rw [<- hb3, <- hb2, <- hb1]
 have HN := q0h (show ¬ X b1 /\ ¬ X b2 /\ ¬ X b3 from ⟨fun h => by have := HXL.out _ h; omega, fun h => by have := HXL.out _ h; omega, fun h => by have := HXL.out _ h; omega⟩)
 have q1 := Q1.out
 have q2 := Q2.out
 have q3 := Q3.out
 rw [<- hb1] at q1
 rw [<- hb2] at q2
 rw [show w.heap.size + 2 = b3 from by omega] at q3
 refine (q1t (HH.out.below HBW.out) left).mono ?_
 rintro e w1 ⟨rfl, hx1⟩
 rw [<- HB.out]
 have HR1 := q0h ((HH.out.below HBW.out).below hx1)
 have HX1 := q0h (q1m (X := X) (q0e HBW.out hx1))
 have HP1 := q0h (HPS.out _ _ HPRE.out (q1m (q0e HBW.out hx1)))
 have I1 := q0h ((hx1.block b1 (q0c q1)).trans q1)
 have I2 := q0h ((hx1.block b2 (q0c q2)).trans q2)
 have I3 := q0h ((hx1.block b3 (q0c q3)).trans q3)
 have l1 := q0c I1.out
 have c1 : w1.cell? ⟨b1, 0, none⟩ = some (.pointer (some ⟨g, 0, none⟩)) := (q0a I1.out 0).trans rfl
 clear hx1 q1 q2 q3 hb1 hb2 hb3
 cases bb
 ·have hr : r = .error (90, a) := by
   have h1 : some (Except.error (90, (ts.headD q2m).at_)) = some r := HP.out
   injection h1 with h1
   rw [<- h1, HA.out]
  subst hr
  go_wp2_with fail
  refine (q4a HR1.out 90 a HA.out).mono ?_
  rintro e w2 ⟨rfl, rfl⟩
  go_wp2_with fail
  exact ⟨rfl, rfl, HX1.out⟩
 ·have HP2 := q0h (show q1x lv (fun lv ts => PM.bind (read lv) (fun a => (q1y right).bind (fun _ => .ret a)) (q0w ts)) ts = some r from HP.out)
  clear HP
  go_wp2_with fail
  have HW2 := q0h (q8c HR1.out 152 #[.pointer (some ⟨b1, 0, none⟩), .pointer (some ⟨b2, 0, none⟩), .pointer (some ⟨b3, 0, none⟩)] z8m (x3x B w X g lv S r) (fun h30 => by
    have h1 := HP2.out
    unfold q1x at h1
    rw [if_pos h30] at h1
    have h2 : some (Except.error (91, (ts.headD q2m).at_)) = some r := h1
    injection h2 with h2
    subst h2
    exact ⟨rfl, HX1.out⟩) (fun hne hr2 => by
    have h1 := HP2.out
    unfold q1x at h1
    rw [if_neg hne] at h1
    have hx2 := HX1.out.set (.inr HG.out) 1 (.int .i64 ((lv : Int) + 1))
    have up : ∀ {k : Nat} {o : Obj}, w1.heap[k]? = some o -> ¬ X k -> (w1.setCell ⟨g, 1, none⟩ (.int .i64 ((lv : Int) + 1))).heap[k]? = some o := fun hk hn => (Below.heap_setCell _ _ _ _ (fun e => hn (by have e2 : _ = g := e; rw [e2]; exact HG.out))).trans hk
    refine (z6o hr2 X HG.out K caps HE.out (read (lv + 1)) S right Pre HCL.out (HPS.out _ _ HP1.out ((q1s.refl _ _ _).set (X := (· = g)) (b := g) (.inr rfl) 1 _)) HPS.out hx2 HS.out b1 b2 b3 (up I1.out HN.out.1) (up I2.out HN.out.2.1) (up I3.out HN.out.2.2) HN.out.1 HN.out.2.1 HN.out.2.2 h1).mono ?_
    intro e w2 hres
    have hsz : (w1.setCell ⟨g, 1, none⟩ (.int .i64 ((lv : Int) + 1))).heap.size = w1.heap.size := by simp
    cases r with
    | error f =>
     obtain ⟨rfl, hx3⟩ := hres
     exact .inr ⟨_, rfl, rfl, hx2.next hx3⟩
    | ok p =>
     obtain ⟨a2, ts2⟩ := p
     obtain ⟨v, rfl, ⟨rfl, hs⟩, hr3, hx3⟩ := hres
     refine .inl ⟨rfl, ⟨_, hr3⟩, _, rfl, ⟨rfl, HS.out _ _ _ hs ((q1s.refl _ _ _).set (X := (· = g)) (b := g) (.inr rfl) 1 _)⟩, hr3.level lv HH.out.lv, (hx2.next hx3).set (.inr HG.out) 1 _⟩))
  refine HW2.out.mono ?_
  intro e w2 hres
  cases r with
  | error f =>
   obtain ⟨rfl, hx3⟩ := hres
   go_wp2_with fail
   exact ⟨rfl, rfl, hx3⟩
  | ok p =>
   obtain ⟨a2, ts2⟩ := p
   obtain ⟨v, rfl, ⟨rfl, hs⟩, hr3, hx3⟩ := hres
   have HF := q0h hs
   have HR3 := q0h hr3
   have HX3 := q0h hx3
   clear hs hr3 hx3
   go_wp2_with fail
   go_end0
   exact ⟨_, rfl, ⟨rfl, HF.out⟩, HR3.out, HX3.out⟩
theorem x4m {α : Type} {B : Nat} {w : World} {g : Nat} {ts : List Tok} {lv : Nat} (h : RD B w g ts lv) (X : Nat -> Prop) (hXg : X g) (K : Nat) (caps : Array Value) (he : q1k K) (read : List α -> PM α) (S : World -> List α -> Prop) (stop : ByteArray)
  (l : List α) (n : Nat) (hcl : ∀ l' w' ts', l'.length < l.length + n -> q1s w.heap.size X w w' -> RD B w' g ts' lv -> S w' l' -> ∀ r, read l' ts' = some r -> Calls Tryz.prog K caps w' (x3x B w' X g lv (fun w2 a => S w2 (l' ++ [a])) r))
  (hS : ∀ w1 w2 l, S w1 l -> q1s w1.heap.size (· = g) w1 w2 -> S w2 l) (h0 : S w l) {r : Except Flt (List α × List Tok)} (hp : z2p stop read n l ts = some r) :
  Calls Tryz.prog 72 #[.pointer (some ⟨g, 0, none⟩), .string stop, .func (.func K) #[] caps] w (x3x B w X g lv S r) := by
 have HH := q0h h
 have HCL := q0h hcl
 have HS := q0h hS
 have HG := q0h hXg
 have H0 := q0h h0
 have HP := q0h hp
 clear h hcl hS hXg h0 hp
 have hent : ∀ (args : Array Value) (w : World), (callFunc K args).run Tryz.prog w = .ok (.enter K args) w := he
 go_enter Tryz.func72, Tryz.ntmps72
 go_wp2_with fail
 obtain ⟨l0, hl0⟩ : ∃ l', l' = l := ⟨_, rfl⟩
 rw [<- hl0] at HCL
 have HL0 := q0h (show l.length + n <= l0.length + n by rw [hl0]; exact Nat.le_refl _)
 clear hl0
 go_loopg [] n (fun k wr => ∃ (l : List α) (ts : List Tok), Hid (RD B wr g ts lv) /\ Hid (S wr l) /\ Hid (q1s w.heap.size X w wr) /\ Hid (z2p stop read k l ts = some r \/ (isT stop ts = true /\ r = .ok (l, ts))) /\ Hid (l.length + k <= l0.length + n))
 case atStart => exact ⟨l, ts, HH, H0, q1s.refl _ _ _, .inl HP.out, HL0⟩
 case round =>
  obtain ⟨l, ts, HR, HSl, HX, HQ, HLL⟩ := hrel
  obtain ⟨b, hb⟩ : ∃ b, b = isT stop ts := ⟨_, rfl⟩
  have HB := q0h hb
  clear hb
  cases b
  ·have hq : z2p stop read gk l ts = some r := by
    rcases HQ.out with h | ⟨h, _⟩
    ·exact h
    ·rw [<- HB.out] at h; cases h
   cases gk with
   | zero => cases hq
   | succ k =>
    unfold z2p at hq
    rw [<- HB.out, if_neg Bool.false_ne_true] at hq
    have HQ1 := q0h hq
    clear hq HQ
    go_wp2_with fail
    refine (q1t HR.out stop).mono ?_
    rintro e w1 ⟨rfl, hx1⟩
    rw [<- HB.out]
    have HR1 := q0h (HR.out.below hx1)
    have HS1 := q0h (HS.out _ _ _ HSl.out (q1m hx1))
    have HX1 := q0h (HX.out.next (q1m hx1))
    clear hx1
    go_wp2_with fail
    rcases bind_some HQ1.out with ⟨e, hm, rfl⟩ | ⟨a, ts2, hm, hq⟩
    ·refine (HCL.out l w1 ts (by have := HLL.out; omega) HX1.out HR1.out HS1.out _ hm).mono ?_
     rintro e' w2 ⟨rfl, hx2⟩
     have HX2 := q0h (HX1.out.next hx2)
     clear hx2
     go_wp2_with fail
     exact ⟨rfl, rfl, HX2.out⟩
    ·refine (HCL.out l w1 ts (by have := HLL.out; omega) HX1.out HR1.out HS1.out _ hm).mono ?_
     rintro e' w2 ⟨v, rfl, ⟨rfl, hs⟩, hr2, hx2⟩
     have HS2 := q0h hs
     have HR2 := q0h hr2
     have HX2 := q0h (HX1.out.next hx2)
     obtain ⟨b2, hb2⟩ : ∃ b, b = isT stop ts2 := ⟨_, rfl⟩
     try simp only at hq
     rw [<- hb2] at hq
     have HB2 := q0h hb2
     have HQ2 := q0h hq
     clear hs hr2 hx2 hm hq hb2
     go_wp2_with fail
     refine (q1t HR2.out stop).mono ?_
     rintro e w3 ⟨rfl, hx3⟩
     rw [<- HB2.out]
     have HR3 := q0h (HR2.out.below hx3)
     have HS3 := q0h (HS.out _ _ _ HS2.out (q1m hx3))
     have HX3 := q0h (HX2.out.next (q1m hx3))
     clear hx3
     cases b2
     ·have hq := HQ2.out
      rw [if_neg Bool.false_ne_true] at hq
      go_wp2_with fail
      rcases bind_some hq with ⟨e, hm, rfl⟩ | ⟨u, ts4, hm, hq4⟩
      ·refine (q1e HR3.out (tx [44]) hm).mono ?_
       rintro e' w4 ⟨rfl, hx4⟩
       have HX4 := q0h (HX3.out.step hx4 (fun k hk => by rw [hk]; exact HG.out))
       clear hx4 hm hq
       go_wp2_with fail
       exact ⟨rfl, rfl, HX4.out⟩
      ·refine (q1e HR3.out (tx [44]) hm).mono ?_
       rintro e' w4 ⟨v, rfl, rfl, hr4, hx4⟩
       have HR4 := q0h hr4
       have HS4 := q0h (HS.out _ _ _ HS3.out hx4)
       have HX4 := q0h (HX3.out.step hx4 (fun k hk => by rw [hk]; exact HG.out))
       obtain ⟨b4, hb4⟩ : ∃ b, b = isT stop ts4 := ⟨_, rfl⟩
       obtain ⟨a4, ha4⟩ : ∃ a, a = (ts4.headD q2m).at_ := ⟨_, rfl⟩
       try simp only at hq4
       unfold PM.fail at hq4
       rw [<- hb4, <- ha4] at hq4
       have HB4 := q0h hb4
       have HA4 := q0h ha4
       have HQ4 := q0h hq4
       clear hx4 hr4 hm hq hq4 hb4 ha4
       go_wp2_with fail
       refine (q1t HR4.out stop).mono ?_
       rintro e w5 ⟨rfl, hx5⟩
       rw [<- HB4.out]
       have HR5 := q0h (HR4.out.below hx5)
       have HS5 := q0h (HS.out _ _ _ HS4.out (q1m hx5))
       have HX5 := q0h (HX4.out.next (q1m hx5))
       clear hx5
       cases b4
       ·have hq := HQ4.out
        rw [if_neg Bool.false_ne_true] at hq
        have HQ5 := q0h hq
        clear hq
        go_wp2_with fail
        go_roundg k
        case measure => omega
        case rel => exact ⟨_, _, HR5, HS5, HX5, .inl HQ5.out, by have := HLL.out; simp [Hid]; omega⟩
       ·have hr : r = .error (90, a4) := by
         have h1 := HQ4.out
         rw [if_pos rfl] at h1
         injection h1 with h1
         exact h1.symm
        subst hr
        go_wp2_with fail
        refine (q4a HR5.out 90 a4 HA4.out).mono ?_
        rintro e w6 ⟨rfl, rfl⟩
        go_wp2_with fail
        exact ⟨rfl, rfl, HX5.out⟩
     ·have HQ3 := q0h (show r = .ok (l ++ [a], ts2) from by
       have h1 := HQ2.out
       rw [if_pos rfl] at h1
       injection h1 with h1
       exact h1.symm)
      go_wp2_with fail
      go_roundg k
      case measure => omega
      case rel => exact ⟨_, _, HR3, HS3, HX3, .inr ⟨HB2.out.symm, HQ3.out⟩, by have := HLL.out; simp [Hid]; omega⟩
  ·have HQ1 := q0h (show r = .ok (l, ts) from by
    rcases HQ.out with h | ⟨_, h⟩
    ·cases gk with
     | zero => cases h
     | succ k =>
      unfold z2p at h
      rw [<- HB.out, if_pos rfl] at h
      injection h with h
      exact h.symm
    ·exact h)
   go_wp2_with fail
   refine (q1t HR.out stop).mono ?_
   rintro e w1 ⟨rfl, hx1⟩
   rw [<- HB.out]
   have HR1 := q0h (HR.out.below hx1)
   have HS1 := q0h (HS.out _ _ _ HSl.out (q1m hx1))
   have HX1 := q0h (HX.out.next (q1m hx1))
   clear hx1
   go_wp2_with fail
   go_end0
   rw [HQ1.out]
   exact ⟨_, rfl, ⟨rfl, HS1.out⟩, HR1.out, HX1.out⟩
theorem q0r {w : World} {b : Nat} {t : TypeId} {o0 o1 o2 o3 o4 o5 o6 o7 : Value} (h : w.heap[b]? = some (.cells #[o0, o1, o2, o3, o4, o5, o6, o7] t (0, 0))) :
  w.cell? ⟨b, 0, none⟩ = some o0 /\ w.cell? ⟨b, 1, none⟩ = some o1 /\ w.cell? ⟨b, 2, none⟩ = some o2 /\ w.cell? ⟨b, 3, none⟩ = some o3 /\ w.cell? ⟨b, 4, none⟩ = some o4 /\ w.cell? ⟨b, 5, none⟩ = some o5 /\ w.cell? ⟨b, 6, none⟩ = some o6 /\ w.cell? ⟨b, 7, none⟩ = some o7 /\ w.frozen? ⟨b, 0, none⟩ = false /\ w.frozen? ⟨b, 1, none⟩ = false /\ w.frozen? ⟨b, 2, none⟩ = false /\ w.frozen? ⟨b, 3, none⟩ = false /\ w.frozen? ⟨b, 4, none⟩ = false /\ w.frozen? ⟨b, 5, none⟩ = false /\ w.frozen? ⟨b, 6, none⟩ = false /\ w.frozen? ⟨b, 7, none⟩ = false :=
 ⟨(q0a h 0).trans rfl, (q0a h 1).trans rfl, (q0a h 2).trans rfl, (q0a h 3).trans rfl, (q0a h 4).trans rfl, (q0a h 5).trans rfl, (q0a h 6).trans rfl, (q0a h 7).trans rfl, q0f h 0, q0f h 1, q0f h 2, q0f h 3, q0f h 4, q0f h 5, q0f h 6, q0f h 7⟩
theorem j5r {w : World} {b : Nat} {t : TypeId} {o0 o1 o2 o3 o4 o5 o6 o7 : Value} (n0 n1 n2 n3 n4 n5 n6 n7 : Value) (h : w.heap[b]? = some (.cells #[o0, o1, o2, o3, o4, o5, o6, o7] t (0, 0))) :
  ∃ W, W = ((((((((w.setCell ⟨b, 0, none⟩ n0).setCell ⟨b, 1, none⟩ n1).setCell ⟨b, 2, none⟩ n2).setCell ⟨b, 3, none⟩ n3).setCell ⟨b, 4, none⟩ n4).setCell ⟨b, 5, none⟩ n5).setCell ⟨b, 6, none⟩ n6).setCell ⟨b, 7, none⟩ n7) /\ W.heap[b]? = some (.cells #[n0, n1, n2, n3, n4, n5, n6, n7] t (0, 0)) /\ W.heap.size = w.heap.size /\ (∀ k, k ≠ b -> W.heap[k]? = w.heap[k]?) /\ ∀ (X : Nat -> Prop) (C : Nat), (C <= b \/ X b) -> q1s C X w W := by
 obtain ⟨w1, e0⟩ : ∃ W, W = w.setCell ⟨b, 0, none⟩ n0 := ⟨_, rfl⟩
 have h1 : w1.heap[b]? = some (.cells #[n0, o1, o2, o3, o4, o5, o6, o7] t (0, 0)) := by rw [e0]; exact q0y h 0 n0 rfl
 have s1 : w1.heap.size = w.heap.size := by rw [e0]; simp
 have k1 : ∀ k, k ≠ b -> w1.heap[k]? = w.heap[k]? := fun k hk => by rw [e0]; exact (Below.heap_setCell _ _ _ _ hk)
 have x1 : ∀ (X : Nat -> Prop) (C : Nat), (C <= b \/ X b) -> q1s C X w w1 := fun X C hC => by rw [e0]; exact (q1s.refl C X w).set hC 0 n0
 obtain ⟨w2, e1⟩ : ∃ W, W = w1.setCell ⟨b, 1, none⟩ n1 := ⟨_, rfl⟩
 have h2 : w2.heap[b]? = some (.cells #[n0, n1, o2, o3, o4, o5, o6, o7] t (0, 0)) := by rw [e1]; exact q0y h1 1 n1 rfl
 have s2 : w2.heap.size = w.heap.size := by rw [e1]; simp [s1]
 have k2 : ∀ k, k ≠ b -> w2.heap[k]? = w.heap[k]? := fun k hk => by rw [e1]; exact (Below.heap_setCell _ _ _ _ hk).trans (k1 k hk)
 have x2 : ∀ (X : Nat -> Prop) (C : Nat), (C <= b \/ X b) -> q1s C X w w2 := fun X C hC => by rw [e1]; exact (x1 X C hC).set hC 1 n1
 obtain ⟨w3, e2⟩ : ∃ W, W = w2.setCell ⟨b, 2, none⟩ n2 := ⟨_, rfl⟩
 have h3 : w3.heap[b]? = some (.cells #[n0, n1, n2, o3, o4, o5, o6, o7] t (0, 0)) := by rw [e2]; exact q0y h2 2 n2 rfl
 have s3 : w3.heap.size = w.heap.size := by rw [e2]; simp [s2]
 have k3 : ∀ k, k ≠ b -> w3.heap[k]? = w.heap[k]? := fun k hk => by rw [e2]; exact (Below.heap_setCell _ _ _ _ hk).trans (k2 k hk)
 have x3 : ∀ (X : Nat -> Prop) (C : Nat), (C <= b \/ X b) -> q1s C X w w3 := fun X C hC => by rw [e2]; exact (x2 X C hC).set hC 2 n2
 obtain ⟨w4, e3⟩ : ∃ W, W = w3.setCell ⟨b, 3, none⟩ n3 := ⟨_, rfl⟩
 have h4 : w4.heap[b]? = some (.cells #[n0, n1, n2, n3, o4, o5, o6, o7] t (0, 0)) := by rw [e3]; exact q0y h3 3 n3 rfl
 have s4 : w4.heap.size = w.heap.size := by rw [e3]; simp [s3]
 have k4 : ∀ k, k ≠ b -> w4.heap[k]? = w.heap[k]? := fun k hk => by rw [e3]; exact (Below.heap_setCell _ _ _ _ hk).trans (k3 k hk)
 have x4 : ∀ (X : Nat -> Prop) (C : Nat), (C <= b \/ X b) -> q1s C X w w4 := fun X C hC => by rw [e3]; exact (x3 X C hC).set hC 3 n3
 obtain ⟨w5, e4⟩ : ∃ W, W = w4.setCell ⟨b, 4, none⟩ n4 := ⟨_, rfl⟩
 have h5 : w5.heap[b]? = some (.cells #[n0, n1, n2, n3, n4, o5, o6, o7] t (0, 0)) := by rw [e4]; exact q0y h4 4 n4 rfl
 have s5 : w5.heap.size = w.heap.size := by rw [e4]; simp [s4]
 have k5 : ∀ k, k ≠ b -> w5.heap[k]? = w.heap[k]? := fun k hk => by rw [e4]; exact (Below.heap_setCell _ _ _ _ hk).trans (k4 k hk)
 have x5 : ∀ (X : Nat -> Prop) (C : Nat), (C <= b \/ X b) -> q1s C X w w5 := fun X C hC => by rw [e4]; exact (x4 X C hC).set hC 4 n4
 obtain ⟨w6, e5⟩ : ∃ W, W = w5.setCell ⟨b, 5, none⟩ n5 := ⟨_, rfl⟩
 have h6 : w6.heap[b]? = some (.cells #[n0, n1, n2, n3, n4, n5, o6, o7] t (0, 0)) := by rw [e5]; exact q0y h5 5 n5 rfl
 have s6 : w6.heap.size = w.heap.size := by rw [e5]; simp [s5]
 have k6 : ∀ k, k ≠ b -> w6.heap[k]? = w.heap[k]? := fun k hk => by rw [e5]; exact (Below.heap_setCell _ _ _ _ hk).trans (k5 k hk)
 have x6 : ∀ (X : Nat -> Prop) (C : Nat), (C <= b \/ X b) -> q1s C X w w6 := fun X C hC => by rw [e5]; exact (x5 X C hC).set hC 5 n5
 obtain ⟨w7, e6⟩ : ∃ W, W = w6.setCell ⟨b, 6, none⟩ n6 := ⟨_, rfl⟩
 have h7 : w7.heap[b]? = some (.cells #[n0, n1, n2, n3, n4, n5, n6, o7] t (0, 0)) := by rw [e6]; exact q0y h6 6 n6 rfl
 have s7 : w7.heap.size = w.heap.size := by rw [e6]; simp [s6]
 have k7 : ∀ k, k ≠ b -> w7.heap[k]? = w.heap[k]? := fun k hk => by rw [e6]; exact (Below.heap_setCell _ _ _ _ hk).trans (k6 k hk)
 have x7 : ∀ (X : Nat -> Prop) (C : Nat), (C <= b \/ X b) -> q1s C X w w7 := fun X C hC => by rw [e6]; exact (x6 X C hC).set hC 6 n6
 obtain ⟨w8, e7⟩ : ∃ W, W = w7.setCell ⟨b, 7, none⟩ n7 := ⟨_, rfl⟩
 have h8 : w8.heap[b]? = some (.cells #[n0, n1, n2, n3, n4, n5, n6, n7] t (0, 0)) := by rw [e7]; exact q0y h7 7 n7 rfl
 have s8 : w8.heap.size = w.heap.size := by rw [e7]; simp [s7]
 have k8 : ∀ k, k ≠ b -> w8.heap[k]? = w.heap[k]? := fun k hk => by rw [e7]; exact (Below.heap_setCell _ _ _ _ hk).trans (k7 k hk)
 have x8 : ∀ (X : Nat -> Prop) (C : Nat), (C <= b \/ X b) -> q1s C X w w8 := fun X C hC => by rw [e7]; exact (x7 X C hC).set hC 7 n7
 exact ⟨w8, by rw [e7, e6, e5, e4, e3, e2, e1, e0], h8, s8, k8, x8⟩
theorem q1s.trans {C : Nat} {X : Nat -> Prop} {w w1 w2 : World} (h : q1s C X w w1) (k : q1s C X w1 w2) : q1s C X w w2 :=
 ⟨k.os.trans h.os, k.tape.trans h.tape, k.output.trans h.output, Nat.le_trans h.size k.size, fun i hi hn => (k.block i hi hn).trans (h.block i hi hn)⟩
def exV (base : Nat) (w' : World) (e : Ex) (v : Value) : Prop := ∃ cs : List Value, v = .agg cs.toArray /\ kEx.M w' base (fun k => base <= k) e cs
def x0o (base : Nat) (w' : World) (l : List Ex) (v : Value) : Prop := kEx.R 86 w' base (fun k => base <= k) v l
def stV (base : Nat) (w' : World) (e : St) (v : Value) : Prop := ∃ cs : List Value, v = .agg cs.toArray /\ kSt.M w' base (fun k => base <= k) e cs
def j5z (base : Nat) (w' : World) (l : List St) (v : Value) : Prop := kSt.R 67 w' base (fun k => base <= k) v l
theorem x0o.keep {base base' : Nat} {w w' : World} {l : List Ex} {v : Value} (h : x0o base w l v) (hb : base' <= base) (hk : ∀ k, base <= k -> k < w.heap.size -> w'.heap[k]? = w.heap[k]?) : x0o base' w' l v :=
 Kd.R_mono (Kd.R_lower (Kd.R_step h (fun k h1 h2 => hk k h1 h2)) hb) (fun k hk => Nat.le_trans hb hk)
structure q7i (B g : Nat) (R : q4e) : Prop where
 strong : ∀ (w : World) (ts : List Tok) (lv : Nat) (least : Int) (r : Except Flt (Ex × List Tok)), 0 <= least -> least <= 6 -> RD B w g ts lv -> R.strong least lv ts = some r -> Calls Tryz.prog 194 #[.pointer (some ⟨g, 0, none⟩), .int .i64 least] w (Res B w (· = g) g lv (exV w.heap.size) r)
 one : ∀ (w : World) (ts : List Tok) (lv : Nat) (r : Except Flt (Ex × List Tok)), RD B w g ts lv -> R.one lv ts = some r -> Calls Tryz.prog 220 #[.pointer (some ⟨g, 0, none⟩)] w (Res B w (· = g) g lv (exV w.heap.size) r)
 stmt : ∀ (w : World) (ts : List Tok) (lv : Nat) (r : Except Flt (St × List Tok)), RD B w g ts lv -> R.stmt lv ts = some r -> Calls Tryz.prog 120 #[.pointer (some ⟨g, 0, none⟩)] w (Res B w (· = g) g lv (stV w.heap.size) r)
 choice : ∀ (w : World) (ts : List Tok) (lv : Nat) (r : Except Flt (St × List Tok)), RD B w g ts lv -> R.choice lv ts = some r -> Calls Tryz.prog 153 #[.pointer (some ⟨g, 0, none⟩)] w (Res B w (· = g) g lv (stV w.heap.size) r)
 block : ∀ (w : World) (ts : List Tok) (lv : Nat) (r : Except Flt (List St × List Tok)), RD B w g ts lv -> R.block lv ts = some r -> Calls Tryz.prog 74 #[.pointer (some ⟨g, 0, none⟩)] w (Res B w (· = g) g lv (j5z w.heap.size) r)
theorem q4f {B g : Nat} {R : q4e} (hR : q7i B g R) {w : World} {ts : List Tok} {lv : Nat} (h : RD B w g ts lv) {r : Except Flt (Ex × List Tok)} (hp : q3b R lv ts = some r) :
  Calls Tryz.prog 155 #[.pointer (some ⟨g, 0, none⟩)] w (Res B w (· = g) g lv (exV w.heap.size) r) := by
 have HH := q0h h
 obtain ⟨b, hb⟩ : ∃ b, b = w.heap.size := ⟨_, rfl⟩
 obtain ⟨W, hW⟩ : ∃ W, W = w.alloc (.cells #[.int .i64 0, .int .i64 0, .int .i64 0, .string ⟨#[]⟩, .slice none 0 0, .int .i64 0, .int .i64 0, .int .i64 0] 86) := ⟨_, rfl⟩
 have hbW : Below w.heap.size w W := by rw [hW]; exact q0d (Below.refl _ _) _
 have hsW : W.heap.size = b + 1 := by rw [hW, hb]; simp
 have hn : W.heap[b]? = some (.cells #[.int .i64 0, .int .i64 0, .int .i64 0, .string ⟨#[]⟩, .slice none 0 0, .int .i64 0, .int .i64 0, .int .i64 0] 86 (0, 0)) := by rw [hW, hb]; exact heap_alloc_new _ _
 have HW := q0h hW
 have HBW := q0h hbW
 have HSW := q0h hsW
 have HN := q0h hn
 have HC := q0h (hR.strong W ts lv 1 r (by decide) (by decide) (h.below hbW) hp)
 have HBb := q0h (show B <= b by rw [hb]; exact h.Bw)
 have HGb := q0h (show ¬ b = g by have := h.gB; have := h.Bw; omega)
 have HEb := q0h hb
 clear h hp hR hbW hsW hn hW hb
 go_enter Tryz.func155, Tryz.ntmps155
 go_wp2_with fail
 rw [<- HW.out, <- HEb.out]
 refine HC.out.mono ?_
 intro e w1 hres
 cases r with
 | error f =>
  obtain ⟨rfl, hx1⟩ := hres
  have HX1 := q0h ((q1m HBW.out).next hx1)
  clear hx1
  go_wp2_with fail
  exact ⟨rfl, rfl, HX1.out⟩
 | ok p =>
  obtain ⟨ex, ts2⟩ := p
  obtain ⟨v, rfl, ⟨cs, rfl, hM⟩, hr1, hx1⟩ := hres
  cases ex with
  | mk k o n s l a t p =>
   obtain ⟨v0, rfl, hl⟩ := q2k hM
   obtain ⟨A, c, rfl⟩ := Kd.R_slice hl
   have HR1 := q0h hr1
   have HX1 := q0h ((q1m HBW.out).next hx1)
   have hn1 := (hx1.block b (by rw [HSW.out]; omega) HGb.out).trans HN.out
   have HN1 := q0h hn1
   have HL := q0h hl
   obtain ⟨d0, d1, d2, d3, d4, d5, d6, d7, f0, f1, f2, f3, f4, f5, f6, f7⟩ := q0r hn1
   clear hM hr1 hx1 hn1 hl
   go_wp2_with fail
   obtain ⟨W2, hW2, hn2, hs2, hk2, hx2⟩ := j5r (.int .i64 k) (.int .i64 o) (.int .i64 n) (.string s) (.slice A l.length c) (.int .i64 a) (.int .i64 t) (.int .i64 p) HN1.out
   rw [<- hW2]
   refine bodyPost_ret (q0o rfl _ _ b 86 #[.int .i64 k, .int .i64 o, .int .i64 n, .string s, .slice A l.length c, .int .i64 a, .int .i64 t, .int .i64 p] (0, 0) _ rfl hn2 Tryz.underlying86 rfl (by kernel_rfl)) rfl ?_
   have hsz := HSW.out
   have heb := HEb.out
   have hbb := HBb.out
   refine ⟨_, rfl, ⟨_, rfl, q4z k o n s a t p (x0o.keep HL.out (by omega) (fun i hi _ => hk2 i (by omega)))⟩, HR1.out.keep (by omega) (fun i hi => hk2 i (by omega)), HX1.out.trans (hx2 _ _ (.inl (by omega)))⟩
theorem z8n {w1 : World} {base : Nat} {e : Ex} {cs : List Value} (h : kEx.M w1 base (fun k => base <= k) e cs) (hb : base <= w1.heap.size) : x0o base (w1.alloc (.cells cs.toArray 86)) [e] (.slice (some ⟨w1.heap.size, 0, none⟩) 1 1) := by
 have h2 : kEx.M (w1.alloc (.cells cs.toArray 86)) base (fun k => base <= k /\ some k ≠ (Value.slice (some ⟨w1.heap.size, 0, none⟩) 1 1).ownBlock) e cs :=
  kEx.M_mono (fun k hk => ⟨hk.1, fun e => by
   have e2 : some k = some w1.heap.size := e
   injection e2 with e2
   have := hk.2.2.1
   omega⟩) (kEx.M_move (fun k hk => Below.heap_alloc _ _ _ hk.2.2.1) (kEx.M_bound h))
 refine ⟨fun k hk => ?_, q4l.lit w1 base ⟨?_, fun j p hj => ?_⟩ hb (by simp)⟩
 ·have e2 : some w1.heap.size = some k := hk
  injection e2 with e2
  omega
 ·have := kEx.K_len (kEx.K_of_M h)
  rw [this]; rfl
 ·cases j with
  | zero =>
   injection hj with hj
   subst hj
   have hl : cs.length = kEx.sz := kEx.K_len (kEx.K_of_M h)
   rw [Nat.zero_mul, List.drop_zero, List.take_of_length_le (by omega)]
   exact h2
  | succ j => cases hj
theorem q6d (A : Option Addr) (n c : Nat) (w : World) : Calls Tryz.prog 154 #[.slice A n c] w fun e w' => e = .returned (.slice A n c) /\ w = w' := by
 go_enter Tryz.func154, Tryz.ntmps154
 go_wp2_with fail
 go_ret
 exact ⟨rfl, rfl⟩
theorem x2l {P : Program} {fn : Func} {p : Tmp} {ty : TypeId} (h : fn.results = #[.cell p ty]) (tmps : Array Value) (w : World) (g : Nat) (v : Value)
  (hp : tmps.getD p undef = .pointer (some ⟨g, 0, none⟩)) (hg : w.cell? ⟨g, 0, none⟩ = some v) (hd : (isAgg ty).run P w = .ok false w) :
  (results fn tmps).run P w = .ok v w := by
 have hp' : tmps[p]?.getD undef = .pointer (some ⟨g, 0, none⟩) := by simpa using hp
 have hd' : Sem.run P (isAgg ty) w = .ok false w := hd
 simp [results, h, hp', asAddr, go_sem, hd', hg]
def j2a (b1 b2 g : Nat) (w : World) : Prop := w.heap[b1]? = some (.cells #[.pointer (some ⟨g, 0, none⟩)] 56 (0, 0)) /\ ∃ v, w.heap[b2]? = some (.cells #[v] 65 (0, 0))
def j9c (b2 : Nat) (w : World) (l : List Ex) : Prop := ∃ A c, w.heap[b2]? = some (.cells #[.slice A l.length c] 65 (0, 0)) /\ x0o (b2 + 1) w l (.slice A l.length c)
theorem x4n : q1k 197 := fun args w => q5r Tryz.func197 (by kernel_rfl) rfl args w
theorem x2m {B g : Nat} {R : q4e} (hR : q7i B g R) (w0 : World) (lv b1 b2 : Nat) (hb : B <= b1) (hbb : b1 < b2) :
  z5c B w0 (fun k => k = g \/ k = b2) g lv 197 #[.pointer (some ⟨b1, 0, none⟩), .pointer (some ⟨b2, 0, none⟩)] ((q3b R lv).bind fun e => .ret [e]) (j9c b2) (j2a b1 b2 g) := by
 intro w ts hx0 hpre h r hp
 obtain ⟨h1, v2, h2⟩ := hpre
 have HH := q0h h
 have H2 := q0h h2
 have hgB := h.gB
 have hBw := h.Bw
 have HR := q0h hR
 have HP := q0h hp
 have l1 := q0c h1
 have l2 := q0c h2
 have c1 : w.cell? ⟨b1, 0, none⟩ = some (.pointer (some ⟨g, 0, none⟩)) := (q0a h1 0).trans rfl
 have HB := q0h (show B <= b2 /\ ¬ b2 = g by omega)
 have HL2 := q0h l2
 clear h h1 h2 hx0 hR hp l2
 go_enter Tryz.func197, Tryz.ntmps197
 go_wp2_with fail
 rcases bind_some HP.out with ⟨e, hm, rfl⟩ | ⟨ex, ts2, hm, hq⟩
 ·refine (q4f HR.out HH.out hm).mono ?_
  rintro e' w1 ⟨rfl, hx1⟩
  have HX1 := q0h (hx1.mono (X' := fun k => k = g \/ k = b2) (Nat.le_refl _) (fun k _ hk => .inl hk))
  clear hx1 hm
  go_wp2_with fail
  exact ⟨rfl, rfl, HX1.out⟩
 ·refine (q4f HR.out HH.out hm).mono ?_
  rintro e' w1 ⟨v, rfl, ⟨cs, rfl, hM⟩, hr1, hx1⟩
  have hr : r = .ok ([ex], ts2) := by
   have h1 : some (Except.ok ([ex], ts2)) = some r := hq
   injection h1 with h1
   exact h1.symm
  subst hr
  cases ex with
  | mk k o n s l a t p =>
   obtain ⟨v0, rfl, hl⟩ := q2k hM
   obtain ⟨A, c, rfl⟩ := Kd.R_slice hl
   have HM := q0h (kEx.M_mono (ok' := fun k => b2 + 1 <= k) (fun k hk => by have := HL2.out; have h3 : w.heap.size <= k := hk; omega) (kEx.M_lower (base' := b2 + 1) (by have := HL2.out; omega) hM))
   have HR1 := q0h hr1
   have HX1 := q0h (hx1.mono (X' := fun k => k = g \/ k = b2) (Nat.le_refl _) (fun k _ hk => .inl hk))
   have hn2 := (hx1.block b2 HL2.out HB.out.2).trans H2.out
   have HN2 := q0h hn2
   have l2 := q0c hn2
   have d2 : w1.cell? ⟨b2, 0, none⟩ = some v2 := (q0a hn2 0).trans rfl
   have f2 : w1.frozen? ⟨b2, 0, none⟩ = false := q0f hn2 0
   have HSZ := q0h hx1.size
   clear hM hl hr1 hx1 hm hq hn2 c1 l1
   go_wp2_with fail
   refine (q6d _ _ _ _).mono ?_
   rintro e w2 ⟨rfl, rfl⟩
   go_wp2_with fail
   go_end0
   obtain ⟨W2, hW2⟩ : ∃ W, W = w1.setCell ⟨b2, 0, none⟩ (.slice (some ⟨w1.heap.size, 0, none⟩) 1 1) := ⟨_, rfl⟩
   have hs : W2.heap.size = w1.heap.size := by rw [hW2]; simp
   have hM2 : kEx.M W2 (b2 + 1) (fun k => b2 + 1 <= k) (.mk k o n s l a t p) [.int .i64 k, .int .i64 o, .int .i64 n, .string s, .slice A l.length c, .int .i64 a, .int .i64 t, .int .i64 p] :=
    Kd.M_step HM.out (fun i h1 h2 => by rw [hW2]; exact Below.heap_setCell _ _ _ _ (by show i ≠ b2; omega))
   have hl2 := HL2.out
   have hsz := HSZ.out
   have hE := z8n hM2 (by omega)
   have hbk : W2.heap[b2]? = some (.cells #[.slice (some ⟨w1.heap.size, 0, none⟩) 1 1] 65 (0, 0)) := by rw [hW2]; exact q0y HN2.out 0 _ rfl
   have hRD : RD B W2 g ts2 lv := by rw [hW2]; exact HR1.out.set HB.out.1 0 _
   have hXX : q1s w.heap.size (fun k => k = g \/ k = b2) w W2 := by rw [hW2]; exact HX1.out.set (.inr (.inr rfl)) 0 _
   rw [<- hW2]
   have hb := q0d (Below.refl W2.heap.size W2) (.cells #[.int .i64 k, .int .i64 o, .int .i64 n, .string s, .slice A l.length c, .int .i64 a, .int .i64 t, .int .i64 p] 86)
   rw [hs] at hE
   exact ⟨_, rfl, ⟨rfl, some ⟨w1.heap.size, 0, none⟩, 1, (hb.block b2 (by omega)).trans hbk, hE⟩, hRD.below hb, hXX.next (q1m hb)⟩
theorem z6p {B g : Nat} {R : q4e} (hR : q7i B g R) {w : World} {ts : List Tok} {lv : Nat} (h : RD B w g ts lv) {r : Except Flt (List Ex × List Tok)} (hp : q4m R lv ts = some r) :
  Calls Tryz.prog 157 #[.pointer (some ⟨g, 0, none⟩)] w (Res B w (· = g) g lv (x0o w.heap.size) r) := by
 have HH := q0h h
 obtain ⟨b1, hb1⟩ : ∃ b, b = w.heap.size := ⟨_, rfl⟩
 obtain ⟨b2, hb2⟩ : ∃ b, b = w.heap.size + 1 := ⟨_, rfl⟩
 obtain ⟨W, hW⟩ : ∃ W, W = (w.alloc (.cells #[.pointer (some ⟨g, 0, none⟩)] 56)).alloc (.cells #[.slice none 0 0] 65) := ⟨_, rfl⟩
 have hbW : Below w.heap.size w W := by rw [hW]; exact q0d (q0d (Below.refl _ _) _) _
 have hsW : W.heap.size = b1 + 2 := by rw [hW, hb1]; simp
 have q1 : W.heap[b1]? = some (.cells #[.pointer (some ⟨g, 0, none⟩)] 56 (0, 0)) := by
  rw [hW, hb1]; exact (Below.heap_alloc _ _ _ (by simp)).trans (heap_alloc_new _ _)
 have q2 : W.heap[b2]? = some (.cells #[.slice none 0 0] 65 (0, 0)) := by
  have h2 := heap_alloc_new (w.alloc (.cells #[.pointer (some ⟨g, 0, none⟩)] 56)) (.cells #[.slice none 0 0] 65)
  rw [show (w.alloc (.cells #[.pointer (some ⟨g, 0, none⟩)] 56)).heap.size = b2 by rw [hb2]; simp] at h2
  rw [hW]; exact h2
 have hgB := h.gB
 have hBw := h.Bw
 have HC := q0h (q6w (h.below hbW) (fun k => k = g \/ k = b2) (.inl rfl) (fun k hk => by rcases hk with rfl | rfl <;> omega) 197 #[.pointer (some ⟨b1, 0, none⟩), .pointer (some ⟨b2, 0, none⟩)] x4n (fun lv => (q3b R lv).bind fun e => .ret [e]) (j9c b2) (tx [91]) (tx [93])
  (j2a b1 b2 g) (x2m hR W (lv + 1) b1 b2 (by omega) (by omega)) ⟨q1, _, q2⟩ (fun w1 w2 hp hx => by
   obtain ⟨p1, v, p2⟩ := hp
   exact ⟨q3c hx p1 (by omega), v, q3c hx p2 (by omega)⟩) (fun w1 w2 l hs hx => by
   obtain ⟨A, c, p1, p2⟩ := hs
   exact ⟨A, c, q3c hx p1 (by omega), p2.keep (Nat.le_refl _) (fun k h1 h2 => hx.block k h2 (by omega))⟩) hp)
 have HW := q0h hW
 have HBW := q0h hbW
 have HSW := q0h hsW
 have HB1 := q0h hb1
 have HB2 := q0h hb2
 have HBB := q0h (show B <= b1 /\ ¬ b2 = g by omega)
 have Q1 := q0h q1
 have l1 := q0c q1
 have c1 : W.cell? ⟨b1, 0, none⟩ = some (.pointer (some ⟨g, 0, none⟩)) := (q0a q1 0).trans rfl
 have hmf : ∀ (fn : Fn) (first cap : Array Value) (w : World), (Instr.makeFunc fn first cap).run Tryz.prog w = .ok (.func fn first cap) w := fun _ _ _ _ => rfl
 clear h hp hR hbW hsW q1 q2 hgB hBw hW
 clear hb1 hb2
 go_enter Tryz.func157, Tryz.ntmps157
 go_wp2_with fail
 rw [<- HW.out, <- HB2.out, <- HB1.out]
 refine HC.out.mono ?_
 intro e w1 hres
 have hxx : ∀ {w1 : World}, q1s W.heap.size (fun k => k = g \/ k = b2) W w1 -> q1s w.heap.size (· = g) w w1 := fun hx => (q1m HBW.out).trans (hx.mono HBW.out.size (fun k hk hX => by
  rcases hX with h | h
  ·exact h
  ·have := HB2.out; omega))
 cases r with
 | error f =>
  obtain ⟨rfl, hx1⟩ := hres
  have HX1 := q0h (hxx hx1)
  clear hx1 hxx
  go_wp2_with fail
  exact ⟨rfl, rfl, HX1.out⟩
 | ok p =>
  obtain ⟨l, ts2⟩ := p
  obtain ⟨v, rfl, ⟨rfl, A, c, hn2, hE⟩, hr1, hx1⟩ := hres
  have HX1 := q0h (hxx hx1)
  have HR1 := q0h hr1
  have HE := q0h hE
  have HN2 := q0h hn2
  have l2 := q0c hn2
  have d2 : w1.cell? ⟨b2, 0, none⟩ = some (.slice A l.length c) := (q0a hn2 0).trans rfl
  have f2 : w1.frozen? ⟨b2, 0, none⟩ = false := q0f hn2 0
  clear hx1 hxx hr1 hE hn2 l1 c1 hmf
  go_wp2_with fail
  refine bodyPost_ret (x2l rfl _ _ b2 (.slice A l.length c) rfl ((q0a (q0y HN2.out 0 (.slice A l.length c) rfl) 0).trans rfl) (by kernel_rfl)) rfl ?_
  have e1 := HB1.out
  have e2 := HB2.out
  have hb := HBB.out
  exact ⟨_, rfl, HE.out.keep (by omega) (fun k h1 _ => Below.heap_setCell _ _ _ _ (by show k ≠ b2; omega)), HR1.out.set (by omega) 0 _, HX1.out.set (.inl (by omega)) 0 _⟩
theorem x8t (s : ByteArray) (w : World) : Calls Tryz.prog 221 #[.string s] w fun e w' => e = .returned (.tuple #[.int .i64 (q4y s).1, .int .i64 (q4y s).2]) /\ w = w' := by
 go_enter Tryz.func221, Tryz.ntmps221
 go_wp2
 all_goals go_ret2
 all_goals exact ⟨by unfold q4y x2k; simp_all, rfl⟩
theorem q6n {B : Nat} {w : World} {g : Nat} {ts : List Tok} {lv : Nat} (h : RD B w g ts lv) {r : Except Flt (Int × List Tok)} (hp : q2v ts = some r) :
  Calls Tryz.prog 70 #[.pointer (some ⟨g, 0, none⟩)] w (Res B w (· = g) g lv (fun _ a v => v = .int .i64 a) r) := by
 have HH := q0h h
 clear h
 unfold q2v PM.fail at hp
 obtain ⟨b0, h0⟩ : ∃ b, b = isT (tx [105, 110, 116]) ts := ⟨_, rfl⟩
 obtain ⟨b1, h1⟩ : ∃ b, b = isT (tx [102, 105, 120]) ts := ⟨_, rfl⟩
 obtain ⟨b2, h2⟩ : ∃ b, b = isT (tx [98, 111, 111, 108]) ts := ⟨_, rfl⟩
 obtain ⟨b3, h3⟩ : ∃ b, b = isT (tx [101, 110, 116]) ts := ⟨_, rfl⟩
 obtain ⟨a, ha⟩ : ∃ a, a = (ts.headD q2m).at_ := ⟨_, rfl⟩
 rw [<- h0, <- h1, <- h2, <- h3, <- ha] at hp
 have hix0 : ∀ w : World, Sem.run Tryz.prog (Instr.index 140 (.agg #[.string ⟨#[105, 110, 116]⟩, .string ⟨#[102, 105, 120]⟩, .string ⟨#[98, 111, 111, 108]⟩, .string ⟨#[101, 110, 116]⟩]) (.int .i64 0)) w = .ok (.string ⟨#[105, 110, 116]⟩) w := fun w => by kernel_rfl
 have hix1 : ∀ w : World, Sem.run Tryz.prog (Instr.index 140 (.agg #[.string ⟨#[105, 110, 116]⟩, .string ⟨#[102, 105, 120]⟩, .string ⟨#[98, 111, 111, 108]⟩, .string ⟨#[101, 110, 116]⟩]) (.int .i64 1)) w = .ok (.string ⟨#[102, 105, 120]⟩) w := fun w => by kernel_rfl
 have hix2 : ∀ w : World, Sem.run Tryz.prog (Instr.index 140 (.agg #[.string ⟨#[105, 110, 116]⟩, .string ⟨#[102, 105, 120]⟩, .string ⟨#[98, 111, 111, 108]⟩, .string ⟨#[101, 110, 116]⟩]) (.int .i64 2)) w = .ok (.string ⟨#[98, 111, 111, 108]⟩) w := fun w => by kernel_rfl
 have hix3 : ∀ w : World, Sem.run Tryz.prog (Instr.index 140 (.agg #[.string ⟨#[105, 110, 116]⟩, .string ⟨#[102, 105, 120]⟩, .string ⟨#[98, 111, 111, 108]⟩, .string ⟨#[101, 110, 116]⟩]) (.int .i64 3)) w = .ok (.string ⟨#[101, 110, 116]⟩) w := fun w => by kernel_rfl
 have H0 := q0h h0
 have H1 := q0h h1
 have H2 := q0h h2
 have H3 := q0h h3
 have HA := q0h ha
 clear h0 h1 h2 h3 ha
 cases b0
 rotate_left
 ·
  have hr : r = .ok (1, q0w ts) := by
   injection hp with hp
   exact hp.symm
  subst hr
  clear hp
  go_enter Tryz.func70, Tryz.ntmps70
  go_wp2_with fail
  refine wp_loop_rounds 5 ?_
  rw [rounds_succ]
  go_wp2_with fail
  refine (q2b HH.out (tx [105, 110, 116])).mono ?_
  rintro e w1 ⟨rfl, hr1, hx1⟩
  rw [<- H0.out] at hr1 ⊢
  have HR1 := q0h (show RD B w1 g (q0w ts) lv from hr1)
  have HX1 := q0h (hx1)
  clear hr1 hx1
  go_wp2_with fail
  go_ret
  exact ⟨_, rfl, rfl, HR1.out, HX1.out⟩
 cases b1
 rotate_left
 ·
  have hr : r = .ok (2, q0w ts) := by
   injection hp with hp
   exact hp.symm
  subst hr
  clear hp
  go_enter Tryz.func70, Tryz.ntmps70
  go_wp2_with fail
  refine wp_loop_rounds 5 ?_
  rw [rounds_succ]
  go_wp2_with fail
  refine (q2b HH.out (tx [105, 110, 116])).mono ?_
  rintro e w1 ⟨rfl, hr1, hx1⟩
  rw [<- H0.out] at hr1 ⊢
  have HR1 := q0h (show RD B w1 g ts lv from hr1)
  have HX1 := q0h (hx1)
  clear hr1 hx1
  go_wp2_with fail
  rw [rounds_succ]
  go_wp2_with fail
  refine (q2b HR1.out (tx [102, 105, 120])).mono ?_
  rintro e w2 ⟨rfl, hr2, hx2⟩
  rw [<- H1.out] at hr2 ⊢
  have HR2 := q0h (show RD B w2 g (q0w ts) lv from hr2)
  have HX2 := q0h (HX1.out.next hx2)
  clear hr2 hx2
  go_wp2_with fail
  go_ret
  exact ⟨_, rfl, rfl, HR2.out, HX2.out⟩
 cases b2
 rotate_left
 ·
  have hr : r = .ok (3, q0w ts) := by
   injection hp with hp
   exact hp.symm
  subst hr
  clear hp
  go_enter Tryz.func70, Tryz.ntmps70
  go_wp2_with fail
  refine wp_loop_rounds 5 ?_
  rw [rounds_succ]
  go_wp2_with fail
  refine (q2b HH.out (tx [105, 110, 116])).mono ?_
  rintro e w1 ⟨rfl, hr1, hx1⟩
  rw [<- H0.out] at hr1 ⊢
  have HR1 := q0h (show RD B w1 g ts lv from hr1)
  have HX1 := q0h (hx1)
  clear hr1 hx1
  go_wp2_with fail
  rw [rounds_succ]
  go_wp2_with fail
  refine (q2b HR1.out (tx [102, 105, 120])).mono ?_
  rintro e w2 ⟨rfl, hr2, hx2⟩
  rw [<- H1.out] at hr2 ⊢
  have HR2 := q0h (show RD B w2 g ts lv from hr2)
  have HX2 := q0h (HX1.out.next hx2)
  clear hr2 hx2
  go_wp2_with fail
  rw [rounds_succ]
  go_wp2_with fail
  refine (q2b HR2.out (tx [98, 111, 111, 108])).mono ?_
  rintro e w3 ⟨rfl, hr3, hx3⟩
  rw [<- H2.out] at hr3 ⊢
  have HR3 := q0h (show RD B w3 g (q0w ts) lv from hr3)
  have HX3 := q0h (HX2.out.next hx3)
  clear hr3 hx3
  go_wp2_with fail
  go_ret
  exact ⟨_, rfl, rfl, HR3.out, HX3.out⟩
 cases b3
 rotate_left
 ·
  have hr : r = .ok (4, q0w ts) := by
   injection hp with hp
   exact hp.symm
  subst hr
  clear hp
  go_enter Tryz.func70, Tryz.ntmps70
  go_wp2_with fail
  refine wp_loop_rounds 5 ?_
  rw [rounds_succ]
  go_wp2_with fail
  refine (q2b HH.out (tx [105, 110, 116])).mono ?_
  rintro e w1 ⟨rfl, hr1, hx1⟩
  rw [<- H0.out] at hr1 ⊢
  have HR1 := q0h (show RD B w1 g ts lv from hr1)
  have HX1 := q0h (hx1)
  clear hr1 hx1
  go_wp2_with fail
  rw [rounds_succ]
  go_wp2_with fail
  refine (q2b HR1.out (tx [102, 105, 120])).mono ?_
  rintro e w2 ⟨rfl, hr2, hx2⟩
  rw [<- H1.out] at hr2 ⊢
  have HR2 := q0h (show RD B w2 g ts lv from hr2)
  have HX2 := q0h (HX1.out.next hx2)
  clear hr2 hx2
  go_wp2_with fail
  rw [rounds_succ]
  go_wp2_with fail
  refine (q2b HR2.out (tx [98, 111, 111, 108])).mono ?_
  rintro e w3 ⟨rfl, hr3, hx3⟩
  rw [<- H2.out] at hr3 ⊢
  have HR3 := q0h (show RD B w3 g ts lv from hr3)
  have HX3 := q0h (HX2.out.next hx3)
  clear hr3 hx3
  go_wp2_with fail
  rw [rounds_succ]
  go_wp2_with fail
  refine (q2b HR3.out (tx [101, 110, 116])).mono ?_
  rintro e w4 ⟨rfl, hr4, hx4⟩
  rw [<- H3.out] at hr4 ⊢
  have HR4 := q0h (show RD B w4 g (q0w ts) lv from hr4)
  have HX4 := q0h (HX3.out.next hx4)
  clear hr4 hx4
  go_wp2_with fail
  go_ret
  exact ⟨_, rfl, rfl, HR4.out, HX4.out⟩
 have hr : r = .error (90, a) := by
  injection hp with hp
  exact hp.symm
 subst hr
 clear hp
 go_enter Tryz.func70, Tryz.ntmps70
 go_wp2_with fail
 refine wp_loop_rounds 5 ?_
 rw [rounds_succ]
 go_wp2_with fail
 refine (q2b HH.out (tx [105, 110, 116])).mono ?_
 rintro e w1 ⟨rfl, hr1, hx1⟩
 rw [<- H0.out] at hr1 ⊢
 have HR1 := q0h (show RD B w1 g ts lv from hr1)
 have HX1 := q0h (hx1)
 clear hr1 hx1
 go_wp2_with fail
 rw [rounds_succ]
 go_wp2_with fail
 refine (q2b HR1.out (tx [102, 105, 120])).mono ?_
 rintro e w2 ⟨rfl, hr2, hx2⟩
 rw [<- H1.out] at hr2 ⊢
 have HR2 := q0h (show RD B w2 g ts lv from hr2)
 have HX2 := q0h (HX1.out.next hx2)
 clear hr2 hx2
 go_wp2_with fail
 rw [rounds_succ]
 go_wp2_with fail
 refine (q2b HR2.out (tx [98, 111, 111, 108])).mono ?_
 rintro e w3 ⟨rfl, hr3, hx3⟩
 rw [<- H2.out] at hr3 ⊢
 have HR3 := q0h (show RD B w3 g ts lv from hr3)
 have HX3 := q0h (HX2.out.next hx3)
 clear hr3 hx3
 go_wp2_with fail
 rw [rounds_succ]
 go_wp2_with fail
 refine (q2b HR3.out (tx [101, 110, 116])).mono ?_
 rintro e w4 ⟨rfl, hr4, hx4⟩
 rw [<- H3.out] at hr4 ⊢
 have HR4 := q0h (show RD B w4 g ts lv from hr4)
 have HX4 := q0h (HX3.out.next hx4)
 clear hr4 hx4
 go_wp2_with fail
 rw [rounds_succ]
 go_wp2_with fail
 refine (q4a HR4.out 90 a HA.out).mono ?_
 rintro e w5 ⟨rfl, rfl⟩
 go_wp2_with fail
 exact ⟨rfl, rfl, HX4.out⟩
set_option linter.unusedSectionVars false
section
variable {P : Program} {ops : Array Oper} {Q : Exit -> Act -> World -> Prop} {md : Region.Mode} {S : World -> Prop} {d : Nat}
def q6o (P : Program) (md : Region.Mode) (ops : Array Oper) (Q : Exit -> Act -> World -> Prop) (S : World -> Prop) (d : Nat) : Nat -> Array Bool -> Act -> World -> Prop
 | 0, listed, a, w => Region.ready md ops listed = [] /\ Q .normal a w
 | fuel + 1, listed, a, w =>
  (Region.ready md ops listed = [] -> Q .normal a w) /\
  ∀ i ∈ Region.ready md ops listed, wpOp P ops Q i (fun a' w' => (i = d \/ S w') /\ q6o P md ops Q S d fuel (listed.setIfInBounds i true) a' w') a w
theorem z4c : ∀ (fuel : Nat) (listed : Array Bool) (a : Act) (w : World), q6o P md ops Q S d fuel listed a w -> wpAny P md ops Q fuel listed a w
 | 0, _, _, _, h => h
 | fuel + 1, _, _, _, h => ⟨h.1, fun i hi => wpOp_mono (fun a' w' h' => z4c fuel _ a' w' h'.2) (h.2 i hi)⟩
theorem z6q {i : Nat} {oi od : Oper} {v : Value} (hi : ops[i]? = some oi) (hd : ops[d]? = some od) (hdi : ∃ e ∈ od.after, Region.binds md e = true /\ e.on = i) (hne : d ≠ i) (hsel : ∀ (j : Nat) (o : Oper) cs b, ops[j]? = some o -> o.op ≠ .select cs b)
  (hQ : ∀ c a w, Q (.panic c) (a.put oi.dst v) w -> Q (.panic c) a w) :
  ∀ (fuel : Nat) (listed : Array Bool) (a : Act) (w : World),
   (∀ j oj, ops[j]? = some oj -> j ≠ i -> listed.getD j true = false -> (∀ e ∈ oj.after, Region.binds md e = true -> e.on ≠ i) -> oi.apart ops oj = true) ->
   i ∈ Region.ready md ops listed -> YieldsIf P ops S oi v a -> S w ->
   q6o P md ops Q S d fuel (listed.setIfInBounds i true) (a.put oi.dst v) w -> q6o P md ops Q S d (fuel + 1) listed a w := by
 intro fuel
 induction fuel with
 | zero =>
  intro listed a w _ hr hy hS H
  refine ⟨fun h => (by rw [h] at hr; cases hr), fun j hj => ?_⟩
  by_cases hji : j = i
  ·subst hji; exact hy.wpOp hi hS ⟨.inr hS, H⟩
  ·have := ready_mono hj hji
   rw [H.1] at this
   cases this
 | succ fuel ih =>
  intro listed a w hfree hr hy hS H
  refine ⟨fun h => (by rw [h] at hr; cases hr), fun j hj => ?_⟩
  by_cases hji : j = i
  ·subst hji; exact hy.wpOp hi hS ⟨.inr hS, H⟩
  ·have h1 := H.2 j (ready_mono hj hji)
   obtain ⟨hjun, oj, hoj, hall⟩ := mem_ready.1 hj
   have hnot : ∀ e ∈ oj.after, Region.binds md e = true -> e.on ≠ i := fun e he hb heq => by
    have h1 := hall e he hb
    have h0 := (mem_ready.1 hr).1
    rw [heq] at h1
    rcases Nat.lt_or_ge i listed.size with h' | h'
    ·simp [h'] at h0 h1; rw [h0] at h1; cases h1
    ·simp [Array.getElem?_eq_none h'] at h1
   have hjd : j ≠ d := by
    rintro rfl
    obtain ⟨e, he, hb, hon⟩ := hdi
    rw [hoj] at hd
    injection hd with hd
    subst hd
    exact hnot e he hb hon
   have h2 := wpOp_putIf hoj (hfree j oj hoj hji hjun hnot) (fun cs b => hsel i oi cs b hi) (fun cs b => hsel j oj cs b hoj) hQ hy h1
   have hfree' : ∀ k ok, ops[k]? = some ok -> k ≠ i -> (listed.setIfInBounds j true).getD k true = false ->
     (∀ e ∈ ok.after, Region.binds md e = true -> e.on ≠ i) -> oi.apart ops ok = true := fun k ok hk hki hun hno => by
    refine hfree k ok hk hki ?_ hno
    by_cases hjk : j = k
    ·subst hjk; exact hjun
    ·rw [getD_set_ne true hjk] at hun; exact hun
   refine wpOp_mono (fun a' w' h3 => ?_) h2
   have hS' : S w' := h3.2.1.resolve_left hjd
   refine ⟨.inr hS', ih (listed.setIfInBounds j true) a' w' hfree' (ready_mono hr (Ne.symm hji)) h3.1 hS' ?_⟩
   rw [Array.setIfInBounds_comm _ _ hji]
   exact h3.2.2
def z4d (md : Region.Mode) (ops : Array Oper) (d i : Nat) : Bool := match ops[d]? with
 | some od => od.after.any (fun e => Region.binds md e && e.on == i) && !(d == i)
 | none => false
theorem z8o {i : Nat} {oi : Oper} {v : Value} {fuel : Nat} {listed : Array Bool} {a : Act} {w : World} (hi : ops[i]? = some oi)
  (hs : Region.noSelect ops = true) (hf : Region.free md ops listed i = true) (hr : (Region.ready md ops listed).contains i = true) (hw : z4d md ops d i = true)
  (hQ : ∀ c a w, Q (.panic c) (a.put oi.dst v) w -> Q (.panic c) a w) (hS : S w) (hy : YieldsIf P ops S oi v a)
  (h : q6o P md ops Q S d fuel (listed.setIfInBounds i true) (a.put oi.dst v) w) : q6o P md ops Q S d (fuel + 1) listed a w := by
 unfold z4d at hw
 cases hd : ops[d]? with
 | none => rw [hd] at hw; cases hw
 | some od =>
  rw [hd] at hw
  simp only [Bool.and_eq_true, Bool.not_eq_true', beq_eq_false_iff_ne] at hw
  obtain ⟨e, he, hb⟩ := Array.any_eq_true'.1 hw.1
  simp only [Bool.and_eq_true, beq_iff_eq] at hb
  exact z6q hi hd ⟨e, he, hb.1, hb.2⟩ hw.2 (Region.noSelect_spec hs) hQ fuel listed a w (Region.free_spec hi hf) (by simpa using hr) hy hS h
theorem q7o (i : Nat) {oi : Oper} (v : Value) {fuel : Nat} {listed : Array Bool} {a : Act} {w : World} (hi : ops[i]? = some oi)
  (hb : (Region.noSelect ops && (Region.free md ops listed i && ((Region.ready md ops listed).contains i && z4d md ops d i))) = true)
  (hQ : ∀ c a w, Q (.panic c) (a.put oi.dst v) w -> Q (.panic c) a w) (hS : S w) (hw : Region.wanted oi (yielded ops a.tmps) = true) (hy : ∀ w, S w -> (execOp a.eval oi).run P w = .ok (.value v) w)
  (h : q6o P md ops Q S d fuel (listed.setIfInBounds i true) (a.put oi.dst v) w) : q6o P md ops Q S d (fuel + 1) listed a w := by
 rw [Bool.and_eq_true, Bool.and_eq_true, Bool.and_eq_true] at hb
 exact z8o hi hb.1 hb.2.1 hb.2.2.1 hb.2.2.2 hQ hS (.inl ⟨hw, hy⟩) h
theorem q8d {i : Nat} {oi : Oper} {fuel : Nat} {listed : Array Bool} {a : Act} {w : World} (hr : Region.ready md ops listed = [i]) (hi : ops[i]? = some oi)
  (h : ∀ K : Act -> World -> Prop, (∀ a' w', (i = d \/ S w') -> q6o P md ops Q S d fuel (listed.setIfInBounds i true) a' w' -> K a' w') -> if Region.wanted oi (yielded ops a.tmps) = true then Oper.wp P oi a w K Q else K (a.put oi.dst undef) w) :
  q6o P md ops Q S d (fuel + 1) listed a w := by
 refine ⟨fun h0 => (by rw [hr] at h0; cases h0), fun j hj => ?_⟩
 rw [hr] at hj
 obtain rfl : j = i := by simpa using hj
 have h1 := h (fun a' w' => (j = d \/ S w') /\ q6o P md ops Q S d fuel (listed.setIfInBounds j true) a' w') (fun a' w' h2 h3 => ⟨h2, h3⟩)
 unfold wpOp
 simp only [hi]
 split
 ·rename_i hw; rw [if_pos hw] at h1; exact .inl h1
 ·rename_i hw; rw [if_neg hw] at h1; exact h1
theorem z8p {listed : Array Bool} {a : Act} {w : World} (hr : Region.ready md ops listed = []) (h : Q .normal a w) : ∀ fuel, q6o P md ops Q S d fuel listed a w
 | 0 => ⟨hr, h⟩
 | _ + 1 => ⟨fun _ => h, by rw [hr]; simp⟩
theorem z8q {id : Nat} {a : Act} {w : World} (S : World -> Prop) (d : Nat) (hm : P.follows .mixedOrders = true)
  (h : ∀ W, Hid (W = w.drew) -> q6o P .any ops Q S d ops.size (Array.replicate ops.size false) a W) : (Code.region id ops true).wp P Q a w :=
 wp_region_any hm (z4c _ _ _ _ (h w.drew rfl))
end
end Go.Proofs.YtpfdhihbecpbeaaGreatDoor.E
