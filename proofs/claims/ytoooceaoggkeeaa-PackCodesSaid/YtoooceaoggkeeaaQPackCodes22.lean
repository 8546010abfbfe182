/- Proved: at every input in bounds the statement PackCodes of the pack layer answers yes: Encode, Parse and Same of any datagram and bytes, and of choices, are what the chapter says.
Text 22 of 30; functions told as plain ones, with the contracts of their calls. -/
import Derived.Test.YtoooceaoggkeeaaProg
import Derived.Below
import Derived.Deep.Draws
import Derived.Deep.AppendLies
import Derived.Maps.AppendAt
import Derived.OwnWalk
import Derived.Laws.BytesArg
import Derived.Laws.MakeOwn
import Derived.Laws.OwnMore
import Derived.Deep.OwnRows
import Derived.Tactics
import Derived.Lib.ConvBytes
import Derived.Laws.Slices
import Derived.WalkKit
import Derived.KernelRfl
import Derived.RowKit3
import Derived.Deep.LoopGhost
import Derived.Deep.QuietTactic
import Derived.BigQuiet
import Derived.WideLaws
import Derived.Deep.DeepCutAuto
import Derived.Deep.CutBlock
import Derived.Deep.RegionHeld3
import Derived.Laws.Rows
import Derived.Lib.AppendStr
import Derived.ArgAppend
import Derived.Laws.IdiomCopy
import Derived.OrdersHeld
import Derived.Laws.BitsLemmas
import Derived.RowKit
import Derived.Test.YtoooceaoggkeeaaQPackCodes1
import Derived.Test.YtoooceaoggkeeaaQPackCodes2
import Derived.Test.YtoooceaoggkeeaaQPackCodes3
import Derived.Test.YtoooceaoggkeeaaQPackCodes4
import Derived.Test.YtoooceaoggkeeaaQPackCodes5
import Derived.Test.YtoooceaoggkeeaaQPackCodes6
import Derived.Test.YtoooceaoggkeeaaQPackCodes7
import Derived.Test.YtoooceaoggkeeaaQPackCodes8
import Derived.Test.YtoooceaoggkeeaaQPackCodes9
import Derived.Test.YtoooceaoggkeeaaQPackCodes10
import Derived.Test.YtoooceaoggkeeaaQPackCodes11
import Derived.Test.YtoooceaoggkeeaaQPackCodes12
import Derived.Test.YtoooceaoggkeeaaQPackCodes13
import Derived.Test.YtoooceaoggkeeaaQPackCodes14
import Derived.Test.YtoooceaoggkeeaaQPackCodes15
import Derived.Test.YtoooceaoggkeeaaQPackCodes16
import Derived.Test.YtoooceaoggkeeaaQPackCodes17
import Derived.Test.YtoooceaoggkeeaaQPackCodes18
import Derived.Test.YtoooceaoggkeeaaQPackCodes19
import Derived.Test.YtoooceaoggkeeaaQPackCodes20
import Derived.Test.YtoooceaoggkeeaaQPackCodes21
import Derived.Laws.BitsAllLaws
import Derived.RangeFuncNested
import Derived.RangeFuncBound
import Derived.RangeFuncCalls
import Derived.RangeFuncLeaves
import Derived.Shelf.Abstract
import Derived.Shelf.RegionOpen
import Derived.OwnWalkIn
import Derived.TacticsInMore
import Derived.LoopNIn
import Derived.LoopIn
import Derived.MapKept
import Derived.WalkSpells
section
namespace Go.Proofs.Ytoooceaoggkeeaa.F
open Go.RowKit Go.Proofs.YtoooceaoggkeeaaW.PrintWords Go.Proofs.YtoooceaoggkeeaaW.PrintLast Go.Proofs.YtoooceaoggkeeaaW.PrintMore
attribute [local go_sem] max2_int min2_int max_two min_two max_three min_three max_four min_four   -- for this text's walks alone
set_option linter.unusedVariables false
set_option linter.unusedSimpArgs false



def errW : Option Int → Value
 | none => .nilIface
 | some c => .iface 0 (.int .i64 c)
theorem errW_none : errW none = .nilIface := rfl
theorem errW_some (c : Int) : errW (some c) = .iface 0 (.int .i64 c) := rfl

theorem info3 : (Try.prog.info? 3).map (fun i => (i.zero, i.size, i.bytes)) = some (some (.int .i64 0), 1, 8) := by kernel_rfl
theorem info5 : (Try.prog.info? 5).map (fun i => (i.zero, i.size, i.bytes)) = some (some (.int .u8 0), 1, 1) := by kernel_rfl
-- the values' own types
/-! #### struct type 28 -/
structure S28 where
 f0 : Int
 f1 : Int
 f2 : Int
 f3 : Int
 f4 : Int
 f5 : (List Int)
 f6 : (List Int)
end Go.Proofs.Ytoooceaoggkeeaa.F
end

section
namespace Go.Proofs.Ytoooceaoggkeeaa.F
open Go.RowKit Go.Proofs.YtoooceaoggkeeaaW.PrintWords Go.Proofs.YtoooceaoggkeeaaW.PrintLast Go.Proofs.YtoooceaoggkeeaaW.PrintMore
attribute [local go_sem] max2_int min2_int max_two min_two max_three min_three max_four min_four   -- for this text's walks alone
set_option linter.unusedVariables false
set_option linter.unusedSimpArgs false

/-! ### scullerref07_SameInts: function 28 -/
def scullerref07_SameInts.l0 : Nat → List Int → List Int → Int → Option (Bool)
 | 0, _, _, _ => none
 | k + 1, x0, x1, x5 => if x5 < (x0.length : Int) then (if 0 ≤ x5 then (if x5 < (x1.length : Int) then (if (rd x0 x5) = (rd x1 x5) then (scullerref07_SameInts.l0 k x0 x1 (wrap64 (x5 + 1))) else (some false)) else (none)) else (none)) else (some true)
def scullerref07_SameInts.f (k : Nat) (l0 : List Int) (l1 : List Int) : Option (Bool) := if (l0.length : Int) = (l1.length : Int) then (scullerref07_SameInts.l0 k l0 l1 0) else (some false)
theorem scullerref07_SameInts.mono_l : ∀ k, (∀ y0 y1 y2, LeO (scullerref07_SameInts.l0 k y0 y1 y2) (scullerref07_SameInts.l0 (k + 1) y0 y1 y2))
 | 0 => fun _ _ _ r h => by simp [scullerref07_SameInts.l0] at h
 | k + 1 => by
   have ih0 := scullerref07_SameInts.mono_l k
   · intro y0 y1 y2
     unfold scullerref07_SameInts.l0
     repeat' first
     | (with_reducible exact ih0 _ _ _)
     | (with_reducible exact LeO.refl _)
     | (with_reducible exact LeO.none _)
     | (with_reducible refine LeO.ite ?_ ?_)
     | (with_reducible refine LeO.bind ?_ (fun _ => ?_))
     | exact ih0 _ _ _
     | exact LeO.none _
     | refine LeO.ite ?_ ?_
     | refine LeO.bind ?_ (fun _ => ?_)
theorem scullerref07_SameInts.mono : ∀ a0 a1 k, LeO (scullerref07_SameInts.f k a0 a1) (scullerref07_SameInts.f (k + 1) a0 a1) := by
 intro a0 a1 k
 have ih0 := scullerref07_SameInts.mono_l k
 unfold scullerref07_SameInts.f
 repeat' first
  | (with_reducible exact ih0 _ _ _)
  | (with_reducible exact LeO.refl _)
  | (with_reducible exact LeO.none _)
  | (with_reducible refine LeO.ite ?_ ?_)
  | (with_reducible refine LeO.bind ?_ (fun _ => ?_))
  | exact ih0 _ _ _
  | exact LeO.none _
  | refine LeO.ite ?_ ?_
  | refine LeO.bind ?_ (fun _ => ?_)
set_option maxHeartbeats 8000000 in
set_option maxRecDepth 100000 in
theorem scullerref07_SameInts.calls (k : Nat) (A0 : Option Addr) (c0 : Nat) (l0 : List Int) (A1 : Option Addr) (c1 : Nat) (l1 : List Int) (r : Bool) (w : World) (hr0 : Kd.C (Kd.int .i64) w A0 l0.length l0) (hc0 : l0.length ≤ c0) (hr1 : Kd.C (Kd.int .i64) w A1 l1.length l1) (hc1 : l1.length ≤ c1) (h : scullerref07_SameInts.f k l0 l1 = some r) :
 Calls Try.prog 28 #[.slice A0 l0.length c0, .slice A1 l1.length c1] w fun e w' => e = .returned (.bool r) ∧ Drawn0 w w' := by
 have HR0 := Aside0.mk hr0
 have HC0 := Aside0.mk hc0
 clear hr0 hc0
 have HR1 := Aside0.mk hr1
 have HC1 := Aside0.mk hc1
 clear hr1 hc1
 have H : (if (l0.length : Int) = (l1.length : Int) then (scullerref07_SameInts.l0 k l0 l1 0) else (some false)) = some r := h
 clear h
 by_cases c3 : (l0.length : Int) = (l1.length : Int)
 · rw [if_pos c3] at H
   have c3b0 : ((l0.length : Int) == (l1.length : Int)) = true := beq_iff_eq.mpr c3
   have c3b1 : ((l0.length : Int) != (l1.length : Int)) = false := bne_eq_false_iff_eq.mpr c3
   have c3b2 : (l0.length == l1.length) = true := by first | simpa using c3 | (simp at c3 ⊢; omega)
   clear c3
   have H' := Aside0.mk H
   clear H
   go_enter Try.func28, Try.ntmps28
   go_wp2
   repeat (go_quiet (fail); try go_wp2)
   go_loopg [5] k (fun kq v5 w' => ∃ (x5_1 : Int), v5 = .int .i64 x5_1 ∧ Aside0 (scullerref07_SameInts.l0 kq l0 l1 x5_1 = some r) ∧ Aside0 (kq ≤ k) ∧ Drawn0 w w')
   case atStart => exact ⟨(0), (by first | rfl | (simp; done) | (simp [*]; done)), H', ⟨Nat.le_refl _⟩, by repeat (first | exact Drawn0.refl _ | apply Drawn0.step)⟩
   case round =>
    clear H'
    try clear c1
    try clear c2
    try clear p2
    try clear c3
    try clear c3b0
    try clear c3b1
    try clear c3b2
    obtain ⟨x5_1, rfl, HA, HK1, ⟨m1, rfl⟩⟩ := hrel
    cases gk with
    | zero => exact absurd HA.out (by simp [scullerref07_SameInts.l0])
    | succ k1 =>
      have H := HA.out
      clear HA
      simp only [scullerref07_SameInts.l0] at H
      by_cases c4 : x5_1 < (l0.length : Int)
      · rw [if_pos c4] at H
        have c4b0 : decide (x5_1 < (l0.length : Int)) = true := decide_eq_true c4
        clear c4
        by_cases c5 : 0 ≤ x5_1
        · rw [if_pos c5] at H
          have c5b0 : decide (0 ≤ x5_1) = true := decide_eq_true c5
          clear c5
          by_cases c6 : x5_1 < (l1.length : Int)
          · rw [if_pos c6] at H
            have c6b0 : decide (x5_1 < (l1.length : Int)) = true := decide_eq_true c6
            clear c6
            by_cases c7 : (rd l0 x5_1) = (rd l1 x5_1)
            · rw [if_pos c7] at H
              have c7b0 : ((rd l0 x5_1) == (rd l1 x5_1)) = true := beq_iff_eq.mpr c7
              have c7b1 : ((rd l0 x5_1) != (rd l1 x5_1)) = false := bne_eq_false_iff_eq.mpr c7
              clear c7
              have H' := Aside0.mk H
              clear H
              have p101 : 0 ≤ (x5_1 : Int) := of_decide_eq_true (by first | (with_reducible assumption) | assumption)
              have q101 : x5_1 < (l0.length : Int) := of_decide_eq_true (by first | (with_reducible assumption) | assumption)
              obtain ⟨ad101, e101, hx101_0⟩ := Kd.at_int HR0.out x5_1 p101 q101
              cases e101
              replace p101 := eq_true p101
              replace q101 := eq_true q101
              have p102 : 0 ≤ (x5_1 : Int) := of_decide_eq_true (by first | (with_reducible assumption) | assumption)
              have q102 : x5_1 < (l1.length : Int) := of_decide_eq_true (by first | (with_reducible assumption) | assumption)
              obtain ⟨ad102, e102, hx102_0⟩ := Kd.at_int HR1.out x5_1 p102 q102
              cases e102
              replace p102 := eq_true p102
              replace q102 := eq_true q102
              go_wp2
              repeat (go_quiet (fail); try go_wp2)
              go_roundg k1
              case measure => have := HK1.out; omega
              case rel => exact ⟨(wrap64 (x5_1 + 1)), (by first | rfl | (simp; done) | (simp [*]; done)), H', ⟨by have := HK1.out; omega⟩, by repeat (first | exact Drawn0.refl _ | apply Drawn0.step)⟩
            · rw [if_neg c7] at H
              have c7b0 : ((rd l0 x5_1) == (rd l1 x5_1)) = false := beq_eq_false_iff_ne.mpr c7
              have c7b1 : ((rd l0 x5_1) != (rd l1 x5_1)) = true := bne_iff_ne.mpr c7
              obtain rfl := Option.some.inj H
              have p101 : 0 ≤ (x5_1 : Int) := of_decide_eq_true (by first | (with_reducible assumption) | assumption)
              have q101 : x5_1 < (l0.length : Int) := of_decide_eq_true (by first | (with_reducible assumption) | assumption)
              obtain ⟨ad101, e101, hx101_0⟩ := Kd.at_int HR0.out x5_1 p101 q101
              cases e101
              replace p101 := eq_true p101
              replace q101 := eq_true q101
              have p102 : 0 ≤ (x5_1 : Int) := of_decide_eq_true (by first | (with_reducible assumption) | assumption)
              have q102 : x5_1 < (l1.length : Int) := of_decide_eq_true (by first | (with_reducible assumption) | assumption)
              obtain ⟨ad102, e102, hx102_0⟩ := Kd.at_int HR1.out x5_1 p102 q102
              cases e102
              replace p102 := eq_true p102
              replace q102 := eq_true q102
              go_wp2
              repeat (go_quiet (fail); try go_wp2)
              go_ret
              exact ⟨by first | rfl | (simp; done) | (simp [*]; done), by repeat (first | exact Drawn0.refl _ | apply Drawn0.step)⟩
          · rw [if_neg c6] at H
            exact absurd H (by simp)
        · rw [if_neg c5] at H
          exact absurd H (by simp)
      · rw [if_neg c4] at H
        have c4b0 : decide (x5_1 < (l0.length : Int)) = false := decide_eq_false c4
        clear c4
        obtain rfl := Option.some.inj H
        go_wp2
        repeat (go_quiet (fail); try go_wp2)
        go_ret
        exact ⟨by first | rfl | (simp; done) | (simp [*]; done), by repeat (first | exact Drawn0.refl _ | apply Drawn0.step)⟩
 · rw [if_neg c3] at H
   have c3b0 : ((l0.length : Int) == (l1.length : Int)) = false := beq_eq_false_iff_ne.mpr c3
   have c3b1 : ((l0.length : Int) != (l1.length : Int)) = true := bne_iff_ne.mpr c3
   have c3b2 : (l0.length == l1.length) = false := by first | simpa using c3 | (simp at c3 ⊢; omega)
   obtain rfl := Option.some.inj H
   go_enter Try.func28, Try.ntmps28
   go_wp2
   repeat (go_quiet (fail); try go_wp2)
   go_ret
   exact ⟨by first | rfl | (simp; done) | (simp [*]; done), by repeat (first | exact Drawn0.refl _ | apply Drawn0.step)⟩

end Go.Proofs.Ytoooceaoggkeeaa.F
end

section
/- Plain functions on lists and numbers: what the functions of the program compute. No program in sight. -/
namespace Go.Proofs.Ytoooceaoggkeeaa.H
theorem getD_toNat {α : Type} (l : List α) (d : α) (i : Nat) (h : i < l.length) : l.getD ((i : Int)).toNat d = l[i]'h := by
 simp [List.getD_eq_getElem?_getD, List.getElem?_eq_getElem h]
theorem drop_at {α : Type} (l : List α) (i : Nat) (h : i < l.length) : l.drop i = l[i]'h :: l.drop (i + 1) := List.drop_eq_getElem_cons h
theorem take_at {α : Type} (l : List α) (i : Nat) (h : i < l.length) : l.take (i + 1) = l.take i ++ [l[i]'h] := by
 rw [List.take_succ_eq_append_getElem h]

theorem decide_cons_eq {x y : Int} {xs ys : List Int} (h : x = y) : decide (x :: xs = y :: ys) = decide (xs = ys) := by subst h; simp
theorem decide_cons_ne {x y : Int} {xs ys : List Int} (h : ¬ x = y) : decide (x :: xs = y :: ys) = false := by simp [h]

/-! ### Layer 01 -/
/-- The m lowest bytes of n, the least first. -/
def putL (n : Int) (m : Nat) : List Int := (List.range m).map fun j => n / 2 ^ (8 * j) % 256
theorem putL_length (n : Int) (m : Nat) : (putL n m).length = m := by simp [putL]
theorem putL_zero (n : Int) : putL n 0 = [] := rfl
theorem pow8 (j : Nat) : (2 : Int) ^ (8 * (j + 1)) = 256 * 2 ^ (8 * j) := by
 rw [show 8 * (j + 1) = 8 * j + 8 from by omega, Int.pow_add]; omega
theorem putL_succ (n : Int) (m : Nat) : putL n (m + 1) = n % 256 :: putL (n / 256) m := by
 unfold putL
 rw [List.range_succ_eq_map, List.map_cons, List.map_map]
 congr 1
 · simp
 · apply List.map_congr_left
   intro j _
   simp only [Function.comp, Nat.succ_eq_add_one]
   rw [pow8, Int.ediv_ediv_of_nonneg (by omega)]
theorem putL_byte (n : Int) (m : Nat) : ∀ c ∈ putL n m, 0 ≤ c ∧ c ≤ 255 := by
 intro c hc
 simp only [putL, List.mem_map] at hc
 obtain ⟨j, _, rfl⟩ := hc
 omega
/-- How many bytes word.Put gives. -/
def putN (a1 : Int) : Nat := (max 0 (min a1 8)).toNat
theorem putN_le (a1 : Int) : putN a1 ≤ 8 := by unfold putN; omega
/-- A number out of its bytes, the least first. -/
def getL : List Int → Int
 | [] => 0
 | c :: cs => c + 256 * getL cs
def bytesB (l : List Int) : Bool := l.all fun c => decide (0 ≤ c) && decide (c ≤ 255)
theorem bytesB_at {l : List Int} (h : bytesB l = true) : ∀ c ∈ l, 0 ≤ c ∧ c ≤ 255 := by
 intro c hc
 have := List.all_eq_true.1 h c hc
 simpa using this
theorem bytesB_of {l : List Int} (h : ∀ c ∈ l, 0 ≤ c ∧ c ≤ 255) : bytesB l = true := by
 refine List.all_eq_true.2 fun c hc => ?_
 have := h c hc
 simpa using this
theorem bytesB_append {a b : List Int} : bytesB (a ++ b) = (bytesB a && bytesB b) := by simp [bytesB]
theorem bytesB_take {l : List Int} (h : bytesB l = true) (n : Nat) : bytesB (l.take n) = true := bytesB_of fun c hc => bytesB_at h c (List.mem_of_mem_take hc)
theorem bytesB_drop {l : List Int} (h : bytesB l = true) (n : Nat) : bytesB (l.drop n) = true := bytesB_of fun c hc => bytesB_at h c (List.mem_of_mem_drop hc)
theorem getL_bound : ∀ (n : Nat) (l : List Int), l.length ≤ n → (∀ c ∈ l, 0 ≤ c ∧ c ≤ 255) → 0 ≤ getL l ∧ getL l < 256 ^ n
 | n, [], _, _ => ⟨by simp [getL], by simpa [getL] using Int.pow_pos (by omega : (0 : Int) < 256)⟩
 | 0, c :: cs, hl, _ => by simp at hl
 | n + 1, c :: cs, hl, h => by
   have h1 := h c (by simp)
   have h2 := getL_bound n cs (by simpa using hl) (fun x hx => h x (by simp [hx]))
   simp only [getL, Int.pow_succ]
   omega
/-! ### Layer 07 -/
/-- Words of 64 bits, and not too many of them. -/
def u64B (x : Int) : Bool := decide (0 ≤ x) && decide (x < 18446744073709551616)
/-! ### The statements' own arenas -/
end Go.Proofs.Ytoooceaoggkeeaa.H
end

section
namespace Go.Proofs.Ytoooceaoggkeeaa.F
open Go.RowKit Go.Proofs.YtoooceaoggkeeaaW.PrintWords Go.Proofs.YtoooceaoggkeeaaW.PrintLast Go.Proofs.YtoooceaoggkeeaaW.PrintMore
attribute [local go_sem] max2_int min2_int max_two min_two max_three min_three max_four min_four   -- for this text's walks alone
set_option linter.unusedVariables false
set_option linter.unusedSimpArgs false

open Go.Proofs.Ytoooceaoggkeeaa.H
def scullerref07_SameInts_c.f (l0 l1 : List Int) : Option Bool := if l0.length ≤ 1000000 then some (decide (l0 = l1)) else none
theorem scullerref07_SameInts.l0_to (l m : List Int) (hl : l.length ≤ 1000000) (hm : l.length = m.length) : ∀ (d i : Nat), l.length - i = d → i ≤ l.length → ∃ k, scullerref07_SameInts.l0 k l m (i : Int) = some (decide (l.drop i = m.drop i))
 | 0, i, hd, hi => ⟨1, by simp only [scullerref07_SameInts.l0]; rw [if_neg (by omega), List.drop_of_length_le (by omega), List.drop_of_length_le (by omega)]; simp⟩
 | d + 1, i, hd, hi => by
   have hlt : i < l.length := by omega
   have hr : rd l i = l[i] := getD_toNat l 0 i hlt
   have hr2 : rd m i = m[i]'(by omega) := getD_toNat m 0 i (by omega)
   obtain ⟨k, hk⟩ := scullerref07_SameInts.l0_to l m hl hm d (i + 1) (by omega) (by omega)
   refine ⟨k + 1, ?_⟩
   simp only [scullerref07_SameInts.l0]
   rw [if_pos (by omega), if_pos (by omega), if_pos (by omega), hr, hr2, drop_at l i hlt, drop_at m i (by omega)]
   by_cases e : l[i] = m[i]'(by omega)
   · rw [if_pos e, show wrap64 ((i : Int) + 1) = ((i + 1 : Nat) : Int) from by unfold wrap64; omega, hk, decide_cons_eq e]
   · rw [if_neg e, decide_cons_ne e]
theorem scullerref07_SameInts_c.to {l0 l1 : List Int} {r : Bool} (h : scullerref07_SameInts_c.f l0 l1 = some r) : ∃ k, scullerref07_SameInts.f k l0 l1 = some r := by
 unfold scullerref07_SameInts_c.f at h
 split at h
 case isFalse => cases h
 case isTrue hl =>
 obtain rfl := Option.some.inj h
 unfold scullerref07_SameInts.f
 by_cases e : (l0.length : Int) = (l1.length : Int)
 · obtain ⟨k, hk⟩ := scullerref07_SameInts.l0_to l0 l1 hl (by omega) l0.length 0 (by omega) (by omega)
   exact ⟨k, by rw [if_pos e]; simpa using hk⟩
 · refine ⟨0, ?_⟩
   rw [if_neg e, decide_eq_false]
   rintro rfl
   exact e rfl

theorem scullerref07_SameInts_c.calls (A0 : Option Addr) (c0 : Nat) (l0 : List Int) (A1 : Option Addr) (c1 : Nat) (l1 : List Int) (r : Bool) (w : World) (hr0 : Kd.C (Kd.int .i64) w A0 l0.length l0) (hc0 : l0.length ≤ c0) (hr1 : Kd.C (Kd.int .i64) w A1 l1.length l1) (hc1 : l1.length ≤ c1) (h : scullerref07_SameInts_c.f l0 l1 = some r) :
 Calls Try.prog 28 #[.slice A0 l0.length c0, .slice A1 l1.length c1] w fun e w' => e = .returned (.bool r) ∧ Drawn0 w w' := by
 obtain ⟨k_, hk_⟩ := scullerref07_SameInts_c.to h
 exact scullerref07_SameInts.calls k_ A0 c0 l0 A1 c1 l1 r w hr0 hc0 hr1 hc1 hk_

end Go.Proofs.Ytoooceaoggkeeaa.F
end

section
namespace Go.Proofs.Ytoooceaoggkeeaa.F
open Go.RowKit Go.Proofs.YtoooceaoggkeeaaW.PrintWords Go.Proofs.YtoooceaoggkeeaaW.PrintLast Go.Proofs.YtoooceaoggkeeaaW.PrintMore
attribute [local go_sem] max2_int min2_int max_two min_two max_three min_three max_four min_four   -- for this text's walks alone
set_option linter.unusedVariables false
set_option linter.unusedSimpArgs false

/-! ### scullerref13_Same: function 12 -/
def scullerref13_Same.f (a0_0 : Int) (a0_1 : Int) (a0_2 : Int) (a0_3 : Int) (a0_4 : Int) (l0_5 : List Int) (l0_6 : List Int) (a1_0 : Int) (a1_1 : Int) (a1_2 : Int) (a1_3 : Int) (a1_4 : Int) (l1_5 : List Int) (l1_6 : List Int) : Option (Bool) := if a0_0 = a1_0 then (if a0_1 = a1_1 then (if a0_2 = a1_2 then (if a0_3 = a1_3 then (if a0_4 = a1_4 then ((scullerref07_SameInts_c.f l0_5 l1_5).bind fun t103 => (if t103 = true then (some ((strOfNums l0_6).toList == (strOfNums l1_6).toList)) else (some false))) else (some false)) else (some false)) else (some false)) else (some false)) else (some false)
set_option maxHeartbeats 8000000 in
set_option maxRecDepth 100000 in
theorem scullerref13_Same.calls (a0_0 : Int) (a0_1 : Int) (a0_2 : Int) (a0_3 : Int) (a0_4 : Int) (A0_5 : Option Addr) (c0_5 : Nat) (l0_5 : List Int) (A0_6 : Option Addr) (c0_6 : Nat) (l0_6 : List Int) (a1_0 : Int) (a1_1 : Int) (a1_2 : Int) (a1_3 : Int) (a1_4 : Int) (A1_5 : Option Addr) (c1_5 : Nat) (l1_5 : List Int) (A1_6 : Option Addr) (c1_6 : Nat) (l1_6 : List Int) (r : Bool) (w : World) (hr0_5 : Kd.C (Kd.int .i64) w A0_5 l0_5.length l0_5) (hc0_5 : l0_5.length ≤ c0_5) (hr0_6 : Kd.C (Kd.int .u8) w A0_6 l0_6.length l0_6) (hc0_6 : l0_6.length ≤ c0_6) (hr1_5 : Kd.C (Kd.int .i64) w A1_5 l1_5.length l1_5) (hc1_5 : l1_5.length ≤ c1_5) (hr1_6 : Kd.C (Kd.int .u8) w A1_6 l1_6.length l1_6) (hc1_6 : l1_6.length ≤ c1_6) (h : scullerref13_Same.f a0_0 a0_1 a0_2 a0_3 a0_4 l0_5 l0_6 a1_0 a1_1 a1_2 a1_3 a1_4 l1_5 l1_6 = some r) :
 Calls Try.prog 12 #[.agg #[.int .i64 a0_0, .int .u64 a0_1, .int .i64 a0_2, .int .i64 a0_3, .int .u32 a0_4, .slice A0_5 l0_5.length c0_5, .slice A0_6 l0_6.length c0_6], .agg #[.int .i64 a1_0, .int .u64 a1_1, .int .i64 a1_2, .int .i64 a1_3, .int .u32 a1_4, .slice A1_5 l1_5.length c1_5, .slice A1_6 l1_6.length c1_6]] w fun e w' => e = .returned (.bool r) ∧ Below w.heap.size w w' := by
 have hu28 := Try.underlying28
 have HR0_5 := Aside0.mk hr0_5
 have HC0_5 := Aside0.mk hc0_5
 clear hr0_5 hc0_5
 have HR0_6 := Aside0.mk hr0_6
 have HC0_6 := Aside0.mk hc0_6
 clear hr0_6 hc0_6
 have HR1_5 := Aside0.mk hr1_5
 have HC1_5 := Aside0.mk hc1_5
 clear hr1_5 hc1_5
 have HR1_6 := Aside0.mk hr1_6
 have HC1_6 := Aside0.mk hc1_6
 clear hr1_6 hc1_6
 have HB := Aside0.mk (Below.refl w.heap.size w)
 have H : (if a0_0 = a1_0 then (if a0_1 = a1_1 then (if a0_2 = a1_2 then (if a0_3 = a1_3 then (if a0_4 = a1_4 then ((scullerref07_SameInts_c.f l0_5 l1_5).bind fun t103 => (if t103 = true then (some ((strOfNums l0_6).toList == (strOfNums l1_6).toList)) else (some false))) else (some false)) else (some false)) else (some false)) else (some false)) else (some false)) = some r := h
 clear h
 by_cases c3 : a0_0 = a1_0
 · rw [if_pos c3] at H
   have c3b0 : (a0_0 == a1_0) = true := beq_iff_eq.mpr c3
   have c3b1 : (a0_0 != a1_0) = false := bne_eq_false_iff_eq.mpr c3
   clear c3
   by_cases c4 : a0_1 = a1_1
   · rw [if_pos c4] at H
     have c4b0 : (a0_1 == a1_1) = true := beq_iff_eq.mpr c4
     have c4b1 : (a0_1 != a1_1) = false := bne_eq_false_iff_eq.mpr c4
     clear c4
     by_cases c5 : a0_2 = a1_2
     · rw [if_pos c5] at H
       have c5b0 : (a0_2 == a1_2) = true := beq_iff_eq.mpr c5
       have c5b1 : (a0_2 != a1_2) = false := bne_eq_false_iff_eq.mpr c5
       clear c5
       by_cases c6 : a0_3 = a1_3
       · rw [if_pos c6] at H
         have c6b0 : (a0_3 == a1_3) = true := beq_iff_eq.mpr c6
         have c6b1 : (a0_3 != a1_3) = false := bne_eq_false_iff_eq.mpr c6
         clear c6
         by_cases c7 : a0_4 = a1_4
         · rw [if_pos c7] at H
           have c7b0 : (a0_4 == a1_4) = true := beq_iff_eq.mpr c7
           have c7b1 : (a0_4 != a1_4) = false := bne_eq_false_iff_eq.mpr c7
           clear c7
           replace H := Option.bind_eq_some_iff.mp H
           obtain ⟨t103, A80, H⟩ := H
           replace H : (if t103 = true then (some ((strOfNums l0_6).toList == (strOfNums l1_6).toList)) else (some false)) = some r := H
           have A8 := Aside0.mk A80
           clear A80
           by_cases c9 : t103 = true
           · subst c9
             have H1 : (some ((strOfNums l0_6).toList == (strOfNums l1_6).toList)) = some r := by rw [if_pos rfl] at H; exact H
             clear H
             have H := H1
             clear H1
             obtain rfl := Option.some.inj H
             go_enter Try.func12, Try.ntmps12
             go_wp2_with (first | ((with_reducible refine gate_dst (N := 2) rfl ?_); refine box_event ?hg (N := 2) ?hd (cs := #[.int .i64 a0_0, .int .u64 a0_1, .int .i64 a0_2, .int .i64 a0_3, .int .u32 a0_4, .slice A0_5 l0_5.length c0_5, .slice A0_6 l0_6.length c0_6]) (t := 28) ?hr ?_; (case hd => rfl); (case hg => rfl); (case hr => first | (go_simp; done) | (go_simp; rfl)); intro gb101 hg w10 hbox hb; have n0_ := Aside0.mk (below_step (by repeat (first | (with_reducible first | exact HB.out | apply below_alloc | apply pw_below_drewN | apply below_drew1) | exact HB.out)) hb); have n1_ := Aside0.mk (hbox); have n2_ := Aside0.mk ((by rw [hg]; exact (below_size (by repeat (first | (with_reducible first | exact HB.out | apply below_alloc | apply pw_below_drewN | apply below_drew1) | exact HB.out))) : w.heap.size ≤ gb101)); have n3_ := Aside0.mk ((by rw [hg]; exact (below_size (by repeat (first | (with_reducible first | exact HB.out | apply below_alloc | apply pw_below_drewN | apply below_drew1) | exact HB.out))) : w.heap.size ≤ gb101)); clear HB; have HB := n0_; have BK101 := n1_; have GW101 := n2_; have GE101 := n3_; clear n0_ n1_ n2_ n3_; clear hb hbox hg) | ((with_reducible refine gate_dst (N := 3) rfl ?_); refine box_event ?hg (N := 3) ?hd (cs := #[.int .i64 a1_0, .int .u64 a1_1, .int .i64 a1_2, .int .i64 a1_3, .int .u32 a1_4, .slice A1_5 l1_5.length c1_5, .slice A1_6 l1_6.length c1_6]) (t := 28) ?hr ?_; (case hd => rfl); (case hg => rfl); (case hr => first | (go_simp; done) | (go_simp; rfl)); intro gb102 hg w11 hbox hb; have n0_ := Aside0.mk (blk_below (g := gb101) (o := .cells #[.int .i64 a0_0, .int .u64 a0_1, .int .i64 a0_2, .int .i64 a0_3, .int .u32 a0_4, .slice A0_5 l0_5.length c0_5, .slice A0_6 l0_6.length c0_6] 28 (0, 0)) (by (with_reducible repeat (first | refine blk_drewN ?_ _ | refine blk_drew ?_ | refine blk_alloc ?_ _)); exact BK101.out) hb); have n1_ := Aside0.mk (below_step (by repeat (first | (with_reducible first | exact HB.out | apply below_alloc | apply pw_below_drewN | apply below_drew1 | refine below_set ?_ GE101.out) | exact HB.out)) hb); have n2_ := Aside0.mk (hbox); have n3_ := Aside0.mk ((by rw [hg]; exact (below_size (by repeat (first | (with_reducible first | exact HB.out | apply below_alloc | apply pw_below_drewN | apply below_drew1 | refine below_set ?_ GE101.out) | exact HB.out))) : w.heap.size ≤ gb102)); have n4_ := Aside0.mk ((by rw [hg]; exact (below_size (by repeat (first | (with_reducible first | exact HB.out | apply below_alloc | apply pw_below_drewN | apply below_drew1 | refine below_set ?_ GE101.out) | exact HB.out))) : w.heap.size ≤ gb102)); have n5_ := Aside0.mk ((by rw [hg]; exact Nat.ne_of_lt (blk_lt (g := gb101) (o := .cells #[.int .i64 a0_0, .int .u64 a0_1, .int .i64 a0_2, .int .i64 a0_3, .int .u32 a0_4, .slice A0_5 l0_5.length c0_5, .slice A0_6 l0_6.length c0_6] 28 (0, 0)) (by (with_reducible repeat (first | refine blk_drewN ?_ _ | refine blk_drew ?_ | refine blk_alloc ?_ _)); exact BK101.out)) : gb101 ≠ gb102)); have n6_ := Aside0.mk ((by rw [hg]; exact Nat.ne_of_gt (blk_lt (g := gb101) (o := .cells #[.int .i64 a0_0, .int .u64 a0_1, .int .i64 a0_2, .int .i64 a0_3, .int .u32 a0_4, .slice A0_5 l0_5.length c0_5, .slice A0_6 l0_6.length c0_6] 28 (0, 0)) (by (with_reducible repeat (first | refine blk_drewN ?_ _ | refine blk_drew ?_ | refine blk_alloc ?_ _)); exact BK101.out)) : gb102 ≠ gb101)); clear BK101; clear HB; have BK101 := n0_; have HB := n1_; have BK102 := n2_; have GW102 := n3_; have GE102 := n4_; have NB101_102 := n5_; have NB102_101 := n6_; clear n0_ n1_ n2_ n3_ n4_ n5_ n6_; clear hb hbox hg; have hnb12 := NB101_102.out; have hnc12 := NB102_101.out; have hcz13_0 : w11.cell? ⟨gb101, 0, none⟩ = some (.int .i64 a0_0) := (blk_cell BK101.out 0).trans rfl; have hcz13_1 : w11.cell? ⟨gb101, 1, none⟩ = some (.int .u64 a0_1) := (blk_cell BK101.out 1).trans rfl; have hcz13_2 : w11.cell? ⟨gb101, 2, none⟩ = some (.int .i64 a0_2) := (blk_cell BK101.out 2).trans rfl; have hcz13_3 : w11.cell? ⟨gb101, 3, none⟩ = some (.int .i64 a0_3) := (blk_cell BK101.out 3).trans rfl; have hcz13_4 : w11.cell? ⟨gb101, 4, none⟩ = some (.int .u32 a0_4) := (blk_cell BK101.out 4).trans rfl; have hcz13_5 : w11.cell? ⟨gb101, 5, none⟩ = some (.slice A0_5 l0_5.length c0_5) := (blk_cell BK101.out 5).trans rfl; have hcz13_6 : w11.cell? ⟨gb101, 6, none⟩ = some (.slice A0_6 l0_6.length c0_6) := (blk_cell BK101.out 6).trans rfl; have hfz13_0 := blk_frozen BK101.out 0; have hfz13_1 := blk_frozen BK101.out 1; have hfz13_2 := blk_frozen BK101.out 2; have hfz13_3 := blk_frozen BK101.out 3; have hfz13_4 := blk_frozen BK101.out 4; have hfz13_5 := blk_frozen BK101.out 5; have hfz13_6 := blk_frozen BK101.out 6; have hcz14_0 : w11.cell? ⟨gb102, 0, none⟩ = some (.int .i64 a1_0) := (blk_cell BK102.out 0).trans rfl; have hcz14_1 : w11.cell? ⟨gb102, 1, none⟩ = some (.int .u64 a1_1) := (blk_cell BK102.out 1).trans rfl; have hcz14_2 : w11.cell? ⟨gb102, 2, none⟩ = some (.int .i64 a1_2) := (blk_cell BK102.out 2).trans rfl; have hcz14_3 : w11.cell? ⟨gb102, 3, none⟩ = some (.int .i64 a1_3) := (blk_cell BK102.out 3).trans rfl; have hcz14_4 : w11.cell? ⟨gb102, 4, none⟩ = some (.int .u32 a1_4) := (blk_cell BK102.out 4).trans rfl; have hcz14_5 : w11.cell? ⟨gb102, 5, none⟩ = some (.slice A1_5 l1_5.length c1_5) := (blk_cell BK102.out 5).trans rfl; have hcz14_6 : w11.cell? ⟨gb102, 6, none⟩ = some (.slice A1_6 l1_6.length c1_6) := (blk_cell BK102.out 6).trans rfl; have hfz14_0 := blk_frozen BK102.out 0; have hfz14_1 := blk_frozen BK102.out 1; have hfz14_2 := blk_frozen BK102.out 2; have hfz14_3 := blk_frozen BK102.out 3; have hfz14_4 := blk_frozen BK102.out 4; have hfz14_5 := blk_frozen BK102.out 5; have hfz14_6 := blk_frozen BK102.out 6) | (go_at_call 28; (with_reducible refine (scullerref07_SameInts_c.calls _ _ l0_5 _ _ l1_5 true _ ?side1 ?side2 ?side3 ?side4 A8.out).mono ?_); (case side1 => repeat (first | exact (Kd.C_below HR0_5.out HB.out) | (with_reducible refine Kd.C_alloc ?_ _) | (with_reducible refine Kd.C_drewN ?_ _) | (with_reducible refine Kd.C_drew ?_))); (case side2 => exact HC0_5.out); (case side3 => repeat (first | exact (Kd.C_below HR1_5.out HB.out) | (with_reducible refine Kd.C_alloc ?_ _) | (with_reducible refine Kd.C_drewN ?_ _) | (with_reducible refine Kd.C_drew ?_))); (case side4 => exact HC1_5.out); rintro e w' ⟨rfl, ⟨nd, rfl⟩⟩; have hcv15 := Kd.C_string (P := Try.prog) (A := A0_6) (c := c0_6) Try.underlying25 Try.underlying5 Try.underlying9 (Kd.C_drewN (Kd.C_below HR0_6.out HB.out) nd); have hcv16 := Kd.C_string (P := Try.prog) (A := A1_6) (c := c1_6) Try.underlying25 Try.underlying5 Try.underlying9 (Kd.C_drewN (Kd.C_below HR1_6.out HB.out) nd)))
             go_ret
             exact ⟨by first | rfl | (simp [errW_none, errW_some] <;> rfl) | (simp [*, errW_none, errW_some] <;> rfl), by repeat (first | (with_reducible first | exact HB.out | apply below_alloc | apply pw_below_drewN | apply below_drew1 | refine below_set ?_ GE101.out | refine below_set ?_ GE102.out) | exact HB.out)⟩
           · replace c9 := Bool.eq_false_iff.mpr c9
             subst c9
             have H1 : (some false) = some r := by rw [if_neg (show ¬ (false = true) by decide)] at H; exact H
             clear H
             have H := H1
             clear H1
             obtain rfl := Option.some.inj H
             go_enter Try.func12, Try.ntmps12
             go_wp2_with (first | ((with_reducible refine gate_dst (N := 2) rfl ?_); refine box_event ?hg (N := 2) ?hd (cs := #[.int .i64 a0_0, .int .u64 a0_1, .int .i64 a0_2, .int .i64 a0_3, .int .u32 a0_4, .slice A0_5 l0_5.length c0_5, .slice A0_6 l0_6.length c0_6]) (t := 28) ?hr ?_; (case hd => rfl); (case hg => rfl); (case hr => first | (go_simp; done) | (go_simp; rfl)); intro gb101 hg w17 hbox hb; have n0_ := Aside0.mk (below_step (by repeat (first | (with_reducible first | exact HB.out | apply below_alloc | apply pw_below_drewN | apply below_drew1) | exact HB.out)) hb); have n1_ := Aside0.mk (hbox); have n2_ := Aside0.mk ((by rw [hg]; exact (below_size (by repeat (first | (with_reducible first | exact HB.out | apply below_alloc | apply pw_below_drewN | apply below_drew1) | exact HB.out))) : w.heap.size ≤ gb101)); have n3_ := Aside0.mk ((by rw [hg]; exact (below_size (by repeat (first | (with_reducible first | exact HB.out | apply below_alloc | apply pw_below_drewN | apply below_drew1) | exact HB.out))) : w.heap.size ≤ gb101)); clear HB; have HB := n0_; have BK101 := n1_; have GW101 := n2_; have GE101 := n3_; clear n0_ n1_ n2_ n3_; clear hb hbox hg) | ((with_reducible refine gate_dst (N := 3) rfl ?_); refine box_event ?hg (N := 3) ?hd (cs := #[.int .i64 a1_0, .int .u64 a1_1, .int .i64 a1_2, .int .i64 a1_3, .int .u32 a1_4, .slice A1_5 l1_5.length c1_5, .slice A1_6 l1_6.length c1_6]) (t := 28) ?hr ?_; (case hd => rfl); (case hg => rfl); (case hr => first | (go_simp; done) | (go_simp; rfl)); intro gb102 hg w18 hbox hb; have n0_ := Aside0.mk (blk_below (g := gb101) (o := .cells #[.int .i64 a0_0, .int .u64 a0_1, .int .i64 a0_2, .int .i64 a0_3, .int .u32 a0_4, .slice A0_5 l0_5.length c0_5, .slice A0_6 l0_6.length c0_6] 28 (0, 0)) (by (with_reducible repeat (first | refine blk_drewN ?_ _ | refine blk_drew ?_ | refine blk_alloc ?_ _)); exact BK101.out) hb); have n1_ := Aside0.mk (below_step (by repeat (first | (with_reducible first | exact HB.out | apply below_alloc | apply pw_below_drewN | apply below_drew1 | refine below_set ?_ GE101.out) | exact HB.out)) hb); have n2_ := Aside0.mk (hbox); have n3_ := Aside0.mk ((by rw [hg]; exact (below_size (by repeat (first | (with_reducible first | exact HB.out | apply below_alloc | apply pw_below_drewN | apply below_drew1 | refine below_set ?_ GE101.out) | exact HB.out))) : w.heap.size ≤ gb102)); have n4_ := Aside0.mk ((by rw [hg]; exact (below_size (by repeat (first | (with_reducible first | exact HB.out | apply below_alloc | apply pw_below_drewN | apply below_drew1 | refine below_set ?_ GE101.out) | exact HB.out))) : w.heap.size ≤ gb102)); have n5_ := Aside0.mk ((by rw [hg]; exact Nat.ne_of_lt (blk_lt (g := gb101) (o := .cells #[.int .i64 a0_0, .int .u64 a0_1, .int .i64 a0_2, .int .i64 a0_3, .int .u32 a0_4, .slice A0_5 l0_5.length c0_5, .slice A0_6 l0_6.length c0_6] 28 (0, 0)) (by (with_reducible repeat (first | refine blk_drewN ?_ _ | refine blk_drew ?_ | refine blk_alloc ?_ _)); exact BK101.out)) : gb101 ≠ gb102)); have n6_ := Aside0.mk ((by rw [hg]; exact Nat.ne_of_gt (blk_lt (g := gb101) (o := .cells #[.int .i64 a0_0, .int .u64 a0_1, .int .i64 a0_2, .int .i64 a0_3, .int .u32 a0_4, .slice A0_5 l0_5.length c0_5, .slice A0_6 l0_6.length c0_6] 28 (0, 0)) (by (with_reducible repeat (first | refine blk_drewN ?_ _ | refine blk_drew ?_ | refine blk_alloc ?_ _)); exact BK101.out)) : gb102 ≠ gb101)); clear BK101; clear HB; have BK101 := n0_; have HB := n1_; have BK102 := n2_; have GW102 := n3_; have GE102 := n4_; have NB101_102 := n5_; have NB102_101 := n6_; clear n0_ n1_ n2_ n3_ n4_ n5_ n6_; clear hb hbox hg; have hnb19 := NB101_102.out; have hnc19 := NB102_101.out; have hcz20_0 : w18.cell? ⟨gb101, 0, none⟩ = some (.int .i64 a0_0) := (blk_cell BK101.out 0).trans rfl; have hcz20_1 : w18.cell? ⟨gb101, 1, none⟩ = some (.int .u64 a0_1) := (blk_cell BK101.out 1).trans rfl; have hcz20_2 : w18.cell? ⟨gb101, 2, none⟩ = some (.int .i64 a0_2) := (blk_cell BK101.out 2).trans rfl; have hcz20_3 : w18.cell? ⟨gb101, 3, none⟩ = some (.int .i64 a0_3) := (blk_cell BK101.out 3).trans rfl; have hcz20_4 : w18.cell? ⟨gb101, 4, none⟩ = some (.int .u32 a0_4) := (blk_cell BK101.out 4).trans rfl; have hcz20_5 : w18.cell? ⟨gb101, 5, none⟩ = some (.slice A0_5 l0_5.length c0_5) := (blk_cell BK101.out 5).trans rfl; have hcz20_6 : w18.cell? ⟨gb101, 6, none⟩ = some (.slice A0_6 l0_6.length c0_6) := (blk_cell BK101.out 6).trans rfl; have hfz20_0 := blk_frozen BK101.out 0; have hfz20_1 := blk_frozen BK101.out 1; have hfz20_2 := blk_frozen BK101.out 2; have hfz20_3 := blk_frozen BK101.out 3; have hfz20_4 := blk_frozen BK101.out 4; have hfz20_5 := blk_frozen BK101.out 5; have hfz20_6 := blk_frozen BK101.out 6; have hcz21_0 : w18.cell? ⟨gb102, 0, none⟩ = some (.int .i64 a1_0) := (blk_cell BK102.out 0).trans rfl; have hcz21_1 : w18.cell? ⟨gb102, 1, none⟩ = some (.int .u64 a1_1) := (blk_cell BK102.out 1).trans rfl; have hcz21_2 : w18.cell? ⟨gb102, 2, none⟩ = some (.int .i64 a1_2) := (blk_cell BK102.out 2).trans rfl; have hcz21_3 : w18.cell? ⟨gb102, 3, none⟩ = some (.int .i64 a1_3) := (blk_cell BK102.out 3).trans rfl; have hcz21_4 : w18.cell? ⟨gb102, 4, none⟩ = some (.int .u32 a1_4) := (blk_cell BK102.out 4).trans rfl; have hcz21_5 : w18.cell? ⟨gb102, 5, none⟩ = some (.slice A1_5 l1_5.length c1_5) := (blk_cell BK102.out 5).trans rfl; have hcz21_6 : w18.cell? ⟨gb102, 6, none⟩ = some (.slice A1_6 l1_6.length c1_6) := (blk_cell BK102.out 6).trans rfl; have hfz21_0 := blk_frozen BK102.out 0; have hfz21_1 := blk_frozen BK102.out 1; have hfz21_2 := blk_frozen BK102.out 2; have hfz21_3 := blk_frozen BK102.out 3; have hfz21_4 := blk_frozen BK102.out 4; have hfz21_5 := blk_frozen BK102.out 5; have hfz21_6 := blk_frozen BK102.out 6) | (go_at_call 28; (with_reducible refine (scullerref07_SameInts_c.calls _ _ l0_5 _ _ l1_5 false _ ?side1 ?side2 ?side3 ?side4 A8.out).mono ?_); (case side1 => repeat (first | exact (Kd.C_below HR0_5.out HB.out) | (with_reducible refine Kd.C_alloc ?_ _) | (with_reducible refine Kd.C_drewN ?_ _) | (with_reducible refine Kd.C_drew ?_))); (case side2 => exact HC0_5.out); (case side3 => repeat (first | exact (Kd.C_below HR1_5.out HB.out) | (with_reducible refine Kd.C_alloc ?_ _) | (with_reducible refine Kd.C_drewN ?_ _) | (with_reducible refine Kd.C_drew ?_))); (case side4 => exact HC1_5.out); rintro e w' ⟨rfl, ⟨nd, rfl⟩⟩))
             go_ret
             exact ⟨by first | rfl | (simp [errW_none, errW_some] <;> rfl) | (simp [*, errW_none, errW_some] <;> rfl), by repeat (first | (with_reducible first | exact HB.out | apply below_alloc | apply pw_below_drewN | apply below_drew1 | refine below_set ?_ GE101.out | refine below_set ?_ GE102.out) | exact HB.out)⟩
         · rw [if_neg c7] at H
           have c7b0 : (a0_4 == a1_4) = false := beq_eq_false_iff_ne.mpr c7
           have c7b1 : (a0_4 != a1_4) = true := bne_iff_ne.mpr c7
           obtain rfl := Option.some.inj H
           go_enter Try.func12, Try.ntmps12
           go_wp2_with (first | ((with_reducible refine gate_dst (N := 2) rfl ?_); refine box_event ?hg (N := 2) ?hd (cs := #[.int .i64 a0_0, .int .u64 a0_1, .int .i64 a0_2, .int .i64 a0_3, .int .u32 a0_4, .slice A0_5 l0_5.length c0_5, .slice A0_6 l0_6.length c0_6]) (t := 28) ?hr ?_; (case hd => rfl); (case hg => rfl); (case hr => first | (go_simp; done) | (go_simp; rfl)); intro gb101 hg w22 hbox hb; have n0_ := Aside0.mk (below_step (by repeat (first | (with_reducible first | exact HB.out | apply below_alloc | apply pw_below_drewN | apply below_drew1) | exact HB.out)) hb); have n1_ := Aside0.mk (hbox); have n2_ := Aside0.mk ((by rw [hg]; exact (below_size (by repeat (first | (with_reducible first | exact HB.out | apply below_alloc | apply pw_below_drewN | apply below_drew1) | exact HB.out))) : w.heap.size ≤ gb101)); have n3_ := Aside0.mk ((by rw [hg]; exact (below_size (by repeat (first | (with_reducible first | exact HB.out | apply below_alloc | apply pw_below_drewN | apply below_drew1) | exact HB.out))) : w.heap.size ≤ gb101)); clear HB; have HB := n0_; have BK101 := n1_; have GW101 := n2_; have GE101 := n3_; clear n0_ n1_ n2_ n3_; clear hb hbox hg) | ((with_reducible refine gate_dst (N := 3) rfl ?_); refine box_event ?hg (N := 3) ?hd (cs := #[.int .i64 a1_0, .int .u64 a1_1, .int .i64 a1_2, .int .i64 a1_3, .int .u32 a1_4, .slice A1_5 l1_5.length c1_5, .slice A1_6 l1_6.length c1_6]) (t := 28) ?hr ?_; (case hd => rfl); (case hg => rfl); (case hr => first | (go_simp; done) | (go_simp; rfl)); intro gb102 hg w23 hbox hb; have n0_ := Aside0.mk (blk_below (g := gb101) (o := .cells #[.int .i64 a0_0, .int .u64 a0_1, .int .i64 a0_2, .int .i64 a0_3, .int .u32 a0_4, .slice A0_5 l0_5.length c0_5, .slice A0_6 l0_6.length c0_6] 28 (0, 0)) (by (with_reducible repeat (first | refine blk_drewN ?_ _ | refine blk_drew ?_ | refine blk_alloc ?_ _)); exact BK101.out) hb); have n1_ := Aside0.mk (below_step (by repeat (first | (with_reducible first | exact HB.out | apply below_alloc | apply pw_below_drewN | apply below_drew1 | refine below_set ?_ GE101.out) | exact HB.out)) hb); have n2_ := Aside0.mk (hbox); have n3_ := Aside0.mk ((by rw [hg]; exact (below_size (by repeat (first | (with_reducible first | exact HB.out | apply below_alloc | apply pw_below_drewN | apply below_drew1 | refine below_set ?_ GE101.out) | exact HB.out))) : w.heap.size ≤ gb102)); have n4_ := Aside0.mk ((by rw [hg]; exact (below_size (by repeat (first | (with_reducible first | exact HB.out | apply below_alloc | apply pw_below_drewN | apply below_drew1 | refine below_set ?_ GE101.out) | exact HB.out))) : w.heap.size ≤ gb102)); have n5_ := Aside0.mk ((by rw [hg]; exact Nat.ne_of_lt (blk_lt (g := gb101) (o := .cells #[.int .i64 a0_0, .int .u64 a0_1, .int .i64 a0_2, .int .i64 a0_3, .int .u32 a0_4, .slice A0_5 l0_5.length c0_5, .slice A0_6 l0_6.length c0_6] 28 (0, 0)) (by (with_reducible repeat (first | refine blk_drewN ?_ _ | refine blk_drew ?_ | refine blk_alloc ?_ _)); exact BK101.out)) : gb101 ≠ gb102)); have n6_ := Aside0.mk ((by rw [hg]; exact Nat.ne_of_gt (blk_lt (g := gb101) (o := .cells #[.int .i64 a0_0, .int .u64 a0_1, .int .i64 a0_2, .int .i64 a0_3, .int .u32 a0_4, .slice A0_5 l0_5.length c0_5, .slice A0_6 l0_6.length c0_6] 28 (0, 0)) (by (with_reducible repeat (first | refine blk_drewN ?_ _ | refine blk_drew ?_ | refine blk_alloc ?_ _)); exact BK101.out)) : gb102 ≠ gb101)); clear BK101; clear HB; have BK101 := n0_; have HB := n1_; have BK102 := n2_; have GW102 := n3_; have GE102 := n4_; have NB101_102 := n5_; have NB102_101 := n6_; clear n0_ n1_ n2_ n3_ n4_ n5_ n6_; clear hb hbox hg; have hnb24 := NB101_102.out; have hnc24 := NB102_101.out; have hcz25_0 : w23.cell? ⟨gb101, 0, none⟩ = some (.int .i64 a0_0) := (blk_cell BK101.out 0).trans rfl; have hcz25_1 : w23.cell? ⟨gb101, 1, none⟩ = some (.int .u64 a0_1) := (blk_cell BK101.out 1).trans rfl; have hcz25_2 : w23.cell? ⟨gb101, 2, none⟩ = some (.int .i64 a0_2) := (blk_cell BK101.out 2).trans rfl; have hcz25_3 : w23.cell? ⟨gb101, 3, none⟩ = some (.int .i64 a0_3) := (blk_cell BK101.out 3).trans rfl; have hcz25_4 : w23.cell? ⟨gb101, 4, none⟩ = some (.int .u32 a0_4) := (blk_cell BK101.out 4).trans rfl; have hcz25_5 : w23.cell? ⟨gb101, 5, none⟩ = some (.slice A0_5 l0_5.length c0_5) := (blk_cell BK101.out 5).trans rfl; have hcz25_6 : w23.cell? ⟨gb101, 6, none⟩ = some (.slice A0_6 l0_6.length c0_6) := (blk_cell BK101.out 6).trans rfl; have hfz25_0 := blk_frozen BK101.out 0; have hfz25_1 := blk_frozen BK101.out 1; have hfz25_2 := blk_frozen BK101.out 2; have hfz25_3 := blk_frozen BK101.out 3; have hfz25_4 := blk_frozen BK101.out 4; have hfz25_5 := blk_frozen BK101.out 5; have hfz25_6 := blk_frozen BK101.out 6; have hcz26_0 : w23.cell? ⟨gb102, 0, none⟩ = some (.int .i64 a1_0) := (blk_cell BK102.out 0).trans rfl; have hcz26_1 : w23.cell? ⟨gb102, 1, none⟩ = some (.int .u64 a1_1) := (blk_cell BK102.out 1).trans rfl; have hcz26_2 : w23.cell? ⟨gb102, 2, none⟩ = some (.int .i64 a1_2) := (blk_cell BK102.out 2).trans rfl; have hcz26_3 : w23.cell? ⟨gb102, 3, none⟩ = some (.int .i64 a1_3) := (blk_cell BK102.out 3).trans rfl; have hcz26_4 : w23.cell? ⟨gb102, 4, none⟩ = some (.int .u32 a1_4) := (blk_cell BK102.out 4).trans rfl; have hcz26_5 : w23.cell? ⟨gb102, 5, none⟩ = some (.slice A1_5 l1_5.length c1_5) := (blk_cell BK102.out 5).trans rfl; have hcz26_6 : w23.cell? ⟨gb102, 6, none⟩ = some (.slice A1_6 l1_6.length c1_6) := (blk_cell BK102.out 6).trans rfl; have hfz26_0 := blk_frozen BK102.out 0; have hfz26_1 := blk_frozen BK102.out 1; have hfz26_2 := blk_frozen BK102.out 2; have hfz26_3 := blk_frozen BK102.out 3; have hfz26_4 := blk_frozen BK102.out 4; have hfz26_5 := blk_frozen BK102.out 5; have hfz26_6 := blk_frozen BK102.out 6))
           go_ret
           exact ⟨by first | rfl | (simp [errW_none, errW_some] <;> rfl) | (simp [*, errW_none, errW_some] <;> rfl), by repeat (first | (with_reducible first | exact HB.out | apply below_alloc | apply pw_below_drewN | apply below_drew1 | refine below_set ?_ GE101.out | refine below_set ?_ GE102.out) | exact HB.out)⟩
       · rw [if_neg c6] at H
         have c6b0 : (a0_3 == a1_3) = false := beq_eq_false_iff_ne.mpr c6
         have c6b1 : (a0_3 != a1_3) = true := bne_iff_ne.mpr c6
         obtain rfl := Option.some.inj H
         go_enter Try.func12, Try.ntmps12
         go_wp2_with (first | ((with_reducible refine gate_dst (N := 2) rfl ?_); refine box_event ?hg (N := 2) ?hd (cs := #[.int .i64 a0_0, .int .u64 a0_1, .int .i64 a0_2, .int .i64 a0_3, .int .u32 a0_4, .slice A0_5 l0_5.length c0_5, .slice A0_6 l0_6.length c0_6]) (t := 28) ?hr ?_; (case hd => rfl); (case hg => rfl); (case hr => first | (go_simp; done) | (go_simp; rfl)); intro gb101 hg w27 hbox hb; have n0_ := Aside0.mk (below_step (by repeat (first | (with_reducible first | exact HB.out | apply below_alloc | apply pw_below_drewN | apply below_drew1) | exact HB.out)) hb); have n1_ := Aside0.mk (hbox); have n2_ := Aside0.mk ((by rw [hg]; exact (below_size (by repeat (first | (with_reducible first | exact HB.out | apply below_alloc | apply pw_below_drewN | apply below_drew1) | exact HB.out))) : w.heap.size ≤ gb101)); have n3_ := Aside0.mk ((by rw [hg]; exact (below_size (by repeat (first | (with_reducible first | exact HB.out | apply below_alloc | apply pw_below_drewN | apply below_drew1) | exact HB.out))) : w.heap.size ≤ gb101)); clear HB; have HB := n0_; have BK101 := n1_; have GW101 := n2_; have GE101 := n3_; clear n0_ n1_ n2_ n3_; clear hb hbox hg) | ((with_reducible refine gate_dst (N := 3) rfl ?_); refine box_event ?hg (N := 3) ?hd (cs := #[.int .i64 a1_0, .int .u64 a1_1, .int .i64 a1_2, .int .i64 a1_3, .int .u32 a1_4, .slice A1_5 l1_5.length c1_5, .slice A1_6 l1_6.length c1_6]) (t := 28) ?hr ?_; (case hd => rfl); (case hg => rfl); (case hr => first | (go_simp; done) | (go_simp; rfl)); intro gb102 hg w28 hbox hb; have n0_ := Aside0.mk (blk_below (g := gb101) (o := .cells #[.int .i64 a0_0, .int .u64 a0_1, .int .i64 a0_2, .int .i64 a0_3, .int .u32 a0_4, .slice A0_5 l0_5.length c0_5, .slice A0_6 l0_6.length c0_6] 28 (0, 0)) (by (with_reducible repeat (first | refine blk_drewN ?_ _ | refine blk_drew ?_ | refine blk_alloc ?_ _)); exact BK101.out) hb); have n1_ := Aside0.mk (below_step (by repeat (first | (with_reducible first | exact HB.out | apply below_alloc | apply pw_below_drewN | apply below_drew1 | refine below_set ?_ GE101.out) | exact HB.out)) hb); have n2_ := Aside0.mk (hbox); have n3_ := Aside0.mk ((by rw [hg]; exact (below_size (by repeat (first | (with_reducible first | exact HB.out | apply below_alloc | apply pw_below_drewN | apply below_drew1 | refine below_set ?_ GE101.out) | exact HB.out))) : w.heap.size ≤ gb102)); have n4_ := Aside0.mk ((by rw [hg]; exact (below_size (by repeat (first | (with_reducible first | exact HB.out | apply below_alloc | apply pw_below_drewN | apply below_drew1 | refine below_set ?_ GE101.out) | exact HB.out))) : w.heap.size ≤ gb102)); have n5_ := Aside0.mk ((by rw [hg]; exact Nat.ne_of_lt (blk_lt (g := gb101) (o := .cells #[.int .i64 a0_0, .int .u64 a0_1, .int .i64 a0_2, .int .i64 a0_3, .int .u32 a0_4, .slice A0_5 l0_5.length c0_5, .slice A0_6 l0_6.length c0_6] 28 (0, 0)) (by (with_reducible repeat (first | refine blk_drewN ?_ _ | refine blk_drew ?_ | refine blk_alloc ?_ _)); exact BK101.out)) : gb101 ≠ gb102)); have n6_ := Aside0.mk ((by rw [hg]; exact Nat.ne_of_gt (blk_lt (g := gb101) (o := .cells #[.int .i64 a0_0, .int .u64 a0_1, .int .i64 a0_2, .int .i64 a0_3, .int .u32 a0_4, .slice A0_5 l0_5.length c0_5, .slice A0_6 l0_6.length c0_6] 28 (0, 0)) (by (with_reducible repeat (first | refine blk_drewN ?_ _ | refine blk_drew ?_ | refine blk_alloc ?_ _)); exact BK101.out)) : gb102 ≠ gb101)); clear BK101; clear HB; have BK101 := n0_; have HB := n1_; have BK102 := n2_; have GW102 := n3_; have GE102 := n4_; have NB101_102 := n5_; have NB102_101 := n6_; clear n0_ n1_ n2_ n3_ n4_ n5_ n6_; clear hb hbox hg; have hnb29 := NB101_102.out; have hnc29 := NB102_101.out; have hcz30_0 : w28.cell? ⟨gb101, 0, none⟩ = some (.int .i64 a0_0) := (blk_cell BK101.out 0).trans rfl; have hcz30_1 : w28.cell? ⟨gb101, 1, none⟩ = some (.int .u64 a0_1) := (blk_cell BK101.out 1).trans rfl; have hcz30_2 : w28.cell? ⟨gb101, 2, none⟩ = some (.int .i64 a0_2) := (blk_cell BK101.out 2).trans rfl; have hcz30_3 : w28.cell? ⟨gb101, 3, none⟩ = some (.int .i64 a0_3) := (blk_cell BK101.out 3).trans rfl; have hcz30_4 : w28.cell? ⟨gb101, 4, none⟩ = some (.int .u32 a0_4) := (blk_cell BK101.out 4).trans rfl; have hcz30_5 : w28.cell? ⟨gb101, 5, none⟩ = some (.slice A0_5 l0_5.length c0_5) := (blk_cell BK101.out 5).trans rfl; have hcz30_6 : w28.cell? ⟨gb101, 6, none⟩ = some (.slice A0_6 l0_6.length c0_6) := (blk_cell BK101.out 6).trans rfl; have hfz30_0 := blk_frozen BK101.out 0; have hfz30_1 := blk_frozen BK101.out 1; have hfz30_2 := blk_frozen BK101.out 2; have hfz30_3 := blk_frozen BK101.out 3; have hfz30_4 := blk_frozen BK101.out 4; have hfz30_5 := blk_frozen BK101.out 5; have hfz30_6 := blk_frozen BK101.out 6; have hcz31_0 : w28.cell? ⟨gb102, 0, none⟩ = some (.int .i64 a1_0) := (blk_cell BK102.out 0).trans rfl; have hcz31_1 : w28.cell? ⟨gb102, 1, none⟩ = some (.int .u64 a1_1) := (blk_cell BK102.out 1).trans rfl; have hcz31_2 : w28.cell? ⟨gb102, 2, none⟩ = some (.int .i64 a1_2) := (blk_cell BK102.out 2).trans rfl; have hcz31_3 : w28.cell? ⟨gb102, 3, none⟩ = some (.int .i64 a1_3) := (blk_cell BK102.out 3).trans rfl; have hcz31_4 : w28.cell? ⟨gb102, 4, none⟩ = some (.int .u32 a1_4) := (blk_cell BK102.out 4).trans rfl; have hcz31_5 : w28.cell? ⟨gb102, 5, none⟩ = some (.slice A1_5 l1_5.length c1_5) := (blk_cell BK102.out 5).trans rfl; have hcz31_6 : w28.cell? ⟨gb102, 6, none⟩ = some (.slice A1_6 l1_6.length c1_6) := (blk_cell BK102.out 6).trans rfl; have hfz31_0 := blk_frozen BK102.out 0; have hfz31_1 := blk_frozen BK102.out 1; have hfz31_2 := blk_frozen BK102.out 2; have hfz31_3 := blk_frozen BK102.out 3; have hfz31_4 := blk_frozen BK102.out 4; have hfz31_5 := blk_frozen BK102.out 5; have hfz31_6 := blk_frozen BK102.out 6))
         go_ret
         exact ⟨by first | rfl | (simp [errW_none, errW_some] <;> rfl) | (simp [*, errW_none, errW_some] <;> rfl), by repeat (first | (with_reducible first | exact HB.out | apply below_alloc | apply pw_below_drewN | apply below_drew1 | refine below_set ?_ GE101.out | refine below_set ?_ GE102.out) | exact HB.out)⟩
     · rw [if_neg c5] at H
       have c5b0 : (a0_2 == a1_2) = false := beq_eq_false_iff_ne.mpr c5
       have c5b1 : (a0_2 != a1_2) = true := bne_iff_ne.mpr c5
       obtain rfl := Option.some.inj H
       go_enter Try.func12, Try.ntmps12
       go_wp2_with (first | ((with_reducible refine gate_dst (N := 2) rfl ?_); refine box_event ?hg (N := 2) ?hd (cs := #[.int .i64 a0_0, .int .u64 a0_1, .int .i64 a0_2, .int .i64 a0_3, .int .u32 a0_4, .slice A0_5 l0_5.length c0_5, .slice A0_6 l0_6.length c0_6]) (t := 28) ?hr ?_; (case hd => rfl); (case hg => rfl); (case hr => first | (go_simp; done) | (go_simp; rfl)); intro gb101 hg w32 hbox hb; have n0_ := Aside0.mk (below_step (by repeat (first | (with_reducible first | exact HB.out | apply below_alloc | apply pw_below_drewN | apply below_drew1) | exact HB.out)) hb); have n1_ := Aside0.mk (hbox); have n2_ := Aside0.mk ((by rw [hg]; exact (below_size (by repeat (first | (with_reducible first | exact HB.out | apply below_alloc | apply pw_below_drewN | apply below_drew1) | exact HB.out))) : w.heap.size ≤ gb101)); have n3_ := Aside0.mk ((by rw [hg]; exact (below_size (by repeat (first | (with_reducible first | exact HB.out | apply below_alloc | apply pw_below_drewN | apply below_drew1) | exact HB.out))) : w.heap.size ≤ gb101)); clear HB; have HB := n0_; have BK101 := n1_; have GW101 := n2_; have GE101 := n3_; clear n0_ n1_ n2_ n3_; clear hb hbox hg) | ((with_reducible refine gate_dst (N := 3) rfl ?_); refine box_event ?hg (N := 3) ?hd (cs := #[.int .i64 a1_0, .int .u64 a1_1, .int .i64 a1_2, .int .i64 a1_3, .int .u32 a1_4, .slice A1_5 l1_5.length c1_5, .slice A1_6 l1_6.length c1_6]) (t := 28) ?hr ?_; (case hd => rfl); (case hg => rfl); (case hr => first | (go_simp; done) | (go_simp; rfl)); intro gb102 hg w33 hbox hb; have n0_ := Aside0.mk (blk_below (g := gb101) (o := .cells #[.int .i64 a0_0, .int .u64 a0_1, .int .i64 a0_2, .int .i64 a0_3, .int .u32 a0_4, .slice A0_5 l0_5.length c0_5, .slice A0_6 l0_6.length c0_6] 28 (0, 0)) (by (with_reducible repeat (first | refine blk_drewN ?_ _ | refine blk_drew ?_ | refine blk_alloc ?_ _)); exact BK101.out) hb); have n1_ := Aside0.mk (below_step (by repeat (first | (with_reducible first | exact HB.out | apply below_alloc | apply pw_below_drewN | apply below_drew1 | refine below_set ?_ GE101.out) | exact HB.out)) hb); have n2_ := Aside0.mk (hbox); have n3_ := Aside0.mk ((by rw [hg]; exact (below_size (by repeat (first | (with_reducible first | exact HB.out | apply below_alloc | apply pw_below_drewN | apply below_drew1 | refine below_set ?_ GE101.out) | exact HB.out))) : w.heap.size ≤ gb102)); have n4_ := Aside0.mk ((by rw [hg]; exact (below_size (by repeat (first | (with_reducible first | exact HB.out | apply below_alloc | apply pw_below_drewN | apply below_drew1 | refine below_set ?_ GE101.out) | exact HB.out))) : w.heap.size ≤ gb102)); have n5_ := Aside0.mk ((by rw [hg]; exact Nat.ne_of_lt (blk_lt (g := gb101) (o := .cells #[.int .i64 a0_0, .int .u64 a0_1, .int .i64 a0_2, .int .i64 a0_3, .int .u32 a0_4, .slice A0_5 l0_5.length c0_5, .slice A0_6 l0_6.length c0_6] 28 (0, 0)) (by (with_reducible repeat (first | refine blk_drewN ?_ _ | refine blk_drew ?_ | refine blk_alloc ?_ _)); exact BK101.out)) : gb101 ≠ gb102)); have n6_ := Aside0.mk ((by rw [hg]; exact Nat.ne_of_gt (blk_lt (g := gb101) (o := .cells #[.int .i64 a0_0, .int .u64 a0_1, .int .i64 a0_2, .int .i64 a0_3, .int .u32 a0_4, .slice A0_5 l0_5.length c0_5, .slice A0_6 l0_6.length c0_6] 28 (0, 0)) (by (with_reducible repeat (first | refine blk_drewN ?_ _ | refine blk_drew ?_ | refine blk_alloc ?_ _)); exact BK101.out)) : gb102 ≠ gb101)); clear BK101; clear HB; have BK101 := n0_; have HB := n1_; have BK102 := n2_; have GW102 := n3_; have GE102 := n4_; have NB101_102 := n5_; have NB102_101 := n6_; clear n0_ n1_ n2_ n3_ n4_ n5_ n6_; clear hb hbox hg; have hnb34 := NB101_102.out; have hnc34 := NB102_101.out; have hcz35_0 : w33.cell? ⟨gb101, 0, none⟩ = some (.int .i64 a0_0) := (blk_cell BK101.out 0).trans rfl; have hcz35_1 : w33.cell? ⟨gb101, 1, none⟩ = some (.int .u64 a0_1) := (blk_cell BK101.out 1).trans rfl; have hcz35_2 : w33.cell? ⟨gb101, 2, none⟩ = some (.int .i64 a0_2) := (blk_cell BK101.out 2).trans rfl; have hcz35_3 : w33.cell? ⟨gb101, 3, none⟩ = some (.int .i64 a0_3) := (blk_cell BK101.out 3).trans rfl; have hcz35_4 : w33.cell? ⟨gb101, 4, none⟩ = some (.int .u32 a0_4) := (blk_cell BK101.out 4).trans rfl; have hcz35_5 : w33.cell? ⟨gb101, 5, none⟩ = some (.slice A0_5 l0_5.length c0_5) := (blk_cell BK101.out 5).trans rfl; have hcz35_6 : w33.cell? ⟨gb101, 6, none⟩ = some (.slice A0_6 l0_6.length c0_6) := (blk_cell BK101.out 6).trans rfl; have hfz35_0 := blk_frozen BK101.out 0; have hfz35_1 := blk_frozen BK101.out 1; have hfz35_2 := blk_frozen BK101.out 2; have hfz35_3 := blk_frozen BK101.out 3; have hfz35_4 := blk_frozen BK101.out 4; have hfz35_5 := blk_frozen BK101.out 5; have hfz35_6 := blk_frozen BK101.out 6; have hcz36_0 : w33.cell? ⟨gb102, 0, none⟩ = some (.int .i64 a1_0) := (blk_cell BK102.out 0).trans rfl; have hcz36_1 : w33.cell? ⟨gb102, 1, none⟩ = some (.int .u64 a1_1) := (blk_cell BK102.out 1).trans rfl; have hcz36_2 : w33.cell? ⟨gb102, 2, none⟩ = some (.int .i64 a1_2) := (blk_cell BK102.out 2).trans rfl; have hcz36_3 : w33.cell? ⟨gb102, 3, none⟩ = some (.int .i64 a1_3) := (blk_cell BK102.out 3).trans rfl; have hcz36_4 : w33.cell? ⟨gb102, 4, none⟩ = some (.int .u32 a1_4) := (blk_cell BK102.out 4).trans rfl; have hcz36_5 : w33.cell? ⟨gb102, 5, none⟩ = some (.slice A1_5 l1_5.length c1_5) := (blk_cell BK102.out 5).trans rfl; have hcz36_6 : w33.cell? ⟨gb102, 6, none⟩ = some (.slice A1_6 l1_6.length c1_6) := (blk_cell BK102.out 6).trans rfl; have hfz36_0 := blk_frozen BK102.out 0; have hfz36_1 := blk_frozen BK102.out 1; have hfz36_2 := blk_frozen BK102.out 2; have hfz36_3 := blk_frozen BK102.out 3; have hfz36_4 := blk_frozen BK102.out 4; have hfz36_5 := blk_frozen BK102.out 5; have hfz36_6 := blk_frozen BK102.out 6))
       go_ret
       exact ⟨by first | rfl | (simp [errW_none, errW_some] <;> rfl) | (simp [*, errW_none, errW_some] <;> rfl), by repeat (first | (with_reducible first | exact HB.out | apply below_alloc | apply pw_below_drewN | apply below_drew1 | refine below_set ?_ GE101.out | refine below_set ?_ GE102.out) | exact HB.out)⟩
   · rw [if_neg c4] at H
     have c4b0 : (a0_1 == a1_1) = false := beq_eq_false_iff_ne.mpr c4
     have c4b1 : (a0_1 != a1_1) = true := bne_iff_ne.mpr c4
     obtain rfl := Option.some.inj H
     go_enter Try.func12, Try.ntmps12
     go_wp2_with (first | ((with_reducible refine gate_dst (N := 2) rfl ?_); refine box_event ?hg (N := 2) ?hd (cs := #[.int .i64 a0_0, .int .u64 a0_1, .int .i64 a0_2, .int .i64 a0_3, .int .u32 a0_4, .slice A0_5 l0_5.length c0_5, .slice A0_6 l0_6.length c0_6]) (t := 28) ?hr ?_; (case hd => rfl); (case hg => rfl); (case hr => first | (go_simp; done) | (go_simp; rfl)); intro gb101 hg w37 hbox hb; have n0_ := Aside0.mk (below_step (by repeat (first | (with_reducible first | exact HB.out | apply below_alloc | apply pw_below_drewN | apply below_drew1) | exact HB.out)) hb); have n1_ := Aside0.mk (hbox); have n2_ := Aside0.mk ((by rw [hg]; exact (below_size (by repeat (first | (with_reducible first | exact HB.out | apply below_alloc | apply pw_below_drewN | apply below_drew1) | exact HB.out))) : w.heap.size ≤ gb101)); have n3_ := Aside0.mk ((by rw [hg]; exact (below_size (by repeat (first | (with_reducible first | exact HB.out | apply below_alloc | apply pw_below_drewN | apply below_drew1) | exact HB.out))) : w.heap.size ≤ gb101)); clear HB; have HB := n0_; have BK101 := n1_; have GW101 := n2_; have GE101 := n3_; clear n0_ n1_ n2_ n3_; clear hb hbox hg) | ((with_reducible refine gate_dst (N := 3) rfl ?_); refine box_event ?hg (N := 3) ?hd (cs := #[.int .i64 a1_0, .int .u64 a1_1, .int .i64 a1_2, .int .i64 a1_3, .int .u32 a1_4, .slice A1_5 l1_5.length c1_5, .slice A1_6 l1_6.length c1_6]) (t := 28) ?hr ?_; (case hd => rfl); (case hg => rfl); (case hr => first | (go_simp; done) | (go_simp; rfl)); intro gb102 hg w38 hbox hb; have n0_ := Aside0.mk (blk_below (g := gb101) (o := .cells #[.int .i64 a0_0, .int .u64 a0_1, .int .i64 a0_2, .int .i64 a0_3, .int .u32 a0_4, .slice A0_5 l0_5.length c0_5, .slice A0_6 l0_6.length c0_6] 28 (0, 0)) (by (with_reducible repeat (first | refine blk_drewN ?_ _ | refine blk_drew ?_ | refine blk_alloc ?_ _)); exact BK101.out) hb); have n1_ := Aside0.mk (below_step (by repeat (first | (with_reducible first | exact HB.out | apply below_alloc | apply pw_below_drewN | apply below_drew1 | refine below_set ?_ GE101.out) | exact HB.out)) hb); have n2_ := Aside0.mk (hbox); have n3_ := Aside0.mk ((by rw [hg]; exact (below_size (by repeat (first | (with_reducible first | exact HB.out | apply below_alloc | apply pw_below_drewN | apply below_drew1 | refine below_set ?_ GE101.out) | exact HB.out))) : w.heap.size ≤ gb102)); have n4_ := Aside0.mk ((by rw [hg]; exact (below_size (by repeat (first | (with_reducible first | exact HB.out | apply below_alloc | apply pw_below_drewN | apply below_drew1 | refine below_set ?_ GE101.out) | exact HB.out))) : w.heap.size ≤ gb102)); have n5_ := Aside0.mk ((by rw [hg]; exact Nat.ne_of_lt (blk_lt (g := gb101) (o := .cells #[.int .i64 a0_0, .int .u64 a0_1, .int .i64 a0_2, .int .i64 a0_3, .int .u32 a0_4, .slice A0_5 l0_5.length c0_5, .slice A0_6 l0_6.length c0_6] 28 (0, 0)) (by (with_reducible repeat (first | refine blk_drewN ?_ _ | refine blk_drew ?_ | refine blk_alloc ?_ _)); exact BK101.out)) : gb101 ≠ gb102)); have n6_ := Aside0.mk ((by rw [hg]; exact Nat.ne_of_gt (blk_lt (g := gb101) (o := .cells #[.int .i64 a0_0, .int .u64 a0_1, .int .i64 a0_2, .int .i64 a0_3, .int .u32 a0_4, .slice A0_5 l0_5.length c0_5, .slice A0_6 l0_6.length c0_6] 28 (0, 0)) (by (with_reducible repeat (first | refine blk_drewN ?_ _ | refine blk_drew ?_ | refine blk_alloc ?_ _)); exact BK101.out)) : gb102 ≠ gb101)); clear BK101; clear HB; have BK101 := n0_; have HB := n1_; have BK102 := n2_; have GW102 := n3_; have GE102 := n4_; have NB101_102 := n5_; have NB102_101 := n6_; clear n0_ n1_ n2_ n3_ n4_ n5_ n6_; clear hb hbox hg; have hnb39 := NB101_102.out; have hnc39 := NB102_101.out; have hcz40_0 : w38.cell? ⟨gb101, 0, none⟩ = some (.int .i64 a0_0) := (blk_cell BK101.out 0).trans rfl; have hcz40_1 : w38.cell? ⟨gb101, 1, none⟩ = some (.int .u64 a0_1) := (blk_cell BK101.out 1).trans rfl; have hcz40_2 : w38.cell? ⟨gb101, 2, none⟩ = some (.int .i64 a0_2) := (blk_cell BK101.out 2).trans rfl; have hcz40_3 : w38.cell? ⟨gb101, 3, none⟩ = some (.int .i64 a0_3) := (blk_cell BK101.out 3).trans rfl; have hcz40_4 : w38.cell? ⟨gb101, 4, none⟩ = some (.int .u32 a0_4) := (blk_cell BK101.out 4).trans rfl; have hcz40_5 : w38.cell? ⟨gb101, 5, none⟩ = some (.slice A0_5 l0_5.length c0_5) := (blk_cell BK101.out 5).trans rfl; have hcz40_6 : w38.cell? ⟨gb101, 6, none⟩ = some (.slice A0_6 l0_6.length c0_6) := (blk_cell BK101.out 6).trans rfl; have hfz40_0 := blk_frozen BK101.out 0; have hfz40_1 := blk_frozen BK101.out 1; have hfz40_2 := blk_frozen BK101.out 2; have hfz40_3 := blk_frozen BK101.out 3; have hfz40_4 := blk_frozen BK101.out 4; have hfz40_5 := blk_frozen BK101.out 5; have hfz40_6 := blk_frozen BK101.out 6; have hcz41_0 : w38.cell? ⟨gb102, 0, none⟩ = some (.int .i64 a1_0) := (blk_cell BK102.out 0).trans rfl; have hcz41_1 : w38.cell? ⟨gb102, 1, none⟩ = some (.int .u64 a1_1) := (blk_cell BK102.out 1).trans rfl; have hcz41_2 : w38.cell? ⟨gb102, 2, none⟩ = some (.int .i64 a1_2) := (blk_cell BK102.out 2).trans rfl; have hcz41_3 : w38.cell? ⟨gb102, 3, none⟩ = some (.int .i64 a1_3) := (blk_cell BK102.out 3).trans rfl; have hcz41_4 : w38.cell? ⟨gb102, 4, none⟩ = some (.int .u32 a1_4) := (blk_cell BK102.out 4).trans rfl; have hcz41_5 : w38.cell? ⟨gb102, 5, none⟩ = some (.slice A1_5 l1_5.length c1_5) := (blk_cell BK102.out 5).trans rfl; have hcz41_6 : w38.cell? ⟨gb102, 6, none⟩ = some (.slice A1_6 l1_6.length c1_6) := (blk_cell BK102.out 6).trans rfl; have hfz41_0 := blk_frozen BK102.out 0; have hfz41_1 := blk_frozen BK102.out 1; have hfz41_2 := blk_frozen BK102.out 2; have hfz41_3 := blk_frozen BK102.out 3; have hfz41_4 := blk_frozen BK102.out 4; have hfz41_5 := blk_frozen BK102.out 5; have hfz41_6 := blk_frozen BK102.out 6))
     go_ret
     exact ⟨by first | rfl | (simp [errW_none, errW_some] <;> rfl) | (simp [*, errW_none, errW_some] <;> rfl), by repeat (first | (with_reducible first | exact HB.out | apply below_alloc | apply pw_below_drewN | apply below_drew1 | refine below_set ?_ GE101.out | refine below_set ?_ GE102.out) | exact HB.out)⟩
 · rw [if_neg c3] at H
   have c3b0 : (a0_0 == a1_0) = false := beq_eq_false_iff_ne.mpr c3
   have c3b1 : (a0_0 != a1_0) = true := bne_iff_ne.mpr c3
   obtain rfl := Option.some.inj H
   go_enter Try.func12, Try.ntmps12
   go_wp2_with (first | ((with_reducible refine gate_dst (N := 2) rfl ?_); refine box_event ?hg (N := 2) ?hd (cs := #[.int .i64 a0_0, .int .u64 a0_1, .int .i64 a0_2, .int .i64 a0_3, .int .u32 a0_4, .slice A0_5 l0_5.length c0_5, .slice A0_6 l0_6.length c0_6]) (t := 28) ?hr ?_; (case hd => rfl); (case hg => rfl); (case hr => first | (go_simp; done) | (go_simp; rfl)); intro gb101 hg w42 hbox hb; have n0_ := Aside0.mk (below_step (by repeat (first | (with_reducible first | exact HB.out | apply below_alloc | apply pw_below_drewN | apply below_drew1) | exact HB.out)) hb); have n1_ := Aside0.mk (hbox); have n2_ := Aside0.mk ((by rw [hg]; exact (below_size (by repeat (first | (with_reducible first | exact HB.out | apply below_alloc | apply pw_below_drewN | apply below_drew1) | exact HB.out))) : w.heap.size ≤ gb101)); have n3_ := Aside0.mk ((by rw [hg]; exact (below_size (by repeat (first | (with_reducible first | exact HB.out | apply below_alloc | apply pw_below_drewN | apply below_drew1) | exact HB.out))) : w.heap.size ≤ gb101)); clear HB; have HB := n0_; have BK101 := n1_; have GW101 := n2_; have GE101 := n3_; clear n0_ n1_ n2_ n3_; clear hb hbox hg) | ((with_reducible refine gate_dst (N := 3) rfl ?_); refine box_event ?hg (N := 3) ?hd (cs := #[.int .i64 a1_0, .int .u64 a1_1, .int .i64 a1_2, .int .i64 a1_3, .int .u32 a1_4, .slice A1_5 l1_5.length c1_5, .slice A1_6 l1_6.length c1_6]) (t := 28) ?hr ?_; (case hd => rfl); (case hg => rfl); (case hr => first | (go_simp; done) | (go_simp; rfl)); intro gb102 hg w43 hbox hb; have n0_ := Aside0.mk (blk_below (g := gb101) (o := .cells #[.int .i64 a0_0, .int .u64 a0_1, .int .i64 a0_2, .int .i64 a0_3, .int .u32 a0_4, .slice A0_5 l0_5.length c0_5, .slice A0_6 l0_6.length c0_6] 28 (0, 0)) (by (with_reducible repeat (first | refine blk_drewN ?_ _ | refine blk_drew ?_ | refine blk_alloc ?_ _)); exact BK101.out) hb); have n1_ := Aside0.mk (below_step (by repeat (first | (with_reducible first | exact HB.out | apply below_alloc | apply pw_below_drewN | apply below_drew1 | refine below_set ?_ GE101.out) | exact HB.out)) hb); have n2_ := Aside0.mk (hbox); have n3_ := Aside0.mk ((by rw [hg]; exact (below_size (by repeat (first | (with_reducible first | exact HB.out | apply below_alloc | apply pw_below_drewN | apply below_drew1 | refine below_set ?_ GE101.out) | exact HB.out))) : w.heap.size ≤ gb102)); have n4_ := Aside0.mk ((by rw [hg]; exact (below_size (by repeat (first | (with_reducible first | exact HB.out | apply below_alloc | apply pw_below_drewN | apply below_drew1 | refine below_set ?_ GE101.out) | exact HB.out))) : w.heap.size ≤ gb102)); have n5_ := Aside0.mk ((by rw [hg]; exact Nat.ne_of_lt (blk_lt (g := gb101) (o := .cells #[.int .i64 a0_0, .int .u64 a0_1, .int .i64 a0_2, .int .i64 a0_3, .int .u32 a0_4, .slice A0_5 l0_5.length c0_5, .slice A0_6 l0_6.length c0_6] 28 (0, 0)) (by (with_reducible repeat (first | refine blk_drewN ?_ _ | refine blk_drew ?_ | refine blk_alloc ?_ _)); exact BK101.out)) : gb101 ≠ gb102)); have n6_ := Aside0.mk ((by rw [hg]; exact Nat.ne_of_gt (blk_lt (g := gb101) (o := .cells #[.int .i64 a0_0, .int .u64 a0_1, .int .i64 a0_2, .int .i64 a0_3, .int .u32 a0_4, .slice A0_5 l0_5.length c0_5, .slice A0_6 l0_6.length c0_6] 28 (0, 0)) (by (with_reducible repeat (first | refine blk_drewN ?_ _ | refine blk_drew ?_ | refine blk_alloc ?_ _)); exact BK101.out)) : gb102 ≠ gb101)); clear BK101; clear HB; have BK101 := n0_; have HB := n1_; have BK102 := n2_; have GW102 := n3_; have GE102 := n4_; have NB101_102 := n5_; have NB102_101 := n6_; clear n0_ n1_ n2_ n3_ n4_ n5_ n6_; clear hb hbox hg; have hnb44 := NB101_102.out; have hnc44 := NB102_101.out; have hcz45_0 : w43.cell? ⟨gb101, 0, none⟩ = some (.int .i64 a0_0) := (blk_cell BK101.out 0).trans rfl; have hcz45_1 : w43.cell? ⟨gb101, 1, none⟩ = some (.int .u64 a0_1) := (blk_cell BK101.out 1).trans rfl; have hcz45_2 : w43.cell? ⟨gb101, 2, none⟩ = some (.int .i64 a0_2) := (blk_cell BK101.out 2).trans rfl; have hcz45_3 : w43.cell? ⟨gb101, 3, none⟩ = some (.int .i64 a0_3) := (blk_cell BK101.out 3).trans rfl; have hcz45_4 : w43.cell? ⟨gb101, 4, none⟩ = some (.int .u32 a0_4) := (blk_cell BK101.out 4).trans rfl; have hcz45_5 : w43.cell? ⟨gb101, 5, none⟩ = some (.slice A0_5 l0_5.length c0_5) := (blk_cell BK101.out 5).trans rfl; have hcz45_6 : w43.cell? ⟨gb101, 6, none⟩ = some (.slice A0_6 l0_6.length c0_6) := (blk_cell BK101.out 6).trans rfl; have hfz45_0 := blk_frozen BK101.out 0; have hfz45_1 := blk_frozen BK101.out 1; have hfz45_2 := blk_frozen BK101.out 2; have hfz45_3 := blk_frozen BK101.out 3; have hfz45_4 := blk_frozen BK101.out 4; have hfz45_5 := blk_frozen BK101.out 5; have hfz45_6 := blk_frozen BK101.out 6; have hcz46_0 : w43.cell? ⟨gb102, 0, none⟩ = some (.int .i64 a1_0) := (blk_cell BK102.out 0).trans rfl; have hcz46_1 : w43.cell? ⟨gb102, 1, none⟩ = some (.int .u64 a1_1) := (blk_cell BK102.out 1).trans rfl; have hcz46_2 : w43.cell? ⟨gb102, 2, none⟩ = some (.int .i64 a1_2) := (blk_cell BK102.out 2).trans rfl; have hcz46_3 : w43.cell? ⟨gb102, 3, none⟩ = some (.int .i64 a1_3) := (blk_cell BK102.out 3).trans rfl; have hcz46_4 : w43.cell? ⟨gb102, 4, none⟩ = some (.int .u32 a1_4) := (blk_cell BK102.out 4).trans rfl; have hcz46_5 : w43.cell? ⟨gb102, 5, none⟩ = some (.slice A1_5 l1_5.length c1_5) := (blk_cell BK102.out 5).trans rfl; have hcz46_6 : w43.cell? ⟨gb102, 6, none⟩ = some (.slice A1_6 l1_6.length c1_6) := (blk_cell BK102.out 6).trans rfl; have hfz46_0 := blk_frozen BK102.out 0; have hfz46_1 := blk_frozen BK102.out 1; have hfz46_2 := blk_frozen BK102.out 2; have hfz46_3 := blk_frozen BK102.out 3; have hfz46_4 := blk_frozen BK102.out 4; have hfz46_5 := blk_frozen BK102.out 5; have hfz46_6 := blk_frozen BK102.out 6))
   go_ret
   exact ⟨by first | rfl | (simp [errW_none, errW_some] <;> rfl) | (simp [*, errW_none, errW_some] <;> rfl), by repeat (first | (with_reducible first | exact HB.out | apply below_alloc | apply pw_below_drewN | apply below_drew1 | refine below_set ?_ GE101.out | refine below_set ?_ GE102.out) | exact HB.out)⟩

end Go.Proofs.Ytoooceaoggkeeaa.F
end

section
namespace Go.Proofs.Ytoooceaoggkeeaa.F
open Go.RowKit Go.Proofs.YtoooceaoggkeeaaW.PrintWords Go.Proofs.YtoooceaoggkeeaaW.PrintLast Go.Proofs.YtoooceaoggkeeaaW.PrintMore
attribute [local go_sem] max2_int min2_int max_two min_two max_three min_three max_four min_four   -- for this text's walks alone
set_option linter.unusedVariables false
set_option linter.unusedSimpArgs false

/-! ### scullerref02_Step: function 50 -/
def scullerref02_Step.f (a0 : Int) : Option (Int) := if (Int.tmod a0 2) = 1 then (some (Go.bits .xor .u32 ((Int.tdiv a0 2) % 4294967296) 2197175160)) else (some ((Int.tdiv a0 2) % 4294967296))
set_option maxHeartbeats 8000000 in
set_option maxRecDepth 100000 in
theorem scullerref02_Step.calls (a0 : Int) (r : Int) (w : World) (h : scullerref02_Step.f a0 = some r) :
 Calls Try.prog 50 #[.int .u32 a0] w fun e w' => e = .returned (.int .u32 r) ∧ Drawn0 w w' := by
 have H : (if (Int.tmod a0 2) = 1 then (some (Go.bits .xor .u32 ((Int.tdiv a0 2) % 4294967296) 2197175160)) else (some ((Int.tdiv a0 2) % 4294967296))) = some r := h
 clear h
 by_cases c2 : (Int.tmod a0 2) = 1
 · rw [if_pos c2] at H
   have c2b0 : ((Int.tmod a0 2) == 1) = true := beq_iff_eq.mpr c2
   have c2b1 : ((Int.tmod a0 2) != 1) = false := bne_eq_false_iff_eq.mpr c2
   clear c2
   obtain rfl := Option.some.inj H
   go_enter Try.func50, Try.ntmps50
   go_wp2
   go_ret
   exact ⟨by first | rfl | (simp; done) | (simp [*]; done), by repeat (first | exact Drawn0.refl _ | apply Drawn0.step)⟩
 · rw [if_neg c2] at H
   have c2b0 : ((Int.tmod a0 2) == 1) = false := beq_eq_false_iff_ne.mpr c2
   have c2b1 : ((Int.tmod a0 2) != 1) = true := bne_iff_ne.mpr c2
   obtain rfl := Option.some.inj H
   go_enter Try.func50, Try.ntmps50
   go_wp2
   go_ret
   exact ⟨by first | rfl | (simp; done) | (simp [*]; done), by repeat (first | exact Drawn0.refl _ | apply Drawn0.step)⟩

end Go.Proofs.Ytoooceaoggkeeaa.F
end

section
namespace Go.Proofs.Ytoooceaoggkeeaa.F
open Go.RowKit Go.Proofs.YtoooceaoggkeeaaW.PrintWords Go.Proofs.YtoooceaoggkeeaaW.PrintLast Go.Proofs.YtoooceaoggkeeaaW.PrintMore
attribute [local go_sem] max2_int min2_int max_two min_two max_three min_three max_four min_four   -- for this text's walks alone
set_option linter.unusedVariables false
set_option linter.unusedSimpArgs false

/-! ### scullerref02_More: function 42 -/
mutual
def scullerref02_More.l0 : Nat → Int → List Int → Int → Option (Int)
 | 0, _, _, _ => none
 | k + 1, x0, x1, x5 => if x5 < (x1.length : Int) then (if 0 ≤ x5 then (scullerref02_More.l1 k (Go.bits .xor .u32 x0 ((rd x1 x5) % 4294967296)) x1 x5 0) else (none)) else (some (Go.bits .xor .u32 x0 4294967295))
def scullerref02_More.l1 : Nat → Int → List Int → Int → Int → Option (Int)
 | 0, _, _, _, _ => none
 | k + 1, x0, x1, x5, x6 => if x6 < 8 then ((scullerref02_Step.f x0).bind fun t102 => (scullerref02_More.l1 k t102 x1 x5 (wrap64 (x6 + 1)))) else (scullerref02_More.l0 k x0 x1 (wrap64 (x5 + 1)))
end
def scullerref02_More.f (k : Nat) (a0 : Int) (l1 : List Int) : Option (Int) := scullerref02_More.l0 k (Go.bits .xor .u32 a0 4294967295) l1 0
theorem scullerref02_More.mono_l : ∀ k, (∀ y0 y1 y2, LeO (scullerref02_More.l0 k y0 y1 y2) (scullerref02_More.l0 (k + 1) y0 y1 y2)) ∧ (∀ y0 y1 y2 y3, LeO (scullerref02_More.l1 k y0 y1 y2 y3) (scullerref02_More.l1 (k + 1) y0 y1 y2 y3))
 | 0 => ⟨fun _ _ _ r h => by simp [scullerref02_More.l0] at h, fun _ _ _ _ r h => by simp [scullerref02_More.l1] at h⟩
 | k + 1 => by
   obtain ⟨ih0, ih1⟩ := scullerref02_More.mono_l k
   refine ⟨?_, ?_⟩
   · intro y0 y1 y2
     unfold scullerref02_More.l0
     repeat' first
     | (with_reducible exact ih0 _ _ _)
     | (with_reducible exact ih1 _ _ _ _)
     | (with_reducible exact LeO.refl _)
     | (with_reducible exact LeO.none _)
     | (with_reducible refine LeO.ite ?_ ?_)
     | (with_reducible refine LeO.bind ?_ (fun _ => ?_))
     | exact ih0 _ _ _
     | exact ih1 _ _ _ _
     | exact LeO.none _
     | refine LeO.ite ?_ ?_
     | refine LeO.bind ?_ (fun _ => ?_)
   · intro y0 y1 y2 y3
     unfold scullerref02_More.l1
     repeat' first
     | (with_reducible exact ih0 _ _ _)
     | (with_reducible exact ih1 _ _ _ _)
     | (with_reducible exact LeO.refl _)
     | (with_reducible exact LeO.none _)
     | (with_reducible refine LeO.ite ?_ ?_)
     | (with_reducible refine LeO.bind ?_ (fun _ => ?_))
     | exact ih0 _ _ _
     | exact ih1 _ _ _ _
     | exact LeO.none _
     | refine LeO.ite ?_ ?_
     | refine LeO.bind ?_ (fun _ => ?_)
theorem scullerref02_More.mono : ∀ a0 a1 k, LeO (scullerref02_More.f k a0 a1) (scullerref02_More.f (k + 1) a0 a1) := by
 intro a0 a1 k
 obtain ⟨ih0, ih1⟩ := scullerref02_More.mono_l k
 unfold scullerref02_More.f
 repeat' first
  | (with_reducible exact ih0 _ _ _)
  | (with_reducible exact ih1 _ _ _ _)
  | (with_reducible exact LeO.refl _)
  | (with_reducible exact LeO.none _)
  | (with_reducible refine LeO.ite ?_ ?_)
  | (with_reducible refine LeO.bind ?_ (fun _ => ?_))
  | exact ih0 _ _ _
  | exact ih1 _ _ _ _
  | exact LeO.none _
  | refine LeO.ite ?_ ?_
  | refine LeO.bind ?_ (fun _ => ?_)
set_option maxHeartbeats 8000000 in
set_option maxRecDepth 100000 in
theorem scullerref02_More.calls (k : Nat) (a0 : Int) (A1 : Option Addr) (c1 : Nat) (l1 : List Int) (r : Int) (w : World) (hr1 : Kd.C (Kd.int .u8) w A1 l1.length l1) (hc1 : l1.length ≤ c1) (h : scullerref02_More.f k a0 l1 = some r) :
 Calls Try.prog 42 #[.int .u32 a0, .slice A1 l1.length c1] w fun e w' => e = .returned (.int .u32 r) ∧ Drawn0 w w' := by
 have HR1 := Aside0.mk hr1
 have HC1 := Aside0.mk hc1
 clear hr1 hc1
 have H : (scullerref02_More.l0 k (Go.bits .xor .u32 a0 4294967295) l1 0) = some r := h
 clear h
 have H' := Aside0.mk H
 clear H
 go_enter Try.func42, Try.ntmps42
 go_wp2
 go_loopg [0, 5] k (fun kq v0 v5 w' => ∃ (x0_1 : Int) (x5_1 : Int), v0 = .int .u32 x0_1 ∧ v5 = .int .i64 x5_1 ∧ Aside0 (scullerref02_More.l0 kq x0_1 l1 x5_1 = some r) ∧ Aside0 (kq ≤ k) ∧ Drawn0 w w')
 case atStart => exact ⟨(Go.bits .xor .u32 a0 4294967295), (0), (by first | rfl | (simp; done) | (simp [*]; done)), (by first | rfl | (simp; done) | (simp [*]; done)), H', ⟨Nat.le_refl _⟩, by repeat (first | exact Drawn0.refl _ | apply Drawn0.step)⟩
 case round =>
  clear H'
  try clear c1
  try clear p2
  obtain ⟨x0_1, x5_1, rfl, rfl, HA, HK1, ⟨m1, rfl⟩⟩ := hrel
  cases gk with
  | zero => exact absurd HA.out (by simp [scullerref02_More.l0])
  | succ k1 =>
    have H := HA.out
    clear HA
    simp only [scullerref02_More.l0] at H
    by_cases c3 : x5_1 < (l1.length : Int)
    · rw [if_pos c3] at H
      have c3b0 : decide (x5_1 < (l1.length : Int)) = true := decide_eq_true c3
      clear c3
      by_cases c4 : 0 ≤ x5_1
      · rw [if_pos c4] at H
        have c4b0 : decide (0 ≤ x5_1) = true := decide_eq_true c4
        clear c4
        have H' := Aside0.mk H
        clear H
        have p101 : 0 ≤ (x5_1 : Int) := of_decide_eq_true (by first | (with_reducible assumption) | assumption)
        have q101 : x5_1 < (l1.length : Int) := of_decide_eq_true (by first | (with_reducible assumption) | assumption)
        obtain ⟨ad101, e101, hx101_0⟩ := Kd.at_int HR1.out x5_1 p101 q101
        cases e101
        replace p101 := eq_true p101
        replace q101 := eq_true q101
        go_wp2
        go_loopg [0, 6] k1 (fun kq v0 v6 w' => ∃ (x0_2 : Int) (x6_2 : Int), v0 = .int .u32 x0_2 ∧ v6 = .int .i64 x6_2 ∧ Aside0 (scullerref02_More.l1 kq x0_2 l1 x5_1 x6_2 = some r) ∧ Aside0 (kq ≤ k1) ∧ Drawn0 w w')
        case atStart => exact ⟨(Go.bits .xor .u32 x0_1 ((rd l1 x5_1) % 4294967296)), (0), (by first | rfl | (simp; done) | (simp [*]; done)), (by first | rfl | (simp; done) | (simp [*]; done)), H', ⟨Nat.le_refl _⟩, by repeat (first | exact Drawn0.refl _ | apply Drawn0.step)⟩
        case round =>
         clear H'
         try clear c1
         try clear p1
         try clear q1
         try clear hx1
         try clear p2
         try clear c3
         try clear c3b0
         try clear c4
         try clear c4b0
         try clear hx101_0
         try clear p101
         try clear p2
         try clear q101
         obtain ⟨x0_2, x6_2, rfl, rfl, HA, HK2, ⟨m2, rfl⟩⟩ := hrel
         cases gk with
         | zero => exact absurd HA.out (by simp [scullerref02_More.l1])
         | succ k2 =>
           have H := HA.out
           clear HA
           simp only [scullerref02_More.l1] at H
           by_cases c5 : x6_2 < 8
           · rw [if_pos c5] at H
             have c5b0 : decide (x6_2 < 8) = true := decide_eq_true c5
             clear c5
             replace H := Option.bind_eq_some_iff.mp H
             obtain ⟨t102, A60, H⟩ := H
             replace H : (scullerref02_More.l1 k2 t102 l1 x5_1 (wrap64 (x6_2 + 1))) = some r := H
             have A6 := Aside0.mk A60
             clear A60
             have H' := Aside0.mk H
             clear H
             go_wp2_with (first | ((with_reducible refine gate_callee (f := 50) rfl ?_); refine goesL_ (some 27) rfl rfl Try.func50 (by kernel_rfl) rfl #[.int .u32 x0_2] rfl (by (try simp only [List.map_toArray, List.map_cons, List.map_nil]); first | done | rfl | (simp only [List.length_drop, List.length_take]; rfl)) ?_; (with_reducible refine (scullerref02_Step.calls x0_2 t102 _ A6.out).mono ?_); rintro e w' ⟨rfl, ⟨nd, rfl⟩⟩; refine ⟨_, rfl, ?_⟩))
             go_roundg k2
             case measure => have := HK1.out; have := HK2.out; omega
             case rel => exact ⟨(t102), (wrap64 (x6_2 + 1)), (by first | rfl | (simp; done) | (simp [*]; done)), (by first | rfl | (simp; done) | (simp [*]; done)), H', ⟨by have := HK1.out; have := HK2.out; omega⟩, by repeat (first | exact Drawn0.refl _ | apply Drawn0.step)⟩
           · rw [if_neg c5] at H
             have c5b0 : decide (x6_2 < 8) = false := decide_eq_false c5
             clear c5
             have H' := Aside0.mk H
             clear H
             go_wp2
             go_roundg k2
             case measure => have := HK1.out; have := HK2.out; omega
             case rel => exact ⟨(x0_2), (wrap64 (x5_1 + 1)), (by first | rfl | (simp; done) | (simp [*]; done)), (by first | rfl | (simp; done) | (simp [*]; done)), H', ⟨by have := HK1.out; have := HK2.out; omega⟩, by repeat (first | exact Drawn0.refl _ | apply Drawn0.step)⟩
      · rw [if_neg c4] at H
        exact absurd H (by simp)
    · rw [if_neg c3] at H
      have c3b0 : decide (x5_1 < (l1.length : Int)) = false := decide_eq_false c3
      clear c3
      obtain rfl := Option.some.inj H
      go_wp2
      go_ret
      exact ⟨by first | rfl | (simp; done) | (simp [*]; done), by repeat (first | exact Drawn0.refl _ | apply Drawn0.step)⟩

end Go.Proofs.Ytoooceaoggkeeaa.F
end

section
/- The checksum as a plain function on numbers, bit by bit and byte by byte. No program in sight. -/
namespace Go.Proofs.Ytoooceaoggkeeaa.H
set_option linter.unusedVariables false
set_option linter.unusedSimpArgs false
/-- One bit. -/
def stepN (n : Nat) : Nat := n / 2 ^^^ (if n % 2 = 1 then 2197175160 else 0)
/-- So many bits. -/
def stepsN : Nat → Nat → Nat
 | 0, n => n
 | k + 1, n => stepsN k (stepN n)
theorem stepN_lt {n : Nat} (h : n < 4294967296) : stepN n < 4294967296 := by
 have : n / 2 ^^^ (if n % 2 = 1 then 2197175160 else 0) < 2 ^ 32 := Nat.xor_lt_two_pow (by omega) (by split <;> omega)
 exact this
theorem stepsN_lt : ∀ (k : Nat) {n : Nat}, n < 4294967296 → stepsN k n < 4294967296
 | 0, _, h => h
 | k + 1, _, h => stepsN_lt k (stepN_lt h)
theorem xor_div2 (a b : Nat) : (a ^^^ b) / 2 = a / 2 ^^^ b / 2 := by
 have : (a ^^^ b) >>> 1 = a >>> 1 ^^^ b >>> 1 := Nat.shiftRight_xor_distrib
 simpa [Nat.shiftRight_eq_div_pow] using this
theorem stepN_xor (a b : Nat) : stepN (a ^^^ b) = stepN a ^^^ stepN b := by
 unfold stepN
 have hm : (a ^^^ b) % 2 = (a % 2) ^^^ (b % 2) := by have : (a ^^^ b) % 2 ^ 1 = a % 2 ^ 1 ^^^ b % 2 ^ 1 := Nat.xor_mod_two_pow; simpa using this
 rw [xor_div2, hm]
 rcases Nat.mod_two_eq_zero_or_one a with ha | ha <;> rcases Nat.mod_two_eq_zero_or_one b with hb | hb <;> simp only [ha, hb]
 · simp
 · simp [Nat.xor_assoc]
 · simp only [Nat.zero_xor, Nat.xor_zero, if_true, if_neg (show ¬ (0 = 1) by decide), show ((1 : Nat) ^^^ 0) = 1 from rfl]
   rw [Nat.xor_assoc, Nat.xor_assoc, Nat.xor_comm (b / 2)]
 · simp only [show ((1 : Nat) ^^^ 1) = 0 from rfl, if_true, if_neg (show ¬ (0 = 1) by decide), Nat.xor_zero]
   rw [Nat.xor_assoc, ← Nat.xor_assoc 2197175160, Nat.xor_comm 2197175160, Nat.xor_assoc (b / 2), Nat.xor_self, Nat.xor_zero]
theorem stepsN_xor : ∀ (k a b : Nat), stepsN k (a ^^^ b) = stepsN k a ^^^ stepsN k b
 | 0, _, _ => rfl
 | k + 1, a, b => by rw [stepsN, stepN_xor, stepsN_xor k, stepsN, stepsN]
theorem stepsN_split : ∀ (k n : Nat), stepsN k n = n / 2 ^ k ^^^ stepsN k (n % 2 ^ k)
 | 0, n => by simp [stepsN, Nat.mod_one]
 | k + 1, n => by
   have h1 : n % 2 ^ (k + 1) / 2 = n / 2 % 2 ^ k := by
    rw [Nat.pow_succ, Nat.mul_comm, Nat.mod_mul_right_div_self]
   have h2 : n % 2 ^ (k + 1) % 2 = n % 2 := by
    rw [Nat.pow_succ, Nat.mul_comm, Nat.mod_mul_right_mod]
   rw [stepsN, stepsN, stepN, stepN, h1, h2, stepsN_xor, stepsN_xor, stepsN_split k (n / 2), Nat.div_div_eq_div_mul, Nat.mul_comm 2 (2 ^ k), ← Nat.pow_succ, Nat.xor_assoc]
/-- One byte, and what a table of all 256 makes of it. -/
theorem byte_table {n c : Nat} (hc : c < 256) : stepsN 8 (n ^^^ c) = n / 256 ^^^ stepsN 8 (n % 256 ^^^ c) := by
 have h1 : (n ^^^ c) / 256 = n / 256 := by
  have : (n ^^^ c) >>> 8 = n >>> 8 ^^^ c >>> 8 := Nat.shiftRight_xor_distrib
  simp only [Nat.shiftRight_eq_div_pow] at this
  rw [show 2 ^ 8 = 256 from rfl] at this
  rw [this, Nat.div_eq_of_lt hc, Nat.xor_zero]
 have h2 : (n ^^^ c) % 256 = n % 256 ^^^ c := by
  have : (n ^^^ c) % 2 ^ 8 = n % 2 ^ 8 ^^^ c % 2 ^ 8 := Nat.xor_mod_two_pow
  rw [show 2 ^ 8 = 256 from rfl] at this
  rw [this, Nat.mod_eq_of_lt hc]
 rw [stepsN_split 8 (n ^^^ c), show 2 ^ 8 = 256 from rfl, h1, h2]
/-- All bytes, one behind the other. -/
def crcN (n : Nat) : List Int → Nat
 | [] => n
 | c :: cs => crcN (stepsN 8 (n ^^^ c.toNat)) cs
theorem crcN_append : ∀ (a b : List Int) (n : Nat), crcN n (a ++ b) = crcN (crcN n a) b
 | [], _, _ => rfl
 | c :: a, b, n => by rw [List.cons_append, crcN, crcN, crcN_append a b]
theorem crcN_lt : ∀ (l : List Int) {n : Nat}, n < 4294967296 → bytesB l = true → crcN n l < 4294967296
 | [], _, h, _ => h
 | c :: l, n, h, hb => by
   have hc := bytesB_at hb c (by simp)
   have : n ^^^ c.toNat < 2 ^ 32 := Nat.xor_lt_two_pow (by omega) (by omega)
   exact crcN_lt l (stepsN_lt 8 (by omega)) (bytesB_of fun x hx => bytesB_at hb x (by simp [hx]))
/-- The checksum n, over further bytes. -/
def moreL (n : Int) (l : List Int) : Int := ((crcN (n.toNat ^^^ 4294967295) l ^^^ 4294967295 : Nat) : Int)
def sumL (l : List Int) : Int := moreL 0 l
theorem moreL_range (n : Int) (l : List Int) (hn : n < 4294967296) (hb : bytesB l = true) : 0 ≤ moreL n l ∧ moreL n l < 4294967296 := by
 have h1 : n.toNat ^^^ 4294967295 < 2 ^ 32 := Nat.xor_lt_two_pow (by omega) (by omega)
 have h2 := crcN_lt l (n := n.toNat ^^^ 4294967295) (by omega) hb
 have h3 : crcN (n.toNat ^^^ 4294967295) l ^^^ 4294967295 < 2 ^ 32 := Nat.xor_lt_two_pow (by omega) (by omega)
 unfold moreL
 omega
/-- Bytes and behind them their checksum's four. -/
def sealL (l : List Int) : List Int := l ++ putL (sumL l) 4
/-- Sealed bytes. -/
def rightC (l : List Int) : Bool := decide (4 ≤ l.length) && decide (sealL (l.take (l.length - 4)) = l)
end Go.Proofs.Ytoooceaoggkeeaa.H
end

section
namespace Go.Proofs.Ytoooceaoggkeeaa.F
open Go.RowKit Go.Proofs.YtoooceaoggkeeaaW.PrintWords Go.Proofs.YtoooceaoggkeeaaW.PrintLast Go.Proofs.YtoooceaoggkeeaaW.PrintMore
attribute [local go_sem] max2_int min2_int max_two min_two max_three min_three max_four min_four   -- for this text's walks alone
set_option linter.unusedVariables false
set_option linter.unusedSimpArgs false

open Go.Proofs.Ytoooceaoggkeeaa.H
def scullerref02_More_c.f (a0 : Int) (l1 : List Int) : Option Int := if 0 ≤ a0 ∧ a0 < 4294967296 ∧ bytesB l1 = true ∧ l1.length ≤ 140737488355328 then some (moreL a0 l1) else none
theorem scullerref02_Step.is (n : Nat) (h : n < 4294967296) : scullerref02_Step.f (n : Int) = some ((stepN n : Nat) : Int) := by
 unfold scullerref02_Step.f stepN
 have h2 : (Int.tdiv (n : Int) 2) % 4294967296 = ((n / 2 : Nat) : Int) := by rw [Int.tdiv_eq_ediv_of_nonneg (by omega)]; omega
 have h1 : Int.tmod (n : Int) 2 = ((n % 2 : Nat) : Int) := by rw [Int.tmod_eq_emod_of_nonneg (by omega)]; omega
 rw [h1, h2]
 rcases Nat.mod_two_eq_zero_or_one n with e | e <;> rw [e]
 · rw [if_neg (by decide), if_neg (by decide), Nat.xor_zero]
 · rw [if_pos (by decide), if_pos rfl]
   have := Go.u32_xor_nat (n / 2) 2197175160 (by omega) (by omega)
   rw [show ((2197175160 : Nat) : Int) = 2197175160 from rfl] at this
   rw [this]
theorem scullerref02_More.l1_to (l : List Int) (i : Nat) (R : Option Int) : ∀ (d : Nat) (n : Nat), n < 4294967296 → d ≤ 8 → (∃ k, scullerref02_More.l0 k ((stepsN d n : Nat) : Int) l (wrap64 ((i : Int) + 1)) = R) → ∃ k, scullerref02_More.l1 k (n : Int) l (i : Int) ((8 - d : Nat) : Int) = R
 | 0, n, _, _, ⟨k, hk⟩ => ⟨k + 1, by rw [scullerref02_More.l1, if_neg (by omega)]; exact hk⟩
 | d + 1, n, h, hd, hK => by
   obtain ⟨k, hk⟩ := scullerref02_More.l1_to l i R d (stepN n) (stepN_lt h) (by omega) hK
   refine ⟨k + 1, ?_⟩
   rw [scullerref02_More.l1, if_pos (by omega), scullerref02_Step.is n h, Option.bind_some, show wrap64 (((8 - (d + 1) : Nat) : Int) + 1) = ((8 - d : Nat) : Int) from by unfold wrap64; omega]
   exact hk
theorem scullerref02_More.l0_to (l : List Int) (hl : l.length ≤ 140737488355328) (hb : bytesB l = true) : ∀ (d i n : Nat), l.length - i = d → i ≤ l.length → n < 4294967296 → ∃ k, scullerref02_More.l0 k (n : Int) l (i : Int) = some ((crcN n (l.drop i) ^^^ 4294967295 : Nat) : Int)
 | 0, i, n, hd, hi, hn => by
   refine ⟨1, ?_⟩
   have := Go.u32_xor_nat n 4294967295 hn (by omega)
   rw [show ((4294967295 : Nat) : Int) = 4294967295 from rfl] at this
   rw [scullerref02_More.l0, if_neg (by omega), List.drop_of_length_le (by omega), crcN, this]
 | d + 1, i, n, hd, hi, hn => by
   have hlt : i < l.length := by omega
   have hx := bytesB_at hb _ (List.getElem_mem hlt)
   have hr : rd l (i : Int) = l[i] := getD_toNat l 0 i hlt
   have hd2 := drop_at l i hlt
   obtain ⟨x, ex⟩ := Int.eq_ofNat_of_zero_le hx.1
   rw [ex] at hr hd2 hx
   have hxn : n ^^^ x < 2 ^ 32 := Nat.xor_lt_two_pow (by omega) (by omega)
   obtain ⟨k, hk⟩ := scullerref02_More.l0_to l hl hb d (i + 1) (stepsN 8 (n ^^^ x)) (by omega) (by omega) (stepsN_lt 8 (by omega))
   rw [show ((i + 1 : Nat) : Int) = wrap64 ((i : Int) + 1) from by unfold wrap64; omega] at hk
   obtain ⟨k2, hk2⟩ := scullerref02_More.l1_to l i _ 8 (n ^^^ x) (by omega) (by omega) ⟨k, hk⟩
   refine ⟨k2 + 1, ?_⟩
   rw [scullerref02_More.l0, if_pos (by omega), if_pos (by omega), hr, show (x : Int) % 4294967296 = (x : Int) from by omega, Go.u32_xor_nat n x hn (by omega), hd2, crcN, Int.toNat_natCast]
   exact hk2
theorem scullerref02_More_c.to {a0 : Int} {l1 : List Int} {r : Int} (h : scullerref02_More_c.f a0 l1 = some r) : ∃ k, scullerref02_More.f k a0 l1 = some r := by
 unfold scullerref02_More_c.f at h
 split at h
 case isFalse => cases h
 case isTrue hb =>
 obtain rfl := Option.some.inj h
 obtain ⟨h0, h1, h2, h3⟩ := hb
 obtain ⟨n, rfl⟩ := Int.eq_ofNat_of_zero_le h0
 have hx := Go.u32_xor_nat n 4294967295 (by omega) (by omega)
 rw [show ((4294967295 : Nat) : Int) = 4294967295 from rfl] at hx
 have hxn : n ^^^ 4294967295 < 2 ^ 32 := Nat.xor_lt_two_pow (by omega) (by omega)
 obtain ⟨k, hk⟩ := scullerref02_More.l0_to l1 h3 h2 l1.length 0 (n ^^^ 4294967295) (by omega) (by omega) (by omega)
 refine ⟨k, ?_⟩
 rw [scullerref02_More.f, hx]
 exact hk

theorem scullerref02_More_c.calls (a0 : Int) (A1 : Option Addr) (c1 : Nat) (l1 : List Int) (r : Int) (w : World) (hr1 : Kd.C (Kd.int .u8) w A1 l1.length l1) (hc1 : l1.length ≤ c1) (h : scullerref02_More_c.f a0 l1 = some r) :
 Calls Try.prog 42 #[.int .u32 a0, .slice A1 l1.length c1] w fun e w' => e = .returned (.int .u32 r) ∧ Drawn0 w w' := by
 obtain ⟨k_, hk_⟩ := scullerref02_More_c.to h
 exact scullerref02_More.calls k_ a0 A1 c1 l1 r w hr1 hc1 hk_

end Go.Proofs.Ytoooceaoggkeeaa.F
end

section
namespace Go.Proofs.Ytoooceaoggkeeaa.F
open Go.RowKit Go.Proofs.YtoooceaoggkeeaaW.PrintWords Go.Proofs.YtoooceaoggkeeaaW.PrintLast Go.Proofs.YtoooceaoggkeeaaW.PrintMore
attribute [local go_sem] max2_int min2_int max_two min_two max_three min_three max_four min_four   -- for this text's walks alone
set_option linter.unusedVariables false
set_option linter.unusedSimpArgs false

/-! ### scullerref02_Sum: function 30 -/
def scullerref02_Sum.f (l0 : List Int) : Option (Int) := (scullerref02_More_c.f 0 l0).bind fun t101 => (some t101)
set_option maxHeartbeats 8000000 in
set_option maxRecDepth 100000 in
theorem scullerref02_Sum.calls (A0 : Option Addr) (c0 : Nat) (l0 : List Int) (r : Int) (w : World) (hr0 : Kd.C (Kd.int .u8) w A0 l0.length l0) (hc0 : l0.length ≤ c0) (h : scullerref02_Sum.f l0 = some r) :
 Calls Try.prog 30 #[.slice A0 l0.length c0] w fun e w' => e = .returned (.int .u32 r) ∧ Drawn0 w w' := by
 have HR0 := Aside0.mk hr0
 have HC0 := Aside0.mk hc0
 clear hr0 hc0
 have H : ((scullerref02_More_c.f 0 l0).bind fun t101 => (some t101)) = some r := h
 clear h
 replace H := Option.bind_eq_some_iff.mp H
 obtain ⟨t101, A20, H⟩ := H
 replace H : (some t101) = some r := H
 have A2 := Aside0.mk A20
 clear A20
 obtain rfl := Option.some.inj H
 go_enter Try.func30, Try.ntmps30
 go_wp2_with (first | ((with_reducible refine gate_callee (f := 42) rfl ?_); refine goesL_ (some 4) rfl rfl Try.func42 (by kernel_rfl) rfl #[.int .u32 0, .slice A0 l0.length c0] rfl (by (try simp only [List.map_toArray, List.map_cons, List.map_nil]); first | done | rfl | (simp only [List.length_drop, List.length_take]; rfl)) ?_; (with_reducible refine (scullerref02_More_c.calls 0 _ _ l0 t101 _ ?side1 ?side2 A2.out).mono ?_); (case side1 => repeat (first | exact HR0.out | (with_reducible refine Kd.C_alloc ?_ _) | (with_reducible refine Kd.C_drewN ?_ _) | (with_reducible refine Kd.C_drew ?_))); (case side2 => exact HC0.out); rintro e w' ⟨rfl, ⟨nd, rfl⟩⟩; refine ⟨_, rfl, ?_⟩))
 go_ret
 exact ⟨by first | rfl | (simp; done) | (simp [*]; done), by repeat (first | exact Drawn0.refl _ | apply Drawn0.step)⟩

end Go.Proofs.Ytoooceaoggkeeaa.F
end

section
namespace Go.Proofs.Ytoooceaoggkeeaa.F
open Go.RowKit Go.Proofs.YtoooceaoggkeeaaW.PrintWords Go.Proofs.YtoooceaoggkeeaaW.PrintLast Go.Proofs.YtoooceaoggkeeaaW.PrintMore
attribute [local go_sem] max2_int min2_int max_two min_two max_three min_three max_four min_four   -- for this text's walks alone
set_option linter.unusedVariables false
set_option linter.unusedSimpArgs false

/-! ### scullerref01_Put: function 29 -/
def scullerref01_Put.l0 : Nat → Int → Int → List Int → Int → Option (List Int)
 | 0, _, _, _, _ => none
 | k + 1, x0, x1, x5, x6 => if x6 < x1 then (if x6 < 8 then (if x5.length < 140737488355328 then (scullerref01_Put.l0 k (IntKind.u64.wrap (Int.tdiv x0 256)) x1 (x5 ++ [(Int.tmod x0 256) % 256]) (wrap64 (x6 + 1))) else (none)) else (some x5)) else (some x5)
def scullerref01_Put.f (k : Nat) (a0 : Int) (a1 : Int) : Option (List Int) := scullerref01_Put.l0 k a0 a1 ([] : List Int) 0
theorem scullerref01_Put.mono_l : ∀ k, (∀ y0 y1 y2 y3, LeO (scullerref01_Put.l0 k y0 y1 y2 y3) (scullerref01_Put.l0 (k + 1) y0 y1 y2 y3))
 | 0 => fun _ _ _ _ r h => by simp [scullerref01_Put.l0] at h
 | k + 1 => by
   have ih0 := scullerref01_Put.mono_l k
   · intro y0 y1 y2 y3
     unfold scullerref01_Put.l0
     repeat' first
     | (with_reducible exact ih0 _ _ _ _)
     | (with_reducible exact LeO.refl _)
     | (with_reducible exact LeO.none _)
     | (with_reducible refine LeO.ite ?_ ?_)
     | (with_reducible refine LeO.bind ?_ (fun _ => ?_))
     | exact ih0 _ _ _ _
     | exact LeO.none _
     | refine LeO.ite ?_ ?_
     | refine LeO.bind ?_ (fun _ => ?_)
theorem scullerref01_Put.mono : ∀ a0 a1 k, LeO (scullerref01_Put.f k a0 a1) (scullerref01_Put.f (k + 1) a0 a1) := by
 intro a0 a1 k
 have ih0 := scullerref01_Put.mono_l k
 unfold scullerref01_Put.f
 repeat' first
  | (with_reducible exact ih0 _ _ _ _)
  | (with_reducible exact LeO.refl _)
  | (with_reducible exact LeO.none _)
  | (with_reducible refine LeO.ite ?_ ?_)
  | (with_reducible refine LeO.bind ?_ (fun _ => ?_))
  | exact ih0 _ _ _ _
  | exact LeO.none _
  | refine LeO.ite ?_ ?_
  | refine LeO.bind ?_ (fun _ => ?_)
set_option maxHeartbeats 8000000 in
set_option maxRecDepth 100000 in
theorem scullerref01_Put.calls (k : Nat) (a0 : Int) (a1 : Int) (r : List Int) (w : World) (h : scullerref01_Put.f k a0 a1 = some r) :
 Calls Try.prog 29 #[.int .u64 a0, .int .i64 a1] w fun e w' => ∃ v0_ : Value, e = .returned (v0_) ∧ Kd.R (Kd.int .u8) 5 w' w.heap.size (fun _ => True) v0_ r ∧ Below w.heap.size w w' := by
 have HB := Aside0.mk (Below.refl w.heap.size w)
 have H : (scullerref01_Put.l0 k a0 a1 ([] : List Int) 0) = some r := h
 clear h
 have H' := Aside0.mk H
 clear H
 go_enter Try.func29, Try.ntmps29
 go_wp2
 go_loopg [0, 5, 6] k (fun kq v0 v5 v6 w' => ∃ (x0_1 : Int) (x5_1 : List Int) (x6_1 : Int), v0 = .int .u64 x0_1 ∧ v6 = .int .i64 x6_1 ∧ Aside0 (scullerref01_Put.l0 kq x0_1 a1 x5_1 x6_1 = some r) ∧ Aside0 (kq ≤ k) ∧ Aside0 (Kd.R (Kd.int .u8) 5 w' w.heap.size (fun _ => True) v5 x5_1) ∧ Aside0 (Below w.heap.size w w'))
 case atStart => exact ⟨(a0), (([] : List Int)), (0), (by first | rfl | (simp; done) | (simp [*]; done)), (by first | rfl | (simp; done) | (simp [*]; done)), H', ⟨Nat.le_refl _⟩, ⟨by first | exact Kd.R_nil _ _ _ _ _ | exact Kd.N_nil _ _ _ _ _ | exact Kd.V_nil _ _ _ _ _ | exact Kd.Q_nil _ _ _ _ _ | exact Kd.S_nil _ _ _ _ _⟩, ⟨by repeat (first | (with_reducible first | exact HB.out | apply below_alloc | apply pw_below_drewN | apply below_drew1) | exact HB.out)⟩⟩
 case round =>
  clear H'
  try clear c2
  try clear p2
  obtain ⟨x0_1, x5_1, x6_1, rfl, rfl, HA, HK1, HO_5, HB⟩ := hrel
  cases gk with
  | zero => exact absurd HA.out (by simp [scullerref01_Put.l0])
  | succ k1 =>
    have H := HA.out
    clear HA
    simp only [scullerref01_Put.l0] at H
    by_cases c3 : x6_1 < a1
    · rw [if_pos c3] at H
      have c3b0 : decide (x6_1 < a1) = true := decide_eq_true c3
      clear c3
      by_cases c4 : x6_1 < 8
      · rw [if_pos c4] at H
        have c4b0 : decide (x6_1 < 8) = true := decide_eq_true c4
        clear c4
        by_cases c5 : x5_1.length < 140737488355328
        · rw [if_pos c5] at H
          have LMc5 := Aside0.mk c5
          clear c5
          obtain ⟨y101, hy101⟩ : ∃ y_ : List Int, y_ = (x5_1 ++ [(Int.tmod x0_1 256) % 256]) := ⟨_, rfl⟩
          replace H : (scullerref01_Put.l0 k1 (IntKind.u64.wrap (Int.tdiv x0_1 256)) a1 y101 (wrap64 (x6_1 + 1))) = some r := by first | (rw [hy101]; with_reducible exact H) | (have H2_ := (Option.bind_some _ _).symm.trans H; rw [hy101]; with_reducible exact H2_) | (have H2_ := (Option.bind_some _ _).symm.trans H; with_reducible exact H2_) | with_reducible exact H | (rw [hy101]; exact H) | exact H
          have Ny101 := Aside0.mk hy101
          clear hy101
          have H' := Aside0.mk H
          clear H
          go_wp2_with (first | ((with_reducible refine gate_builtin (b := .append) (xs := #[.tmp 16, .tmp 20]) rfl ?_); at_builtin; refine Kd.R_append (Kd.int .u8) (w0 := w) w.heap.size rfl (.tmp 16) (.tmp 20) 25 5 (.int .u8 0) 1 rfl Try.underlying25 info5 rfl (by decide) (by omega) u5 x5_1 ((Int.tmod x0_1 256) % 256) [.int .u8 ((Int.tmod x0_1 256) % 256)] (fun _ => True) (fun _ => False) rfl rfl ?aP (fun _ hk => hk.elim) ?aF ?aO ?aB ?aS ?aL ?_; (case aP => exact rfl); (case aB => exact (by repeat (first | (with_reducible first | exact HB.out | apply below_alloc | apply pw_below_drewN | apply below_drew1) | exact HB.out))); (case aF => exact (fun _ _ => trivial)); (case aO => exact (by (with_reducible repeat (first | apply Kd.R_alloc | apply Kd.R_drewN | apply Kd.R_drew)); exact HO_5.out)); (case aS => exact (below_size (by repeat (first | (with_reducible first | exact HB.out | apply below_alloc | apply pw_below_drewN | apply below_drew1) | exact HB.out)))); (case aL => have := LMc5.out; omega); intro v102 w6 ho hb hg hat; rw [← Ny101.out] at ho; have n0_ := Aside0.mk (hb); have n1_ := Aside0.mk (ho); clear HB; clear HO_5; have HB := n0_; have HO103 := n1_; clear n0_ n1_; clear ho hb hg hat))
          go_roundg k1
          case measure => have := HK1.out; omega
          case rel => exact ⟨(IntKind.u64.wrap (Int.tdiv x0_1 256)), (y101), (wrap64 (x6_1 + 1)), (by first | rfl | (simp; done) | (simp [*]; done)), (by first | rfl | (simp; done) | (simp [*]; done)), H', ⟨by have := HK1.out; omega⟩, ⟨by (with_reducible repeat (first | apply Kd.R_alloc | apply Kd.R_drewN | apply Kd.R_drew)); exact HO103.out⟩, ⟨by repeat (first | (with_reducible first | exact HB.out | apply below_alloc | apply pw_below_drewN | apply below_drew1) | exact HB.out)⟩⟩
        · rw [if_neg c5] at H
          exact absurd H (by simp)
      · rw [if_neg c4] at H
        have c4b0 : decide (x6_1 < 8) = false := decide_eq_false c4
        clear c4
        obtain rfl := Option.some.inj H
        go_wp2
        go_ret
        exact ⟨_, by first | rfl | (simp [errW_none, errW_some] <;> rfl) | (simp [*, errW_none, errW_some] <;> rfl), by (with_reducible repeat (first | apply Kd.R_alloc | apply Kd.R_drewN | apply Kd.R_drew)); exact HO_5.out, by repeat (first | (with_reducible first | exact HB.out | apply below_alloc | apply pw_below_drewN | apply below_drew1) | exact HB.out)⟩
    · rw [if_neg c3] at H
      have c3b0 : decide (x6_1 < a1) = false := decide_eq_false c3
      clear c3
      obtain rfl := Option.some.inj H
      go_wp2
      go_ret
      exact ⟨_, by first | rfl | (simp [errW_none, errW_some] <;> rfl) | (simp [*, errW_none, errW_some] <;> rfl), by (with_reducible repeat (first | apply Kd.R_alloc | apply Kd.R_drewN | apply Kd.R_drew)); exact HO_5.out, by repeat (first | (with_reducible first | exact HB.out | apply below_alloc | apply pw_below_drewN | apply below_drew1) | exact HB.out)⟩

end Go.Proofs.Ytoooceaoggkeeaa.F
end

section
namespace Go.Proofs.Ytoooceaoggkeeaa.F
open Go.RowKit Go.Proofs.YtoooceaoggkeeaaW.PrintWords Go.Proofs.YtoooceaoggkeeaaW.PrintLast Go.Proofs.YtoooceaoggkeeaaW.PrintMore
attribute [local go_sem] max2_int min2_int max_two min_two max_three min_three max_four min_four   -- for this text's walks alone
set_option linter.unusedVariables false
set_option linter.unusedSimpArgs false

open Go.Proofs.Ytoooceaoggkeeaa.H
def scullerref01_Put_c.f (a0 a1 : Int) : Option (List Int) := if u64B a0 = true then some (putL a0 (putN a1)) else none
theorem scullerref01_Put.l0_to (a1 : Int) : ∀ (d i : Nat) (n : Int) (acc : List Int), putN a1 - i = d → i ≤ putN a1 → acc.length = i → 0 ≤ n → n < 18446744073709551616 → ∃ k, scullerref01_Put.l0 k n a1 acc (i : Int) = some (acc ++ putL n d)
 | 0, i, n, acc, hd, hi, ha, h0, h1 => ⟨1, by
   simp only [scullerref01_Put.l0, putL_zero, List.append_nil]
   by_cases e : (i : Int) < a1
   · rw [if_pos e, if_neg (by unfold putN at *; omega)]
   · rw [if_neg e]⟩
 | d + 1, i, n, acc, hd, hi, ha, h0, h1 => by
   have hp := putN_le a1
   have e1 : Int.tmod n 256 % 256 = n % 256 := by rw [Int.tmod_eq_emod_of_nonneg h0]; omega
   have e2 : IntKind.u64.wrap (Int.tdiv n 256) = n / 256 := by
    rw [Int.tdiv_eq_ediv_of_nonneg h0]
    simp [IntKind.wrap, IntKind.signed, IntKind.bits]
    omega
   obtain ⟨k, hk⟩ := scullerref01_Put.l0_to a1 d (i + 1) (n / 256) (acc ++ [n % 256]) (by omega) (by omega) (by simp [ha]) (by omega) (by omega)
   refine ⟨k + 1, ?_⟩
   simp only [scullerref01_Put.l0]
   rw [if_pos (by unfold putN at *; omega), if_pos (by omega), if_pos (by omega), e1, e2, show wrap64 ((i : Int) + 1) = ((i + 1 : Nat) : Int) from by unfold wrap64; omega, hk, putL_succ]
   simp
theorem scullerref01_Put_c.to {a0 a1 : Int} {r : List Int} (h : scullerref01_Put_c.f a0 a1 = some r) : ∃ k, scullerref01_Put.f k a0 a1 = some r := by
 unfold scullerref01_Put_c.f at h
 split at h
 case isFalse => cases h
 case isTrue hl =>
 obtain rfl := Option.some.inj h
 simp only [u64B, Bool.and_eq_true, decide_eq_true_eq] at hl
 obtain ⟨k, hk⟩ := scullerref01_Put.l0_to a1 (putN a1) 0 a0 [] (by omega) (by omega) rfl hl.1 hl.2
 exact ⟨k, by unfold scullerref01_Put.f; simpa using hk⟩

theorem scullerref01_Put_c.calls (a0 : Int) (a1 : Int) (r : List Int) (w : World) (h : scullerref01_Put_c.f a0 a1 = some r) :
 Calls Try.prog 29 #[.int .u64 a0, .int .i64 a1] w fun e w' => ∃ v0_ : Value, e = .returned (v0_) ∧ Kd.R (Kd.int .u8) 5 w' w.heap.size (fun _ => True) v0_ r ∧ Below w.heap.size w w' := by
 obtain ⟨k_, hk_⟩ := scullerref01_Put_c.to h
 exact scullerref01_Put.calls k_ a0 a1 r w hk_

end Go.Proofs.Ytoooceaoggkeeaa.F
end

section
namespace Go.Proofs.Ytoooceaoggkeeaa.F
open Go.RowKit Go.Proofs.YtoooceaoggkeeaaW.PrintWords Go.Proofs.YtoooceaoggkeeaaW.PrintLast Go.Proofs.YtoooceaoggkeeaaW.PrintMore
attribute [local go_sem] max2_int min2_int max_two min_two max_three min_three max_four min_four   -- for this text's walks alone
set_option linter.unusedVariables false
set_option linter.unusedSimpArgs false

/-! ### scullerref02_Seal: function 14 -/
def scullerref02_Seal.f (l0 : List Int) : Option (List Int) := if ([] : List Int).length + l0.length < 140737488355328 then ((some (([] : List Int) ++ l0 : List Int)).bind fun y101 => ((scullerref02_Sum.f l0).bind fun t104 => ((scullerref01_Put_c.f (IntKind.u64.wrap (t104)) 4).bind fun t105 => (if y101.length + t105.length < 140737488355328 then (some (y101 ++ t105)) else (none))))) else (none)
set_option maxHeartbeats 8000000 in
set_option maxRecDepth 100000 in
theorem scullerref02_Seal.calls (A0 : Option Addr) (c0 : Nat) (l0 : List Int) (r : List Int) (w : World) (hr0 : Kd.C (Kd.int .u8) w A0 l0.length l0) (hc0 : l0.length ≤ c0) (h : scullerref02_Seal.f l0 = some r) :
 Calls Try.prog 14 #[.slice A0 l0.length c0] w fun e w' => ∃ v0_ : Value, e = .returned (v0_) ∧ Kd.R (Kd.int .u8) 5 w' w.heap.size (fun _ => True) v0_ r ∧ Below w.heap.size w w' := by
 have HR0 := Aside0.mk hr0
 have HC0 := Aside0.mk hc0
 clear hr0 hc0
 have HB := Aside0.mk (Below.refl w.heap.size w)
 have H : (if ([] : List Int).length + l0.length < 140737488355328 then ((some (([] : List Int) ++ l0 : List Int)).bind fun y101 => ((scullerref02_Sum.f l0).bind fun t104 => ((scullerref01_Put_c.f (IntKind.u64.wrap (t104)) 4).bind fun t105 => (if y101.length + t105.length < 140737488355328 then (some (y101 ++ t105)) else (none))))) else (none)) = some r := h
 clear h
 by_cases c2 : ([] : List Int).length + l0.length < 140737488355328
 · rw [if_pos c2] at H
   have LMc2 := Aside0.mk c2
   clear c2
   obtain ⟨y101, hy101⟩ : ∃ y_ : List Int, y_ = (([] : List Int) ++ l0) := ⟨_, rfl⟩
   replace H : ((scullerref02_Sum.f l0).bind fun t104 => ((scullerref01_Put_c.f (IntKind.u64.wrap (t104)) 4).bind fun t105 => (if y101.length + t105.length < 140737488355328 then (some (y101 ++ t105)) else (none)))) = some r := by first | (rw [hy101]; with_reducible exact H) | (have H2_ := (Option.bind_some _ _).symm.trans H; rw [hy101]; with_reducible exact H2_) | (have H2_ := (Option.bind_some _ _).symm.trans H; with_reducible exact H2_) | with_reducible exact H | (rw [hy101]; exact H) | exact H
   have Ny101 := Aside0.mk hy101
   clear hy101
   replace H := Option.bind_eq_some_iff.mp H
   obtain ⟨t104, A30, H⟩ := H
   replace H : ((scullerref01_Put_c.f (IntKind.u64.wrap (t104)) 4).bind fun t105 => (if y101.length + t105.length < 140737488355328 then (some (y101 ++ t105)) else (none))) = some r := H
   have A3 := Aside0.mk A30
   clear A30
   replace H := Option.bind_eq_some_iff.mp H
   obtain ⟨t105, A40, H⟩ := H
   replace H : (if y101.length + t105.length < 140737488355328 then (some (y101 ++ t105)) else (none)) = some r := H
   have A4 := Aside0.mk A40
   clear A40
   by_cases c5 : y101.length + t105.length < 140737488355328
   · rw [if_pos c5] at H
     have LMc5 := Aside0.mk c5
     clear c5
     obtain ⟨y108, hy108⟩ : ∃ y_ : List Int, y_ = (y101 ++ t105) := ⟨_, rfl⟩
     replace H : (some y108) = some r := by first | (rw [hy108]; with_reducible exact H) | (have H2_ := (Option.bind_some _ _).symm.trans H; rw [hy108]; with_reducible exact H2_) | (have H2_ := (Option.bind_some _ _).symm.trans H; with_reducible exact H2_) | with_reducible exact H | (rw [hy108]; exact H) | exact H
     have Ny108 := Aside0.mk hy108
     clear hy108
     obtain rfl := Option.some.inj H
     go_enter Try.func14, Try.ntmps14
     go_wp2_with (first | ((with_reducible refine gate_builtin (b := .append) (xs := #[.tmp 5, .tmp 6]) rfl ?_); at_builtin; refine Kd.R_append_rows (Kd.int .u8) (w0 := w) w.heap.size rfl (.tmp 5) (.tmp 6) 25 5 (.int .u8 0) 1 rfl Try.underlying25 info5 rfl (by decide) (by omega) (.slice none 0 0) ([] : List Int) l0 _ _ _ (fun _ => True) (fun _ => False) rfl rfl ?aO ?aR (fun _ _ h => h) (fun _ h => h.elim) ?aF ?aB ?aS ?aL ?_; (case aR => repeat (first | exact HR0.out | (with_reducible refine Kd.C_alloc ?_ _) | (with_reducible refine Kd.C_drewN ?_ _) | (with_reducible refine Kd.C_drew ?_))); (case aB => exact (by repeat (first | (with_reducible first | exact HB.out | apply below_alloc | apply pw_below_drewN | apply below_drew1) | exact HB.out))); (case aF => exact (fun _ _ => trivial)); (case aO => exact ((Kd.R_nil _ _ _ _ (fun _ => True)))); (case aS => exact (below_size (by repeat (first | (with_reducible first | exact HB.out | apply below_alloc | apply pw_below_drewN | apply below_drew1) | exact HB.out)))); (case aL => have := LMc2.out; omega); intro v102 w6 ho hb hg hat; rw [← Ny101.out] at ho; have n0_ := Aside0.mk (hb); have n1_ := Aside0.mk (ho); clear HB; have HB := n0_; have HO103 := n1_; clear n0_ n1_; clear ho hb hg hat) | ((with_reducible refine gate_callee (f := 30) rfl ?_); refine goesL_ (some 9) rfl rfl Try.func30 (by kernel_rfl) rfl #[.slice A0 l0.length c0] rfl (by (try simp only [List.map_toArray, List.map_cons, List.map_nil]); first | done | rfl | (simp only [List.length_drop, List.length_take]; rfl)) ?_; (with_reducible refine (scullerref02_Sum.calls _ _ l0 t104 _ ?side1 ?side2 A3.out).mono ?_); (case side1 => repeat (first | exact (Kd.C_below HR0.out HB.out) | (with_reducible refine Kd.C_alloc ?_ _) | (with_reducible refine Kd.C_drewN ?_ _) | (with_reducible refine Kd.C_drew ?_))); (case side2 => exact HC0.out); rintro e w' ⟨rfl, ⟨nd, rfl⟩⟩; refine ⟨_, rfl, ?_⟩) | ((with_reducible refine gate_callee (f := 29) rfl ?_); refine goesL_ (some 11) rfl rfl Try.func29 (by kernel_rfl) rfl #[.int .u64 (IntKind.u64.wrap (t104)), .int .i64 4] rfl (by (try simp only [List.map_toArray, List.map_cons, List.map_nil]); first | done | rfl | (simp only [List.length_drop, List.length_take]; rfl)) ?_; (with_reducible refine (scullerref01_Put_c.calls (IntKind.u64.wrap (t104)) 4 t105 _ A4.out).mono ?_); rintro e w7 ⟨v106, rfl, ho0, hb⟩; refine ⟨_, rfl, ?_⟩; have n0_ := Aside0.mk (Kd.R_elder' (by (with_reducible repeat (first | apply Kd.R_alloc | apply Kd.R_drewN | apply Kd.R_drew)); exact HO103.out) (Kd.R_base ho0) hb); have n1_ := Aside0.mk (Kd.R_lower (Kd.R_new' ho0 (Kd.R_lt (by (with_reducible repeat (first | apply Kd.R_alloc | apply Kd.R_drewN | apply Kd.R_drew)); exact HO103.out))) (below_size (by repeat (first | (with_reducible first | exact HB.out | apply below_alloc | apply pw_below_drewN | apply below_drew1) | exact HB.out)))); have n2_ := Aside0.mk (below_step (by repeat (first | (with_reducible first | exact HB.out | apply below_alloc | apply pw_below_drewN | apply below_drew1) | exact HB.out)) hb); clear HO103; clear HB; have HO103 := n0_; have HO107 := n1_; have HB := n2_; clear n0_ n1_ n2_; (try clear hb); (try clear hb2); (try clear hk); (try clear hi); (try clear ho0); obtain ⟨Ao9, co9, eo9⟩ := Kd.R_slice HO107.out; subst eo9) | ((with_reducible refine gate_builtin (b := .append) (xs := #[.tmp 12, .tmp 13]) rfl ?_); at_builtin; refine Kd.R_append_rows (Kd.int .u8) (w0 := w) w.heap.size rfl (.tmp 12) (.tmp 13) 25 5 (.int .u8 0) 1 rfl Try.underlying25 info5 rfl (by decide) (by omega) v102 y101 t105 _ _ _ (fun k_ => some k_ ≠ (.slice Ao9 t105.length co9 : Value).ownBlock) (fun _ => False) rfl rfl ?aO ?aR (fun _ _ h => h) (fun _ h => h.elim) ?aF ?aB ?aS ?aL ?_; (case aR => repeat (first | exact (Kd.R_reads' HO107.out).2.2 | (with_reducible refine Kd.C_alloc ?_ _) | (with_reducible refine Kd.C_drewN ?_ _) | (with_reducible refine Kd.C_drew ?_))); (case aB => exact (by repeat (first | (with_reducible first | exact HB.out | apply below_alloc | apply pw_below_drewN | apply below_drew1) | exact HB.out))); (case aF => exact (fun k_ hk => Kd.fresh' (Kd.R_lt (by (with_reducible repeat (first | apply Kd.R_alloc | apply Kd.R_drewN | apply Kd.R_drew)); exact HO107.out)) k_ hk)); (case aO => exact (by (with_reducible repeat (first | apply Kd.R_alloc | apply Kd.R_drewN | apply Kd.R_drew)); exact Kd.R_mono HO103.out (fun _ hk => hk.2))); (case aS => exact (below_size (by repeat (first | (with_reducible first | exact HB.out | apply below_alloc | apply pw_below_drewN | apply below_drew1) | exact HB.out)))); (case aL => have := LMc5.out; omega); intro v109 w8 ho hb hg hat; rw [← Ny108.out] at ho; have n0_ := Aside0.mk (Kd.R_after (ok := (fun _ => True)) (by (with_reducible repeat (first | apply Kd.R_alloc | apply Kd.R_drewN | apply Kd.R_drew)); exact HO107.out) hg hat); have n1_ := Aside0.mk (hb); have n2_ := Aside0.mk (ho); clear HO107; clear HB; clear HO103; have HO107 := n0_; have HB := n1_; have HO110 := n2_; clear n0_ n1_ n2_; clear ho hb hg hat))
     go_ret
     exact ⟨_, by first | rfl | (simp [errW_none, errW_some] <;> rfl) | (simp [*, errW_none, errW_some] <;> rfl), by (with_reducible repeat (first | apply Kd.R_alloc | apply Kd.R_drewN | apply Kd.R_drew)); exact Kd.R_mono HO110.out (fun _ hk => trivial), by repeat (first | (with_reducible first | exact HB.out | apply below_alloc | apply pw_below_drewN | apply below_drew1) | exact HB.out)⟩
   · rw [if_neg c5] at H
     exact absurd H (by simp)
 · rw [if_neg c2] at H
   exact absurd H (by simp)

end Go.Proofs.Ytoooceaoggkeeaa.F
end

section
/- What every hand-proved function of this seat that ranges over an iterator leans on: a relation on worlds ('Kset': below a bound all blocks but some named ones lie as they lay) and small lemmas. -/
namespace Go.Proofs.Ytoooceaoggkeeaa.H
open Go.RowKit Go.Shelf
open Go.Proofs.YtoooceaoggkeeaaW.PrintWords

/-- Below B all blocks but those of S lie as they lay; the streams are as they were; no block has gone. -/
structure Kset (B : Nat) (S : Nat → Prop) (w w' : World) : Prop where
 os : w'.os = w.os
 tape : w'.tape = w.tape
 output : w'.output = w.output
 size : w.heap.size ≤ w'.heap.size
 block : ∀ k, k < B → ¬ S k → w'.heap[k]? = w.heap[k]?

theorem Kset.refl (B : Nat) (S : Nat → Prop) (w : World) : Kset B S w w := ⟨rfl, rfl, rfl, Nat.le_refl _, fun _ _ _ => rfl⟩
theorem Kset.trans {B : Nat} {S : Nat → Prop} {a b c : World} (h : Kset B S a b) (k : Kset B S b c) : Kset B S a c :=
 ⟨k.os.trans h.os, k.tape.trans h.tape, k.output.trans h.output, Nat.le_trans h.size k.size, fun i hi hs => (k.block i hi hs).trans (h.block i hi hs)⟩
theorem Kset.of_below {B : Nat} {S : Nat → Prop} {a b : World} (h : Below B a b) : Kset B S a b := ⟨h.os, h.tape, h.output, h.size, fun k hk _ => h.block k hk⟩
theorem Kset.below {B C : Nat} {S : Nat → Prop} {a b : World} (h : Kset B S a b) (hC : C ≤ B) (hS : ∀ k, S k → C ≤ k) : Below C a b :=
 ⟨h.os, h.tape, h.output, h.size, fun k hk => h.block k (by omega) (fun hs => by have := hS k hs; omega)⟩
theorem Kset.cell {B : Nat} {S : Nat → Prop} {a b : World} (h : Kset B S a b) {p : Addr} (hp : p.block < B) (hs : ¬ S p.block) : b.cell? p = a.cell? p := World.cell?_of_block (w := a) (h.block p.block hp hs)
theorem Kset.setCell {B : Nat} {S : Nat → Prop} {a b : World} (h : Kset B S a b) {p : Addr} (hp : S p.block ∨ B ≤ p.block) (u : Value) : Kset B S a (b.setCell p u) :=
 h.trans ⟨rfl, rfl, rfl, by simp [World.setCell], fun k hk hs => Below.heap_setCell _ _ _ _ (fun e => by subst e; rcases hp with hp | hp; exact hs hp; omega)⟩
theorem Kset.alloc {B : Nat} {S : Nat → Prop} {a b : World} (h : Kset B S a b) (hB : B ≤ b.heap.size) (o : Obj) : Kset B S a (b.alloc o) :=
 h.trans ⟨rfl, rfl, rfl, by simp, fun k hk _ => Below.heap_alloc _ _ _ (by omega)⟩
theorem Kset.drew {B : Nat} {S : Nat → Prop} {a b : World} (h : Kset B S a b) : Kset B S a b.drew := ⟨h.os, h.tape, h.output, h.size, h.block⟩
theorem Kset.grown {B : Nat} {S : Nat → Prop} {a w w' : World} {row : Option Nat} (h : Kset B S a w) (hg : w.grownBy w' row) (hB : B ≤ w.heap.size) (hr : ∀ k, row = some k → S k ∨ B ≤ k) : Kset B S a w' :=
 h.trans ⟨hg.os, hg.tape, hg.output, hg.size, fun k hk hs => hg.block k (by omega) (fun e => by rcases hr k e.symm with h | h; exact hs h; omega)⟩
theorem ksetK_t {n₀ : Nat} {S : Nat → Prop} {A B C : World} (h : Kset n₀ S A B) (k : Kset n₀ S B C) : Kset n₀ S A C := h.trans k
theorem ksetK_b {n₀ : Nat} {S : Nat → Prop} {w : World} (hn : n₀ ≤ w.heap.size) (W : World) (l : Nat) (o o' : Obj) (hl : w.heap.size ≤ l) (h : W.heap[l]? = some o) (_ : o.isCells = false) (_ : o.isWalk = false) : Kset n₀ S W (W.putObj l o') :=
 (Kset.refl n₀ S W).grown (grownBy_putObj' W l o') (by have := (Array.getElem?_eq_some_iff.1 h).1; omega) (fun k e => by cases e; right; omega)
theorem ownFrom_kset {β : Type} {n₀ B : Nat} {S : Nat → Prop} {w : World} (h : n₀ ≤ B) (hw : n₀ ≤ w.heap.size) : OwnFrom B (fun (_ : β) W => Kset n₀ S w W) :=
 fun _ X Y row hs hg hr => hs.trans ⟨hg.os, hg.tape, hg.output, hg.size, fun k hk _ => hg.block k (by have := hs.size; omega) (fun e => by have := (hr k e.symm).1; omega)⟩

/-- What has been read of a row that lies below B and is none of S is still there. -/
theorem C_kset {α : Type} {d : Kd α} {B : Nat} {S : Nat → Prop} {w w' w1 : World} {A : Option Addr} {n : Nat} {xs : List α} (h : d.C w A n xs) (hb : Below w.heap.size w w1) (hk : Kset B S w1 w') (hB : w.heap.size ≤ B) (hS : ∀ k, S k → w.heap.size ≤ k) : d.C w' A n xs :=
 Kd.C_below h (hb.trans (hk.below hB hS))

/-! ### A region that draws its order, within a round: op by op -/
section
variable {P : Program} {ops : Array Oper} {Q : Exit → Act → World → Prop} {K : Act → World → Prop} {o : Oper} {a : Act} {w w1 : World} {n l : Nat}
/-- What an operation of a round comes to: one that gives a value. -/
theorem stepIn_value {v : Value} (hg : o.guard = none) (hd : ∀ c, o.op ≠ .defer c) (hrun : (execOp a.eval o).run P w = .ok (.value v) w1) (h : K (a.put o.dst v) w1) :
 if Region.wanted o (yielded ops a.tmps) = true then Oper.wpIn (Fence.wide.inRound l) n P o a w K Q else (∀ f, o.about P w a.eval = some f → (Fence.wide.inRound l).fn f) ∧ K (a.put o.dst undef) w := by
 have hw : Region.wanted o (yielded ops a.tmps) = true := by simp [Region.wanted, hg]
 rw [if_pos hw]
 refine ⟨fun _ _ => trivial, ?_⟩
 have e : o.semAt (Fence.wide.inRound l).round a.eval = execOp a.eval o := Oper.semAt_eq _ _ _ hd
 rw [e, hrun]
 exact h
/-- One that gives none. -/
theorem stepIn_skip (hg : o.guard = none) (hd : ∀ c, o.op ≠ .defer c) (hrun : (execOp a.eval o).run P w = .ok .skip w1) (h : K (a.put o.dst undef) w1) :
 if Region.wanted o (yielded ops a.tmps) = true then Oper.wpIn (Fence.wide.inRound l) n P o a w K Q else (∀ f, o.about P w a.eval = some f → (Fence.wide.inRound l).fn f) ∧ K (a.put o.dst undef) w := by
 have hw : Region.wanted o (yielded ops a.tmps) = true := by simp [Region.wanted, hg]
 rw [if_pos hw]
 refine ⟨fun _ _ => trivial, ?_⟩
 have e : o.semAt (Fence.wide.inRound l).round a.eval = execOp a.eval o := Oper.semAt_eq _ _ _ hd
 rw [e, hrun]
 exact h
/-- One that calls a function. -/
theorem stepIn_call {f : FuncId} {args : Array Value} {R : Ending → World → Prop} (hg : o.guard = none) (hd : ∀ c, o.op ≠ .defer c) (hrun : (execOp a.eval o).run P w = .ok (.enter f args) w1) (hc : Calls P f args w1 R)
 (h : ∀ e w', R e w' → ∃ v, e = .returned v ∧ K (a.put o.dst v) w') :
 if Region.wanted o (yielded ops a.tmps) = true then Oper.wpIn (Fence.wide.inRound l) n P o a w K Q else (∀ f, o.about P w a.eval = some f → (Fence.wide.inRound l).fn f) ∧ K (a.put o.dst undef) w := by
 have hw : Region.wanted o (yielded ops a.tmps) = true := by simp [Region.wanted, hg]
 rw [if_pos hw]
 refine ⟨fun _ _ => trivial, ?_⟩
 have e : o.semAt (Fence.wide.inRound l).round a.eval = execOp a.eval o := Oper.semAt_eq _ _ _ hd
 rw [e, hrun]
 refine ⟨fun h => by simp [Fence.inRound, Fence.wide] at h, CallsIn.inRound l (CallsIn.mono (callsIn_wide.2 hc) fun e w' hR => ?_)⟩
 obtain ⟨v, rfl, hk⟩ := h e w' hR
 exact hk
end

theorem keepsOthers_below {W w2 : World} (h : Below W.heap.size W w2) : KeepsOthers W w2 :=
 ⟨h.size, fun k _ hk _ => (h.block k (Array.getElem?_eq_some_iff.1 hk).1).trans hk⟩
theorem keepsOthers_own {W w1 : World} {base n : Nat} {e : TypeId} {size : Nat} {v : Value} {xs : List Value} (ho : W.ownsRow base e size v n xs) (hg : W.grownBy w1 v.ownBlock) : KeepsOthers W w1 :=
 KeepsOthers.of_grownBy hg fun j o ej hj => by
  obtain ⟨cells, hc⟩ := own_typed ho j ej
  rw [hc] at hj; cases hj; rfl

/-- 'append(v, ys...)', v a row of the call's own, ys a slice that is read: what the operation comes to. -/
theorem append_row_run {P : Program} {W : World} (base : Nat) {t ty e : TypeId} {k : IntKind} {bytes : Nat}
 (ht : P.underlying t = some (.slice e)) (hinfo : (P.info? e).map (fun i => (i.zero, i.size, i.bytes)) = some (some (.int k 0), 1, bytes)) (hb0 : 0 < bytes)
 (v : Value) (xs ys : List Int) (A : Option Addr) (m c : Nat)
 (HO : W.ownsRow base e 1 v xs.length (nums k xs)) (HR : ReadsInt W k A m ys) (hbase : base ≤ W.heap.size) (hl : (xs.length + m) * bytes ≤ 140737488355328) :
 ∃ v1 w1, (Builtin.append_ #[t, t] ty #[v, .slice A m c]).run P W = .ok v1 w1 ∧ w1.ownsRow base e 1 v1 (xs ++ ys).length (nums k (xs ++ ys)) ∧ W.grownBy w1 v.ownBlock ∧ (v1.ownBlock = v.ownBlock ∨ v1.ownBlock = some W.heap.size) := by
 obtain ⟨i0, hi, hzz⟩ := Option.map_eq_some_iff.1 hinfo
 simp only [Prod.mk.injEq] at hzz
 obtain ⟨hz0, hz1, hz2⟩ := hzz
 have hm : ys.length = m := HR.1
 have hlen : xs.length + m ≤ 140737488355328 := Nat.le_trans (Nat.le_mul_of_pos_right _ hb0) hl
 rcases A with _ | ad
 · have h0 : m = 0 := by
    rcases Nat.eq_zero_or_pos m with h0 | h0
    · exact h0
    · obtain ⟨ad, h, _⟩ := HR.2.2 h0
      cases h
   subst h0
   obtain rfl : ys = [] := List.eq_nil_of_length_eq_zero hm
   refine ⟨v, W, ?_, by simpa using HO, World.grownBy.refl W _, .inl rfl⟩
   rcases HO.2 with ⟨rfl, hn⟩ | ⟨g, cap, cur, rfl, _, _, hnc, _⟩
   · simp [Builtin.append_, run_underlying ht, sizeOf, typeInfo, hi, Builtin.lenOf, Builtin.firstCells]
   · simp [Builtin.append_, run_underlying ht, sizeOf, typeInfo, hi, Builtin.lenOf, Builtin.firstCells, hnc, storeCells]
 · have hcells : ∀ j u, (nums k ys)[j]? = some u → W.cell? (ad.add j) = some u := by
    intro j u hu
    have hj : j < ys.length := by
     rcases Nat.lt_or_ge j ys.length with h | h
     · exact h
     · simp [nums, List.getElem?_eq_none h] at hu
    obtain ⟨ad', h', hc⟩ := HR.2.2 (by omega)
    injection h' with h'
    subst h'
    have := hc j (by omega)
    simp [nums, List.getElem?_eq_getElem hj] at hu
    subst hu
    rw [this]
    simp [List.getD_eq_getElem?_getD, List.getElem?_eq_getElem hj]
   obtain ⟨v1, w1, hr, h2, h3, _, h5⟩ := run_append_own_at (P := P) W base t ty e i0 (.int k 0) 1 bytes ht hi hz0 hz1 hz2 rfl (by omega) v xs.length (nums k xs) HO ad m c (nums k ys) (by simp [nums, hm]) hcells
    (by intro u hu; simp only [nums, List.mem_map] at hu; obtain ⟨q, _, rfl⟩ := hu; rfl) (by simp only [maxLen]; omega) hl hbase
   exact ⟨v1, w1, hr, by simpa [nums, hm] using h2, h3, h5⟩

end Go.Proofs.Ytoooceaoggkeeaa.H
end

section
/- The kinds of datagrams: a map that the call makes. -/
namespace Go.Proofs.Ytoooceaoggkeeaa.F
open Go.RowKit Go.MapKept Go.Proofs.YtoooceaoggkeeaaW.PrintWords Go.Proofs.YtoooceaoggkeeaaW.PrintLast Go.Proofs.YtoooceaoggkeeaaW.PrintMore Go.Proofs.Ytoooceaoggkeeaa.H
set_option linter.unusedVariables false
set_option linter.unusedSimpArgs false
/-- An entry more, of a key that is not there. -/
theorem map_new {P : Program} {mt kt et : TypeId} {ik : IntKind} (hm : P.underlying mt = some (.map kt et)) (hd : P.underlying kt = some (.int ik)) (w : World) (r : Nat) (es : Array MapEntry) (clock : Nat) (k : Int) (v : Value) (hb : w.heap[r]? = some (.map es clock)) (hn : Instr.findNow (.int ik) (.int ik k) es.toList 0 = some none) :
 ∃ w', (Instr.mapUpdate mt (.map (some r)) (.int ik k) v).run P w = .ok () w' ∧ w'.heap[r]? = some (.map (es.push { key := .int ik k, val := v, born := clock }) (clock + 1)) ∧ w.grownBy w' (some r) ∧ w'.heap.size = w.heap.size := by
 refine ⟨{ w with heap := w.heap.setIfInBounds r (.map (es.push { key := .int ik k, val := v, born := clock }) (clock + 1)) }, ?_, (heap_set hb).1, ⟨rfl, rfl, rfl, by simp, fun q _ hq => (heap_set hb).2 q (fun e => hq (by rw [e]))⟩, by simp⟩
 simp [Instr.mapUpdate, run_underlying hm, Go.MapKept.run_getObj_map hb, run_checkKey hd (show IsKey (.int ik) (.int ik k) from rfl), run_findKey hd hn, Go.MapKept.run_setObj_map _ hb, Result.andThen]
def hasV (a b : Int) : Value := .agg #[.int .i64 a, .int .i64 b]
def kindE (k a b : Int) (n : Nat) : MapEntry := { key := .int .i64 k, val := hasV a b, born := n }
def kindsE : Array MapEntry := #[kindE 1 4 0 0, kindE 2 0 64 1, kindE 3 0 64 2, kindE 4 0 64 3, kindE 5 0 0 4, kindE 6 0 0 5, kindE 7 0 0 6, kindE 8 0 0 7]
set_option maxHeartbeats 1000000 in
set_option maxRecDepth 100000 in
theorem pack_kinds.calls (w : World) : Calls Try.prog 35 #[] w fun e w' => e = .returned (.map (some w.heap.size)) ∧ w'.heap[w.heap.size]? = some (.map kindsE 8) ∧ Below w.heap.size w w' ∧ w'.heap.size = w.heap.size + 1 := by
 have hu := Try.underlying65
 have hu3 := Try.underlying3
 obtain ⟨w0, hw0⟩ : ∃ w0, w.alloc (.map #[] 0) = w0 := ⟨_, rfl⟩
 have hmk : (Instr.makeMap 65 none).run Try.prog w = .ok (.map (some w.heap.size)) w0 := by rw [← hw0]; rfl
 have h0 : w0.heap[w.heap.size]? = some (.map #[] 0) := by rw [← hw0]; exact (heap_alloc w _).1
 have B0 : Below w.heap.size w w0 := by rw [← hw0]; exact below_alloc (Below.refl _ _) _
 have s0 : w0.heap.size = w.heap.size + 1 := by rw [← hw0]; exact World.size_alloc _ _
 obtain ⟨w1, i1, h1, g1, s1⟩ := map_new hu hu3 w0 w.heap.size _ _ 1 (hasV 4 0) h0 (by rfl)
 obtain ⟨w2, i2, h2, g2, s2⟩ := map_new hu hu3 w1 w.heap.size _ _ 2 (hasV 0 64) h1 (by rfl)
 obtain ⟨w3, i3, h3, g3, s3⟩ := map_new hu hu3 w2 w.heap.size _ _ 3 (hasV 0 64) h2 (by rfl)
 obtain ⟨w4, i4, h4, g4, s4⟩ := map_new hu hu3 w3 w.heap.size _ _ 4 (hasV 0 64) h3 (by rfl)
 obtain ⟨w5, i5, h5, g5, s5⟩ := map_new hu hu3 w4 w.heap.size _ _ 5 (hasV 0 0) h4 (by rfl)
 obtain ⟨w6, i6, h6, g6, s6⟩ := map_new hu hu3 w5 w.heap.size _ _ 6 (hasV 0 0) h5 (by rfl)
 obtain ⟨w7, i7, h7, g7, s7⟩ := map_new hu hu3 w6 w.heap.size _ _ 7 (hasV 0 0) h6 (by rfl)
 obtain ⟨w8, i8, h8, g8, s8⟩ := map_new hu hu3 w7 w.heap.size _ _ 8 (hasV 0 0) h7 (by rfl)
 have key : ∀ {a b : World}, Below w.heap.size w a → a.grownBy b (some w.heap.size) → w.heap.size + 1 ≤ a.heap.size → Below w.heap.size w b := fun hb hg hs =>
  hb.trans ⟨hg.os, hg.tape, hg.output, hg.size, fun k hk => hg.block k (by omega) (fun e => by injection e with e; omega)⟩
 have HB8 := Aside0.mk (key (key (key (key (key (key (key (key B0 g1 (by omega)) g2 (by omega)) g3 (by omega)) g4 (by omega)) g5 (by omega)) g6 (by omega)) g7 (by omega)) g8 (by omega))
 have HH := Aside0.mk h8
 have HS := Aside0.mk (show w8.heap.size = w.heap.size + 1 by omega)
 clear hw0 h0 B0 s0 h1 g1 s1 h2 g2 s2 h3 g3 s3 h4 g4 s4 h5 g5 s5 h6 g6 s6 h7 g7 s7 h8 g8 s8 key
 unfold hasV at i1 i2 i3 i4 i5 i6 i7 i8
 go_enter Try.func35, Try.ntmps35
 go_wp2
 go_ret
 exact ⟨rfl, HH.out, HB8.out, HS.out⟩
/-- What a kind may have, and whether it is one. -/
def hasL (k : Int) : Int × Int := if k = 1 then (4, 0) else if 2 ≤ k ∧ k ≤ 4 then (0, 64) else (0, 0)
theorem kinds_small (k : Int) : (hasL k).1 ≤ 4 ∧ (hasL k).2 ≤ 64 := by
 unfold hasL
 split
 · exact ⟨by simp, by simp⟩
 · split <;> exact ⟨by simp, by simp⟩
def isKindB (k : Int) : Bool := decide (1 ≤ k) && decide (k ≤ 8)
theorem kinds_find (k : Int) : Instr.findNow (.int .i64) (.int .i64 k) kindsE.toList 0 = some (if isKindB k = true then some ((k - 1).toNat, hasV (hasL k).1 (hasL k).2) else none) := by
 by_cases h : isKindB k = true
 · rw [if_pos h]
   simp only [isKindB, Bool.and_eq_true, decide_eq_true_eq] at h
   have : k = 1 ∨ k = 2 ∨ k = 3 ∨ k = 4 ∨ k = 5 ∨ k = 6 ∨ k = 7 ∨ k = 8 := by omega
   rcases this with rfl | rfl | rfl | rfl | rfl | rfl | rfl | rfl <;> rfl
 · rw [if_neg h]
   simp only [isKindB, Bool.and_eq_true, decide_eq_true_eq] at h
   have ne : ∀ j : Int, 1 ≤ j → j ≤ 8 → (k == j) = false := fun j h1 h2 => by simp; omega
   have n1 := ne 1 (by omega) (by omega)
   have n2 := ne 2 (by omega) (by omega)
   have n3 := ne 3 (by omega) (by omega)
   have n4 := ne 4 (by omega) (by omega)
   have n5 := ne 5 (by omega) (by omega)
   have n6 := ne 6 (by omega) (by omega)
   have n7 := ne 7 (by omega) (by omega)
   have n8 := ne 8 (by omega) (by omega)
   simp only [kindsE, kindE, List.toList_toArray, Instr.findNow, Instr.sameNow, if_true, n1, n2, n3, n4, n5, n6, n7, n8]
theorem kinds_lookup (w : World) (r : Nat) (k : Int) (hb : w.heap[r]? = some (.map kindsE 8)) :
 (Instr.lookup 65 (.map (some r)) (.int .i64 k) true).run Try.prog w = .ok (.tuple #[.agg #[.int .i64 (hasL k).1, .int .i64 (hasL k).2], .bool (isKindB k)]) w := by
 have hm := Try.underlying65
 have hd := Try.underlying3
 have hz : (zeroValue 63).run Try.prog w = .ok (.agg #[.int .i64 0, .int .i64 0]) w := by rfl
 have hf := run_findKey (P := Try.prog) (w := w) hd (kinds_find k)
 have hc := run_checkKey (P := Try.prog) (w := w) hd (show IsKey (.int .i64) (.int .i64 k) from rfl) kindsE.isEmpty 9999
 by_cases h : isKindB k = true
 · rw [if_pos h] at hf
   simp [Instr.lookup, run_underlying hm, Go.MapKept.run_getObj_map hb, hc, hf, Result.andThen, h, hasV]
 · rw [if_neg h] at hf
   have h2 : isKindB k = false := by simpa using h
   have h3 : hasL k = (0, 0) := by
    simp only [isKindB, Bool.and_eq_true, decide_eq_true_eq] at h
    unfold hasL
    rw [if_neg (by omega), if_neg (by omega)]
   simp [Instr.lookup, run_underlying hm, Go.MapKept.run_getObj_map hb, hc, hf, hz, Result.andThen, h2, h3]
end Go.Proofs.Ytoooceaoggkeeaa.F
end

section
/- slices.ContainsFunc of sizes, by pack.right's own test. -/
namespace Go.Proofs.Ytoooceaoggkeeaa.F
open Go.RowKit Go.Proofs.YtoooceaoggkeeaaW.PrintWords Go.Proofs.YtoooceaoggkeeaaW.PrintLast Go.Proofs.YtoooceaoggkeeaaW.PrintMore Go.Proofs.Ytoooceaoggkeeaa.H
set_option linter.unusedVariables false
set_option linter.unusedSimpArgs false
def badS (n : Int) : Bool := decide (n < 0) || decide (4096 < n)
set_option maxHeartbeats 1000000 in
set_option maxRecDepth 100000 in
theorem pack_right1.calls (n : Int) (w : World) : Calls Try.prog 37 #[.int .i64 n] w fun e w' => e = .returned (.bool (badS n)) ∧ w = w' := by
 by_cases h0 : n < 0
 · have e : badS n = true := by unfold badS; rw [decide_eq_true h0]; rfl
   rw [e]
   have HE := Aside0.mk e
   clear e
   go_enter Try.func37, Try.ntmps37
   go_wp2
   go_ret
   exact ⟨rfl, rfl⟩
 · by_cases h1 : 4096 < n
   · have e : badS n = true := by unfold badS; rw [decide_eq_true h1, Bool.or_true]
     rw [e]
     clear e
     go_enter Try.func37, Try.ntmps37
     go_wp2
     go_ret
     exact ⟨rfl, rfl⟩
   · have e : badS n = false := by unfold badS; rw [decide_eq_false h0, decide_eq_false h1]; rfl
     rw [e]
     clear e
     go_enter Try.func37, Try.ntmps37
     go_wp2
     go_ret
     exact ⟨rfl, rfl⟩
set_option maxHeartbeats 2000000 in
set_option maxRecDepth 100000 in
theorem indexFunc.calls (A : Option Addr) (c : Nat) (l : List Int) (w : World) (hC : Kd.C (Kd.int .i64) w A l.length l) (hc : l.length ≤ c) (hl : l.length ≤ 140737488351232) :
 Calls Try.prog 46 #[.slice A l.length c, .func (.func 37) #[] #[]] w fun e w' => ∃ j : Int, e = .returned (.int .i64 j) ∧ decide (0 ≤ j) = l.any badS ∧ w = w' := by
 go_enter Try.func46, Try.ntmps46
 go_wp2
 go_loopg [8] l.length (fun g v8 wr => ∃ k : Nat, k + g = l.length ∧ v8 = .int .i64 k ∧ Aside0 ((l.take k).any badS = false) ∧ Aside0 (w = wr))
 case atStart => exact ⟨0, by omega, rfl, ⟨by simp⟩, ⟨rfl⟩⟩
 case round =>
  obtain ⟨k, hk, rfl, HA, HW⟩ := hrel
  obtain rfl := HW.out
  have HK : Hid _ := hk
  by_cases hlt : k < l.length
  · obtain ⟨ad, hA, hcx⟩ := ReadsInt.at_ (Kd.reads_of_C (d := (0 : Int)) hC) (k : Int) (by omega) (by omega)
    rw [Int.toNat_natCast, show rd l (k : Int) = l[k] from getD_toNat l 0 k hlt] at hcx
    subst hA
    have hts := take_at l k hlt
    obtain ⟨x, hx⟩ : ∃ x, l[k] = x := ⟨_, rfl⟩
    rw [hx] at hcx hts
    have HT := Aside0.mk hts
    have hany : l.any badS = ((l.take k).any badS || (badS x || (l.drop (k + 1)).any badS)) := by
     have e2 : l.any badS = (l.take k ++ l.drop k).any badS := by rw [List.take_append_drop]
     rw [e2, drop_at l k hlt, hx]
     simp only [List.any_append, List.any_cons]
    have HN := Aside0.mk hany
    clear hts hx hk hany
    obtain ⟨b, hb⟩ : ∃ b, badS x = b := ⟨_, rfl⟩
    have HB := Aside0.mk hb
    clear hb
    cases b
    · go_wp2_with (go_at_call 37; refine (pack_right1.calls x _).mono ?_; rw [HB.out]; rintro e w2 ⟨rfl, rfl⟩)
      go_roundg (gk - 1)
      case measure => have := HK.out; omega
      case rel => exact ⟨k + 1, by have := HK.out; omega, by go_num, ⟨by rw [HT.out, List.any_append, HA.out]; simp [HB.out]⟩, ⟨rfl⟩⟩
    · go_wp2_with (go_at_call 37; refine (pack_right1.calls x _).mono ?_; rw [HB.out]; rintro e w2 ⟨rfl, rfl⟩)
      go_ret
      exact ⟨_, rfl, by rw [HN.out, HB.out]; simp, rfl⟩
  · obtain rfl : k = l.length := by omega
    have h9 := HA.out
    rw [List.take_length] at h9
    have HA9 := Aside0.mk h9
    clear h9 hk
    go_wp2
    go_ret
    exact ⟨_, rfl, by rw [HA9.out]; decide, rfl⟩
set_option maxHeartbeats 1000000 in
theorem containsFunc.calls (A : Option Addr) (c : Nat) (l : List Int) (w : World) (hC : Kd.C (Kd.int .i64) w A l.length l) (hc : l.length ≤ c) (hl : l.length ≤ 140737488351232) :
 Calls Try.prog 36 #[.slice A l.length c, .func (.func 37) #[] #[]] w fun e w' => e = .returned (.bool (l.any badS)) ∧ w = w' := by
 have HC := Aside0.mk hC
 have HCC := Aside0.mk hc
 have HL := Aside0.mk hl
 clear hC hc hl
 go_enter Try.func36, Try.ntmps36
 go_wp2_with (go_at_call 46; refine (indexFunc.calls A c l _ HC.out HCC.out HL.out).mono ?_; rintro e w2 ⟨j, rfl, hj, rfl⟩; have HJ := Aside0.mk hj; clear hj)
 go_ret
 exact ⟨by rw [← HJ.out]; rfl, rfl⟩
end Go.Proofs.Ytoooceaoggkeeaa.F
end

section
namespace Go.Proofs.Ytoooceaoggkeeaa.F
open Go.RowKit Go.Proofs.YtoooceaoggkeeaaW.PrintWords Go.Proofs.YtoooceaoggkeeaaW.PrintLast Go.Proofs.YtoooceaoggkeeaaW.PrintMore
attribute [local go_sem] max2_int min2_int max_two min_two max_three min_three max_four min_four   -- for this text's walks alone
set_option linter.unusedVariables false
set_option linter.unusedSimpArgs false

open Go.Proofs.Ytoooceaoggkeeaa.H
/-! ### pack_right: given -/
def rightG (k i o : Int) (sizes body : List Int) : Bool :=
 isKindB k && decide (0 ≤ i) && decide (0 ≤ o) && decide (i ≤ 65535) && decide (o ≤ 65535) && decide ((sizes.length : Int) ≤ (hasL k).1) && decide ((body.length : Int) ≤ (hasL k).2) && !sizes.any badS
def pack_right.f (a0_0 a0_1 a0_2 a0_3 a0_4 : Int) (l0_5 l0_6 : List Int) : Option Bool := if l0_5.length ≤ 1000000 ∧ l0_6.length ≤ 1000000 then some (rightG a0_0 a0_2 a0_3 l0_5 l0_6) else none
set_option maxHeartbeats 4000000 in
set_option maxRecDepth 100000 in
theorem pack_right.calls (a0_0 a0_1 a0_2 a0_3 a0_4 : Int) (A0_5 : Option Addr) (c0_5 : Nat) (l0_5 : List Int) (A0_6 : Option Addr) (c0_6 : Nat) (l0_6 : List Int) (r : Bool) (w : World) (hr0_5 : Kd.C (Kd.int .i64) w A0_5 l0_5.length l0_5) (hc0_5 : l0_5.length ≤ c0_5) (hr0_6 : Kd.C (Kd.int .u8) w A0_6 l0_6.length l0_6) (hc0_6 : l0_6.length ≤ c0_6) (h : pack_right.f a0_0 a0_1 a0_2 a0_3 a0_4 l0_5 l0_6 = some r) :
 Calls Try.prog 19 #[.agg #[.int .i64 a0_0, .int .u64 a0_1, .int .i64 a0_2, .int .i64 a0_3, .int .u32 a0_4, .slice A0_5 l0_5.length c0_5, .slice A0_6 l0_6.length c0_6]] w fun e w' => e = .returned (.bool r) ∧ Below w.heap.size w w' := by
 have hu28 := Try.underlying28
 have hu63 := Try.underlying63
 unfold pack_right.f at h
 split at h
 case isFalse => cases h
 case isTrue hb =>
 obtain ⟨hl5, hl6⟩ := hb
 replace h := Option.some.inj h
 have HR5 := Aside0.mk hr0_5
 have HC5 := Aside0.mk hc0_5
 have HR6 := Aside0.mk hr0_6
 have HC6 := Aside0.mk hc0_6
 have HH := Aside0.mk h
 clear hr0_5 hc0_5 hr0_6 hc0_6 h
 obtain ⟨ks, kb, hk⟩ : ∃ ks kb, hasL a0_0 = (ks, kb) := ⟨_, _, rfl⟩
 obtain ⟨is, his⟩ : ∃ is, isKindB a0_0 = is := ⟨_, rfl⟩
 have HKS := Aside0.mk hk
 have HIS := Aside0.mk his
 clear hk his
 go_enter Try.func19, Try.ntmps19
 go_wp2_with fail
 have hB1 : Below w.heap.size w (w.alloc (.cells #[.int .i64 a0_0, .int .u64 a0_1, .int .i64 a0_2, .int .i64 a0_3, .int .u32 a0_4, .slice A0_5 l0_5.length c0_5, .slice A0_6 l0_6.length c0_6] 28)) := below_alloc (Below.refl _ _) _
 have hK1 := blk_new w (.cells #[.int .i64 a0_0, .int .u64 a0_1, .int .i64 a0_2, .int .i64 a0_3, .int .u32 a0_4, .slice A0_5 l0_5.length c0_5, .slice A0_6 l0_6.length c0_6] 28)
 obtain ⟨g1, hg1⟩ : ∃ g1, w.heap.size = g1 := ⟨_, rfl⟩
 have HG1 := Aside0.mk hg1
 rw [hg1] at hK1
 rw [hg1]
 generalize w.alloc (.cells #[.int .i64 a0_0, .int .u64 a0_1, .int .i64 a0_2, .int .i64 a0_3, .int .u32 a0_4, .slice A0_5 l0_5.length c0_5, .slice A0_6 l0_6.length c0_6] 28) = w1 at hB1 hK1 ⊢
 have HB1 := Aside0.mk hB1
 have K1 := Aside0.mk hK1
 have c0 : w1.cell? ⟨g1, 0, none⟩ = some (.int .i64 a0_0) := (blk_cell K1.out 0).trans rfl
 have f0 := blk_frozen K1.out 0
 have hlt1 : g1 < w1.heap.size := blk_lt K1.out
 have hne1 : g1 ≠ w1.heap.size := Nat.ne_of_lt hlt1
 have hne1' : w1.heap.size ≠ g1 := hne1.symm
 clear hB1 hK1 hg1 hlt1
 go_cut [3, 4] (fun v3 v4 wc => ∃ g3 : Nat, v3 = .pointer (some ⟨g3, 0, none⟩) ∧ v4 = .bool is ∧ Aside0 (wc.heap[g3]? = some (.cells #[.int .i64 ks, .int .i64 kb] 63 (0, 0))) ∧ Aside0 (wc.heap[g1]? = some (.cells #[.int .i64 a0_0, .int .u64 a0_1, .int .i64 a0_2, .int .i64 a0_3, .int .u32 a0_4, .slice A0_5 l0_5.length c0_5, .slice A0_6 l0_6.length c0_6] 28 (0, 0))) ∧ Aside0 (Below w.heap.size w wc))
 case first =>
  go_region_held3 (fun w' => w'.cell? ⟨g1, 0, none⟩ = some (.int .i64 a0_0)) (first | exact hcx | go_keep) (first
   | (go_at_call 35; refine (pack_kinds.calls w1.drew).mono ?_; rintro e w2 ⟨rfl, hm, hb, hsz⟩; have hb2 := below_then (below_drew (Below.refl w1.heap.size w1)) (Nat.le_refl _) hb; have hlk := kinds_lookup w2 w1.heap.size a0_0 hm; have hlk2 := kinds_lookup (w2.alloc (.cells #[.int .i64 0, .int .i64 0] 63)) w1.heap.size a0_0 (blk_alloc hm _); have HM := Aside0.mk hm; have HB2 := Aside0.mk hb2; have hcx : w2.cell? ⟨g1, 0, none⟩ = some (.int .i64 a0_0) := (blk_cell (blk_below K1.out hb2) 0).trans rfl; have hne2 : g1 ≠ w2.heap.size := (by have := blk_lt (blk_below K1.out hb2); omega); have hne2' : w2.heap.size ≠ g1 := hne2.symm; clear hm hb hsz hb2)
   | (go_at_call 35; refine (pack_kinds.calls _).mono ?_; rintro e w2 ⟨rfl, hm, hb, hsz⟩; have hsx : (w1.alloc (.cells #[.int .i64 0, .int .i64 0] 63)).drew.heap.size = w1.heap.size + 1 := World.size_alloc _ _; rw [hsx] at hm; have hb2 := below_then (below_drew (below_alloc (Below.refl w1.heap.size w1) (.cells #[.int .i64 0, .int .i64 0] 63))) (by rw [hsx]; omega) hb; have hlk := kinds_lookup w2 (w1.heap.size + 1) a0_0 hm; have K3 := Aside0.mk (blk_below (blk_drew (blk_new w1 (.cells #[.int .i64 0, .int .i64 0] 63))) hb); have HB2 := Aside0.mk hb2; have hcx : w2.cell? ⟨g1, 0, none⟩ = some (.int .i64 a0_0) := (blk_cell (blk_below K1.out hb2) 0).trans rfl; have ht0 : w2.cell? ⟨w1.heap.size, 0, none⟩ = some (.int .i64 0) := (blk_cell K3.out 0).trans rfl; have ht1 : w2.cell? ⟨w1.heap.size, 1, none⟩ = some (.int .i64 0) := (blk_cell K3.out 1).trans rfl; have htf0 := blk_frozen K3.out 0; have htf1 := blk_frozen K3.out 1; clear hm hb hsz hb2 hsx))
  all_goals first
   | (have K3' := Aside0.mk (blk_put (cs := #[.int .i64 (hasL a0_0).1, .int .i64 0]) (blk_put K3.out 0 (.int .i64 (hasL a0_0).1) rfl) 1 (.int .i64 (hasL a0_0).2) rfl)
      have K1' := Aside0.mk (blk_far (p := ⟨w1.heap.size, 1, none⟩) (blk_far (p := ⟨w1.heap.size, 0, none⟩) (blk_below K1.out HB2.out) hne1 (.int .i64 (hasL a0_0).1)) hne1 (.int .i64 (hasL a0_0).2))
      have B' := Aside0.mk (below_set (g := w1.heap.size) (j := 1) (v := .int .i64 (hasL a0_0).2) (below_set (g := w1.heap.size) (j := 0) (v := .int .i64 (hasL a0_0).1) (below_then HB1.out HB1.out.size HB2.out) HB1.out.size) HB1.out.size)
      clear K3 hne1 hne1' hlk ht0 ht1 htf0 htf1 hcx
      generalize (w2.setCell ⟨w1.heap.size, 0, none⟩ (.int .i64 (hasL a0_0).1)).setCell ⟨w1.heap.size, 1, none⟩ (.int .i64 (hasL a0_0).2) = w3 at K3' K1' B' ⊢
      generalize w1.heap.size = g3 at K3' ⊢)
   | (have K3' := Aside0.mk (blk_new w2 (.cells #[.int .i64 (hasL a0_0).1, .int .i64 (hasL a0_0).2] 63))
      have K1' := Aside0.mk (blk_alloc (blk_below K1.out HB2.out) (.cells #[.int .i64 (hasL a0_0).1, .int .i64 (hasL a0_0).2] 63))
      have B' := Aside0.mk (below_alloc (below_then HB1.out HB1.out.size HB2.out) (.cells #[.int .i64 (hasL a0_0).1, .int .i64 (hasL a0_0).2] 63))
      clear hne1 hne1' hne2 hne2' hlk hlk2 hcx HM
      generalize w2.alloc (.cells #[.int .i64 (hasL a0_0).1, .int .i64 (hasL a0_0).2] 63) = w3 at K3' K1' B' ⊢
      generalize w2.heap.size = g3 at K3' ⊢)
  all_goals
   (go_wp2_with fail
    go_meet
    rw [HKS.out] at K3'
    exact ⟨_, rfl, by rw [HIS.out], K3', K1', B'⟩)
 case rest =>
  obtain ⟨g3, rfl, rfl, K3', K1', B'⟩ := hcut
  have d0 : wc.cell? ⟨g3, 0, none⟩ = some (.int .i64 ks) := (blk_cell K3'.out 0).trans rfl
  have d1 : wc.cell? ⟨g3, 1, none⟩ = some (.int .i64 kb) := (blk_cell K3'.out 1).trans rfl
  have c2 : wc.cell? ⟨g1, 2, none⟩ = some (.int .i64 a0_2) := (blk_cell K1'.out 2).trans rfl
  have c3 : wc.cell? ⟨g1, 3, none⟩ = some (.int .i64 a0_3) := (blk_cell K1'.out 3).trans rfl
  have c5 : wc.cell? ⟨g1, 5, none⟩ = some (.slice A0_5 l0_5.length c0_5) := (blk_cell K1'.out 5).trans rfl
  have c6 : wc.cell? ⟨g1, 6, none⟩ = some (.slice A0_6 l0_6.length c0_6) := (blk_cell K1'.out 6).trans rfl
  clear HB1 c0 f0 hne1 hne1'
  have hr := HH.out
  rw [rightG, HIS.out, HKS.out] at hr
  clear HH
  cases is
  · rw [Bool.false_and, Bool.false_and, Bool.false_and, Bool.false_and, Bool.false_and, Bool.false_and, Bool.false_and] at hr
    subst hr
    go_wp2
    go_ret
    exact ⟨rfl, B'.out⟩
  · rcases Int.lt_trichotomy a0_2 a0_3 with hle | hle | hle
    · have hle' := Int.le_of_lt hle
      have key : ∀ x : Bool, (decide (0 ≤ a0_2) && (decide (a0_3 ≤ 65535) && x)) = (decide (0 ≤ a0_2) && (decide (0 ≤ a0_3) && (decide (a0_2 ≤ 65535) && (decide (a0_3 ≤ 65535) && x)))) := by
       intro x
       cases x
       · simp
       · rw [Bool.eq_iff_iff]; simp <;> omega
      simp only [Bool.and_assoc, Bool.true_and] at hr
      rw [← key] at hr
      clear key
      have hrr := hr
      clear hr
      by_cases h1 : 0 ≤ a0_2
      · rw [decide_eq_true h1, Bool.true_and] at hrr
        by_cases h2 : a0_3 ≤ 65535
        · rw [decide_eq_true h2, Bool.true_and] at hrr
          by_cases h3 : (l0_5.length : Int) ≤ ks
          · rw [decide_eq_true h3, Bool.true_and] at hrr
            by_cases h4 : (l0_6.length : Int) ≤ kb
            · rw [decide_eq_true h4, Bool.true_and] at hrr
              have HRR := Aside0.mk hrr
              clear hrr
              go_wp2_with (go_at_call 36; refine (containsFunc.calls A0_5 c0_5 l0_5 _ (Kd.C_below HR5.out B'.out) HC5.out (by omega)).mono ?_; rintro e w5 ⟨rfl, rfl⟩)
              go_ret
              exact ⟨by rw [← HRR.out]; rfl, B'.out⟩
            · rw [decide_eq_false h4, Bool.false_and] at hrr
              subst hrr
              have h4' : kb < (l0_6.length : Int) := by omega
              clear h4
              go_wp2
              go_ret
              exact ⟨rfl, B'.out⟩
          · rw [decide_eq_false h3, Bool.false_and] at hrr
            subst hrr
            have h3' : ks < (l0_5.length : Int) := by omega
            clear h3
            go_wp2
            go_ret
            exact ⟨rfl, B'.out⟩
        · rw [decide_eq_false h2, Bool.false_and] at hrr
          subst hrr
          have h2' : 65535 < a0_3 := by omega
          clear h2
          go_wp2
          go_ret
          exact ⟨rfl, B'.out⟩
      · rw [decide_eq_false h1, Bool.false_and] at hrr
        subst hrr
        have h1' : a0_2 < 0 := by omega
        clear h1
        go_wp2
        go_ret
        exact ⟨rfl, B'.out⟩
    · subst hle
      have key : ∀ x : Bool, (decide (0 ≤ a0_2) && (decide (a0_2 ≤ 65535) && x)) = (decide (0 ≤ a0_2) && (decide (0 ≤ a0_2) && (decide (a0_2 ≤ 65535) && (decide (a0_2 ≤ 65535) && x)))) := by
       intro x
       cases x
       · simp
       · rw [Bool.eq_iff_iff]; simp <;> omega
      simp only [Bool.and_assoc, Bool.true_and] at hr
      rw [← key] at hr
      clear key
      have hrr := hr
      clear hr
      by_cases h1 : 0 ≤ a0_2
      · rw [decide_eq_true h1, Bool.true_and] at hrr
        by_cases h2 : a0_2 ≤ 65535
        · rw [decide_eq_true h2, Bool.true_and] at hrr
          by_cases h3 : (l0_5.length : Int) ≤ ks
          · rw [decide_eq_true h3, Bool.true_and] at hrr
            by_cases h4 : (l0_6.length : Int) ≤ kb
            · rw [decide_eq_true h4, Bool.true_and] at hrr
              have HRR := Aside0.mk hrr
              clear hrr
              go_wp2_with (go_at_call 36; refine (containsFunc.calls A0_5 c0_5 l0_5 _ (Kd.C_below HR5.out B'.out) HC5.out (by omega)).mono ?_; rintro e w5 ⟨rfl, rfl⟩)
              go_ret
              exact ⟨by rw [← HRR.out]; rfl, B'.out⟩
            · rw [decide_eq_false h4, Bool.false_and] at hrr
              subst hrr
              have h4' : kb < (l0_6.length : Int) := by omega
              clear h4
              go_wp2
              go_ret
              exact ⟨rfl, B'.out⟩
          · rw [decide_eq_false h3, Bool.false_and] at hrr
            subst hrr
            have h3' : ks < (l0_5.length : Int) := by omega
            clear h3
            go_wp2
            go_ret
            exact ⟨rfl, B'.out⟩
        · rw [decide_eq_false h2, Bool.false_and] at hrr
          subst hrr
          have h2' : 65535 < a0_2 := by omega
          clear h2
          go_wp2
          go_ret
          exact ⟨rfl, B'.out⟩
      · rw [decide_eq_false h1, Bool.false_and] at hrr
        subst hrr
        have h1' : a0_2 < 0 := by omega
        clear h1
        go_wp2
        go_ret
        exact ⟨rfl, B'.out⟩
    · have hle' := Int.le_of_lt hle
      have key : ∀ x : Bool, (decide (0 ≤ a0_3) && (decide (a0_2 ≤ 65535) && x)) = (decide (0 ≤ a0_2) && (decide (0 ≤ a0_3) && (decide (a0_2 ≤ 65535) && (decide (a0_3 ≤ 65535) && x)))) := by
       intro x
       cases x
       · simp
       · rw [Bool.eq_iff_iff]; simp <;> omega
      simp only [Bool.and_assoc, Bool.true_and] at hr
      rw [← key] at hr
      clear key
      have hrr := hr
      clear hr
      by_cases h1 : 0 ≤ a0_3
      · rw [decide_eq_true h1, Bool.true_and] at hrr
        by_cases h2 : a0_2 ≤ 65535
        · rw [decide_eq_true h2, Bool.true_and] at hrr
          by_cases h3 : (l0_5.length : Int) ≤ ks
          · rw [decide_eq_true h3, Bool.true_and] at hrr
            by_cases h4 : (l0_6.length : Int) ≤ kb
            · rw [decide_eq_true h4, Bool.true_and] at hrr
              have HRR := Aside0.mk hrr
              clear hrr
              go_wp2_with (go_at_call 36; refine (containsFunc.calls A0_5 c0_5 l0_5 _ (Kd.C_below HR5.out B'.out) HC5.out (by omega)).mono ?_; rintro e w5 ⟨rfl, rfl⟩)
              go_ret
              exact ⟨by rw [← HRR.out]; rfl, B'.out⟩
            · rw [decide_eq_false h4, Bool.false_and] at hrr
              subst hrr
              have h4' : kb < (l0_6.length : Int) := by omega
              clear h4
              go_wp2
              go_ret
              exact ⟨rfl, B'.out⟩
          · rw [decide_eq_false h3, Bool.false_and] at hrr
            subst hrr
            have h3' : ks < (l0_5.length : Int) := by omega
            clear h3
            go_wp2
            go_ret
            exact ⟨rfl, B'.out⟩
        · rw [decide_eq_false h2, Bool.false_and] at hrr
          subst hrr
          have h2' : 65535 < a0_2 := by omega
          clear h2
          go_wp2
          go_ret
          exact ⟨rfl, B'.out⟩
      · rw [decide_eq_false h1, Bool.false_and] at hrr
        subst hrr
        have h1' : a0_3 < 0 := by omega
        clear h1
        go_wp2
        go_ret
        exact ⟨rfl, B'.out⟩

end Go.Proofs.Ytoooceaoggkeeaa.F
end

section
namespace Go.Proofs.Ytoooceaoggkeeaa.F
open Go.RowKit Go.Proofs.YtoooceaoggkeeaaW.PrintWords Go.Proofs.YtoooceaoggkeeaaW.PrintLast Go.Proofs.YtoooceaoggkeeaaW.PrintMore
attribute [local go_sem] max2_int min2_int max_two min_two max_three min_three max_four min_four   -- for this text's walks alone
set_option linter.unusedVariables false
set_option linter.unusedSimpArgs false

open Go.Proofs.Ytoooceaoggkeeaa.H
/-! ### word_Put: given -/
def word_Put.f (a0 : Int) (a1 : Int) : Option (List Int) := some (putL a0 (putN a1))
theorem putL_step (n : Int) (m k : Nat) (h : k < m) : ((putL n m).take k ++ List.replicate (m - k) 0).set k (n / 2 ^ (8 * k) % 256) = (putL n m).take (k + 1) ++ List.replicate (m - (k + 1)) 0 := by
 apply List.ext_getElem
 · simp [putL]; omega
 · intro i h1 h2
   by_cases e : i = k
   · subst e
     rw [List.getElem_set_self]
     rw [List.getElem_append_left (by simp [putL]; omega)]
     simp [putL]
   · rw [List.getElem_set_ne (by omega)]
     by_cases hlt : i < k
     · rw [List.getElem_append_left (by simp [putL]; omega), List.getElem_append_left (by simp [putL]; omega)]
       simp [putL]
     · rw [List.getElem_append_right (by simp [putL]; omega), List.getElem_append_right (by simp [putL]; omega)]
       simp
set_option maxHeartbeats 1000000 in
set_option maxRecDepth 100000 in
theorem word_Put.calls (a0 : Int) (a1 : Int) (r : List Int) (w : World) (h : word_Put.f a0 a1 = some r) :
 Calls Try.prog 21 #[.int .u64 a0, .int .i64 a1] w fun e w' => ∃ v0_ : Value, e = .returned (v0_) ∧ Kd.R (Kd.int .u8) 5 w' w.heap.size (fun _ => True) v0_ r ∧ Below w.heap.size w w' := by
 obtain rfl := Option.some.inj h
 clear h
 obtain ⟨m, hm⟩ : ∃ m : Nat, putN a1 = m := ⟨_, rfl⟩
 have hm8 : m ≤ 8 := hm ▸ putN_le a1
 have hmx : (max 0 (min a1 8)) = (m : Int) := by rw [← hm]; unfold putN; omega
 have hmn : ∃ q : Int, (if 8 < a1 then 8 else a1) = q ∧ (if 0 < q then q else 0) = (m : Int) := ⟨_, rfl, by split <;> split <;> omega⟩
 obtain ⟨q, hq, hqm⟩ := hmn
 rw [hm]
 clear hmx hm
 have hi := info5
 have hmk : ∀ W : World, (Instr.makeSlice 25 (.int .i64 (m : Int)) (.int .i64 (m : Int))).run Try.prog W = .ok (.slice (some ⟨W.heap.size, 0, none⟩) m m) (W.alloc (.cells (madeCells #[.int .u8 0] m) 5)) := print_make 25 5 .u8 1 Try.underlying25 info5 (by decide) m (by omega)
 have ho0 := own_made w w.heap.size 5 .u8 m (Nat.le_refl _) (by omega)
 go_enter Try.func21, Try.ntmps21
 go_wp2
 go_loopw [13] (fun v wr => ∃ k : Nat, k ≤ m ∧ v = .int .i64 k ∧ Aside0 (wr.ownsRow w.heap.size 5 1 (.slice (some ⟨w.heap.size, 0, none⟩) m m) m (nums .u8 ((putL a0 m).take k ++ List.replicate (m - k) 0))) ∧ Aside0 (Below w.heap.size w wr))
  (fun v _ => m - (intOf v).toNat)
 case atStart => exact ⟨0, Nat.zero_le _, rfl, ⟨by simpa using ho0⟩, ⟨(Below.refl _ _).alloc (Nat.le_refl _) _⟩⟩
 case round =>
  obtain ⟨k, hk, rfl, HO, HB⟩ := hrel
  by_cases hlt : k < m
  · obtain ⟨hx, hf⟩ := own_at HO.out (k : Int) (by omega) (by omega)
    have hst := own_store HO.out (k : Int) (a0 / 2 ^ (8 * k) % 256)
    rw [Int.toNat_natCast] at hx hf hst
    rw [putL_step _ _ _ hlt] at hst
    have HS := Aside0.mk hst
    clear hst
    go_wp2
    go_roundw
    case rel => exact ⟨k + 1, by omega, by go_num, ⟨HS.out.1⟩, ⟨HB.out.setCell (p := ⟨w.heap.size, k, none⟩) (Nat.le_refl _) _⟩⟩
    case measure => simp [intOf]; omega
  · obtain rfl : k = m := by omega
    go_wp2
    go_ret
    have ho := HO.out
    rw [List.take_of_length_le (by rw [putL_length]; exact Nat.le_refl _), Nat.sub_self] at ho
    exact ⟨_, rfl, Kd.R_of_own (enc := Value.int .u8) (by rw [putL_length]; simpa [nums, encs] using ho) (fun _ _ => trivial), HB.out⟩

end Go.Proofs.Ytoooceaoggkeeaa.F
end

section
namespace Go.Proofs.Ytoooceaoggkeeaa.F
open Go.RowKit Go.Proofs.YtoooceaoggkeeaaW.PrintWords Go.Proofs.YtoooceaoggkeeaaW.PrintLast Go.Proofs.YtoooceaoggkeeaaW.PrintMore
attribute [local go_sem] max2_int min2_int max_two min_two max_three min_three max_four min_four   -- for this text's walks alone
set_option linter.unusedVariables false
set_option linter.unusedSimpArgs false

/-! ### bytes_Clone: given -/
def bytes_Clone.f (l0 : List Int) : Option (List Int) := if l0.length < 140737488355328 then some l0 else none
set_option maxHeartbeats 8000000 in
set_option maxRecDepth 100000 in
theorem bytes_Clone.calls (A0 : Option Addr) (c0 : Nat) (l0 : List Int) (r : List Int) (w : World) (hr0 : Kd.C (Kd.int .u8) w A0 l0.length l0) (hc0 : l0.length ≤ c0) (h : bytes_Clone.f l0 = some r) :
 Calls Try.prog 25 #[.slice A0 l0.length c0] w fun e w' => ∃ v0_ : Value, e = .returned (v0_) ∧ Kd.R (Kd.int .u8) 5 w' w.heap.size (fun _ => True) v0_ r ∧ Below w.heap.size w w' := by
 unfold bytes_Clone.f at h
 split at h
 case isFalse => cases h
 case isTrue hb =>
 obtain rfl := Option.some.inj h
 clear h
 have HR0 := Aside0.mk hr0
 have HC0 := Aside0.mk hc0
 clear hr0 hc0
 by_cases hA : A0 = none
 · subst hA
   have hn : ∀ (W : World) (n c : Nat), (Go.binOp .eql 25 (Value.slice none n c) (Value.slice none 0 0)).run Try.prog W = .ok (.bool true) W := fun W n c => Lib.run_eql_slice_nil W _ _ none n c 0 0 Try.underlying25
   have hl : l0 = [] := by
    have h := HR0.out
    have h2 : l0.length = 0 := Nat.eq_zero_of_not_pos fun h0 => by obtain ⟨ad, e, _⟩ := h.2.2 h0; cases e
    exact List.eq_nil_of_length_eq_zero h2
   subst hl
   go_enter Try.func25, Try.ntmps25
   go_wp2_with (first | (rw [hn]; fail))
   go_ret
   exact ⟨_, rfl, Kd.R_nil _ _ _ _ _, Below.refl _ _⟩
 · obtain ⟨a0, rfl⟩ := Option.ne_none_iff_exists'.mp hA
   have hn : ∀ (W : World) (n c : Nat), (Go.binOp .eql 25 (Value.slice (some a0) n c) (Value.slice none 0 0)).run Try.prog W = .ok (.bool false) W := fun W n c => Lib.run_eql_slice_nil W _ _ (some a0) n c 0 0 Try.underlying25
   go_enter Try.func25, Try.ntmps25
   go_wp2_with (first
    | ((with_reducible refine gate_dst (N := 5) rfl ?_); (try (refine gate_guard (by rfl) ?_; dsimp only)); refine Kd.R_lit (Kd.int .u8) (w0 := w) w.heap.size 5 ?hg (N := 5) ?hd (xs := ([] : List Int)) (inner := []) (ok := fun _ => True) (okp := fun _ => True) ?hr ?hp (fun _ hk => hk) trivial (Below.refl _ _) (Nat.le_refl _) (by simp) ?_; (case hd => rfl); (case hg => rfl); (case hr => first | (go_simp; done) | (go_simp; rfl)); (case hp => exact (Reps.none _ _)); intro v1 w1 ho1 hb1 hg1 hn1; have HO1 := Aside0.mk ho1; have HB1 := Aside0.mk hb1; clear ho1 hb1 hg1 hn1)
    | ((with_reducible refine gate_builtin (b := .append) (xs := #[.tmp 5, .tmp 6]) rfl ?_); at_builtin; refine Kd.R_append_rows (Kd.int .u8) (w0 := w) w.heap.size rfl (.tmp 5) (.tmp 6) 25 5 (.int .u8 0) 1 rfl Try.underlying25 info5 rfl (by decide) (by omega) v1 ([] : List Int) l0 _ _ _ (fun _ => True) (fun _ => False) rfl rfl ?aO ?aR (fun _ _ h => h) (fun _ h => h.elim) (fun _ _ => trivial) ?aB ?aS ?aL ?_; (case aO => exact HO1.out); (case aR => exact Kd.C_below HR0.out HB1.out); (case aB => exact HB1.out); (case aS => exact below_size HB1.out); (case aL => simp; omega); intro v2 w2 ho2 hb2 hg2 hat2; have HO2 := Aside0.mk ho2; have HB2 := Aside0.mk hb2; clear ho2 hb2 hg2 hat2))
   go_ret
   exact ⟨_, rfl, HO2.out, HB2.out⟩

end Go.Proofs.Ytoooceaoggkeeaa.F
end

section
namespace Go.Proofs.Ytoooceaoggkeeaa.F
open Go.RowKit Go.Proofs.YtoooceaoggkeeaaW.PrintWords Go.Proofs.YtoooceaoggkeeaaW.PrintLast Go.Proofs.YtoooceaoggkeeaaW.PrintMore
attribute [local go_sem] max2_int min2_int max_two min_two max_three min_three max_four min_four   -- for this text's walks alone
set_option linter.unusedVariables false
set_option linter.unusedSimpArgs false

/-! ### crc_Step: function 52 -/
def crc_Step.f (a0 : Int) : Option (Int) := some (Go.bits .xor .u32 (a0 / 2) ((2197175160 * (Go.bits .and .u32 a0 1)) % 4294967296))
set_option maxHeartbeats 8000000 in
set_option maxRecDepth 100000 in
theorem crc_Step.calls (a0 : Int) (r : Int) (w : World) (h : crc_Step.f a0 = some r) :
 Calls Try.prog 52 #[.int .u32 a0] w fun e w' => e = .returned (.int .u32 r) ∧ Drawn0 w w' := by
 have H : (some (Go.bits .xor .u32 (a0 / 2) ((2197175160 * (Go.bits .and .u32 a0 1)) % 4294967296))) = some r := h
 clear h
 obtain rfl := Option.some.inj H
 go_enter Try.func52, Try.ntmps52
 go_wp2
 go_ret
 exact ⟨by first | rfl | (simp; done) | (simp [*]; done), by repeat (first | exact Drawn0.refl _ | apply Drawn0.step)⟩

end Go.Proofs.Ytoooceaoggkeeaa.F
end

section
namespace Go.Proofs.Ytoooceaoggkeeaa.F
open Go.RowKit Go.Proofs.YtoooceaoggkeeaaW.PrintWords Go.Proofs.YtoooceaoggkeeaaW.PrintLast Go.Proofs.YtoooceaoggkeeaaW.PrintMore
attribute [local go_sem] max2_int min2_int max_two min_two max_three min_three max_four min_four   -- for this text's walks alone
set_option linter.unusedVariables false
set_option linter.unusedSimpArgs false

/-! ### crc_Table_1: function 51 -/
def crc_Table_1.l0 : Nat → Int → Int → Option (Int)
 | 0, _, _ => none
 | k + 1, x0, x3 => if x3 < 8 then ((crc_Step.f x0).bind fun t101 => (crc_Table_1.l0 k t101 (wrap64 (x3 + 1)))) else (some x0)
def crc_Table_1.f (k : Nat) (a0 : Int) : Option (Int) := crc_Table_1.l0 k a0 0
theorem crc_Table_1.mono_l : ∀ k, (∀ y0 y1, LeO (crc_Table_1.l0 k y0 y1) (crc_Table_1.l0 (k + 1) y0 y1))
 | 0 => fun _ _ r h => by simp [crc_Table_1.l0] at h
 | k + 1 => by
   have ih0 := crc_Table_1.mono_l k
   · intro y0 y1
     unfold crc_Table_1.l0
     repeat' first
     | (with_reducible exact ih0 _ _)
     | (with_reducible exact LeO.refl _)
     | (with_reducible exact LeO.none _)
     | (with_reducible refine LeO.ite ?_ ?_)
     | (with_reducible refine LeO.bind ?_ (fun _ => ?_))
     | exact ih0 _ _
     | exact LeO.none _
     | refine LeO.ite ?_ ?_
     | refine LeO.bind ?_ (fun _ => ?_)
theorem crc_Table_1.mono : ∀ a0 k, LeO (crc_Table_1.f k a0) (crc_Table_1.f (k + 1) a0) := by
 intro a0 k
 have ih0 := crc_Table_1.mono_l k
 unfold crc_Table_1.f
 repeat' first
  | (with_reducible exact ih0 _ _)
  | (with_reducible exact LeO.refl _)
  | (with_reducible exact LeO.none _)
  | (with_reducible refine LeO.ite ?_ ?_)
  | (with_reducible refine LeO.bind ?_ (fun _ => ?_))
  | exact ih0 _ _
  | exact LeO.none _
  | refine LeO.ite ?_ ?_
  | refine LeO.bind ?_ (fun _ => ?_)
set_option maxHeartbeats 8000000 in
set_option maxRecDepth 100000 in
theorem crc_Table_1.calls (k : Nat) (a0 : Int) (r : Int) (w : World) (h : crc_Table_1.f k a0 = some r) :
 Calls Try.prog 51 #[.int .u32 a0] w fun e w' => e = .returned (.int .u32 r) ∧ Drawn0 w w' := by
 have H : (crc_Table_1.l0 k a0 0) = some r := h
 clear h
 have H' := Aside0.mk H
 clear H
 go_enter Try.func51, Try.ntmps51
 go_wp2
 go_loopg [0, 3] k (fun kq v0 v3 w' => ∃ (x0_1 : Int) (x3_1 : Int), v0 = .int .u32 x0_1 ∧ v3 = .int .i64 x3_1 ∧ Aside0 (crc_Table_1.l0 kq x0_1 x3_1 = some r) ∧ Aside0 (kq ≤ k) ∧ Drawn0 w w')
 case atStart => exact ⟨(a0), (0), (by first | rfl | (simp; done) | (simp [*]; done)), (by first | rfl | (simp; done) | (simp [*]; done)), H', ⟨Nat.le_refl _⟩, by repeat (first | exact Drawn0.refl _ | apply Drawn0.step)⟩
 case round =>
  clear H'
  obtain ⟨x0_1, x3_1, rfl, rfl, HA, HK1, ⟨m1, rfl⟩⟩ := hrel
  cases gk with
  | zero => exact absurd HA.out (by simp [crc_Table_1.l0])
  | succ k1 =>
    have H := HA.out
    clear HA
    simp only [crc_Table_1.l0] at H
    by_cases c2 : x3_1 < 8
    · rw [if_pos c2] at H
      have c2b0 : decide (x3_1 < 8) = true := decide_eq_true c2
      clear c2
      replace H := Option.bind_eq_some_iff.mp H
      obtain ⟨t101, A30, H⟩ := H
      replace H : (crc_Table_1.l0 k1 t101 (wrap64 (x3_1 + 1))) = some r := H
      have A3 := Aside0.mk A30
      clear A30
      have H' := Aside0.mk H
      clear H
      go_wp2_with (first | ((with_reducible refine gate_callee (f := 52) rfl ?_); refine goesL_ (some 6) rfl rfl Try.func52 (by kernel_rfl) rfl #[.int .u32 x0_1] rfl (by (try simp only [List.map_toArray, List.map_cons, List.map_nil]); first | done | rfl | (simp only [List.length_drop, List.length_take]; rfl)) ?_; (with_reducible refine (crc_Step.calls x0_1 t101 _ A3.out).mono ?_); rintro e w' ⟨rfl, ⟨nd, rfl⟩⟩; refine ⟨_, rfl, ?_⟩))
      go_roundg k1
      case measure => have := HK1.out; omega
      case rel => exact ⟨(t101), (wrap64 (x3_1 + 1)), (by first | rfl | (simp; done) | (simp [*]; done)), (by first | rfl | (simp; done) | (simp [*]; done)), H', ⟨by have := HK1.out; omega⟩, by repeat (first | exact Drawn0.refl _ | apply Drawn0.step)⟩
    · rw [if_neg c2] at H
      have c2b0 : decide (x3_1 < 8) = false := decide_eq_false c2
      clear c2
      obtain rfl := Option.some.inj H
      go_wp2
      go_ret
      exact ⟨by first | rfl | (simp; done) | (simp [*]; done), by repeat (first | exact Drawn0.refl _ | apply Drawn0.step)⟩

end Go.Proofs.Ytoooceaoggkeeaa.F
end

section
/- The checksum's table: what it holds, and what a pass over bytes makes of it. -/
namespace Go.Proofs.Ytoooceaoggkeeaa.F
open Go.RowKit Go.Proofs.YtoooceaoggkeeaaW.PrintWords Go.Proofs.YtoooceaoggkeeaaW.PrintLast Go.Proofs.YtoooceaoggkeeaaW.PrintMore Go.Proofs.Ytoooceaoggkeeaa.H
set_option linter.unusedVariables false
set_option linter.unusedSimpArgs false
attribute [local go_sem] Oper.semAt_some
theorem crc_Step.is (n : Nat) (h : n < 4294967296) : crc_Step.f (n : Int) = some ((stepN n : Nat) : Int) := by
 have hp : n % 2 < 2 := Nat.mod_lt _ (by omega)
 have h1 : Go.bits .and .u32 (n : Int) 1 = ((n % 2 : Nat) : Int) := by
  have := Go.u32_and_nat n 1 h (by omega)
  rw [show ((1 : Nat) : Int) = 1 from rfl] at this
  rw [this, Nat.and_one_is_mod]
 unfold crc_Step.f stepN
 rw [h1, show (n : Int) / 2 = ((n / 2 : Nat) : Int) from by omega]
 have h2 : (2197175160 * ((n % 2 : Nat) : Int)) % 4294967296 = ((if n % 2 = 1 then 2197175160 else 0 : Nat) : Int) := by
  rcases Nat.mod_two_eq_zero_or_one n with e | e <;> rw [e] <;> rfl
 rw [h2, Go.u32_xor_nat _ _ (by omega) (by split <;> omega)]
theorem crc_Table_1.l0_is : ∀ (d : Nat) (n : Nat), n < 4294967296 → d ≤ 8 → ∃ k, crc_Table_1.l0 k (n : Int) ((8 - d : Nat) : Int) = some ((stepsN d n : Nat) : Int)
 | 0, n, _, _ => ⟨1, by rw [crc_Table_1.l0, if_neg (by omega)]; rfl⟩
 | d + 1, n, h, hd => by
   obtain ⟨k, hk⟩ := crc_Table_1.l0_is d (stepN n) (stepN_lt h) (by omega)
   refine ⟨k + 1, ?_⟩
   rw [crc_Table_1.l0, if_pos (by omega), crc_Step.is n h, Option.bind_some, show wrap64 (((8 - (d + 1) : Nat) : Int) + 1) = ((8 - d : Nat) : Int) from by unfold wrap64; omega, hk]
   rfl
theorem crc_Table_1.is (n : Nat) (h : n < 4294967296) : ∃ k, crc_Table_1.f k (n : Int) = some ((stepsN 8 n : Nat) : Int) := by
 obtain ⟨k, hk⟩ := crc_Table_1.l0_is 8 n h (by omega)
 exact ⟨k, hk⟩
/-- Block b holds 256 numbers: the j-th is f j. -/
def Tab (W : World) (b : Nat) (f : Nat → Nat) : Prop := ∃ cells : Array Value, W.heap[b]? = some (.cells cells 82 (0, 0)) ∧ cells.size = 256 ∧ ∀ j (h : j < 256), cells[j]? = some (.int .u32 (f j : Nat))
theorem Tab.cell {W : World} {b : Nat} {f : Nat → Nat} (h : Tab W b f) (j : Nat) (hj : j < 256) : W.cell? ⟨b, j, none⟩ = some (.int .u32 (f j : Nat)) := by
 obtain ⟨cells, h1, h2, h3⟩ := h
 simp [World.cell?, h1, h3 j hj]
theorem Tab.frozen {W : World} {b : Nat} {f : Nat → Nat} (h : Tab W b f) (j : Nat) : W.frozen? ⟨b, j, none⟩ = false := by
 obtain ⟨cells, h1, h2, h3⟩ := h
 simp [World.frozen?, h1]
theorem Tab.lt {W : World} {b : Nat} {f : Nat → Nat} (h : Tab W b f) : b < W.heap.size := by
 obtain ⟨cells, h1, _⟩ := h
 exact (Array.getElem?_eq_some_iff.1 h1).1
theorem Tab.set {W : World} {b : Nat} {f : Nat → Nat} (h : Tab W b f) (j v : Nat) (hj : j < 256) : Tab (W.setCell ⟨b, j, none⟩ (.int .u32 (v : Int))) b (fun i => if i = j then v else f i) := by
 obtain ⟨cells, h1, h2, h3⟩ := h
 refine ⟨cells.setIfInBounds j (.int .u32 (v : Int)), ?_, by simpa using h2, fun i hi => ?_⟩
 · show (W.heap.modify b _)[b]? = _
   rw [Array.getElem?_modify, if_pos rfl, h1]
   rfl
 · by_cases e : i = j
   · subst e
     simp [h2, hj]
   · rw [Array.getElem?_setIfInBounds_ne (Ne.symm e), h3 i hi]
     show _ = some (Value.int .u32 ((if i = j then v else f i : Nat) : Int))
     rw [if_neg e]
theorem Tab.heap {W W' : World} {b : Nat} {f : Nat → Nat} (h : Tab W b f) (e : W'.heap[b]? = W.heap[b]?) : Tab W' b f := by
 obtain ⟨cells, h1, h2⟩ := h
 exact ⟨cells, e.trans h1, h2⟩
theorem Tab.imp {W : World} {b : Nat} {f g : Nat → Nat} (h : Tab W b f) (e : ∀ j, j < 256 → f j = g j) : Tab W b g := by
 obtain ⟨cells, h1, h2, h3⟩ := h
 exact ⟨cells, h1, h2, fun j hj => by rw [h3 j hj, e j hj]⟩
theorem skip_ {P : Program} {ops : Array Oper} {oi : Oper} {a : Act} {w w1 : World} {K : Act → World → Prop} {Q : Exit → Act → World → Prop} (hN : oi.dst = none) (hw : Region.wanted oi (yielded ops a.tmps) = true) (hrun : (execOp a.eval oi).run P w = .ok .skip w1) (h : K a w1) :
 if Region.wanted oi (yielded ops a.tmps) = true then Oper.wp P oi a w K Q else K (a.put none undef) w := by
 rw [if_pos hw]
 unfold Oper.wp
 rw [hrun, Oper.upon_skip, hN]
 exact h
theorem crcN_snoc (n : Nat) (l : List Int) (k : Nat) (h : k < l.length) : crcN n (l.take (k + 1)) = stepsN 8 (crcN n (l.take k) ^^^ (l[k]'h).toNat) := by
 rw [take_at l k h, crcN_append]
 rfl
set_option maxHeartbeats 1000000 in
set_option maxRecDepth 100000 in
/-- A pass over bytes. -/
theorem crc_More.calls (b : Nat) (n : Int) (A : Option Addr) (c : Nat) (l : List Int) (w : World) (hT : Tab w b (fun j => stepsN 8 j)) (hn : 0 ≤ n ∧ n < 4294967296) (hr : Kd.C (Kd.int .u8) w A l.length l) (hb : bytesB l = true) :
 Calls Try.prog 47 #[.pointer (some ⟨b, 0, none⟩), .int .u32 n, .slice A l.length c] w fun e w' => e = .returned (.int .u32 (moreL n l)) ∧ w' = w := by
 have HBB : Hid _ := hb
 have hsg : IntKind.u32.signed = false := rfl
 obtain ⟨n, rfl⟩ := Int.eq_ofNat_of_zero_le hn.1
 have hnn : n < 4294967296 := by omega
 have hx0 : Go.bits .xor .u32 IntKind.u32.max (n : Int) = ((crcN (n ^^^ 4294967295) [] : Nat) : Int) := by
  have h := Go.u32_xor_nat 4294967295 n (by omega) hnn
  rw [show IntKind.u32.max = ((4294967295 : Nat) : Int) from rfl, h, crcN, Nat.xor_comm]
 have hm0 : n ^^^ 4294967295 < 4294967296 := by
  have : n ^^^ 4294967295 < 2 ^ 32 := Nat.xor_lt_two_pow (by omega) (by omega)
  exact this
 have HM : Hid _ := hm0
 have HX : Hid _ := hx0
 have hres : moreL (n : Int) l = ((crcN (n ^^^ 4294967295) l ^^^ 4294967295 : Nat) : Int) := by unfold moreL; rw [Int.toNat_natCast]
 rw [hres]
 clear hb hn hnn hx0 hres hm0
 obtain ⟨s, hs⟩ : ∃ s, n ^^^ 4294967295 = s := ⟨_, rfl⟩
 rw [hs] at HM HX ⊢
 clear hs
 go_enter Try.func47, Try.ntmps47
 go_wp2
 go_loopg [1, 15] l.length (fun g v1 v15 wr => ∃ k : Nat, k + g = l.length ∧ v15 = .int .i64 k ∧ v1 = .int .u32 ((crcN s (l.take k) : Nat) : Int) ∧ wr = w)
 case atStart => exact ⟨0, by omega, rfl, by rw [HX.out]; rfl, rfl⟩
 case round =>
  obtain ⟨k, hk, rfl, rfl, rfl⟩ := hrel
  have HK : Hid _ := hk
  by_cases hlt : k < l.length
  · obtain ⟨ad, hA, hcx⟩ := ReadsInt.at_ (Kd.reads_of_C (d := (0 : Int)) hr) (k : Int) (by omega) (by omega)
    rw [Int.toNat_natCast, show rd l (k : Int) = l[k] from getD_toNat l 0 k hlt] at hcx
    subst hA
    have hby := bytesB_at HBB.out _ (List.getElem_mem hlt)
    obtain ⟨x, hx⟩ := Int.eq_ofNat_of_zero_le hby.1
    have hsn := crcN_snoc s l k hlt
    have hm := crcN_lt (l.take k) HM.out (bytesB_take HBB.out k)
    rw [hx] at hcx hsn
    rw [Int.toNat_natCast] at hsn
    have hx8 : x < 256 := by omega
    obtain ⟨m, hmm⟩ : ∃ m, crcN s (l.take k) = m := ⟨_, rfl⟩
    rw [hmm] at hsn hm
    rw [hmm]
    rw [byte_table hx8] at hsn
    have hi : Go.bits .xor .u8 ((m : Int) % 256) (x : Int) = ((m % 256 ^^^ x : Nat) : Int) := by
     rw [show (m : Int) % 256 = ((m % 256 : Nat) : Int) from by omega, Go.u8_xor_nat _ _ (by omega) hx8]
    have hi8 : m % 256 ^^^ x < 256 := by
     have : m % 256 ^^^ x < 2 ^ 8 := Nat.xor_lt_two_pow (by omega) (by omega)
     exact this
    have hcell := hT.cell _ hi8
    have hd : (m : Int) / 256 = ((m / 256 : Nat) : Int) := by omega
    have h8 := stepsN_lt 8 (n := m % 256 ^^^ x) (by omega)
    have hxx := Go.u32_xor_nat (m / 256) (stepsN 8 (m % 256 ^^^ x)) (by omega) h8
    clear h8
    obtain ⟨j, hj⟩ : ∃ j, m % 256 ^^^ x = j := ⟨_, rfl⟩
    rw [hj] at hi hi8 hcell hsn hxx
    obtain ⟨y, hy⟩ : ∃ y, stepsN 8 j = y := ⟨_, rfl⟩
    obtain ⟨q, hq⟩ : ∃ q, m / 256 = q := ⟨_, rfl⟩
    obtain ⟨z, hz⟩ : ∃ z, q ^^^ y = z := ⟨_, rfl⟩
    rw [hy] at hcell hsn hxx
    rw [hq] at hd hsn hxx
    rw [hz] at hsn hxx
    have HSN : Hid _ := hsn
    clear hsn hby hx hmm hj hk hy hq hz
    have hsh : ∀ W : World, (Go.binOp .shr 23 (Value.int .u32 (m : Int)) (Value.int .u64 8)).run Try.prog W = .ok (.int .u32 (q : Int)) W := by
     intro W
     show (Op.shift .shr .u32 (m : Int) .u64 8).run Try.prog W = _
     rw [Go.shift_shr .u32 .u64 (m : Int) 8 (by omega) (by decide), show ((2 : Int) ^ (8 : Int).toNat) = 256 from rfl, hd]
     rfl
    go_wp2
    go_roundg (gk - 1)
    case measure => have := HK.out; omega
    case rel => exact ⟨k + 1, by have := HK.out; omega, by have := hr.2.1; rw [show wrap64 ((k : Int) + 1) = ((k + 1 : Nat) : Int) from by unfold wrap64; omega], by rw [HSN.out], rfl⟩
  · obtain rfl : k = l.length := by omega
    have hfin : Go.bits .xor .u32 IntKind.u32.max ((crcN s l : Nat) : Int) = ((crcN s l ^^^ 4294967295 : Nat) : Int) := by
     have h := Go.u32_xor_nat 4294967295 (crcN s l) (by omega) (crcN_lt l HM.out HBB.out)
     rw [show IntKind.u32.max = ((4294967295 : Nat) : Int) from rfl, h, Nat.xor_comm]
    rw [List.take_length]
    obtain ⟨m, hm⟩ : ∃ m, crcN s l = m := ⟨_, rfl⟩
    rw [hm] at hfin ⊢
    obtain ⟨z, hz⟩ : ∃ z, m ^^^ 4294967295 = z := ⟨_, rfl⟩
    rw [hz] at hfin
    have HZ : Hid _ := hz
    have HMM : Hid _ := hm
    clear hz hm hk
    go_wp2
    go_ret
    exact ⟨by rw [HMM.out, HZ.out]; rfl, rfl⟩
set_option maxHeartbeats 1000000 in
set_option maxRecDepth 100000 in
/-- The table. -/
theorem crc_Table.calls (w : World) :
 Calls Try.prog 48 #[] w fun e w' => e = .returned (.pointer (some ⟨w.heap.size, 0, none⟩)) ∧ Tab w' w.heap.size (fun j => stepsN 8 j) ∧ Below w.heap.size w w' ∧ w'.heap.size = w.heap.size + 1 := by
 obtain ⟨ZC, hzc⟩ : ∃ ZC, ZC = Array.replicate 256 (Value.int .u32 0) := ⟨_, rfl⟩
 have hzv : ∀ W : World, Sem.run Try.prog (zeroValue 82) W = Result.ok (.agg ZC) W := by
  intro W
  rw [hzc]
  rfl
 have hzs : ZC.size = 256 := by rw [hzc]; simp
 have hzn : ¬ ZC = #[] := fun e => by rw [e] at hzs; simp at hzs
 have hz : Tab (w.alloc (Obj.cells ZC 82)) w.heap.size (fun j => if j < 0 then stepsN 8 j else 0) := ⟨_, World.alloc_heap_new w _, by rw [hzc]; simp, fun j hj => by rw [hzc]; simp [hj]⟩
 have hB : Below w.heap.size w (w.alloc (Obj.cells ZC 82)) := (Below.refl _ w).alloc (Nat.le_refl _) _
 have HZ := Aside0.mk hz
 have HB := Aside0.mk hB
 clear hz hB hzc
 go_enter Try.func48, Try.ntmps48
 go_wp2
 go_loopg [5] 256 (fun g v5 wr => ∃ k : Nat, k + g = 256 ∧ v5 = .int .i64 k ∧ Aside0 (Tab wr w.heap.size (fun j => if j < k then stepsN 8 j else 0)) ∧ Aside0 (Below w.heap.size w wr) ∧ Aside0 (wr.heap.size = w.heap.size + 1))
 case atStart => exact ⟨0, by omega, rfl, HZ, HB, ⟨by simp⟩⟩
 case round =>
  clear HZ HB
  obtain ⟨k, hk, rfl, HZ, HB, HS⟩ := hrel
  have HK : Hid _ := hk
  by_cases hlt : k < 256
  · have hcon : IntKind.u32.wrap (k : Int) = (k : Int) := by simp [IntKind.wrap, IntKind.signed, IntKind.bits]; omega
    obtain ⟨q, hq⟩ := crc_Table_1.is k (by omega)
    clear hk
    go_wp2
    refine start_ (n := 9) (S := fun _ => True) (ds := []) #[false, false, false, false, false, false, false, false, false] (by kernel_rfl) rfl rfl trivial (fun _ => ?_)
    refine pure_ (i := 0) (N := some 8) (v := ?_) (a' := ?_) #[true, false, false, false, false, false, false, false, false] rfl rfl (by kernel_rfl) (fun _ _ _ h => h) (Or.inl ⟨by rfl, ?_⟩) ?_ ?_
    rotate_left
    · intro w'
      go_simp
      with_reducible rfl
    rotate_left
    · simp only [Act.put, List.setIfInBounds_toArray, List.set_cons_zero, List.set_cons_succ, i64_w, i32_w]
      rfl
    refine pure_ (i := 1) (N := some 9) (v := ?_) (a' := ?_) #[true, true, false, false, false, false, false, false, false] rfl rfl (by kernel_rfl) (fun _ _ _ h => h) (Or.inl ⟨by rfl, ?_⟩) ?_ ?_
    rotate_left
    · intro w'
      go_simp
      with_reducible rfl
    rotate_left
    · simp only [Act.put, List.setIfInBounds_toArray, List.set_cons_zero, List.set_cons_succ, i64_w, i32_w]
      rfl
    refine pure_ (i := 2) (N := some 10) (v := ?_) (a' := ?_) #[true, true, true, false, false, false, false, false, false] rfl rfl (by kernel_rfl) (fun _ _ _ h => h) (Or.inl ⟨by rfl, ?_⟩) ?_ ?_
    rotate_left
    · intro w'
      go_simp
      with_reducible rfl
    rotate_left
    · simp only [Act.put, List.setIfInBounds_toArray, List.set_cons_zero, List.set_cons_succ, i64_w, i32_w]
      rfl
    refine pure_ (i := 3) (N := some 11) (v := ?_) (a' := ?_) #[true, true, true, true, false, false, false, false, false] rfl rfl (by kernel_rfl) (fun _ _ _ h => h) (Or.inl ⟨by rfl, ?_⟩) ?_ ?_
    rotate_left
    · intro w'
      go_simp
      with_reducible rfl
    rotate_left
    · simp only [Act.put, List.setIfInBounds_toArray, List.set_cons_zero, List.set_cons_succ, i64_w, i32_w]
      rfl
    refine pure_ (i := 4) (N := some 12) (v := ?_) (a' := ?_) #[true, true, true, true, true, false, false, false, false] rfl rfl (by kernel_rfl) (fun _ _ _ h => h) (Or.inl ⟨by rfl, ?_⟩) ?_ ?_
    rotate_left
    · intro w'
      go_simp
      with_reducible rfl
    rotate_left
    · simp only [Act.put, List.setIfInBounds_toArray, List.set_cons_zero, List.set_cons_succ, i64_w, i32_w]
      rfl
    refine pure_ (i := 6) (N := some 14) (v := ?_) (a' := ?_) #[true, true, true, true, true, false, true, false, false] rfl rfl (by kernel_rfl) (fun _ _ _ h => h) (Or.inl ⟨by rfl, ?_⟩) ?_ ?_
    rotate_left
    · intro w'
      go_simp
      with_reducible rfl
    rotate_left
    · simp only [Act.put, List.setIfInBounds_toArray, List.set_cons_zero, List.set_cons_succ, i64_w, i32_w]
      rfl
    refine one_ (i := 5) (N := some 13) #[true, true, true, true, true, true, true, false, false] rfl rfl (by kernel_rfl) (by decide) (fun K hK => ?_)
    refine call_ 51 #[.int .u32 (k : Int)] (by rfl) rfl (by
     have he := enters_ Try.func51 (by kernel_rfl) rfl #[.int .u32 (k : Int)] wr.drew
     simp [go_sem, he]) ?_
    refine (crc_Table_1.calls q k _ wr.drew hq).mono ?_
    rintro e w5 ⟨rfl, hd5⟩
    have hz5 : Tab w5 w.heap.size (fun j => if j < k then stepsN 8 j else 0) := by
     obtain ⟨nd, rfl⟩ := hd5
     exact HZ.out.heap rfl
    have HB5 : Aside0 (Below w.heap.size w w5) := by
     obtain ⟨nd, rfl⟩ := hd5
     exact ⟨pw_below_drewN (Below.drew HB.out) _⟩
    have HS5 : Aside0 (w5.heap.size = w.heap.size + 1) := by
     obtain ⟨nd, rfl⟩ := hd5
     exact ⟨HS.out⟩
    clear hd5
    refine ⟨_, rfl, ?_⟩
    refine hK.out _ _ trivial (fun _ => ?_)
    clear hK K
    refine norm_ (a' := ?_) ?_ ?_
    rotate_left
    · show Act.put _ (some 13) _ = _
      simp only [Act.put, List.setIfInBounds_toArray, List.set_cons_zero, List.set_cons_succ, i64_w, i32_w]
      rfl
    refine pure_ (i := 7) (N := some 15) (v := ?_) (a' := ?_) #[true, true, true, true, true, true, true, true, false] rfl rfl (by kernel_rfl) (fun _ _ _ h => h) (Or.inl ⟨by rfl, ?_⟩) ?_ ?_
    rotate_left
    · intro w'
      go_simp
      with_reducible rfl
    rotate_left
    · simp only [Act.put, List.setIfInBounds_toArray, List.set_cons_zero, List.set_cons_succ, i64_w, i32_w]
      rfl
    have hc := hz5.cell k hlt
    have hf := hz5.frozen k
    refine one_ (i := 8) (N := none) #[true, true, true, true, true, true, true, true, true] rfl rfl (by kernel_rfl) (by decide) (fun K hK => ?_)
    refine skip_ rfl (by rfl) (w1 := w5.setCell ⟨w.heap.size, k, none⟩ (.int .u32 (stepsN 8 k : Nat))) (by simp [go_sem, hc, hf]) ?_
    refine hK.out _ _ trivial (fun _ => ?_)
    clear hK K
    refine done_ (by kernel_rfl) ?_
    have hz6 := hz5.set k (stepsN 8 k) hlt
    have hz7 := hz6.imp (g := fun j => if j < k + 1 then stepsN 8 j else 0) (fun j hj => by
     by_cases e : j = k
     · subst e
       rw [if_pos rfl, if_pos (by omega)]
     · rw [if_neg e]
       by_cases e2 : j < k
       · rw [if_pos e2, if_pos (by omega)]
       · rw [if_neg e2, if_neg (by omega)])
    have HZ7 := Aside0.mk hz7
    clear hz5 hz6 hz7 hc hf
    go_wp2
    go_roundg (gk - 1)
    case measure => have := HK.out; omega
    case rel => exact ⟨k + 1, by have := HK.out; omega, by simp, HZ7, ⟨below_set HB5.out (Nat.le_refl _)⟩, ⟨by simpa using HS5.out⟩⟩
  · obtain rfl : k = 256 := by omega
    have HZ8 := Aside0.mk (HZ.out.imp (g := fun j => stepsN 8 j) (fun j hj => if_pos hj))
    clear hk
    go_wp2
    go_ret
    exact ⟨rfl, HZ8.out, HB.out, HS.out⟩
end Go.Proofs.Ytoooceaoggkeeaa.F
end

section
namespace Go.Proofs.Ytoooceaoggkeeaa.F
open Go.RowKit Go.Proofs.YtoooceaoggkeeaaW.PrintWords Go.Proofs.YtoooceaoggkeeaaW.PrintLast Go.Proofs.YtoooceaoggkeeaaW.PrintMore
attribute [local go_sem] max2_int min2_int max_two min_two max_three min_three max_four min_four   -- for this text's walks alone
set_option linter.unusedVariables false
set_option linter.unusedSimpArgs false

open Go.Proofs.Ytoooceaoggkeeaa.H
/-! ### crc_Sum: given -/
def crc_Sum.f (l0 : List Int) : Option Int := if bytesB l0 = true then some (sumL l0) else none
set_option maxHeartbeats 1000000 in
set_option maxRecDepth 100000 in
theorem crc_Sum.calls (A0 : Option Addr) (c0 : Nat) (l0 : List Int) (r : Int) (w : World) (hr0 : Kd.C (Kd.int .u8) w A0 l0.length l0) (hc0 : l0.length ≤ c0) (h : crc_Sum.f l0 = some r) :
 Calls Try.prog 39 #[.slice A0 l0.length c0] w fun e w' => e = .returned (.int .u32 r) ∧ Below w.heap.size w w' := by
 unfold crc_Sum.f at h
 split at h
 case isFalse => cases h
 case isTrue hb =>
 obtain rfl := Option.some.inj h
 clear h
 go_enter Try.func39, Try.ntmps39
 go_wp2_with (first
  | (go_at_call 48; refine (crc_Table.calls _).mono ?_; rintro e w1 ⟨rfl, hT, hB, hS⟩; have HT := Aside0.mk hT; have HB := Aside0.mk hB; clear hT hB hS)
  | (go_at_call 47; refine (crc_More.calls _ 0 A0 c0 l0 _ HT.out (by omega) (Kd.C_below hr0 HB.out) hb).mono ?_; rintro e w2 ⟨rfl, rfl⟩))
 go_ret
 exact ⟨rfl, HB.out⟩

end Go.Proofs.Ytoooceaoggkeeaa.F
end

section
namespace Go.Proofs.Ytoooceaoggkeeaa.F
open Go.RowKit Go.Proofs.YtoooceaoggkeeaaW.PrintWords Go.Proofs.YtoooceaoggkeeaaW.PrintLast Go.Proofs.YtoooceaoggkeeaaW.PrintMore
attribute [local go_sem] max2_int min2_int max_two min_two max_three min_three max_four min_four   -- for this text's walks alone
set_option linter.unusedVariables false
set_option linter.unusedSimpArgs false

/-- A state of type 28 at block g of W; what its slices lead to came in by w0. -/
def IsS28 (w0 W : World) (g : Nat) (f0 : Int) (f1 : Int) (f2 : Int) (f3 : Int) (f4 : Int) (f5 : List Int) (f6 : List Int) : Prop := ∃ A5 c5, ∃ A6 c6, W.heap[g]? = some (.cells #[.int .i64 f0, .int .u64 f1, .int .i64 f2, .int .i64 f3, .int .u32 f4, .slice A5 f5.length c5, .slice A6 f6.length c6] 28 (0, 0)) ∧ w0.heap.size ≤ g ∧ Kd.C (Kd.int .i64) w0 A5 f5.length f5 ∧ Kd.C (Kd.int .u8) w0 A6 f6.length f6
theorem IsS28.grown {w0 W : World} {g : Nat} {f0 : Int} {f1 : Int} {f2 : Int} {f3 : Int} {f4 : Int} {f5 : List Int} {f6 : List Int} {W1 : World} {row : Option Nat} (h : IsS28 w0 W g f0 f1 f2 f3 f4 f5 f6) (hw : W.grownBy W1 row) (hne : some g ≠ row) : IsS28 w0 W1 g f0 f1 f2 f3 f4 f5 f6 := by
 obtain ⟨A5, c5, A6, c6, hb, hg, hr5, hr6⟩ := h
 exact ⟨A5, c5, A6, c6, blk_grown hb hw hne, hg, hr5, hr6⟩
theorem IsS28.kept {w0 W : World} {g : Nat} {f0 : Int} {f1 : Int} {f2 : Int} {f3 : Int} {f4 : Int} {f5 : List Int} {f6 : List Int} {W1 : World} {S : Nat → Prop} (h : IsS28 w0 W g f0 f1 f2 f3 f4 f5 f6) (hk : Kept W W1 S) (hne : ¬ S g) : IsS28 w0 W1 g f0 f1 f2 f3 f4 f5 f6 := by
 obtain ⟨A5, c5, A6, c6, hb, hg, hr5, hr6⟩ := h
 exact ⟨A5, c5, A6, c6, blk_kept hb hk hne, hg, hr5, hr6⟩
theorem IsS28.below {w0 W : World} {g : Nat} {f0 : Int} {f1 : Int} {f2 : Int} {f3 : Int} {f4 : Int} {f5 : List Int} {f6 : List Int} {W1 : World} (h : IsS28 w0 W g f0 f1 f2 f3 f4 f5 f6) (hw : Below W.heap.size W W1) : IsS28 w0 W1 g f0 f1 f2 f3 f4 f5 f6 := h.grown (grown_of_below hw none) (by simp)
theorem IsS28.alloc {w0 W : World} {g : Nat} {f0 : Int} {f1 : Int} {f2 : Int} {f3 : Int} {f4 : Int} {f5 : List Int} {f6 : List Int} (h : IsS28 w0 W g f0 f1 f2 f3 f4 f5 f6) (o : Obj) : IsS28 w0 (W.alloc o) g f0 f1 f2 f3 f4 f5 f6 := h.below (below_alloc (Below.refl _ _) o)
theorem IsS28.drewN {w0 W : World} {g : Nat} {f0 : Int} {f1 : Int} {f2 : Int} {f3 : Int} {f4 : Int} {f5 : List Int} {f6 : List Int} (h : IsS28 w0 W g f0 f1 f2 f3 f4 f5 f6) (m : Nat) : IsS28 w0 (W.drewN m) g f0 f1 f2 f3 f4 f5 f6 := h
theorem IsS28.drew {w0 W : World} {g : Nat} {f0 : Int} {f1 : Int} {f2 : Int} {f3 : Int} {f4 : Int} {f5 : List Int} {f6 : List Int} (h : IsS28 w0 W g f0 f1 f2 f3 f4 f5 f6) : IsS28 w0 W.drew g f0 f1 f2 f3 f4 f5 f6 := h
theorem IsS28.at_ {w0 W : World} {g : Nat} {f0 : Int} {f1 : Int} {f2 : Int} {f3 : Int} {f4 : Int} {f5 : List Int} {f6 : List Int} {w' : World} {m : Nat} (hq : W.drewN m = w') (h : IsS28 w0 W g f0 f1 f2 f3 f4 f5 f6) : IsS28 w0 w' g f0 f1 f2 f3 f4 f5 f6 := by subst hq; exact IsS28.drewN h m
theorem IsS28.apart {w0 W : World} {g : Nat} {f0 : Int} {f1 : Int} {f2 : Int} {f3 : Int} {f4 : Int} {f5 : List Int} {f6 : List Int} {α : Type} {d : Kd α} {e : Nat} {base : Nat} {ok : Nat → Prop} {v : Value} {xs : List α} (h : IsS28 w0 W g f0 f1 f2 f3 f4 f5 f6) (ho : d.R e W base ok v xs) (ht : ∀ q, q ∈ e :: d.E → q ≠ 28) : d.R e W base (fun k => ok k ∧ k ≠ g) v xs := by
 obtain ⟨A5, c5, A6, c6, hb, hg, hr5, hr6⟩ := h
 exact Kd.R_types ho hb ht
theorem IsS28.own_ne {w0 W : World} {g : Nat} {f0 : Int} {f1 : Int} {f2 : Int} {f3 : Int} {f4 : Int} {f5 : List Int} {f6 : List Int} {α : Type} {d : Kd α} {e : Nat} {base : Nat} {ok : Nat → Prop} {v : Value} {xs : List α} (h : IsS28 w0 W g f0 f1 f2 f3 f4 f5 f6) (ho : d.R e W base ok v xs) (ht : e ≠ 28) : some g ≠ v.ownBlock := by
 obtain ⟨A5, c5, A6, c6, hb, hg, hr5, hr6⟩ := h
 exact Kd.R_ne ho hb ht
theorem IsS28.lt {w0 W : World} {g : Nat} {f0 : Int} {f1 : Int} {f2 : Int} {f3 : Int} {f4 : Int} {f5 : List Int} {f6 : List Int} (h : IsS28 w0 W g f0 f1 f2 f3 f4 f5 f6) : g < W.heap.size := by
 obtain ⟨A5, c5, A6, c6, hb, hg, hr5, hr6⟩ := h
 exact blk_lt hb
theorem IsS28.far {w0 W : World} {g : Nat} {f0 : Int} {f1 : Int} {f2 : Int} {f3 : Int} {f4 : Int} {f5 : List Int} {f6 : List Int} {p : Addr} (h : IsS28 w0 W g f0 f1 f2 f3 f4 f5 f6) (hne : g ≠ p.block) (u : Value) : IsS28 w0 (W.setCell p u) g f0 f1 f2 f3 f4 f5 f6 := by
 obtain ⟨A5, c5, A6, c6, hb, hg, hr5, hr6⟩ := h
 exact ⟨A5, c5, A6, c6, blk_far hb hne u, hg, hr5, hr6⟩
theorem IsS28.new (w0 W : World) (A5 : Option Addr) (c5 : Nat) (A6 : Option Addr) (c6 : Nat) (f0 : Int) (f1 : Int) (f2 : Int) (f3 : Int) (f4 : Int) (f5 : List Int) (f6 : List Int) (hB : Below w0.heap.size w0 W) (hr5 : Kd.C (Kd.int .i64) w0 A5 f5.length f5) (hr6 : Kd.C (Kd.int .u8) w0 A6 f6.length f6) : IsS28 w0 (W.alloc (.cells #[.int .i64 f0, .int .u64 f1, .int .i64 f2, .int .i64 f3, .int .u32 f4, .slice A5 f5.length c5, .slice A6 f6.length c6] 28)) W.heap.size f0 f1 f2 f3 f4 f5 f6 := ⟨A5, c5, A6, c6, by simpa using heap_alloc_new W _, hB.size, hr5, hr6⟩

/-! ### crc_Seal: function 22 -/
def crc_Seal.f (l0 : List Int) : Option (List Int) := (bytes_Clone.f l0).bind fun t101 => ((crc_Sum.f l0).bind fun t104 => ((word_Put.f (IntKind.u64.wrap (t104)) 4).bind fun t105 => (if t101.length + t105.length < 140737488355328 then (some (t101 ++ t105)) else (none))))
set_option maxHeartbeats 8000000 in
set_option maxRecDepth 100000 in
theorem crc_Seal.calls (A0 : Option Addr) (c0 : Nat) (l0 : List Int) (r : List Int) (w : World) (hr0 : Kd.C (Kd.int .u8) w A0 l0.length l0) (hc0 : l0.length ≤ c0) (h : crc_Seal.f l0 = some r) :
 Calls Try.prog 22 #[.slice A0 l0.length c0] w fun e w' => ∃ v0_ : Value, e = .returned (v0_) ∧ Kd.R (Kd.int .u8) 5 w' w.heap.size (fun _ => True) v0_ r ∧ Below w.heap.size w w' := by
 have HR0 := Aside0.mk hr0
 have HC0 := Aside0.mk hc0
 clear hr0 hc0
 have HB := Aside0.mk (Below.refl w.heap.size w)
 have H : ((bytes_Clone.f l0).bind fun t101 => ((crc_Sum.f l0).bind fun t104 => ((word_Put.f (IntKind.u64.wrap (t104)) 4).bind fun t105 => (if t101.length + t105.length < 140737488355328 then (some (t101 ++ t105)) else (none))))) = some r := h
 clear h
 replace H := Option.bind_eq_some_iff.mp H
 obtain ⟨t101, A20, H⟩ := H
 replace H : ((crc_Sum.f l0).bind fun t104 => ((word_Put.f (IntKind.u64.wrap (t104)) 4).bind fun t105 => (if t101.length + t105.length < 140737488355328 then (some (t101 ++ t105)) else (none)))) = some r := H
 have A2 := Aside0.mk A20
 clear A20
 replace H := Option.bind_eq_some_iff.mp H
 obtain ⟨t104, A30, H⟩ := H
 replace H : ((word_Put.f (IntKind.u64.wrap (t104)) 4).bind fun t105 => (if t101.length + t105.length < 140737488355328 then (some (t101 ++ t105)) else (none))) = some r := H
 have A3 := Aside0.mk A30
 clear A30
 replace H := Option.bind_eq_some_iff.mp H
 obtain ⟨t105, A40, H⟩ := H
 replace H : (if t101.length + t105.length < 140737488355328 then (some (t101 ++ t105)) else (none)) = some r := H
 have A4 := Aside0.mk A40
 clear A40
 by_cases c5 : t101.length + t105.length < 140737488355328
 · rw [if_pos c5] at H
   have LMc5 := Aside0.mk c5
   clear c5
   obtain ⟨y108, hy108⟩ : ∃ y_ : List Int, y_ = (t101 ++ t105) := ⟨_, rfl⟩
   replace H : (some y108) = some r := by first | (rw [hy108]; with_reducible exact H) | (have H2_ := (Option.bind_some _ _).symm.trans H; rw [hy108]; with_reducible exact H2_) | (have H2_ := (Option.bind_some _ _).symm.trans H; with_reducible exact H2_) | with_reducible exact H | (rw [hy108]; exact H) | exact H
   have Ny108 := Aside0.mk hy108
   clear hy108
   obtain rfl := Option.some.inj H
   go_enter Try.func22, Try.ntmps22
   go_wp2_with (first | ((with_reducible refine gate_callee (f := 25) rfl ?_); refine goesL_ (some 4) rfl rfl Try.func25 (by kernel_rfl) rfl #[.slice A0 l0.length c0] rfl (by (try simp only [List.map_toArray, List.map_cons, List.map_nil]); first | done | rfl | (simp only [List.length_drop, List.length_take]; rfl)) ?_; (with_reducible refine (bytes_Clone.calls _ _ l0 t101 _ ?side1 ?side2 A2.out).mono ?_); (case side1 => repeat (first | exact HR0.out | (with_reducible refine Kd.C_alloc ?_ _) | (with_reducible refine Kd.C_drewN ?_ _) | (with_reducible refine Kd.C_drew ?_))); (case side2 => exact HC0.out); rintro e w6 ⟨v102, rfl, ho0, hb⟩; refine ⟨_, rfl, ?_⟩; have n0_ := Aside0.mk (Kd.R_lower ho0 (below_size (by repeat (first | (with_reducible first | exact HB.out | apply below_alloc | apply pw_below_drewN | apply below_drew1) | exact HB.out)))); have n1_ := Aside0.mk (below_step (by repeat (first | (with_reducible first | exact HB.out | apply below_alloc | apply pw_below_drewN | apply below_drew1) | exact HB.out)) hb); clear HB; have HO103 := n0_; have HB := n1_; clear n0_ n1_; (try clear hb); (try clear hb2); (try clear hk); (try clear hi); (try clear ho0)) | ((with_reducible refine gate_callee (f := 39) rfl ?_); refine goesL_ (some 6) rfl rfl Try.func39 (by kernel_rfl) rfl #[.slice A0 l0.length c0] rfl (by (try simp only [List.map_toArray, List.map_cons, List.map_nil]); first | done | rfl | (simp only [List.length_drop, List.length_take]; rfl)) ?_; (with_reducible refine (crc_Sum.calls _ _ l0 t104 _ ?side1 ?side2 A3.out).mono ?_); (case side1 => repeat (first | exact (Kd.C_below HR0.out HB.out) | (with_reducible refine Kd.C_alloc ?_ _) | (with_reducible refine Kd.C_drewN ?_ _) | (with_reducible refine Kd.C_drew ?_))); (case side2 => exact HC0.out); rintro e w7 ⟨rfl, hb⟩; refine ⟨_, rfl, ?_⟩; have n0_ := Aside0.mk (Kd.R_below (by (with_reducible repeat (first | apply Kd.R_alloc | apply Kd.R_drewN | apply Kd.R_drew)); exact HO103.out) hb); have n1_ := Aside0.mk (below_step (by repeat (first | (with_reducible first | exact HB.out | apply below_alloc | apply pw_below_drewN | apply below_drew1) | exact HB.out)) hb); clear HO103; clear HB; have HO103 := n0_; have HB := n1_; clear n0_ n1_; (try clear hb); (try clear hb2); (try clear hk); (try clear hi)) | ((with_reducible refine gate_callee (f := 21) rfl ?_); refine goesL_ (some 8) rfl rfl Try.func21 (by kernel_rfl) rfl #[.int .u64 (IntKind.u64.wrap (t104)), .int .i64 4] rfl (by (try simp only [List.map_toArray, List.map_cons, List.map_nil]); first | done | rfl | (simp only [List.length_drop, List.length_take]; rfl)) ?_; (with_reducible refine (word_Put.calls (IntKind.u64.wrap (t104)) 4 t105 _ A4.out).mono ?_); rintro e w8 ⟨v106, rfl, ho0, hb⟩; refine ⟨_, rfl, ?_⟩; have n0_ := Aside0.mk (Kd.R_elder' (by (with_reducible repeat (first | apply Kd.R_alloc | apply Kd.R_drewN | apply Kd.R_drew)); exact HO103.out) (Kd.R_base ho0) hb); have n1_ := Aside0.mk (Kd.R_lower (Kd.R_new' ho0 (Kd.R_lt (by (with_reducible repeat (first | apply Kd.R_alloc | apply Kd.R_drewN | apply Kd.R_drew)); exact HO103.out))) (below_size (by repeat (first | (with_reducible first | exact HB.out | apply below_alloc | apply pw_below_drewN | apply below_drew1) | exact HB.out)))); have n2_ := Aside0.mk (below_step (by repeat (first | (with_reducible first | exact HB.out | apply below_alloc | apply pw_below_drewN | apply below_drew1) | exact HB.out)) hb); clear HO103; clear HB; have HO103 := n0_; have HO107 := n1_; have HB := n2_; clear n0_ n1_ n2_; (try clear hb); (try clear hb2); (try clear hk); (try clear hi); (try clear ho0); obtain ⟨Ao10, co10, eo10⟩ := Kd.R_slice HO107.out; subst eo10) | ((with_reducible refine gate_builtin (b := .append) (xs := #[.tmp 4, .tmp 8]) rfl ?_); at_builtin; refine Kd.R_append_rows (Kd.int .u8) (w0 := w) w.heap.size rfl (.tmp 4) (.tmp 8) 25 5 (.int .u8 0) 1 rfl Try.underlying25 info5 rfl (by decide) (by omega) v102 t101 t105 _ _ _ (fun k_ => some k_ ≠ (.slice Ao10 t105.length co10 : Value).ownBlock) (fun _ => False) rfl rfl ?aO ?aR (fun _ _ h => h) (fun _ h => h.elim) ?aF ?aB ?aS ?aL ?_; (case aR => repeat (first | exact (Kd.R_reads' HO107.out).2.2 | (with_reducible refine Kd.C_alloc ?_ _) | (with_reducible refine Kd.C_drewN ?_ _) | (with_reducible refine Kd.C_drew ?_))); (case aB => exact (by repeat (first | (with_reducible first | exact HB.out | apply below_alloc | apply pw_below_drewN | apply below_drew1) | exact HB.out))); (case aF => exact (fun k_ hk => Kd.fresh' (Kd.R_lt (by (with_reducible repeat (first | apply Kd.R_alloc | apply Kd.R_drewN | apply Kd.R_drew)); exact HO107.out)) k_ hk)); (case aO => exact (by (with_reducible repeat (first | apply Kd.R_alloc | apply Kd.R_drewN | apply Kd.R_drew)); exact Kd.R_mono HO103.out (fun _ hk => hk.2))); (case aS => exact (below_size (by repeat (first | (with_reducible first | exact HB.out | apply below_alloc | apply pw_below_drewN | apply below_drew1) | exact HB.out)))); (case aL => have := LMc5.out; omega); intro v109 w9 ho hb hg hat; rw [← Ny108.out] at ho; have n0_ := Aside0.mk (Kd.R_after (ok := (fun _ => True)) (by (with_reducible repeat (first | apply Kd.R_alloc | apply Kd.R_drewN | apply Kd.R_drew)); exact HO107.out) hg hat); have n1_ := Aside0.mk (hb); have n2_ := Aside0.mk (ho); clear HO107; clear HB; clear HO103; have HO107 := n0_; have HB := n1_; have HO110 := n2_; clear n0_ n1_ n2_; clear ho hb hg hat))
   go_ret
   exact ⟨_, by first | rfl | (simp [errW_none, errW_some] <;> rfl) | (simp [*, errW_none, errW_some] <;> rfl), by (with_reducible repeat (first | apply Kd.R_alloc | apply Kd.R_drewN | apply Kd.R_drew)); exact Kd.R_mono HO110.out (fun _ hk => trivial), by repeat (first | (with_reducible first | exact HB.out | apply below_alloc | apply pw_below_drewN | apply below_drew1) | exact HB.out)⟩
 · rw [if_neg c5] at H
   exact absurd H (by simp)

end Go.Proofs.Ytoooceaoggkeeaa.F
end

section
namespace Go.Proofs.Ytoooceaoggkeeaa.F
open Go.RowKit Go.Proofs.YtoooceaoggkeeaaW.PrintWords Go.Proofs.YtoooceaoggkeeaaW.PrintLast Go.Proofs.YtoooceaoggkeeaaW.PrintMore
attribute [local go_sem] max2_int min2_int max_two min_two max_three min_three max_four min_four   -- for this text's walks alone
set_option linter.unusedVariables false
set_option linter.unusedSimpArgs false

/-! ### bytes_Equal: function 27 -/
def bytes_Equal.f (l0 : List Int) (l1 : List Int) : Option (Bool) := some ((strOfNums l0).toList == (strOfNums l1).toList)
set_option maxHeartbeats 8000000 in
set_option maxRecDepth 100000 in
theorem bytes_Equal.calls (A0 : Option Addr) (c0 : Nat) (l0 : List Int) (A1 : Option Addr) (c1 : Nat) (l1 : List Int) (r : Bool) (w : World) (hr0 : Kd.C (Kd.int .u8) w A0 l0.length l0) (hc0 : l0.length ≤ c0) (hr1 : Kd.C (Kd.int .u8) w A1 l1.length l1) (hc1 : l1.length ≤ c1) (h : bytes_Equal.f l0 l1 = some r) :
 Calls Try.prog 27 #[.slice A0 l0.length c0, .slice A1 l1.length c1] w fun e w' => e = .returned (.bool r) ∧ Drawn0 w w' := by
 have HR0 := Aside0.mk hr0
 have HC0 := Aside0.mk hc0
 clear hr0 hc0
 have HR1 := Aside0.mk hr1
 have HC1 := Aside0.mk hc1
 clear hr1 hc1
 have H : (some ((strOfNums l0).toList == (strOfNums l1).toList)) = some r := h
 clear h
 obtain rfl := Option.some.inj H
 have hcv3 := Kd.C_string (P := Try.prog) (A := A0) (c := c0) Try.underlying25 Try.underlying5 Try.underlying9 HR0.out
 have hcv4 := Kd.C_string (P := Try.prog) (A := A1) (c := c1) Try.underlying25 Try.underlying5 Try.underlying9 HR1.out
 go_enter Try.func27, Try.ntmps27
 go_wp2
 go_ret
 exact ⟨by first | rfl | (simp; done) | (simp [*]; done), by repeat (first | exact Drawn0.refl _ | apply Drawn0.step)⟩

end Go.Proofs.Ytoooceaoggkeeaa.F
end

section
namespace Go.Proofs.Ytoooceaoggkeeaa.F
open Go.RowKit Go.Proofs.YtoooceaoggkeeaaW.PrintWords Go.Proofs.YtoooceaoggkeeaaW.PrintLast Go.Proofs.YtoooceaoggkeeaaW.PrintMore
attribute [local go_sem] max2_int min2_int max_two min_two max_three min_three max_four min_four   -- for this text's walks alone
set_option linter.unusedVariables false
set_option linter.unusedSimpArgs false

/-! ### crc_Right: function 23 -/
def crc_Right.f (l0 : List Int) : Option (Bool) := if (wrap64 ((l0.length : Int) - 4)) ≥ 0 then (if 0 ≤ (wrap64 ((l0.length : Int) - 4)) then (if (wrap64 ((l0.length : Int) - 4)) ≤ (l0.length : Int) then ((crc_Seal.f (l0.take ((wrap64 ((l0.length : Int) - 4)) : Int).toNat)).bind fun t102 => ((bytes_Equal.f t102 l0).bind fun t105 => (some t105))) else (none)) else (none)) else (some false)
set_option maxHeartbeats 8000000 in
set_option maxRecDepth 100000 in
theorem crc_Right.calls (A0 : Option Addr) (c0 : Nat) (l0 : List Int) (r : Bool) (w : World) (hr0 : Kd.C (Kd.int .u8) w A0 l0.length l0) (hc0 : l0.length ≤ c0) (h : crc_Right.f l0 = some r) :
 Calls Try.prog 23 #[.slice A0 l0.length c0] w fun e w' => e = .returned (.bool r) ∧ Below w.heap.size w w' := by
 have HR0 := Aside0.mk hr0
 have HC0 := Aside0.mk hc0
 clear hr0 hc0
 have HB := Aside0.mk (Below.refl w.heap.size w)
 have H : (if (wrap64 ((l0.length : Int) - 4)) ≥ 0 then (if 0 ≤ (wrap64 ((l0.length : Int) - 4)) then (if (wrap64 ((l0.length : Int) - 4)) ≤ (l0.length : Int) then ((crc_Seal.f (l0.take ((wrap64 ((l0.length : Int) - 4)) : Int).toNat)).bind fun t102 => ((bytes_Equal.f t102 l0).bind fun t105 => (some t105))) else (none)) else (none)) else (some false)) = some r := h
 clear h
 by_cases c2 : (wrap64 ((l0.length : Int) - 4)) ≥ 0
 · rw [if_pos c2] at H
   have c2b0 : decide (0 ≤ (wrap64 ((l0.length : Int) - 4))) = true := decide_eq_true c2
   clear c2
   obtain ⟨ji3, hji3⟩ : ∃ j_ : Int, (wrap64 ((l0.length : Int) - 4)) = j_ := ⟨_, rfl⟩
   replace H : (if 0 ≤ (ji3) then (if (ji3) ≤ (l0.length : Int) then ((crc_Seal.f (l0.take ((ji3) : Int).toNat)).bind fun t102 => ((bytes_Equal.f t102 l0).bind fun t105 => (some t105))) else (none)) else (none)) = some r := by first | (rw [hji3] at H; exact H) | (simp only [hji3] at H ⊢; exact H)
   (try rw [hji3] at c2b0)
   have hji3w : (IntKind.i64.wrap ((l0.length : Int) - 4)) = ji3 := (i64_w _).trans hji3
   by_cases c4 : 0 ≤ (ji3)
   · rw [if_pos c4] at H
     have c4b0 := eq_true c4
     have c4b1 : decide (0 ≤ (ji3)) = true := decide_eq_true c4
     clear c4
     by_cases c5 : (ji3) ≤ (l0.length : Int)
     · rw [if_pos c5] at H
       have c5b0 := eq_true c5
       have c5b1 : decide ((ji3) ≤ (l0.length : Int)) = true := decide_eq_true c5
       clear c5
       replace H := Option.bind_eq_some_iff.mp H
       obtain ⟨t102, A60, H⟩ := H
       replace H : ((bytes_Equal.f t102 l0).bind fun t105 => (some t105)) = some r := H
       have A6 := Aside0.mk A60
       clear A60
       replace H := Option.bind_eq_some_iff.mp H
       obtain ⟨t105, A70, H⟩ := H
       replace H : (some t105) = some r := H
       have A7 := Aside0.mk A70
       clear A70
       obtain rfl := Option.some.inj H
       obtain ⟨i08, hi08, _, hsz8, _⟩ := info_parts info5
       obtain ⟨hcut8, hA8, hC8⟩ := print_take_of (P := Try.prog) (Value.int .u8) 0 25 5 .i64 Try.underlying25 hi08 hsz8 A0 c0 l0 (ji3) (of_decide_eq_true (by first | (with_reducible assumption) | assumption)) (of_decide_eq_true (by first | (with_reducible assumption) | assumption)) HC0.out
       have HR101 := Aside0.mk (Kd.C_of_reads (h1 := fun _ => rfl) (hA8 _ (Kd.reads_of_C HR0.out)))
       have HC101 := Aside0.mk hC8
       clear hA8 hC8 hi08 hsz8
       have hlen_ : (l0.take ((ji3) : Int).toNat).length = ((ji3) : Int).toNat := by
        have := of_decide_eq_true c5b1
        rw [List.length_take]; omega
       have hseal := crc_Seal.calls A0 c0 (l0.take ((ji3) : Int).toNat) t102 w HR101.out HC101.out A6.out
       rw [hlen_] at hseal
       go_enter Try.func23, Try.ntmps23
       go_wp2_with (first | (go_at_call 22; refine hseal.mono ?_; rintro e w9 ⟨v103, rfl, ho0, hb⟩; have n0_ := Aside0.mk (Kd.R_lower ho0 (below_size (by repeat (first | (with_reducible first | exact HB.out | apply below_alloc | apply pw_below_drewN | apply below_drew1) | exact HB.out)))); have n1_ := Aside0.mk (below_step (by repeat (first | (with_reducible first | exact HB.out | apply below_alloc | apply pw_below_drewN | apply below_drew1) | exact HB.out)) hb); clear HB; have HO104 := n0_; have HB := n1_; clear n0_ n1_; (try clear hb); (try clear hb2); (try clear hk); (try clear hi); (try clear ho0); obtain ⟨Ao10, co10, eo10⟩ := Kd.R_slice HO104.out; subst eo10) | (go_at_call 27; (with_reducible refine (bytes_Equal.calls _ _ t102 _ _ l0 t105 _ ?side1 ?side2 ?side3 ?side4 A7.out).mono ?_); (case side1 => repeat (first | exact (Kd.R_reads' HO104.out).2.2 | (with_reducible refine Kd.C_alloc ?_ _) | (with_reducible refine Kd.C_drewN ?_ _) | (with_reducible refine Kd.C_drew ?_))); (case side2 => exact (Kd.R_reads' HO104.out).2.1); (case side3 => repeat (first | exact (Kd.C_below HR0.out HB.out) | (with_reducible refine Kd.C_alloc ?_ _) | (with_reducible refine Kd.C_drewN ?_ _) | (with_reducible refine Kd.C_drew ?_))); (case side4 => exact HC0.out); rintro e w' ⟨rfl, ⟨nd, rfl⟩⟩))
       go_ret
       exact ⟨by first | rfl | (simp [errW_none, errW_some] <;> rfl) | (simp only [← hji3]; first | rfl | (simp [errW_none, errW_some] <;> rfl)) | (simp [*, errW_none, errW_some] <;> rfl), by repeat (first | (with_reducible first | exact HB.out | apply below_alloc | apply pw_below_drewN | apply below_drew1) | exact HB.out)⟩
     · rw [if_neg c5] at H
       exact absurd H (by simp)
   · rw [if_neg c4] at H
     exact absurd H (by simp)
 · rw [if_neg c2] at H
   have c2b0 : decide (0 ≤ (wrap64 ((l0.length : Int) - 4))) = false := decide_eq_false c2
   clear c2
   obtain rfl := Option.some.inj H
   go_enter Try.func23, Try.ntmps23
   go_wp2
   go_ret
   exact ⟨by first | rfl | (simp [errW_none, errW_some] <;> rfl) | (simp [*, errW_none, errW_some] <;> rfl), by repeat (first | (with_reducible first | exact HB.out | apply below_alloc | apply pw_below_drewN | apply below_drew1) | exact HB.out)⟩

end Go.Proofs.Ytoooceaoggkeeaa.F
end

section
namespace Go.Proofs.Ytoooceaoggkeeaa.F
open Go.RowKit Go.Proofs.YtoooceaoggkeeaaW.PrintWords Go.Proofs.YtoooceaoggkeeaaW.PrintLast Go.Proofs.YtoooceaoggkeeaaW.PrintMore
attribute [local go_sem] max2_int min2_int max_two min_two max_three min_three max_four min_four   -- for this text's walks alone
set_option linter.unusedVariables false
set_option linter.unusedSimpArgs false

open Go.Proofs.Ytoooceaoggkeeaa.H
def crc_Right_c.f (l0 : List Int) : Option Bool := if bytesB l0 = true ∧ l0.length ≤ 1000000 then some (rightC l0) else none
theorem strs_eq {a b : List Int} (ha : bytesB a = true) (hb : bytesB b = true) (h : (strOfNums a).toList = (strOfNums b).toList) : a = b := by
 have h2 : a.map (fun n => UInt8.ofNat n.toNat) = b.map (fun n => UInt8.ofNat n.toNat) := by
  simpa [strOfNums, ByteArray.toList_eq] using h
 clear h
 induction a generalizing b with
 | nil => cases b with
   | nil => rfl
   | cons y b => simp at h2
 | cons x a ih =>
   cases b with
   | nil => simp at h2
   | cons y b =>
     rw [List.map_cons, List.map_cons] at h2
     injection h2 with h3 h4
     have hx := bytesB_at ha x (by simp)
     have hy := bytesB_at hb y (by simp)
     have h5 := congrArg UInt8.toNat h3
     rw [UInt8.toNat_ofNat', UInt8.toNat_ofNat'] at h5
     have h6 : x = y := by omega
     rw [h6, ih (bytesB_of fun c hc => bytesB_at ha c (by simp [hc])) (bytesB_of fun c hc => bytesB_at hb c (by simp [hc])) h4]
theorem strs_beq (a b : List Int) (ha : bytesB a = true) (hb : bytesB b = true) : ((strOfNums a).toList == (strOfNums b).toList) = decide (a = b) := by
 by_cases h : a = b
 · subst h; simp
 · rw [decide_eq_false h]
   simp only [beq_eq_false_iff_ne]
   exact fun h2 => h (strs_eq ha hb h2)
theorem sealL_byte (l : List Int) (hb : bytesB l = true) : bytesB (sealL l) = true := by
 rw [sealL, bytesB_append, hb, bytesB_of (putL_byte _ 4)]; rfl
theorem sumL_wrap (l : List Int) (hb : bytesB l = true) : IntKind.u64.wrap (sumL l) = sumL l := by
 have hr := moreL_range 0 l (by omega) hb
 have hs : sumL l = moreL 0 l := rfl
 rw [hs]
 simp only [IntKind.wrap, IntKind.signed, IntKind.bits]; simp; omega
theorem crc_Seal.is (l : List Int) (hb : bytesB l = true) (hl : l.length ≤ 2000000) : crc_Seal.f l = some (sealL l) := by
 rw [crc_Seal.f, bytes_Clone.f, if_pos (by omega), Option.bind_some, crc_Sum.f, if_pos hb, Option.bind_some, sumL_wrap l hb, word_Put.f, Option.bind_some, show putN 4 = 4 from rfl, if_pos (by rw [putL_length]; omega)]
 rfl
theorem crc_Right_c.to {l0 : List Int} {r : Bool} (h : crc_Right_c.f l0 = some r) : crc_Right.f l0 = some r := by
 unfold crc_Right_c.f at h
 split at h
 case isFalse => cases h
 case isTrue hb =>
 obtain rfl := Option.some.inj h
 have e : wrap64 ((l0.length : Int) - 4) = (l0.length : Int) - 4 := by unfold wrap64; omega
 rw [crc_Right.f, e, rightC]
 by_cases h4 : (l0.length : Int) - 4 ≥ 0
 · rw [if_pos h4, if_pos h4, if_pos (by omega), show ((l0.length : Int) - 4).toNat = l0.length - 4 from by omega, crc_Seal.is _ (bytesB_take hb.1 _) (by rw [List.length_take]; omega), Option.bind_some, bytes_Equal.f, Option.bind_some, decide_eq_true (show 4 ≤ l0.length by omega), Bool.true_and]
   congr 1
   exact strs_beq _ _ (sealL_byte _ (bytesB_take hb.1 _)) hb.1
 · rw [if_neg h4, decide_eq_false (show ¬ 4 ≤ l0.length by omega)]
   rfl

theorem crc_Right_c.calls (A0 : Option Addr) (c0 : Nat) (l0 : List Int) (r : Bool) (w : World) (hr0 : Kd.C (Kd.int .u8) w A0 l0.length l0) (hc0 : l0.length ≤ c0) (h : crc_Right_c.f l0 = some r) :
 Calls Try.prog 23 #[.slice A0 l0.length c0] w fun e w' => e = .returned (.bool r) ∧ Below w.heap.size w w' := by
 exact crc_Right.calls A0 c0 l0 r w hr0 hc0 (crc_Right_c.to h)

end Go.Proofs.Ytoooceaoggkeeaa.F
end

section
/- pack.fields: the five numbers of a datagram's front, each with how many bytes it has. -/
namespace Go.Proofs.Ytoooceaoggkeeaa.H
open Go.RowKit Go.Shelf
open Go.Proofs.YtoooceaoggkeeaaW.PrintWords
attribute [local go_sem] Oper.semAt_some
set_option linter.unusedVariables false
def fieldsL (k s i o m : Int) : List (Int × Int) := [(k, 1), (s, 8), (i, 2), (o, 2), (m, 4)]
def gramCells (k s i o m : Int) (vs vb : Value) : Array Value := #[.int .i64 k, .int .u64 s, .int .i64 i, .int .i64 o, .int .u32 m, vs, vb]
theorem wrapU (x : Int) (h0 : 0 ≤ x) (h1 : x < 18446744073709551616) : IntKind.u64.wrap x = x := by simp only [IntKind.wrap, IntKind.signed, IntKind.bits]; simp; omega
set_option maxRecDepth 100000 in
set_option maxHeartbeats 4000000 in
theorem fields1_in (l Bs n₀ : Nat) (S : Nat → Prop) (k s i o m : Int) (vs vb : Value) (hk : 0 ≤ k ∧ k ≤ 100) (hi : 0 ≤ i ∧ i ≤ 65535) (ho : 0 ≤ o ∧ o ≤ 65535) (hm : 0 ≤ m ∧ m < 4294967296) (J Jx : List (Int × Int) → World → Prop)
 (hY : ∀ pre x W, J pre W → pre.length < 5 → YieldAt Fence.wide 8 Try.prog l #[.int .u64 x.1, .int .i64 x.2] W fun e W' =>
   (e = .returned (.bool true) ∧ J (pre ++ [x]) W' ∧ Kset n₀ S W W') ∨ (e = .returned (.bool false) ∧ Jx (pre ++ [x]) W'))
 (W : World) (hn : Bs < n₀) (hS : ¬ S Bs) (hB : W.heap[Bs]? = some (.cells (gramCells k s i o m vs vb) 28 (0, 0))) (h0 : J [] W) :
 CallsIn Fence.wide 9 Try.prog 38 #[.func (.yield l) #[] #[], .pointer (some ⟨Bs, 0, none⟩)] W fun e W' => (∃ v, e = .returned v) ∧
  ((∃ ys, ys = fieldsL k s i o m ∧ J ys W') ∨ (∃ pre, True ∧ Jx pre W')) := by
 have ek := wrapU k hk.1 (by omega)
 have ei := wrapU i hi.1 (by omega)
 have eo := wrapU o ho.1 (by omega)
 have em := wrapU m hm.1 (by omega)
 have cells : ∀ W', Kset n₀ S W W' → W'.heap[Bs]? = some (.cells (gramCells k s i o m vs vb) 28 (0, 0)) := fun W' hk => (hk.block Bs hn hS).trans hB
 refine callsIn_of_wp Try.func38 rfl trivial ?_ rfl
 simp only [Try.ntmps38, List.size_toArray, List.length_cons, List.length_nil, Nat.reduceAdd, Nat.reduceSub, Array.replicate_succ, Array.replicate_zero, List.push_toArray, List.append_toArray, List.nil_append, List.cons_append]
 have c0 : W.cell? ⟨Bs, 0, none⟩ = some (.int .i64 k) := (blk_cell hB 0).trans rfl
 obtain ⟨fn, tmps, assign, body, hy, hR⟩ := hY [] (k, 1) W h0 (by simp)
 dsimp only at hy
 gi_wp2
 refine hR.mono ?_
 clear hR hy fn tmps assign body
 rintro e W1 (⟨rfl, hJ1, hk1⟩ | ⟨rfl, hJx⟩)
 rotate_left
 · gi_wp2
   iterate 40 (try (refine ⟨fun f h => (by cases h), ?_⟩; gi_wp2))
   go_end0
   exact ⟨⟨_, rfl⟩, .inr ⟨_, trivial, hJx⟩⟩
 have K1 := hk1
 have c1 : W1.cell? ⟨Bs, 1, none⟩ = some (.int .u64 s) := (blk_cell (cells W1 K1) 1).trans rfl
 obtain ⟨fn, tmps, assign, body, hy, hR⟩ := hY _ (s, 8) W1 hJ1 (by simp)
 dsimp only at hy
 gi_wp2
 refine hR.mono ?_
 clear hR hy fn tmps assign body
 rintro e W2 (⟨rfl, hJ2, hk2⟩ | ⟨rfl, hJx⟩)
 rotate_left
 · gi_wp2
   iterate 40 (try (refine ⟨fun f h => (by cases h), ?_⟩; gi_wp2))
   go_end0
   exact ⟨⟨_, rfl⟩, .inr ⟨_, trivial, hJx⟩⟩
 have K2 := K1.trans hk2
 have c2 : W2.cell? ⟨Bs, 2, none⟩ = some (.int .i64 i) := (blk_cell (cells W2 K2) 2).trans rfl
 obtain ⟨fn, tmps, assign, body, hy, hR⟩ := hY _ (i, 2) W2 hJ2 (by simp)
 dsimp only at hy
 gi_wp2
 refine hR.mono ?_
 clear hR hy fn tmps assign body
 rintro e W3 (⟨rfl, hJ3, hk3⟩ | ⟨rfl, hJx⟩)
 rotate_left
 · gi_wp2
   iterate 40 (try (refine ⟨fun f h => (by cases h), ?_⟩; gi_wp2))
   go_end0
   exact ⟨⟨_, rfl⟩, .inr ⟨_, trivial, hJx⟩⟩
 have K3 := K2.trans hk3
 have c3 : W3.cell? ⟨Bs, 3, none⟩ = some (.int .i64 o) := (blk_cell (cells W3 K3) 3).trans rfl
 obtain ⟨fn, tmps, assign, body, hy, hR⟩ := hY _ (o, 2) W3 hJ3 (by simp)
 dsimp only at hy
 gi_wp2
 refine hR.mono ?_
 clear hR hy fn tmps assign body
 rintro e W4 (⟨rfl, hJ4, hk4⟩ | ⟨rfl, hJx⟩)
 rotate_left
 · gi_wp2
   iterate 40 (try (refine ⟨fun f h => (by cases h), ?_⟩; gi_wp2))
   go_end0
   exact ⟨⟨_, rfl⟩, .inr ⟨_, trivial, hJx⟩⟩
 have K4 := K3.trans hk4
 have c4 : W4.cell? ⟨Bs, 4, none⟩ = some (.int .u32 m) := (blk_cell (cells W4 K4) 4).trans rfl
 obtain ⟨fn, tmps, assign, body, hy, hR⟩ := hY _ (m, 4) W4 hJ4 (by simp)
 dsimp only at hy
 gi_wp2
 refine hR.mono ?_
 clear hR hy fn tmps assign body
 rintro e W5 (⟨rfl, hJ5, hk5⟩ | ⟨rfl, hJx⟩)
 rotate_left
 · gi_wp2
   iterate 40 (try (refine ⟨fun f h => (by cases h), ?_⟩; gi_wp2))
   go_end0
   exact ⟨⟨_, rfl⟩, .inr ⟨_, trivial, hJx⟩⟩
 have K5 := K4.trans hk5
 gi_wp2
 go_end0
 exact ⟨⟨_, rfl⟩, .inl ⟨_, rfl, hJ5⟩⟩
end Go.Proofs.Ytoooceaoggkeeaa.H
end
