/- Proved: at every input in bounds the statement TokenBits of the token layer answers yes: a token with bits of more, or fewer, chunks than there are is none.
Text 1 of 5; functions told as plain ones, with the contracts of their calls. -/
import Derived.Test.YtbijnfhcbanhdaaProg
import Derived.Below
import Derived.Deep.Draws
import Derived.Deep.AppendLies
import Derived.Maps.AppendAt
import Derived.OwnWalk
import Derived.Laws.BytesArg
import Derived.Laws.MakeOwn
import Derived.Laws.OwnMore
import Derived.Deep.OwnRows
import Derived.Tactics
import Derived.Lib.ConvBytes
import Derived.Laws.Slices
import Derived.WalkKit
import Derived.KernelRfl
import Derived.RowKit3
import Derived.Deep.LoopGhost
import Derived.Deep.QuietTactic
import Derived.BigQuiet
import Derived.WideLaws
import Derived.Deep.DeepCutAuto
import Derived.Deep.CutBlock
import Derived.Deep.RegionHeld3
import Derived.Laws.Rows
import Derived.Lib.AppendStr
import Derived.ArgAppend
import Derived.Laws.IdiomCopy
import Derived.OrdersHeld
import Derived.Laws.BitsLemmas
import Derived.RowKit
import Derived.Test.YtbijnfhcbanhdaaWWords
import Derived.Test.YtbijnfhcbanhdaaWLast
import Derived.Test.YtbijnfhcbanhdaaWTab
import Derived.Test.YtbijnfhcbanhdaaWFour
import Derived.Test.YtbijnfhcbanhdaaWQPut
import Derived.Test.YtbijnfhcbanhdaaWApart
import Derived.Test.YtbijnfhcbanhdaaWArr
import Derived.Test.YtbijnfhcbanhdaaWZeros
import Derived.Test.YtbijnfhcbanhdaaWFoot
import Derived.Test.YtbijnfhcbanhdaaWKept
import Derived.Test.YtbijnfhcbanhdaaWShare
import Derived.Test.YtbijnfhcbanhdaaWN
import Derived.Test.YtbijnfhcbanhdaaWFootNe
import Derived.Test.YtbijnfhcbanhdaaWAt
import Derived.Test.YtbijnfhcbanhdaaWEqStruct
import Derived.Test.YtbijnfhcbanhdaaWRepsOne
import Derived.Test.YtbijnfhcbanhdaaWInv
import Derived.Test.YtbijnfhcbanhdaaWInvWords
import Derived.Test.YtbijnfhcbanhdaaWGuard
import Derived.Test.YtbijnfhcbanhdaaWNEv
import Derived.Test.YtbijnfhcbanhdaaWMore
section
namespace Go.Proofs.Ytbijnfhcbanhdaa.F
open Go.RowKit Go.Proofs.YtbijnfhcbanhdaaW.PrintWords Go.Proofs.YtbijnfhcbanhdaaW.PrintLast Go.Proofs.YtbijnfhcbanhdaaW.PrintMore
attribute [local go_sem] max2_int min2_int max_two min_two max_three min_three max_four min_four   -- for this text's walks alone
set_option linter.unusedVariables false
set_option linter.unusedSimpArgs false



def errW : Option Int → Value
 | none => .nilIface
 | some c => .iface 0 (.int .i64 c)
theorem errW_none : errW none = .nilIface := rfl
theorem errW_some (c : Int) : errW (some c) = .iface 0 (.int .i64 c) := rfl

theorem info3 : (Try.prog.info? 3).map (fun i => (i.zero, i.size, i.bytes)) = some (some (.int .i64 0), 1, 8) := by kernel_rfl
theorem info5 : (Try.prog.info? 5).map (fun i => (i.zero, i.size, i.bytes)) = some (some (.int .u8 0), 1, 1) := by kernel_rfl
theorem info22 : (Try.prog.info? 22).map (fun i => (i.zero, i.size, i.bytes)) = some (some (.int .u64 0), 1, 8) := by kernel_rfl
theorem info123 : (Try.prog.info? 123).map (fun i => (i.zero, i.size, i.bytes)) = some (some (.slice none 0 0), 1, 24) := by kernel_rfl
-- the values' own types
/-! #### struct type 26 -/
structure S26 where
 f0 : Int
 f1 : (List Int)
 f2 : Int
/-! #### struct type 29 -/
structure S29 where
 f0 : S26
 f1 : (List Int)
def rd_L8 (xs : List (List Int)) (i : Int) : (List Int) := xs.getD i.toNat ([] : List Int)
theorem at_L8 {w : World} {A : Option Addr} {n : Nat} {xs : List (List Int)} (h : Kd.C (Kd.slice 22 (Kd.int .u64)) w A n xs) (i : Int) (h0 : 0 ≤ i) (h1 : i < n) : ∃ ad A0 c0, A = some ad ∧ w.cell? (ad.add i.toNat) = some (.slice A0 (rd_L8 xs i).length c0) ∧ (rd_L8 xs i).length ≤ c0 ∧ (Kd.int .u64).C w A0 (rd_L8 xs i).length (rd_L8 xs i) := by
 obtain ⟨ad, c, e, _, hK, hc0⟩ := Kd.C_get h ([] : List Int) i h0 h1
 have hc : ∀ j u, c[j]? = some u → w.cell? (ad.add (i.toNat * 1 + j)) = some u := hc0
 obtain ⟨A0, c0, rfl, l0, g0⟩ := hK
 exact ⟨ad, A0, c0, e, by have hq := hc 0 _ rfl; rwa [Nat.mul_one, Nat.add_zero] at hq, l0, g0⟩

end Go.Proofs.Ytbijnfhcbanhdaa.F
end

section
namespace Go.Proofs.Ytbijnfhcbanhdaa.F
open Go.RowKit Go.Proofs.YtbijnfhcbanhdaaW.PrintWords Go.Proofs.YtbijnfhcbanhdaaW.PrintLast Go.Proofs.YtbijnfhcbanhdaaW.PrintMore
attribute [local go_sem] max2_int min2_int max_two min_two max_three min_three max_four min_four   -- for this text's walks alone
set_option linter.unusedVariables false
set_option linter.unusedSimpArgs false

/-! ### scullerref07_Fits: function 92 -/
mutual
def scullerref07_Fits.j0 : Nat → List Int → Bool → Option (Bool)
 | 0, _, _ => none
 | k + 1, x0, x18 => if x18 = true then (some false) else (scullerref07_Fits.l0 k x0 0 0)
def scullerref07_Fits.l0 : Nat → List Int → Int → Int → Option (Bool)
 | 0, _, _, _ => none
 | k + 1, x0, x3, x4 => if x4 < (x0.length : Int) then (if 0 ≤ x4 then (if (rd x0 x4) < 0 then (some false) else (if (rd x0 x4) > (wrap64 (4096 - x3)) then (some false) else (scullerref07_Fits.l0 k x0 (wrap64 (x3 + (rd x0 x4))) (wrap64 (x4 + 1))))) else (none)) else (some true)
end
def scullerref07_Fits.f (k : Nat) (l0 : List Int) : Option (Bool) := if (l0.length : Int) < 1 then (scullerref07_Fits.j0 k l0 true) else (if (l0.length : Int) > 16 then (scullerref07_Fits.j0 k l0 true) else (if 0 < (l0.length : Int) then (scullerref07_Fits.j0 k l0 (decide ((rd l0 0) < 1))) else (none)))
theorem scullerref07_Fits.mono_l : ∀ k, (∀ y0 y1, LeO (scullerref07_Fits.j0 k y0 y1) (scullerref07_Fits.j0 (k + 1) y0 y1)) ∧ (∀ y0 y1 y2, LeO (scullerref07_Fits.l0 k y0 y1 y2) (scullerref07_Fits.l0 (k + 1) y0 y1 y2))
 | 0 => ⟨fun _ _ r h => by simp [scullerref07_Fits.j0] at h, fun _ _ _ r h => by simp [scullerref07_Fits.l0] at h⟩
 | k + 1 => by
   obtain ⟨ih0, ih1⟩ := scullerref07_Fits.mono_l k
   refine ⟨?_, ?_⟩
   · intro y0 y1
     unfold scullerref07_Fits.j0
     repeat' first
     | (with_reducible exact ih0 _ _)
     | (with_reducible exact ih1 _ _ _)
     | (with_reducible exact LeO.refl _)
     | (with_reducible exact LeO.none _)
     | (with_reducible refine LeO.ite ?_ ?_)
     | (with_reducible refine LeO.bind ?_ (fun _ => ?_))
     | exact ih0 _ _
     | exact ih1 _ _ _
     | exact LeO.none _
     | refine LeO.ite ?_ ?_
     | refine LeO.bind ?_ (fun _ => ?_)
   · intro y0 y1 y2
     unfold scullerref07_Fits.l0
     repeat' first
     | (with_reducible exact ih0 _ _)
     | (with_reducible exact ih1 _ _ _)
     | (with_reducible exact LeO.refl _)
     | (with_reducible exact LeO.none _)
     | (with_reducible refine LeO.ite ?_ ?_)
     | (with_reducible refine LeO.bind ?_ (fun _ => ?_))
     | exact ih0 _ _
     | exact ih1 _ _ _
     | exact LeO.none _
     | refine LeO.ite ?_ ?_
     | refine LeO.bind ?_ (fun _ => ?_)
theorem scullerref07_Fits.mono : ∀ a0 k, LeO (scullerref07_Fits.f k a0) (scullerref07_Fits.f (k + 1) a0) := by
 intro a0 k
 obtain ⟨ih0, ih1⟩ := scullerref07_Fits.mono_l k
 unfold scullerref07_Fits.f
 repeat' first
  | (with_reducible exact ih0 _ _)
  | (with_reducible exact ih1 _ _ _)
  | (with_reducible exact LeO.refl _)
  | (with_reducible exact LeO.none _)
  | (with_reducible refine LeO.ite ?_ ?_)
  | (with_reducible refine LeO.bind ?_ (fun _ => ?_))
  | exact ih0 _ _
  | exact ih1 _ _ _
  | exact LeO.none _
  | refine LeO.ite ?_ ?_
  | refine LeO.bind ?_ (fun _ => ?_)
set_option maxHeartbeats 8000000 in
set_option maxRecDepth 100000 in
theorem scullerref07_Fits.calls (k : Nat) (A0 : Option Addr) (c0 : Nat) (l0 : List Int) (r : Bool) (w : World) (hr0 : Kd.C (Kd.int .i64) w A0 l0.length l0) (hc0 : l0.length ≤ c0) (h : scullerref07_Fits.f k l0 = some r) :
 Calls Try.prog 92 #[.slice A0 l0.length c0] w fun e w' => e = .returned (.bool r) ∧ Drawn0 w w' := by
 have HR0 := Aside0.mk hr0
 have HC0 := Aside0.mk hc0
 clear hr0 hc0
 have H : (if (l0.length : Int) < 1 then (scullerref07_Fits.j0 k l0 true) else (if (l0.length : Int) > 16 then (scullerref07_Fits.j0 k l0 true) else (if 0 < (l0.length : Int) then (scullerref07_Fits.j0 k l0 (decide ((rd l0 0) < 1))) else (none)))) = some r := h
 clear h
 have HC2 := Aside0.mk H
 clear H
 go_enter Try.func92, Try.ntmps92
 go_upto_region 1 with (fail)
 go_cut [18] (fun v18 wc => ∃ (kq : Nat) (x18_1 : Bool), v18 = .bool x18_1 ∧ Aside0 (scullerref07_Fits.j0 kq l0 x18_1 = some r) ∧ Aside0 (kq ≤ k) ∧ Drawn0 w wc)
 case first =>
  have H := HC2.out
  clear HC2
  by_cases c3 : (l0.length : Int) < 1
  · rw [if_pos c3] at H
    have c3b0 : decide ((l0.length : Int) < 1) = true := decide_eq_true c3
    have c3b1 : decide (l0.length < 1) = true := decide_eq_true (by omega)
    clear c3
    (first | rw [c3b0] | (simp only [i64_w, i32_w]; rw [c3b0]) | skip)
    have H' := Aside0.mk H
    clear H
    go_wp2
    go_meet
    case rel => exact ⟨_, (true), (by first | rfl | (simp; done) | (simp [*]; done)), H', ⟨by first | omega | exact Nat.le_refl _⟩, by repeat (first | exact Drawn0.refl _ | apply Drawn0.step)⟩
  · rw [if_neg c3] at H
    have c3b0 : decide ((l0.length : Int) < 1) = false := decide_eq_false c3
    have c3b1 : decide (l0.length < 1) = false := decide_eq_false (by omega)
    clear c3
    (first | rw [c3b0] | (simp only [i64_w, i32_w]; rw [c3b0]) | skip)
    by_cases c4 : (l0.length : Int) > 16
    · rw [if_pos c4] at H
      have c4b0 : decide (16 < (l0.length : Int)) = true := decide_eq_true c4
      have c4b1 : decide (16 < l0.length) = true := decide_eq_true (by omega)
      clear c4
      have H' := Aside0.mk H
      clear H
      go_wp2
      go_meet
      case rel => exact ⟨_, (true), (by first | rfl | (simp; done) | (simp [*]; done)), H', ⟨by first | omega | exact Nat.le_refl _⟩, by repeat (first | exact Drawn0.refl _ | apply Drawn0.step)⟩
    · rw [if_neg c4] at H
      have c4b0 : decide (16 < (l0.length : Int)) = false := decide_eq_false c4
      have c4b1 : decide (16 < l0.length) = false := decide_eq_false (by omega)
      clear c4
      by_cases c5 : 0 < (l0.length : Int)
      · rw [if_pos c5] at H
        have c5b0 : decide (0 < (l0.length : Int)) = true := decide_eq_true c5
        have c5b1 : decide (0 < l0.length) = true := decide_eq_true (by omega)
        clear c5
        have H' := Aside0.mk H
        clear H
        have p101 : 0 ≤ (0 : Int) := (by omega)
        have q101 : 0 < (l0.length : Int) := of_decide_eq_true (by first | (with_reducible assumption) | assumption)
        obtain ⟨ad101, e101, hx101_0⟩ := Kd.at_int HR0.out 0 p101 q101
        cases e101
        have qi101 : (0 < l0.length) = True := eq_true (by omega)
        (try rw [show ((0 : Int)).toNat = 0 from rfl] at hx101_0)
        (try rw [Addr.add_zero'] at hx101_0)
        replace p101 := eq_true p101
        replace q101 := eq_true q101
        go_wp2
        go_meet
        case rel => exact ⟨_, (decide ((rd l0 0) < 1)), (by first | rfl | (simp; done) | (simp [*]; done)), H', ⟨by first | omega | exact Nat.le_refl _⟩, by repeat (first | exact Drawn0.refl _ | apply Drawn0.step)⟩
      · rw [if_neg c5] at H
        exact absurd H (by simp)
 case rest =>
  clear HC2
  try clear p1
  try clear q1
  try clear hx1
  try clear qi1
  try clear p2
  try clear c3
  try clear c3b0
  try clear c3b1
  try clear c4
  try clear c4b0
  try clear c4b1
  try clear c5
  try clear c5b0
  try clear c5b1
  try clear hx101_0
  try clear p101
  try clear q101
  obtain ⟨kq, x18_1, rfl, HA, HJ1, ⟨mc1, rfl⟩⟩ := hcut
  cases kq with
  | zero => exact absurd HA.out (by simp [scullerref07_Fits.j0])
  | succ kj1 =>
    have H := HA.out
    clear HA
    simp only [scullerref07_Fits.j0] at H
    by_cases c6 : x18_1 = true
    · subst c6
      have H1 : (some false) = some r := by rw [if_pos rfl] at H; exact H
      clear H
      have H := H1
      clear H1
      obtain rfl := Option.some.inj H
      go_wp2
      go_ret
      exact ⟨by first | rfl | (simp; done) | (simp [*]; done), by repeat (first | exact Drawn0.refl _ | apply Drawn0.step)⟩
    · replace c6 := Bool.eq_false_iff.mpr c6
      subst c6
      have H1 : (scullerref07_Fits.l0 kj1 l0 0 0) = some r := by rw [if_neg (show ¬ (false = true) by decide)] at H; exact H
      clear H
      have H := H1
      clear H1
      have H' := Aside0.mk H
      clear H
      go_wp2
      go_loopg [3, 4] kj1 (fun kq v3 v4 w' => ∃ (x3_2 : Int) (x4_2 : Int), v3 = .int .i64 x3_2 ∧ v4 = .int .i64 x4_2 ∧ Aside0 (scullerref07_Fits.l0 kq l0 x3_2 x4_2 = some r) ∧ Aside0 (kq ≤ kj1) ∧ Drawn0 w w')
      case atStart => exact ⟨(0), (0), (by first | rfl | (simp; done) | (simp [*]; done)), (by first | rfl | (simp; done) | (simp [*]; done)), H', ⟨Nat.le_refl _⟩, by repeat (first | exact Drawn0.refl _ | apply Drawn0.step)⟩
      case round =>
       clear H'
       try clear c1
       try clear p1
       try clear q1
       try clear hx1
       try clear qi1
       try clear p2
       try clear c3
       try clear c3b0
       try clear c3b1
       try clear c4
       try clear c4b0
       try clear c4b1
       try clear c5
       try clear c5b0
       try clear c5b1
       try clear c6
       try clear hx101_0
       try clear p1
       try clear p101
       try clear p2
       try clear q1
       try clear q101
       obtain ⟨x3_2, x4_2, rfl, rfl, HA, HK2, ⟨m2, rfl⟩⟩ := hrel
       cases gk with
       | zero => exact absurd HA.out (by simp [scullerref07_Fits.l0])
       | succ k2 =>
         have H := HA.out
         clear HA
         simp only [scullerref07_Fits.l0] at H
         by_cases c7 : x4_2 < (l0.length : Int)
         · rw [if_pos c7] at H
           have c7b0 : decide (x4_2 < (l0.length : Int)) = true := decide_eq_true c7
           clear c7
           by_cases c8 : 0 ≤ x4_2
           · rw [if_pos c8] at H
             have c8b0 : decide (0 ≤ x4_2) = true := decide_eq_true c8
             clear c8
             by_cases c9 : (rd l0 x4_2) < 0
             · rw [if_pos c9] at H
               have c9b0 : decide ((rd l0 x4_2) < 0) = true := decide_eq_true c9
               clear c9
               obtain rfl := Option.some.inj H
               have p102 : 0 ≤ (x4_2 : Int) := of_decide_eq_true (by first | (with_reducible assumption) | assumption)
               have q102 : x4_2 < (l0.length : Int) := of_decide_eq_true (by first | (with_reducible assumption) | assumption)
               obtain ⟨ad102, e102, hx102_0⟩ := Kd.at_int HR0.out x4_2 p102 q102
               cases e102
               replace p102 := eq_true p102
               replace q102 := eq_true q102
               go_wp2
               go_ret
               exact ⟨by first | rfl | (simp; done) | (simp [*]; done), by repeat (first | exact Drawn0.refl _ | apply Drawn0.step)⟩
             · rw [if_neg c9] at H
               have c9b0 : decide ((rd l0 x4_2) < 0) = false := decide_eq_false c9
               clear c9
               by_cases c10 : (rd l0 x4_2) > (wrap64 (4096 - x3_2))
               · rw [if_pos c10] at H
                 have c10b0 : decide ((wrap64 (4096 - x3_2)) < (rd l0 x4_2)) = true := decide_eq_true c10
                 clear c10
                 obtain rfl := Option.some.inj H
                 have p102 : 0 ≤ (x4_2 : Int) := of_decide_eq_true (by first | (with_reducible assumption) | assumption)
                 have q102 : x4_2 < (l0.length : Int) := of_decide_eq_true (by first | (with_reducible assumption) | assumption)
                 obtain ⟨ad102, e102, hx102_0⟩ := Kd.at_int HR0.out x4_2 p102 q102
                 cases e102
                 replace p102 := eq_true p102
                 replace q102 := eq_true q102
                 have p103 : 0 ≤ (x4_2 : Int) := of_decide_eq_true (by first | (with_reducible assumption) | assumption)
                 have q103 : x4_2 < (l0.length : Int) := of_decide_eq_true (by first | (with_reducible assumption) | assumption)
                 obtain ⟨ad103, e103, hx103_0⟩ := Kd.at_int HR0.out x4_2 p103 q103
                 obtain rfl : ad102 = ad103 := (by injection e103)
                 replace p103 := eq_true p103
                 replace q103 := eq_true q103
                 go_wp2
                 go_ret
                 exact ⟨by first | rfl | (simp; done) | (simp [*]; done), by repeat (first | exact Drawn0.refl _ | apply Drawn0.step)⟩
               · rw [if_neg c10] at H
                 have c10b0 : decide ((wrap64 (4096 - x3_2)) < (rd l0 x4_2)) = false := decide_eq_false c10
                 clear c10
                 have H' := Aside0.mk H
                 clear H
                 have p102 : 0 ≤ (x4_2 : Int) := of_decide_eq_true (by first | (with_reducible assumption) | assumption)
                 have q102 : x4_2 < (l0.length : Int) := of_decide_eq_true (by first | (with_reducible assumption) | assumption)
                 obtain ⟨ad102, e102, hx102_0⟩ := Kd.at_int HR0.out x4_2 p102 q102
                 cases e102
                 replace p102 := eq_true p102
                 replace q102 := eq_true q102
                 have p103 : 0 ≤ (x4_2 : Int) := of_decide_eq_true (by first | (with_reducible assumption) | assumption)
                 have q103 : x4_2 < (l0.length : Int) := of_decide_eq_true (by first | (with_reducible assumption) | assumption)
                 obtain ⟨ad103, e103, hx103_0⟩ := Kd.at_int HR0.out x4_2 p103 q103
                 obtain rfl : ad102 = ad103 := (by injection e103)
                 replace p103 := eq_true p103
                 replace q103 := eq_true q103
                 have p104 : 0 ≤ (x4_2 : Int) := of_decide_eq_true (by first | (with_reducible assumption) | assumption)
                 have q104 : x4_2 < (l0.length : Int) := of_decide_eq_true (by first | (with_reducible assumption) | assumption)
                 obtain ⟨ad104, e104, hx104_0⟩ := Kd.at_int HR0.out x4_2 p104 q104
                 obtain rfl : ad102 = ad104 := (by injection e104)
                 replace p104 := eq_true p104
                 replace q104 := eq_true q104
                 go_wp2
                 go_roundg k2
                 case measure => have := HJ1.out; have := HK2.out; omega
                 case rel => exact ⟨(wrap64 (x3_2 + (rd l0 x4_2))), (wrap64 (x4_2 + 1)), (by first | rfl | (simp; done) | (simp [*]; done)), (by first | rfl | (simp; done) | (simp [*]; done)), H', ⟨by have := HJ1.out; have := HK2.out; omega⟩, by repeat (first | exact Drawn0.refl _ | apply Drawn0.step)⟩
           · rw [if_neg c8] at H
             exact absurd H (by simp)
         · rw [if_neg c7] at H
           have c7b0 : decide (x4_2 < (l0.length : Int)) = false := decide_eq_false c7
           clear c7
           obtain rfl := Option.some.inj H
           go_wp2
           go_ret
           exact ⟨by first | rfl | (simp; done) | (simp [*]; done), by repeat (first | exact Drawn0.refl _ | apply Drawn0.step)⟩

end Go.Proofs.Ytbijnfhcbanhdaa.F
end

section
/- Plain functions on lists and numbers: what the functions of the program compute. No program in sight. -/
namespace Go.Proofs.Ytbijnfhcbanhdaa.H
theorem getD_toNat {α : Type} (l : List α) (d : α) (i : Nat) (h : i < l.length) : l.getD ((i : Int)).toNat d = l[i]'h := by
 simp [List.getD_eq_getElem?_getD, List.getElem?_eq_getElem h]
theorem drop_at {α : Type} (l : List α) (i : Nat) (h : i < l.length) : l.drop i = l[i]'h :: l.drop (i + 1) := List.drop_eq_getElem_cons h
theorem take_at {α : Type} (l : List α) (i : Nat) (h : i < l.length) : l.take (i + 1) = l.take i ++ [l[i]'h] := by
 rw [List.take_succ_eq_append_getElem h]

theorem decide_cons_eq {x y : Int} {xs ys : List Int} (h : x = y) : decide (x :: xs = y :: ys) = decide (xs = ys) := by subst h; simp
theorem decide_cons_ne {x y : Int} {xs ys : List Int} (h : ¬ x = y) : decide (x :: xs = y :: ys) = false := by simp [h]

/-! ### Layer 01 -/
/-- The m lowest bytes of n, the least first. -/
def putL (n : Int) (m : Nat) : List Int := (List.range m).map fun j => n / 2 ^ (8 * j) % 256
theorem putL_length (n : Int) (m : Nat) : (putL n m).length = m := by simp [putL]
theorem putL_zero (n : Int) : putL n 0 = [] := rfl
theorem pow8 (j : Nat) : (2 : Int) ^ (8 * (j + 1)) = 256 * 2 ^ (8 * j) := by
 rw [show 8 * (j + 1) = 8 * j + 8 from by omega, Int.pow_add]; omega
theorem putL_succ (n : Int) (m : Nat) : putL n (m + 1) = n % 256 :: putL (n / 256) m := by
 unfold putL
 rw [List.range_succ_eq_map, List.map_cons, List.map_map]
 congr 1
 · simp
 · apply List.map_congr_left
   intro j _
   simp only [Function.comp, Nat.succ_eq_add_one]
   rw [pow8, Int.ediv_ediv_of_nonneg (by omega)]
theorem putL_byte (n : Int) (m : Nat) : ∀ c ∈ putL n m, 0 ≤ c ∧ c ≤ 255 := by
 intro c hc
 simp only [putL, List.mem_map] at hc
 obtain ⟨j, _, rfl⟩ := hc
 omega
/-- How many bytes word.Put gives. -/
def putN (a1 : Int) : Nat := (max 0 (min a1 8)).toNat
theorem putN_le (a1 : Int) : putN a1 ≤ 8 := by unfold putN; omega
/-- A number out of its bytes, the least first. -/
def getL : List Int → Int
 | [] => 0
 | c :: cs => c + 256 * getL cs
def bytesB (l : List Int) : Bool := l.all fun c => decide (0 ≤ c) && decide (c ≤ 255)
theorem bytesB_at {l : List Int} (h : bytesB l = true) : ∀ c ∈ l, 0 ≤ c ∧ c ≤ 255 := by
 intro c hc
 have := List.all_eq_true.1 h c hc
 simpa using this
theorem bytesB_of {l : List Int} (h : ∀ c ∈ l, 0 ≤ c ∧ c ≤ 255) : bytesB l = true := by
 refine List.all_eq_true.2 fun c hc => ?_
 have := h c hc
 simpa using this
theorem bytesB_append {a b : List Int} : bytesB (a ++ b) = (bytesB a && bytesB b) := by simp [bytesB]
theorem bytesB_take {l : List Int} (h : bytesB l = true) (n : Nat) : bytesB (l.take n) = true := bytesB_of fun c hc => bytesB_at h c (List.mem_of_mem_take hc)
theorem bytesB_drop {l : List Int} (h : bytesB l = true) (n : Nat) : bytesB (l.drop n) = true := bytesB_of fun c hc => bytesB_at h c (List.mem_of_mem_drop hc)
theorem getL_bound : ∀ (n : Nat) (l : List Int), l.length ≤ n → (∀ c ∈ l, 0 ≤ c ∧ c ≤ 255) → 0 ≤ getL l ∧ getL l < 256 ^ n
 | n, [], _, _ => ⟨by simp [getL], by simpa [getL] using Int.pow_pos (by omega : (0 : Int) < 256)⟩
 | 0, c :: cs, hl, _ => by simp at hl
 | n + 1, c :: cs, hl, h => by
   have h1 := h c (by simp)
   have h2 := getL_bound n cs (by simpa using hl) (fun x hx => h x (by simp [hx]))
   simp only [getL, Int.pow_succ]
   omega
/-! ### Layer 07 -/
/-- How many words each segment has. -/
def sizesL (a : List (List Int)) : List Int := a.map fun s => (s.length : Int)
theorem sizesL_cons (s : List Int) (a : List (List Int)) : sizesL (s :: a) = (s.length : Int) :: sizesL a := rfl
theorem sizesL_length (a : List (List Int)) : (sizesL a).length = a.length := by simp [sizesL]
/-- How many all have. -/
def wordsL (a : List (List Int)) : Nat := a.flatten.length
theorem wordsL_cons (s : List Int) (a : List (List Int)) : wordsL (s :: a) = s.length + wordsL a := by simp [wordsL]
/-- From n on, so many more fit. -/
def restB (n : Int) (l : List Int) : Bool := l.all (fun x => decide (0 ≤ x)) && decide (n + l.sum ≤ 4096)
theorem sum_nonneg {l : List Int} (h : l.all (fun x => decide (0 ≤ x)) = true) : 0 ≤ l.sum := by
 induction l with
 | nil => simp
 | cons x xs ih =>
   simp only [List.all_cons, Bool.and_eq_true, decide_eq_true_eq] at h
   have := ih h.2
   simp only [List.sum_cons]
   omega
theorem restB_cons (n x : Int) (xs : List Int) : restB n (x :: xs) = if x < 0 then false else if x > 4096 - n then false else restB (n + x) xs := by
 unfold restB
 split
 · rename_i h
   have : decide (0 ≤ x) = false := by simp; omega
   simp [this]
 · split
   · rename_i h1 h2
     by_cases hx : xs.all (fun x => decide (0 ≤ x)) = true
     · have := sum_nonneg hx
       have e : decide (n + (x :: xs).sum ≤ 4096) = false := decide_eq_false (by rw [List.sum_cons]; omega)
       simp only [e, Bool.and_false]
     · simp only [List.all_cons]
       rw [Bool.not_eq_true] at hx
       rw [hx]; simp
   · rename_i h1 h2
     have : decide (0 ≤ x) = true := by simp; omega
     simp only [List.all_cons, this, Bool.true_and, List.sum_cons]
     congr 2
     simp only [eq_iff_iff]
     omega
/-- May so many segments have so many words each? -/
def fitsB (l : List Int) : Bool := decide (1 ≤ l.length) && decide (l.length ≤ 16) && decide (1 ≤ l.getD 0 0) && restB 0 l
def rightB (a : List (List Int)) : Bool := fitsB (sizesL a)
/-- All words' bytes. -/
def bytesL (a : List (List Int)) : List Int := a.flatten.flatMap fun w => putL w 8
theorem bytesL_cons (s : List Int) (a : List (List Int)) : bytesL (s :: a) = (s.flatMap fun w => putL w 8) ++ bytesL a := by simp [bytesL]
theorem flat8_length (s : List Int) : (s.flatMap fun w => putL w 8).length = 8 * s.length := by
 induction s with
 | nil => rfl
 | cons x xs ih => rw [List.flatMap_cons, List.length_append, ih, putL_length, List.length_cons]; omega
theorem bytesL_length (a : List (List Int)) : (bytesL a).length = 8 * wordsL a := flat8_length _
theorem bytesL_byte (a : List (List Int)) : ∀ c ∈ bytesL a, 0 ≤ c ∧ c ≤ 255 := by
 intro c hc
 simp only [bytesL, List.mem_flatMap] at hc
 obtain ⟨w, _, hw⟩ := hc
 exact putL_byte _ _ c hw
/-- Words of 64 bits, and not too many of them. -/
def u64B (x : Int) : Bool := decide (0 ≤ x) && decide (x < 18446744073709551616)
def okA (a : List (List Int)) : Bool := decide (a.length ≤ 1000000) && decide (wordsL a ≤ 1000000) && a.all fun s => s.all u64B
theorem fitsB_at {l : List Int} (h : fitsB l = true) : 1 ≤ l.length ∧ l.length ≤ 16 ∧ 1 ≤ l.getD 0 0 ∧ (∀ x ∈ l, 0 ≤ x) ∧ l.sum ≤ 4096 := by
 simp only [fitsB, restB, Bool.and_eq_true, decide_eq_true_eq] at h
 obtain ⟨⟨⟨h1, h2⟩, h3⟩, h4, h5⟩ := h
 exact ⟨h1, h2, h3, fun x hx => by simpa using List.all_eq_true.1 h4 x hx, by omega⟩
theorem sum_nonneg' {l : List Int} (h : ∀ x ∈ l, 0 ≤ x) : 0 ≤ l.sum := sum_nonneg (List.all_eq_true.2 fun x hx => by simpa using h x hx)
theorem sum_drop_le {l : List Int} (h : ∀ x ∈ l, 0 ≤ x) (i : Nat) : (l.drop i).sum ≤ l.sum := by
 have := List.take_append_drop i l
 have h2 : l.sum = (l.take i).sum + (l.drop i).sum := by rw [← List.sum_append, this]
 have := sum_nonneg' (l := l.take i) (fun x hx => h x (List.mem_of_mem_take hx))
 omega
theorem sum_take_le {l : List Int} (h : ∀ x ∈ l, 0 ≤ x) (i : Nat) : (l.take i).sum ≤ l.sum := by
 have := List.take_append_drop i l
 have h2 : l.sum = (l.take i).sum + (l.drop i).sum := by rw [← List.sum_append, this]
 have := sum_nonneg' (l := l.drop i) (fun x hx => h x (List.mem_of_mem_drop hx))
 omega
theorem mem_le_sum {l : List Int} (h : ∀ x ∈ l, 0 ≤ x) (i : Nat) (hi : i < l.length) : l[i] ≤ l.sum := by
 have h1 := sum_drop_le h i
 rw [drop_at l i hi, List.sum_cons] at h1
 have := sum_nonneg' (l := l.drop (i + 1)) (fun x hx => h x (List.mem_of_mem_drop hx))
 omega
theorem sum_take_succ (l : List Int) (i : Nat) (hi : i < l.length) : (l.take (i + 1)).sum = (l.take i).sum + l[i] := by rw [take_at l i hi, List.sum_append]; simp

/-! ### The statements' own arenas -/
def wordC (c : List Int) (k : Nat) : Int := c.getD (k % c.length) 0 * 4311810305 + k
def sizeC (c : List Int) (i : Nat) : Nat := (if i < c.length then (c.getD i 0 % 12).toNat else 1) + (if i = 0 then 1 else 0)
def segC (c : List Int) (k m : Nat) : List Int := (List.range m).map fun j => wordC c (k + j)
theorem segC_length (c : List Int) (k m : Nat) : (segC c k m).length = m := by simp [segC]
theorem segC_succ (c : List Int) (k m : Nat) : segC c k (m + 1) = segC c k m ++ [wordC c (k + m)] := by simp [segC, List.range_succ]
def arenaC (c : List Int) : Nat → Nat → Nat → List (List Int)
 | 0, _, _ => []
 | m + 1, i, k => segC c k (sizeC c i) :: arenaC c m (i + 1) (k + sizeC c i)
def arenaL (c : List Int) (n : Int) : List (List Int) := arenaC c (1 + (n % 5)).toNat 0 0
theorem sizeC_le (c : List Int) (i : Nat) : sizeC c i ≤ 12 := by unfold sizeC; split <;> split <;> omega
theorem sizeC_pos (c : List Int) : 1 ≤ sizeC c 0 := by unfold sizeC; rw [if_pos rfl]; omega
end Go.Proofs.Ytbijnfhcbanhdaa.H
end

section
namespace Go.Proofs.Ytbijnfhcbanhdaa.F
open Go.RowKit Go.Proofs.YtbijnfhcbanhdaaW.PrintWords Go.Proofs.YtbijnfhcbanhdaaW.PrintLast Go.Proofs.YtbijnfhcbanhdaaW.PrintMore
attribute [local go_sem] max2_int min2_int max_two min_two max_three min_three max_four min_four   -- for this text's walks alone
set_option linter.unusedVariables false
set_option linter.unusedSimpArgs false

open Go.Proofs.Ytbijnfhcbanhdaa.H
def scullerref07_Fits_c.f (l0 : List Int) : Option Bool := some (fitsB l0)
theorem scullerref07_Fits.l0_to (l : List Int) (hl : l.length ≤ 1000000) : ∀ (d i : Nat) (n : Int), l.length - i = d → i ≤ l.length → 0 ≤ n → n ≤ 4096 → ∃ k, scullerref07_Fits.l0 k l n (i : Int) = some (restB n (l.drop i))
 | 0, i, n, hd, hi, h0, h1 => ⟨1, by simp only [scullerref07_Fits.l0]; rw [if_neg (by omega), List.drop_of_length_le (by omega)]; simp [restB, h1]⟩
 | d + 1, i, n, hd, hi, h0, h1 => by
   have hlt : i < l.length := by omega
   have hr : rd l i = l[i] := getD_toNat l 0 i hlt
   have hw : wrap64 (4096 - n) = 4096 - n := by unfold wrap64; omega
   by_cases hx : l[i] < 0
   · refine ⟨1, ?_⟩
     simp only [scullerref07_Fits.l0]
     rw [if_pos (by omega), if_pos (by omega), hr, drop_at l i hlt, restB_cons, if_pos hx, if_pos hx]
   · by_cases h2 : l[i] > 4096 - n
     · refine ⟨1, ?_⟩
       simp only [scullerref07_Fits.l0]
       rw [if_pos (by omega), if_pos (by omega), hr, hw, drop_at l i hlt, restB_cons, if_neg hx, if_neg hx, if_pos h2, if_pos h2]
     · obtain ⟨k, hk⟩ := scullerref07_Fits.l0_to l hl d (i + 1) (n + l[i]) (by omega) (by omega) (by omega) (by omega)
       refine ⟨k + 1, ?_⟩
       simp only [scullerref07_Fits.l0]
       rw [if_pos (by omega), if_pos (by omega), hr, hw, drop_at l i hlt, restB_cons, if_neg hx, if_neg hx, if_neg h2, if_neg h2]
       rw [show wrap64 (n + l[i]) = n + l[i] from by unfold wrap64; omega, show wrap64 ((i : Int) + 1) = ((i + 1 : Nat) : Int) from by unfold wrap64; omega, hk]
theorem scullerref07_Fits_c.to {l0 : List Int} {r : Bool} (h : scullerref07_Fits_c.f l0 = some r) : ∃ k, scullerref07_Fits.f k l0 = some r := by
 obtain rfl := Option.some.inj h
 unfold scullerref07_Fits.f fitsB
 by_cases h1 : (l0.length : Int) < 1
 · have e : decide (1 ≤ l0.length) = false := decide_eq_false (by omega)
   exact ⟨1, by rw [if_pos h1, e]; simp [scullerref07_Fits.j0]⟩
 · have e : decide (1 ≤ l0.length) = true := decide_eq_true (by omega)
   by_cases h2 : (l0.length : Int) > 16
   · have e2 : decide (l0.length ≤ 16) = false := decide_eq_false (by omega)
     exact ⟨1, by rw [if_neg h1, if_pos h2, e, e2]; simp [scullerref07_Fits.j0]⟩
   · have e2 : decide (l0.length ≤ 16) = true := decide_eq_true (by omega)
     have hr : rd l0 0 = l0.getD 0 0 := rfl
     by_cases h3 : l0.getD 0 0 < 1
     · have e3 : decide (1 ≤ l0.getD 0 0) = false := decide_eq_false (by omega)
       exact ⟨1, by rw [if_neg h1, if_neg h2, if_pos (by omega), e, e2, e3, hr, decide_eq_true h3]; simp [scullerref07_Fits.j0]⟩
     · have e3 : decide (1 ≤ l0.getD 0 0) = true := decide_eq_true (by omega)
       obtain ⟨k, hk⟩ := scullerref07_Fits.l0_to l0 (by omega) l0.length 0 0 (by omega) (by omega) (by omega) (by omega)
       refine ⟨k + 1, ?_⟩
       rw [if_neg h1, if_neg h2, if_pos (by omega), e, e2, e3, hr, decide_eq_false h3]
       simp only [scullerref07_Fits.j0, Bool.true_and]
       simpa using hk

theorem scullerref07_Fits_c.calls (A0 : Option Addr) (c0 : Nat) (l0 : List Int) (r : Bool) (w : World) (hr0 : Kd.C (Kd.int .i64) w A0 l0.length l0) (hc0 : l0.length ≤ c0) (h : scullerref07_Fits_c.f l0 = some r) :
 Calls Try.prog 92 #[.slice A0 l0.length c0] w fun e w' => e = .returned (.bool r) ∧ Drawn0 w w' := by
 obtain ⟨k_, hk_⟩ := scullerref07_Fits_c.to h
 exact scullerref07_Fits.calls k_ A0 c0 l0 r w hr0 hc0 hk_

end Go.Proofs.Ytbijnfhcbanhdaa.F
end

section
namespace Go.Proofs.Ytbijnfhcbanhdaa.F
open Go.RowKit Go.Proofs.YtbijnfhcbanhdaaW.PrintWords Go.Proofs.YtbijnfhcbanhdaaW.PrintLast Go.Proofs.YtbijnfhcbanhdaaW.PrintMore
attribute [local go_sem] max2_int min2_int max_two min_two max_three min_three max_four min_four   -- for this text's walks alone
set_option linter.unusedVariables false
set_option linter.unusedSimpArgs false

/-! ### scullerref12_Right: function 75 -/
def scullerref12_Right.f (a0_0 : Int) (l0_1 : List Int) (a0_2 : Int) : Option (Bool) := (scullerref07_Fits_c.f l0_1).bind fun t102 => (some t102)
set_option maxHeartbeats 8000000 in
set_option maxRecDepth 100000 in
theorem scullerref12_Right.calls (a0_0 : Int) (A0_1 : Option Addr) (c0_1 : Nat) (l0_1 : List Int) (a0_2 : Int) (r : Bool) (w : World) (hr0_1 : Kd.C (Kd.int .i64) w A0_1 l0_1.length l0_1) (hc0_1 : l0_1.length ≤ c0_1) (h : scullerref12_Right.f a0_0 l0_1 a0_2 = some r) :
 Calls Try.prog 75 #[.agg #[.int .u64 a0_0, .slice A0_1 l0_1.length c0_1, .int .u32 a0_2]] w fun e w' => e = .returned (.bool r) ∧ Below w.heap.size w w' := by
 have hu26 := Try.underlying26
 have HR0_1 := Aside0.mk hr0_1
 have HC0_1 := Aside0.mk hc0_1
 clear hr0_1 hc0_1
 have HB := Aside0.mk (Below.refl w.heap.size w)
 have H : ((scullerref07_Fits_c.f l0_1).bind fun t102 => (some t102)) = some r := h
 clear h
 replace H := Option.bind_eq_some_iff.mp H
 obtain ⟨t102, A20, H⟩ := H
 replace H : (some t102) = some r := H
 have A2 := Aside0.mk A20
 clear A20
 obtain rfl := Option.some.inj H
 go_enter Try.func75, Try.ntmps75
 go_wp2_with (first | ((with_reducible refine gate_dst (N := 1) rfl ?_); refine box_event ?hg (N := 1) ?hd (cs := #[.int .u64 a0_0, .slice A0_1 l0_1.length c0_1, .int .u32 a0_2]) (t := 26) ?hr ?_; (case hd => rfl); (case hg => rfl); (case hr => first | (go_simp; done) | (go_simp; rfl)); intro gb101 hg w3 hbox hb; have n0_ := Aside0.mk (below_step (by repeat (first | (with_reducible first | exact HB.out | apply below_alloc | apply pw_below_drewN | apply below_drew1) | exact HB.out)) hb); have n1_ := Aside0.mk (hbox); have n2_ := Aside0.mk ((by rw [hg]; exact (below_size (by repeat (first | (with_reducible first | exact HB.out | apply below_alloc | apply pw_below_drewN | apply below_drew1) | exact HB.out))) : w.heap.size ≤ gb101)); have n3_ := Aside0.mk ((by rw [hg]; exact (below_size (by repeat (first | (with_reducible first | exact HB.out | apply below_alloc | apply pw_below_drewN | apply below_drew1) | exact HB.out))) : w.heap.size ≤ gb101)); clear HB; have HB := n0_; have BK101 := n1_; have GW101 := n2_; have GE101 := n3_; clear n0_ n1_ n2_ n3_; clear hb hbox hg; have hcz4_0 : w3.cell? ⟨gb101, 0, none⟩ = some (.int .u64 a0_0) := (blk_cell BK101.out 0).trans rfl; have hcz4_1 : w3.cell? ⟨gb101, 1, none⟩ = some (.slice A0_1 l0_1.length c0_1) := (blk_cell BK101.out 1).trans rfl; have hcz4_2 : w3.cell? ⟨gb101, 2, none⟩ = some (.int .u32 a0_2) := (blk_cell BK101.out 2).trans rfl; have hfz4_0 := blk_frozen BK101.out 0; have hfz4_1 := blk_frozen BK101.out 1; have hfz4_2 := blk_frozen BK101.out 2) | ((with_reducible refine gate_callee (f := 92) rfl ?_); refine goesL_ (some 5) rfl rfl Try.func92 (by kernel_rfl) rfl #[.slice A0_1 l0_1.length c0_1] rfl (by (try simp only [List.map_toArray, List.map_cons, List.map_nil]); first | done | rfl | (simp only [List.length_drop, List.length_take]; rfl)) ?_; (with_reducible refine (scullerref07_Fits_c.calls _ _ l0_1 t102 _ ?side1 ?side2 A2.out).mono ?_); (case side1 => repeat (first | exact (Kd.C_below HR0_1.out HB.out) | (with_reducible refine Kd.C_alloc ?_ _) | (with_reducible refine Kd.C_drewN ?_ _) | (with_reducible refine Kd.C_drew ?_))); (case side2 => exact HC0_1.out); rintro e w' ⟨rfl, ⟨nd, rfl⟩⟩; refine ⟨_, rfl, ?_⟩))
 go_ret
 exact ⟨by first | rfl | (simp [errW_none, errW_some] <;> rfl) | (simp [*, errW_none, errW_some] <;> rfl), by repeat (first | (with_reducible first | exact HB.out | apply below_alloc | apply pw_below_drewN | apply below_drew1 | refine below_set ?_ GE101.out) | exact HB.out)⟩

end Go.Proofs.Ytbijnfhcbanhdaa.F
end

section
namespace Go.Proofs.Ytbijnfhcbanhdaa.F
open Go.RowKit Go.Proofs.YtbijnfhcbanhdaaW.PrintWords Go.Proofs.YtbijnfhcbanhdaaW.PrintLast Go.Proofs.YtbijnfhcbanhdaaW.PrintMore
attribute [local go_sem] max2_int min2_int max_two min_two max_three min_three max_four min_four   -- for this text's walks alone
set_option linter.unusedVariables false
set_option linter.unusedSimpArgs false

/-! ### scullerref12_Words: function 51 -/
def scullerref12_Words.l0 : Nat → Int → Int → Int → List Int → Int → Option (Int)
 | 0, _, _, _, _, _ => none
 | k + 1, x3, x4, x102000, x102001, x102002 => if x4 < (x102001.length : Int) then (if 0 ≤ x4 then (scullerref12_Words.l0 k (wrap64 (x3 + (rd x102001 x4))) (wrap64 (x4 + 1)) x102000 x102001 x102002) else (none)) else (some x3)
def scullerref12_Words.f (k : Nat) (a0_0 : Int) (l0_1 : List Int) (a0_2 : Int) : Option (Int) := (scullerref12_Right.f a0_0 l0_1 a0_2).bind fun t102 => (if t102 = true then (scullerref12_Words.l0 k 0 0 a0_0 l0_1 a0_2) else (some 0))
theorem scullerref12_Words.mono_l : ∀ k, (∀ y0 y1 y2 y3 y4, LeO (scullerref12_Words.l0 k y0 y1 y2 y3 y4) (scullerref12_Words.l0 (k + 1) y0 y1 y2 y3 y4))
 | 0 => fun _ _ _ _ _ r h => by simp [scullerref12_Words.l0] at h
 | k + 1 => by
   have ih0 := scullerref12_Words.mono_l k
   · intro y0 y1 y2 y3 y4
     unfold scullerref12_Words.l0
     repeat' first
     | (with_reducible exact ih0 _ _ _ _ _)
     | (with_reducible exact LeO.refl _)
     | (with_reducible exact LeO.none _)
     | (with_reducible refine LeO.ite ?_ ?_)
     | (with_reducible refine LeO.bind ?_ (fun _ => ?_))
     | exact ih0 _ _ _ _ _
     | exact LeO.none _
     | refine LeO.ite ?_ ?_
     | refine LeO.bind ?_ (fun _ => ?_)
theorem scullerref12_Words.mono : ∀ a0 a1 a2 k, LeO (scullerref12_Words.f k a0 a1 a2) (scullerref12_Words.f (k + 1) a0 a1 a2) := by
 intro a0 a1 a2 k
 have ih0 := scullerref12_Words.mono_l k
 unfold scullerref12_Words.f
 repeat' first
  | (with_reducible exact ih0 _ _ _ _ _)
  | (with_reducible exact LeO.refl _)
  | (with_reducible exact LeO.none _)
  | (with_reducible refine LeO.ite ?_ ?_)
  | (with_reducible refine LeO.bind ?_ (fun _ => ?_))
  | exact ih0 _ _ _ _ _
  | exact LeO.none _
  | refine LeO.ite ?_ ?_
  | refine LeO.bind ?_ (fun _ => ?_)
set_option maxHeartbeats 8000000 in
set_option maxRecDepth 100000 in
theorem scullerref12_Words.calls (k : Nat) (a0_0 : Int) (A0_1 : Option Addr) (c0_1 : Nat) (l0_1 : List Int) (a0_2 : Int) (r : Int) (w : World) (hr0_1 : Kd.C (Kd.int .i64) w A0_1 l0_1.length l0_1) (hc0_1 : l0_1.length ≤ c0_1) (h : scullerref12_Words.f k a0_0 l0_1 a0_2 = some r) :
 Calls Try.prog 51 #[.agg #[.int .u64 a0_0, .slice A0_1 l0_1.length c0_1, .int .u32 a0_2]] w fun e w' => e = .returned (.int .i64 r) ∧ Below w.heap.size w w' := by
 have hu26 := Try.underlying26
 have HR0_1 := Aside0.mk hr0_1
 have HC0_1 := Aside0.mk hc0_1
 clear hr0_1 hc0_1
 have HB := Aside0.mk (Below.refl w.heap.size w)
 have H : ((scullerref12_Right.f a0_0 l0_1 a0_2).bind fun t102 => (if t102 = true then (scullerref12_Words.l0 k 0 0 a0_0 l0_1 a0_2) else (some 0))) = some r := h
 clear h
 replace H := Option.bind_eq_some_iff.mp H
 obtain ⟨t102, A20, H⟩ := H
 replace H : (if t102 = true then (scullerref12_Words.l0 k 0 0 a0_0 l0_1 a0_2) else (some 0)) = some r := H
 have A2 := Aside0.mk A20
 clear A20
 by_cases c3 : t102 = true
 · subst c3
   have H1 : (scullerref12_Words.l0 k 0 0 a0_0 l0_1 a0_2) = some r := by rw [if_pos rfl] at H; exact H
   clear H
   have H := H1
   clear H1
   have H' := Aside0.mk H
   clear H
   go_enter Try.func51, Try.ntmps51
   go_wp2_with (first | ((with_reducible refine gate_dst (N := 1) rfl ?_); refine box_event ?hg (N := 1) ?hd (cs := #[.int .u64 a0_0, .slice A0_1 l0_1.length c0_1, .int .u32 a0_2]) (t := 26) ?hr ?_; (case hd => rfl); (case hg => rfl); (case hr => first | (go_simp; done) | (go_simp; rfl)); intro gb101 hg w4 hbox hb; have n0_ := Aside0.mk (below_step (by repeat (first | (with_reducible first | exact HB.out | apply below_alloc | apply pw_below_drewN | apply below_drew1) | exact HB.out)) hb); have n1_ := Aside0.mk (hbox); have n2_ := Aside0.mk ((by rw [hg]; exact (below_size (by repeat (first | (with_reducible first | exact HB.out | apply below_alloc | apply pw_below_drewN | apply below_drew1) | exact HB.out))) : w.heap.size ≤ gb101)); have n3_ := Aside0.mk ((by rw [hg]; exact (below_size (by repeat (first | (with_reducible first | exact HB.out | apply below_alloc | apply pw_below_drewN | apply below_drew1) | exact HB.out))) : w.heap.size ≤ gb101)); clear HB; have HB := n0_; have BK101 := n1_; have GW101 := n2_; have GE101 := n3_; clear n0_ n1_ n2_ n3_; clear hb hbox hg; have hcz5_0 : w4.cell? ⟨gb101, 0, none⟩ = some (.int .u64 a0_0) := (blk_cell BK101.out 0).trans rfl; have hcz5_1 : w4.cell? ⟨gb101, 1, none⟩ = some (.slice A0_1 l0_1.length c0_1) := (blk_cell BK101.out 1).trans rfl; have hcz5_2 : w4.cell? ⟨gb101, 2, none⟩ = some (.int .u32 a0_2) := (blk_cell BK101.out 2).trans rfl; have hfz5_0 := blk_frozen BK101.out 0; have hfz5_1 := blk_frozen BK101.out 1; have hfz5_2 := blk_frozen BK101.out 2) | ((with_reducible refine gate_callee (f := 75) rfl ?_); refine goesL_ (some 6) rfl rfl Try.func75 (by kernel_rfl) rfl #[.agg #[.int .u64 a0_0, .slice A0_1 l0_1.length c0_1, .int .u32 a0_2]] rfl (by (try simp only [List.map_toArray, List.map_cons, List.map_nil]); first | done | rfl | (simp only [List.length_drop, List.length_take]; rfl)) ?_; (with_reducible refine (scullerref12_Right.calls a0_0 _ _ l0_1 a0_2 true _ ?side1 ?side2 A2.out).mono ?_); (case side1 => repeat (first | exact (Kd.C_below HR0_1.out HB.out) | (with_reducible refine Kd.C_alloc ?_ _) | (with_reducible refine Kd.C_drewN ?_ _) | (with_reducible refine Kd.C_drew ?_))); (case side2 => exact HC0_1.out); rintro e w6 ⟨rfl, hb⟩; refine ⟨_, rfl, ?_⟩; have n0_ := Aside0.mk (blk_below (g := gb101) (o := .cells #[.int .u64 a0_0, .slice A0_1 l0_1.length c0_1, .int .u32 a0_2] 26 (0, 0)) (by (with_reducible repeat (first | refine blk_drewN ?_ _ | refine blk_drew ?_ | refine blk_alloc ?_ _)); exact BK101.out) hb); have n1_ := Aside0.mk (below_step (by repeat (first | (with_reducible first | exact HB.out | apply below_alloc | apply pw_below_drewN | apply below_drew1 | refine below_set ?_ GE101.out) | exact HB.out)) hb); clear BK101; clear HB; have BK101 := n0_; have HB := n1_; clear n0_ n1_; (try clear hb); (try clear hb2); (try clear hk); (try clear hi)))
   go_loopg [3, 4] k (fun kq v3 v4 w' => ∃ (x3_1 : Int) (x4_1 : Int), v3 = .int .i64 x3_1 ∧ v4 = .int .i64 x4_1 ∧ Aside0 (scullerref12_Words.l0 kq x3_1 x4_1 a0_0 l0_1 a0_2 = some r) ∧ Aside0 (kq ≤ k) ∧ Aside0 (w'.heap[gb101]? = some (.cells #[.int .u64 a0_0, (.slice A0_1 l0_1.length c0_1), .int .u32 a0_2] 26 (0, 0))) ∧ Aside0 (Below w.heap.size w w'))
   case atStart => exact ⟨(0), (0), (by first | rfl | (simp; done) | (simp [*]; done)), (by first | rfl | (simp; done) | (simp [*]; done)), H', ⟨Nat.le_refl _⟩, ⟨by (with_reducible repeat (first | refine blk_drewN ?_ _ | refine blk_drew ?_ | refine blk_alloc ?_ _)); exact BK101.out⟩, ⟨by repeat (first | (with_reducible first | exact HB.out | apply below_alloc | apply pw_below_drewN | apply below_drew1 | refine below_set ?_ GE101.out) | exact HB.out)⟩⟩
   case round =>
    clear H'
    try clear p2
    try clear c3
    try clear c5
    try clear hcz5_0
    try clear hcz5_1
    try clear hcz5_2
    try clear hfz5_0
    try clear hfz5_1
    try clear hfz5_2
    obtain ⟨x3_1, x4_1, rfl, rfl, HA, HK1, BK101, HB⟩ := hrel
    cases gk with
    | zero => exact absurd HA.out (by simp [scullerref12_Words.l0])
    | succ k1 =>
      have H := HA.out
      clear HA
      simp only [scullerref12_Words.l0] at H
      by_cases c7 : x4_1 < (l0_1.length : Int)
      · rw [if_pos c7] at H
        have c7b0 : decide (x4_1 < (l0_1.length : Int)) = true := decide_eq_true c7
        clear c7
        by_cases c8 : 0 ≤ x4_1
        · rw [if_pos c8] at H
          have c8b0 : decide (0 ≤ x4_1) = true := decide_eq_true c8
          clear c8
          have H' := Aside0.mk H
          clear H
          have hcz9_0 : wr.cell? ⟨gb101, 0, none⟩ = some (.int .u64 a0_0) := (blk_cell BK101.out 0).trans rfl
          have hcz9_1 : wr.cell? ⟨gb101, 1, none⟩ = some (.slice A0_1 l0_1.length c0_1) := (blk_cell BK101.out 1).trans rfl
          have hcz9_2 : wr.cell? ⟨gb101, 2, none⟩ = some (.int .u32 a0_2) := (blk_cell BK101.out 2).trans rfl
          have hfz9_0 := blk_frozen BK101.out 0
          have hfz9_1 := blk_frozen BK101.out 1
          have hfz9_2 := blk_frozen BK101.out 2
          have p103 : 0 ≤ (x4_1 : Int) := of_decide_eq_true (by first | (with_reducible assumption) | assumption)
          have q103 : x4_1 < (l0_1.length : Int) := of_decide_eq_true (by first | (with_reducible assumption) | assumption)
          obtain ⟨ad103, e103, hx103_0⟩ := Kd.at_int HR0_1.out x4_1 p103 q103
          cases e103
          replace hx103_0 := (HB.out.cell (World.block_lt_of_cell? w _ hx103_0)).trans hx103_0
          replace p103 := eq_true p103
          replace q103 := eq_true q103
          go_wp2
          go_roundg k1
          case measure => have := HK1.out; omega
          case rel => exact ⟨(wrap64 (x3_1 + (rd l0_1 x4_1))), (wrap64 (x4_1 + 1)), (by first | rfl | (simp; done) | (simp [*]; done)), (by first | rfl | (simp; done) | (simp [*]; done)), H', ⟨by have := HK1.out; omega⟩, ⟨by (with_reducible repeat (first | refine blk_drewN ?_ _ | refine blk_drew ?_ | refine blk_alloc ?_ _)); exact BK101.out⟩, ⟨by repeat (first | (with_reducible first | exact HB.out | apply below_alloc | apply pw_below_drewN | apply below_drew1 | refine below_set ?_ GE101.out) | exact HB.out)⟩⟩
        · rw [if_neg c8] at H
          exact absurd H (by simp)
      · rw [if_neg c7] at H
        have c7b0 : decide (x4_1 < (l0_1.length : Int)) = false := decide_eq_false c7
        clear c7
        obtain rfl := Option.some.inj H
        have hcz10_0 : wr.cell? ⟨gb101, 0, none⟩ = some (.int .u64 a0_0) := (blk_cell BK101.out 0).trans rfl
        have hcz10_1 : wr.cell? ⟨gb101, 1, none⟩ = some (.slice A0_1 l0_1.length c0_1) := (blk_cell BK101.out 1).trans rfl
        have hcz10_2 : wr.cell? ⟨gb101, 2, none⟩ = some (.int .u32 a0_2) := (blk_cell BK101.out 2).trans rfl
        have hfz10_0 := blk_frozen BK101.out 0
        have hfz10_1 := blk_frozen BK101.out 1
        have hfz10_2 := blk_frozen BK101.out 2
        go_wp2
        go_ret
        exact ⟨by first | rfl | (simp [errW_none, errW_some] <;> rfl) | (simp [*, errW_none, errW_some] <;> rfl), by repeat (first | (with_reducible first | exact HB.out | apply below_alloc | apply pw_below_drewN | apply below_drew1 | refine below_set ?_ GE101.out) | exact HB.out)⟩
 · replace c3 := Bool.eq_false_iff.mpr c3
   subst c3
   have H1 : (some 0) = some r := by rw [if_neg (show ¬ (false = true) by decide)] at H; exact H
   clear H
   have H := H1
   clear H1
   obtain rfl := Option.some.inj H
   go_enter Try.func51, Try.ntmps51
   go_wp2_with (first | ((with_reducible refine gate_dst (N := 1) rfl ?_); refine box_event ?hg (N := 1) ?hd (cs := #[.int .u64 a0_0, .slice A0_1 l0_1.length c0_1, .int .u32 a0_2]) (t := 26) ?hr ?_; (case hd => rfl); (case hg => rfl); (case hr => first | (go_simp; done) | (go_simp; rfl)); intro gb101 hg w11 hbox hb; have n0_ := Aside0.mk (below_step (by repeat (first | (with_reducible first | exact HB.out | apply below_alloc | apply pw_below_drewN | apply below_drew1) | exact HB.out)) hb); have n1_ := Aside0.mk (hbox); have n2_ := Aside0.mk ((by rw [hg]; exact (below_size (by repeat (first | (with_reducible first | exact HB.out | apply below_alloc | apply pw_below_drewN | apply below_drew1) | exact HB.out))) : w.heap.size ≤ gb101)); have n3_ := Aside0.mk ((by rw [hg]; exact (below_size (by repeat (first | (with_reducible first | exact HB.out | apply below_alloc | apply pw_below_drewN | apply below_drew1) | exact HB.out))) : w.heap.size ≤ gb101)); clear HB; have HB := n0_; have BK101 := n1_; have GW101 := n2_; have GE101 := n3_; clear n0_ n1_ n2_ n3_; clear hb hbox hg; have hcz12_0 : w11.cell? ⟨gb101, 0, none⟩ = some (.int .u64 a0_0) := (blk_cell BK101.out 0).trans rfl; have hcz12_1 : w11.cell? ⟨gb101, 1, none⟩ = some (.slice A0_1 l0_1.length c0_1) := (blk_cell BK101.out 1).trans rfl; have hcz12_2 : w11.cell? ⟨gb101, 2, none⟩ = some (.int .u32 a0_2) := (blk_cell BK101.out 2).trans rfl; have hfz12_0 := blk_frozen BK101.out 0; have hfz12_1 := blk_frozen BK101.out 1; have hfz12_2 := blk_frozen BK101.out 2) | ((with_reducible refine gate_callee (f := 75) rfl ?_); refine goesL_ (some 6) rfl rfl Try.func75 (by kernel_rfl) rfl #[.agg #[.int .u64 a0_0, .slice A0_1 l0_1.length c0_1, .int .u32 a0_2]] rfl (by (try simp only [List.map_toArray, List.map_cons, List.map_nil]); first | done | rfl | (simp only [List.length_drop, List.length_take]; rfl)) ?_; (with_reducible refine (scullerref12_Right.calls a0_0 _ _ l0_1 a0_2 false _ ?side1 ?side2 A2.out).mono ?_); (case side1 => repeat (first | exact (Kd.C_below HR0_1.out HB.out) | (with_reducible refine Kd.C_alloc ?_ _) | (with_reducible refine Kd.C_drewN ?_ _) | (with_reducible refine Kd.C_drew ?_))); (case side2 => exact HC0_1.out); rintro e w13 ⟨rfl, hb⟩; refine ⟨_, rfl, ?_⟩; have n0_ := Aside0.mk (blk_below (g := gb101) (o := .cells #[.int .u64 a0_0, .slice A0_1 l0_1.length c0_1, .int .u32 a0_2] 26 (0, 0)) (by (with_reducible repeat (first | refine blk_drewN ?_ _ | refine blk_drew ?_ | refine blk_alloc ?_ _)); exact BK101.out) hb); have n1_ := Aside0.mk (below_step (by repeat (first | (with_reducible first | exact HB.out | apply below_alloc | apply pw_below_drewN | apply below_drew1 | refine below_set ?_ GE101.out) | exact HB.out)) hb); clear BK101; clear HB; have BK101 := n0_; have HB := n1_; clear n0_ n1_; (try clear hb); (try clear hb2); (try clear hk); (try clear hi)))
   go_ret
   exact ⟨by first | rfl | (simp [errW_none, errW_some] <;> rfl) | (simp [*, errW_none, errW_some] <;> rfl), by repeat (first | (with_reducible first | exact HB.out | apply below_alloc | apply pw_below_drewN | apply below_drew1 | refine below_set ?_ GE101.out) | exact HB.out)⟩

end Go.Proofs.Ytbijnfhcbanhdaa.F
end

section
/- The checksum as a plain function on numbers, bit by bit and byte by byte. No program in sight. -/
namespace Go.Proofs.Ytbijnfhcbanhdaa.H
set_option linter.unusedVariables false
set_option linter.unusedSimpArgs false
/-- One bit. -/
def stepN (n : Nat) : Nat := n / 2 ^^^ (if n % 2 = 1 then 2197175160 else 0)
/-- So many bits. -/
def stepsN : Nat → Nat → Nat
 | 0, n => n
 | k + 1, n => stepsN k (stepN n)
theorem stepN_lt {n : Nat} (h : n < 4294967296) : stepN n < 4294967296 := by
 have : n / 2 ^^^ (if n % 2 = 1 then 2197175160 else 0) < 2 ^ 32 := Nat.xor_lt_two_pow (by omega) (by split <;> omega)
 exact this
theorem stepsN_lt : ∀ (k : Nat) {n : Nat}, n < 4294967296 → stepsN k n < 4294967296
 | 0, _, h => h
 | k + 1, _, h => stepsN_lt k (stepN_lt h)
theorem xor_div2 (a b : Nat) : (a ^^^ b) / 2 = a / 2 ^^^ b / 2 := by
 have : (a ^^^ b) >>> 1 = a >>> 1 ^^^ b >>> 1 := Nat.shiftRight_xor_distrib
 simpa [Nat.shiftRight_eq_div_pow] using this
theorem stepN_xor (a b : Nat) : stepN (a ^^^ b) = stepN a ^^^ stepN b := by
 unfold stepN
 have hm : (a ^^^ b) % 2 = (a % 2) ^^^ (b % 2) := by have : (a ^^^ b) % 2 ^ 1 = a % 2 ^ 1 ^^^ b % 2 ^ 1 := Nat.xor_mod_two_pow; simpa using this
 rw [xor_div2, hm]
 rcases Nat.mod_two_eq_zero_or_one a with ha | ha <;> rcases Nat.mod_two_eq_zero_or_one b with hb | hb <;> simp only [ha, hb]
 · simp
 · simp [Nat.xor_assoc]
 · simp only [Nat.zero_xor, Nat.xor_zero, if_true, if_neg (show ¬ (0 = 1) by decide), show ((1 : Nat) ^^^ 0) = 1 from rfl]
   rw [Nat.xor_assoc, Nat.xor_assoc, Nat.xor_comm (b / 2)]
 · simp only [show ((1 : Nat) ^^^ 1) = 0 from rfl, if_true, if_neg (show ¬ (0 = 1) by decide), Nat.xor_zero]
   rw [Nat.xor_assoc, ← Nat.xor_assoc 2197175160, Nat.xor_comm 2197175160, Nat.xor_assoc (b / 2), Nat.xor_self, Nat.xor_zero]
theorem stepsN_xor : ∀ (k a b : Nat), stepsN k (a ^^^ b) = stepsN k a ^^^ stepsN k b
 | 0, _, _ => rfl
 | k + 1, a, b => by rw [stepsN, stepN_xor, stepsN_xor k, stepsN, stepsN]
theorem stepsN_split : ∀ (k n : Nat), stepsN k n = n / 2 ^ k ^^^ stepsN k (n % 2 ^ k)
 | 0, n => by simp [stepsN, Nat.mod_one]
 | k + 1, n => by
   have h1 : n % 2 ^ (k + 1) / 2 = n / 2 % 2 ^ k := by
    rw [Nat.pow_succ, Nat.mul_comm, Nat.mod_mul_right_div_self]
   have h2 : n % 2 ^ (k + 1) % 2 = n % 2 := by
    rw [Nat.pow_succ, Nat.mul_comm, Nat.mod_mul_right_mod]
   rw [stepsN, stepsN, stepN, stepN, h1, h2, stepsN_xor, stepsN_xor, stepsN_split k (n / 2), Nat.div_div_eq_div_mul, Nat.mul_comm 2 (2 ^ k), ← Nat.pow_succ, Nat.xor_assoc]
/-- One byte, and what a table of all 256 makes of it. -/
theorem byte_table {n c : Nat} (hc : c < 256) : stepsN 8 (n ^^^ c) = n / 256 ^^^ stepsN 8 (n % 256 ^^^ c) := by
 have h1 : (n ^^^ c) / 256 = n / 256 := by
  have : (n ^^^ c) >>> 8 = n >>> 8 ^^^ c >>> 8 := Nat.shiftRight_xor_distrib
  simp only [Nat.shiftRight_eq_div_pow] at this
  rw [show 2 ^ 8 = 256 from rfl] at this
  rw [this, Nat.div_eq_of_lt hc, Nat.xor_zero]
 have h2 : (n ^^^ c) % 256 = n % 256 ^^^ c := by
  have : (n ^^^ c) % 2 ^ 8 = n % 2 ^ 8 ^^^ c % 2 ^ 8 := Nat.xor_mod_two_pow
  rw [show 2 ^ 8 = 256 from rfl] at this
  rw [this, Nat.mod_eq_of_lt hc]
 rw [stepsN_split 8 (n ^^^ c), show 2 ^ 8 = 256 from rfl, h1, h2]
/-- All bytes, one behind the other. -/
def crcN (n : Nat) : List Int → Nat
 | [] => n
 | c :: cs => crcN (stepsN 8 (n ^^^ c.toNat)) cs
theorem crcN_append : ∀ (a b : List Int) (n : Nat), crcN n (a ++ b) = crcN (crcN n a) b
 | [], _, _ => rfl
 | c :: a, b, n => by rw [List.cons_append, crcN, crcN, crcN_append a b]
theorem crcN_lt : ∀ (l : List Int) {n : Nat}, n < 4294967296 → bytesB l = true → crcN n l < 4294967296
 | [], _, h, _ => h
 | c :: l, n, h, hb => by
   have hc := bytesB_at hb c (by simp)
   have : n ^^^ c.toNat < 2 ^ 32 := Nat.xor_lt_two_pow (by omega) (by omega)
   exact crcN_lt l (stepsN_lt 8 (by omega)) (bytesB_of fun x hx => bytesB_at hb x (by simp [hx]))
/-- The checksum n, over further bytes. -/
def moreL (n : Int) (l : List Int) : Int := ((crcN (n.toNat ^^^ 4294967295) l ^^^ 4294967295 : Nat) : Int)
def sumL (l : List Int) : Int := moreL 0 l
theorem moreL_range (n : Int) (l : List Int) (hn : n < 4294967296) (hb : bytesB l = true) : 0 ≤ moreL n l ∧ moreL n l < 4294967296 := by
 have h1 : n.toNat ^^^ 4294967295 < 2 ^ 32 := Nat.xor_lt_two_pow (by omega) (by omega)
 have h2 := crcN_lt l (n := n.toNat ^^^ 4294967295) (by omega) hb
 have h3 : crcN (n.toNat ^^^ 4294967295) l ^^^ 4294967295 < 2 ^ 32 := Nat.xor_lt_two_pow (by omega) (by omega)
 unfold moreL
 omega
/-- Bytes and behind them their checksum's four. -/
def sealL (l : List Int) : List Int := l ++ putL (sumL l) 4
/-- A manifest: its session, its sizes, its checksum, and whether there is one. -/
def ofBytes (a0 : Int) (l1 : List (List Int)) (k : Nat) : List Int := putL a0 8 ++ ((sizesL l1).take k).flatMap fun n => putL n 2
def ofL (a0 : Int) (l1 : List (List Int)) : Int × List Int × Int × Int :=
 if rightB l1 = true then (a0, sizesL l1, moreL 0 (ofBytes a0 l1 l1.length ++ bytesL l1), 0) else (0, [], 0, 1)
theorem ofBytes_byte (a0 : Int) (l1 : List (List Int)) (k : Nat) : bytesB (ofBytes a0 l1 k) = true := by
 refine bytesB_of fun c hc => ?_
 simp only [ofBytes, List.mem_append, List.mem_flatMap] at hc
 rcases hc with hc | ⟨n, _, hc⟩
 · exact putL_byte _ _ c hc
 · exact putL_byte _ _ c hc
theorem ofBytes_succ (a0 : Int) (l1 : List (List Int)) (k : Nat) (h : k < (sizesL l1).length) : ofBytes a0 l1 (k + 1) = ofBytes a0 l1 k ++ putL ((sizesL l1)[k]'h) 2 := by
 unfold ofBytes
 rw [take_at _ k h, List.flatMap_append, List.append_assoc]
 simp
/-- How many words a manifest speaks of. -/
def wordsM (l : List Int) : Int := if fitsB l = true then l.sum else 0
theorem wordsM_range (l : List Int) : 0 ≤ wordsM l ∧ wordsM l ≤ 4096 := by
 unfold wordsM
 split
 · rename_i h
   have h := fitsB_at h
   have := sum_nonneg' h.2.2.2.1
   omega
 · omega
def ceilL (a n : Int) : Int := if 0 ≤ a ∧ a ≤ 9007199254740992 ∧ 1 ≤ n ∧ n ≤ 9007199254740992 then (a + n - 1) / n else 0
/-- Sealed bytes. -/
def rightC (l : List Int) : Bool := decide (4 ≤ l.length) && decide (sealL (l.take (l.length - 4)) = l)
end Go.Proofs.Ytbijnfhcbanhdaa.H
end

section
namespace Go.Proofs.Ytbijnfhcbanhdaa.F
open Go.RowKit Go.Proofs.YtbijnfhcbanhdaaW.PrintWords Go.Proofs.YtbijnfhcbanhdaaW.PrintLast Go.Proofs.YtbijnfhcbanhdaaW.PrintMore
attribute [local go_sem] max2_int min2_int max_two min_two max_three min_three max_four min_four   -- for this text's walks alone
set_option linter.unusedVariables false
set_option linter.unusedSimpArgs false

open Go.Proofs.Ytbijnfhcbanhdaa.H
def scullerref12_Words_c.f (a0_0 : Int) (l0_1 : List Int) (a0_2 : Int) : Option Int := some (wordsM l0_1)
theorem scullerref12_Words.l0_to (a0 : Int) (l : List Int) (a2 : Int) (hf : fitsB l = true) : ∀ (d i : Nat), l.length - i = d → i ≤ l.length → ∃ k, scullerref12_Words.l0 k (l.take i).sum (i : Int) a0 l a2 = some l.sum
 | 0, i, hd, hi => ⟨1, by rw [scullerref12_Words.l0, if_neg (by omega), List.take_of_length_le (by omega)]⟩
 | d + 1, i, hd, hi => by
   have hfit := fitsB_at hf
   have hlt : i < l.length := by omega
   obtain ⟨k, hk⟩ := scullerref12_Words.l0_to a0 l a2 hf d (i + 1) (by omega) (by omega)
   refine ⟨k + 1, ?_⟩
   have h1 := sum_take_le hfit.2.2.2.1 (i + 1)
   have h2 := sum_nonneg' (l := l.take (i + 1)) (fun y hy => hfit.2.2.2.1 y (List.mem_of_mem_take hy))
   rw [sum_take_succ l i hlt] at hk h1 h2
   rw [scullerref12_Words.l0, if_pos (by omega), if_pos (by omega), show rd l (i : Int) = l[i] from getD_toNat l 0 i hlt, show wrap64 ((l.take i).sum + l[i]) = (l.take i).sum + l[i] from by unfold wrap64; omega, show wrap64 ((i : Int) + 1) = ((i + 1 : Nat) : Int) from by unfold wrap64; omega]
   exact hk
theorem scullerref12_Words_c.to {a0_0 : Int} {l0_1 : List Int} {a0_2 : Int} {r : Int} (h : scullerref12_Words_c.f a0_0 l0_1 a0_2 = some r) : ∃ k, scullerref12_Words.f k a0_0 l0_1 a0_2 = some r := by
 obtain rfl := Option.some.inj h
 by_cases hf : fitsB l0_1 = true
 · obtain ⟨k, hk⟩ := scullerref12_Words.l0_to a0_0 l0_1 a0_2 hf l0_1.length 0 (by omega) (by omega)
   refine ⟨k, ?_⟩
   rw [scullerref12_Words.f, scullerref12_Right.f, scullerref07_Fits_c.f, Option.bind_some, Option.bind_some, if_pos hf, wordsM, if_pos hf]
   exact hk
 · refine ⟨0, ?_⟩
   rw [scullerref12_Words.f, scullerref12_Right.f, scullerref07_Fits_c.f, Option.bind_some, Option.bind_some, if_neg hf, wordsM, if_neg hf]

theorem scullerref12_Words_c.calls (a0_0 : Int) (A0_1 : Option Addr) (c0_1 : Nat) (l0_1 : List Int) (a0_2 : Int) (r : Int) (w : World) (hr0_1 : Kd.C (Kd.int .i64) w A0_1 l0_1.length l0_1) (hc0_1 : l0_1.length ≤ c0_1) (h : scullerref12_Words_c.f a0_0 l0_1 a0_2 = some r) :
 Calls Try.prog 51 #[.agg #[.int .u64 a0_0, .slice A0_1 l0_1.length c0_1, .int .u32 a0_2]] w fun e w' => e = .returned (.int .i64 r) ∧ Below w.heap.size w w' := by
 obtain ⟨k_, hk_⟩ := scullerref12_Words_c.to h
 exact scullerref12_Words.calls k_ a0_0 A0_1 c0_1 l0_1 a0_2 r w hr0_1 hc0_1 hk_

end Go.Proofs.Ytbijnfhcbanhdaa.F
end

section
namespace Go.Proofs.Ytbijnfhcbanhdaa.F
open Go.RowKit Go.Proofs.YtbijnfhcbanhdaaW.PrintWords Go.Proofs.YtbijnfhcbanhdaaW.PrintLast Go.Proofs.YtbijnfhcbanhdaaW.PrintMore
attribute [local go_sem] max2_int min2_int max_two min_two max_three min_three max_four min_four   -- for this text's walks alone
set_option linter.unusedVariables false
set_option linter.unusedSimpArgs false

/-! ### scullerref12_Chunks: function 21 -/
def scullerref12_Chunks.f (a0_0 : Int) (l0_1 : List Int) (a0_2 : Int) : Option (Int) := (scullerref12_Words_c.f a0_0 l0_1 a0_2).bind fun t102 => (some (wrap64 (Int.tdiv (wrap64 (t102 + 7)) 8)))
set_option maxHeartbeats 8000000 in
set_option maxRecDepth 100000 in
theorem scullerref12_Chunks.calls (a0_0 : Int) (A0_1 : Option Addr) (c0_1 : Nat) (l0_1 : List Int) (a0_2 : Int) (r : Int) (w : World) (hr0_1 : Kd.C (Kd.int .i64) w A0_1 l0_1.length l0_1) (hc0_1 : l0_1.length ≤ c0_1) (h : scullerref12_Chunks.f a0_0 l0_1 a0_2 = some r) :
 Calls Try.prog 21 #[.agg #[.int .u64 a0_0, .slice A0_1 l0_1.length c0_1, .int .u32 a0_2]] w fun e w' => e = .returned (.int .i64 r) ∧ Below w.heap.size w w' := by
 have hu26 := Try.underlying26
 have HR0_1 := Aside0.mk hr0_1
 have HC0_1 := Aside0.mk hc0_1
 clear hr0_1 hc0_1
 have HB := Aside0.mk (Below.refl w.heap.size w)
 have H : ((scullerref12_Words_c.f a0_0 l0_1 a0_2).bind fun t102 => (some (wrap64 (Int.tdiv (wrap64 (t102 + 7)) 8)))) = some r := h
 clear h
 replace H := Option.bind_eq_some_iff.mp H
 obtain ⟨t102, A20, H⟩ := H
 replace H : (some (wrap64 (Int.tdiv (wrap64 (t102 + 7)) 8))) = some r := H
 have A2 := Aside0.mk A20
 clear A20
 obtain rfl := Option.some.inj H
 go_enter Try.func21, Try.ntmps21
 go_wp2_with (first | ((with_reducible refine gate_dst (N := 1) rfl ?_); refine box_event ?hg (N := 1) ?hd (cs := #[.int .u64 a0_0, .slice A0_1 l0_1.length c0_1, .int .u32 a0_2]) (t := 26) ?hr ?_; (case hd => rfl); (case hg => rfl); (case hr => first | (go_simp; done) | (go_simp; rfl)); intro gb101 hg w3 hbox hb; have n0_ := Aside0.mk (below_step (by repeat (first | (with_reducible first | exact HB.out | apply below_alloc | apply pw_below_drewN | apply below_drew1) | exact HB.out)) hb); have n1_ := Aside0.mk (hbox); have n2_ := Aside0.mk ((by rw [hg]; exact (below_size (by repeat (first | (with_reducible first | exact HB.out | apply below_alloc | apply pw_below_drewN | apply below_drew1) | exact HB.out))) : w.heap.size ≤ gb101)); have n3_ := Aside0.mk ((by rw [hg]; exact (below_size (by repeat (first | (with_reducible first | exact HB.out | apply below_alloc | apply pw_below_drewN | apply below_drew1) | exact HB.out))) : w.heap.size ≤ gb101)); clear HB; have HB := n0_; have BK101 := n1_; have GW101 := n2_; have GE101 := n3_; clear n0_ n1_ n2_ n3_; clear hb hbox hg; have hcz4_0 : w3.cell? ⟨gb101, 0, none⟩ = some (.int .u64 a0_0) := (blk_cell BK101.out 0).trans rfl; have hcz4_1 : w3.cell? ⟨gb101, 1, none⟩ = some (.slice A0_1 l0_1.length c0_1) := (blk_cell BK101.out 1).trans rfl; have hcz4_2 : w3.cell? ⟨gb101, 2, none⟩ = some (.int .u32 a0_2) := (blk_cell BK101.out 2).trans rfl; have hfz4_0 := blk_frozen BK101.out 0; have hfz4_1 := blk_frozen BK101.out 1; have hfz4_2 := blk_frozen BK101.out 2) | ((with_reducible refine gate_callee (f := 51) rfl ?_); refine goesL_ (some 4) rfl rfl Try.func51 (by kernel_rfl) rfl #[.agg #[.int .u64 a0_0, .slice A0_1 l0_1.length c0_1, .int .u32 a0_2]] rfl (by (try simp only [List.map_toArray, List.map_cons, List.map_nil]); first | done | rfl | (simp only [List.length_drop, List.length_take]; rfl)) ?_; (with_reducible refine (scullerref12_Words_c.calls a0_0 _ _ l0_1 a0_2 t102 _ ?side1 ?side2 A2.out).mono ?_); (case side1 => repeat (first | exact (Kd.C_below HR0_1.out HB.out) | (with_reducible refine Kd.C_alloc ?_ _) | (with_reducible refine Kd.C_drewN ?_ _) | (with_reducible refine Kd.C_drew ?_))); (case side2 => exact HC0_1.out); rintro e w5 ⟨rfl, hb⟩; refine ⟨_, rfl, ?_⟩; have n0_ := Aside0.mk (blk_below (g := gb101) (o := .cells #[.int .u64 a0_0, .slice A0_1 l0_1.length c0_1, .int .u32 a0_2] 26 (0, 0)) (by (with_reducible repeat (first | refine blk_drewN ?_ _ | refine blk_drew ?_ | refine blk_alloc ?_ _)); exact BK101.out) hb); have n1_ := Aside0.mk (below_step (by repeat (first | (with_reducible first | exact HB.out | apply below_alloc | apply pw_below_drewN | apply below_drew1 | refine below_set ?_ GE101.out) | exact HB.out)) hb); clear BK101; clear HB; have BK101 := n0_; have HB := n1_; clear n0_ n1_; (try clear hb); (try clear hb2); (try clear hk); (try clear hi)))
 go_ret
 exact ⟨by first | rfl | (simp [errW_none, errW_some] <;> rfl) | (simp [*, errW_none, errW_some] <;> rfl), by repeat (first | (with_reducible first | exact HB.out | apply below_alloc | apply pw_below_drewN | apply below_drew1 | refine below_set ?_ GE101.out) | exact HB.out)⟩

end Go.Proofs.Ytbijnfhcbanhdaa.F
end

section
namespace Go.Proofs.Ytbijnfhcbanhdaa.F
open Go.RowKit Go.Proofs.YtbijnfhcbanhdaaW.PrintWords Go.Proofs.YtbijnfhcbanhdaaW.PrintLast Go.Proofs.YtbijnfhcbanhdaaW.PrintMore
attribute [local go_sem] max2_int min2_int max_two min_two max_three min_three max_four min_four   -- for this text's walks alone
set_option linter.unusedVariables false
set_option linter.unusedSimpArgs false

/-! ### scullerref01_Ceil: function 52 -/
def scullerref01_Ceil.j0 : Nat → Int → Int → Bool → Option (Int)
 | 0, _, _, _ => none
 | k + 1, x0, x1, x19 => if x19 = true then (some 0) else (if x1 = 0 then (none) else (if (wrap64 ((wrap64 (Int.tdiv x0 x1)) * x1)) < x0 then (some (wrap64 ((wrap64 (Int.tdiv x0 x1)) + 1))) else (some (wrap64 (Int.tdiv x0 x1)))))
def scullerref01_Ceil.f (k : Nat) (a0 : Int) (a1 : Int) : Option (Int) := if a0 < 0 then (scullerref01_Ceil.j0 k a0 a1 true) else (if a0 > 9007199254740992 then (scullerref01_Ceil.j0 k a0 a1 true) else (if a1 < 1 then (scullerref01_Ceil.j0 k a0 a1 true) else (scullerref01_Ceil.j0 k a0 a1 (decide (a1 > 9007199254740992)))))
theorem scullerref01_Ceil.mono_l : ∀ k, (∀ y0 y1 y2, LeO (scullerref01_Ceil.j0 k y0 y1 y2) (scullerref01_Ceil.j0 (k + 1) y0 y1 y2))
 | 0 => fun _ _ _ r h => by simp [scullerref01_Ceil.j0] at h
 | k + 1 => by
   have ih0 := scullerref01_Ceil.mono_l k
   · intro y0 y1 y2
     unfold scullerref01_Ceil.j0
     repeat' first
     | (with_reducible exact ih0 _ _ _)
     | (with_reducible exact LeO.refl _)
     | (with_reducible exact LeO.none _)
     | (with_reducible refine LeO.ite ?_ ?_)
     | (with_reducible refine LeO.bind ?_ (fun _ => ?_))
     | exact ih0 _ _ _
     | exact LeO.none _
     | refine LeO.ite ?_ ?_
     | refine LeO.bind ?_ (fun _ => ?_)
theorem scullerref01_Ceil.mono : ∀ a0 a1 k, LeO (scullerref01_Ceil.f k a0 a1) (scullerref01_Ceil.f (k + 1) a0 a1) := by
 intro a0 a1 k
 have ih0 := scullerref01_Ceil.mono_l k
 unfold scullerref01_Ceil.f
 repeat' first
  | (with_reducible exact ih0 _ _ _)
  | (with_reducible exact LeO.refl _)
  | (with_reducible exact LeO.none _)
  | (with_reducible refine LeO.ite ?_ ?_)
  | (with_reducible refine LeO.bind ?_ (fun _ => ?_))
  | exact ih0 _ _ _
  | exact LeO.none _
  | refine LeO.ite ?_ ?_
  | refine LeO.bind ?_ (fun _ => ?_)
set_option maxHeartbeats 8000000 in
set_option maxRecDepth 100000 in
theorem scullerref01_Ceil.calls (k : Nat) (a0 : Int) (a1 : Int) (r : Int) (w : World) (h : scullerref01_Ceil.f k a0 a1 = some r) :
 Calls Try.prog 52 #[.int .i64 a0, .int .i64 a1] w fun e w' => e = .returned (.int .i64 r) ∧ Drawn0 w w' := by
 have H : (if a0 < 0 then (scullerref01_Ceil.j0 k a0 a1 true) else (if a0 > 9007199254740992 then (scullerref01_Ceil.j0 k a0 a1 true) else (if a1 < 1 then (scullerref01_Ceil.j0 k a0 a1 true) else (scullerref01_Ceil.j0 k a0 a1 (decide (a1 > 9007199254740992)))))) = some r := h
 clear h
 have HC3 := Aside0.mk H
 clear H
 go_enter Try.func52, Try.ntmps52
 go_upto_region 1 with (fail)
 go_cut [19] (fun v19 wc => ∃ (kq : Nat) (x19_2 : Bool), v19 = .bool x19_2 ∧ Aside0 (scullerref01_Ceil.j0 kq a0 a1 x19_2 = some r) ∧ Aside0 (kq ≤ k) ∧ Drawn0 w wc)
 case first =>
  have H := HC3.out
  clear HC3
  by_cases c4 : a0 < 0
  · rw [if_pos c4] at H
    have c4b0 : decide (a0 < 0) = true := decide_eq_true c4
    clear c4
    (first | rw [c4b0] | (simp only [i64_w, i32_w]; rw [c4b0]) | skip)
    have H' := Aside0.mk H
    clear H
    go_wp2
    go_meet
    case rel => exact ⟨_, (true), (by first | rfl | (simp; done) | (simp [*]; done)), H', ⟨by first | omega | exact Nat.le_refl _⟩, by repeat (first | exact Drawn0.refl _ | apply Drawn0.step)⟩
  · rw [if_neg c4] at H
    have c4b0 : decide (a0 < 0) = false := decide_eq_false c4
    clear c4
    (first | rw [c4b0] | (simp only [i64_w, i32_w]; rw [c4b0]) | skip)
    by_cases c5 : a0 > 9007199254740992
    · rw [if_pos c5] at H
      have c5b0 : decide (9007199254740992 < a0) = true := decide_eq_true c5
      clear c5
      have H' := Aside0.mk H
      clear H
      go_wp2
      go_meet
      case rel => exact ⟨_, (true), (by first | rfl | (simp; done) | (simp [*]; done)), H', ⟨by first | omega | exact Nat.le_refl _⟩, by repeat (first | exact Drawn0.refl _ | apply Drawn0.step)⟩
    · rw [if_neg c5] at H
      have c5b0 : decide (9007199254740992 < a0) = false := decide_eq_false c5
      clear c5
      by_cases c6 : a1 < 1
      · rw [if_pos c6] at H
        have c6b0 : decide (a1 < 1) = true := decide_eq_true c6
        clear c6
        have H' := Aside0.mk H
        clear H
        go_wp2
        go_meet
        case rel => exact ⟨_, (true), (by first | rfl | (simp; done) | (simp [*]; done)), H', ⟨by first | omega | exact Nat.le_refl _⟩, by repeat (first | exact Drawn0.refl _ | apply Drawn0.step)⟩
      · rw [if_neg c6] at H
        have c6b0 : decide (a1 < 1) = false := decide_eq_false c6
        clear c6
        have H' := Aside0.mk H
        clear H
        go_wp2
        go_meet
        case rel => exact ⟨_, (decide (a1 > 9007199254740992)), (by first | rfl | (simp; done) | (simp [*]; done)), H', ⟨by first | omega | exact Nat.le_refl _⟩, by repeat (first | exact Drawn0.refl _ | apply Drawn0.step)⟩
 case rest =>
  clear HC3
  try clear p2
  try clear c4
  try clear c4b0
  try clear c5
  try clear c5b0
  try clear c6
  try clear c6b0
  obtain ⟨kq, x19_2, rfl, HA, HJ2, ⟨mc2, rfl⟩⟩ := hcut
  cases kq with
  | zero => exact absurd HA.out (by simp [scullerref01_Ceil.j0])
  | succ kj2 =>
    have H := HA.out
    clear HA
    simp only [scullerref01_Ceil.j0] at H
    by_cases c7 : x19_2 = true
    · subst c7
      have H1 : (some 0) = some r := by rw [if_pos rfl] at H; exact H
      clear H
      have H := H1
      clear H1
      obtain rfl := Option.some.inj H
      go_wp2
      go_ret
      exact ⟨by first | rfl | (simp; done) | (simp [*]; done), by repeat (first | exact Drawn0.refl _ | apply Drawn0.step)⟩
    · replace c7 := Bool.eq_false_iff.mpr c7
      subst c7
      have H1 : (if a1 = 0 then (none) else (if (wrap64 ((wrap64 (Int.tdiv a0 a1)) * a1)) < a0 then (some (wrap64 ((wrap64 (Int.tdiv a0 a1)) + 1))) else (some (wrap64 (Int.tdiv a0 a1))))) = some r := by rw [if_neg (show ¬ (false = true) by decide)] at H; exact H
      clear H
      have H := H1
      clear H1
      by_cases c8 : a1 = 0
      · rw [if_pos c8] at H
        exact absurd H (by simp)
      · rw [if_neg c8] at H
        have c8b0 : (a1 == 0) = false := beq_eq_false_iff_ne.mpr c8
        have c8b1 : (a1 != 0) = true := bne_iff_ne.mpr c8
        by_cases c9 : (wrap64 ((wrap64 (Int.tdiv a0 a1)) * a1)) < a0
        · rw [if_pos c9] at H
          have c9b0 : decide ((wrap64 ((wrap64 (Int.tdiv a0 a1)) * a1)) < a0) = true := decide_eq_true c9
          clear c9
          obtain rfl := Option.some.inj H
          go_wp2
          go_ret
          exact ⟨by first | rfl | (simp; done) | (simp [*]; done), by repeat (first | exact Drawn0.refl _ | apply Drawn0.step)⟩
        · rw [if_neg c9] at H
          have c9b0 : decide ((wrap64 ((wrap64 (Int.tdiv a0 a1)) * a1)) < a0) = false := decide_eq_false c9
          clear c9
          obtain rfl := Option.some.inj H
          go_wp2
          go_ret
          exact ⟨by first | rfl | (simp; done) | (simp [*]; done), by repeat (first | exact Drawn0.refl _ | apply Drawn0.step)⟩

end Go.Proofs.Ytbijnfhcbanhdaa.F
end

section
namespace Go.Proofs.Ytbijnfhcbanhdaa.F
open Go.RowKit Go.Proofs.YtbijnfhcbanhdaaW.PrintWords Go.Proofs.YtbijnfhcbanhdaaW.PrintLast Go.Proofs.YtbijnfhcbanhdaaW.PrintMore
attribute [local go_sem] max2_int min2_int max_two min_two max_three min_three max_four min_four   -- for this text's walks alone
set_option linter.unusedVariables false
set_option linter.unusedSimpArgs false

open Go.Proofs.Ytbijnfhcbanhdaa.H
def scullerref01_Ceil_c.f (a0 : Int) (a1 : Int) : Option Int := some (ceilL a0 a1)
theorem scullerref01_Ceil_c.to {a0 a1 r : Int} (h : scullerref01_Ceil_c.f a0 a1 = some r) : ∃ k, scullerref01_Ceil.f k a0 a1 = some r := by
 obtain rfl := Option.some.inj h
 refine ⟨1, ?_⟩
 rw [scullerref01_Ceil.f]
 by_cases h0 : a0 < 0
 · rw [if_pos h0, scullerref01_Ceil.j0, if_pos rfl, ceilL, if_neg (by omega)]
 · rw [if_neg h0]
   by_cases h1 : a0 > 9007199254740992
   · rw [if_pos h1, scullerref01_Ceil.j0, if_pos rfl, ceilL, if_neg (by omega)]
   · rw [if_neg h1]
     by_cases h2 : a1 < 1
     · rw [if_pos h2, scullerref01_Ceil.j0, if_pos rfl, ceilL, if_neg (by omega)]
     · rw [if_neg h2, scullerref01_Ceil.j0]
       by_cases h3 : a1 > 9007199254740992
       · rw [decide_eq_true h3, if_pos rfl, ceilL, if_neg (by omega)]
       · have hc : ceilL a0 a1 = (a0 + a1 - 1) / a1 := if_pos (by omega)
         rw [decide_eq_false h3, if_neg (by simp), if_neg (by omega), hc]
         have hq0 : 0 ≤ a0 / a1 := Int.ediv_nonneg (by omega) (by omega)
         have hq1 : a0 / a1 ≤ a0 := Int.ediv_le_self a1 (by omega)
         have hm := Int.emod_add_mul_ediv a0 a1
         have hm0 := Int.emod_nonneg a0 (show a1 ≠ 0 by omega)
         have hm1 := Int.emod_lt_of_pos a0 (show 0 < a1 by omega)
         have e1 : wrap64 (Int.tdiv a0 a1) = a0 / a1 := by rw [Int.tdiv_eq_ediv_of_nonneg (by omega)]; unfold wrap64; omega
         have hcm : a0 / a1 * a1 = a1 * (a0 / a1) := Int.mul_comm _ _
         have e2 : wrap64 (a0 / a1 * a1) = a0 / a1 * a1 := by rw [hcm]; unfold wrap64; omega
         rw [e1, e2, hcm]
         split
         · rename_i hlt
           have : (a0 + a1 - 1) / a1 = a0 / a1 + 1 := by
            rw [show a0 + a1 - 1 = (a0 % a1 - 1) + a1 * (a0 / a1 + 1) from by rw [Int.mul_add]; omega, Int.add_mul_ediv_left _ _ (by omega), Int.ediv_eq_zero_of_lt (by omega) (by omega)]; omega
           rw [this, show wrap64 (a0 / a1 + 1) = a0 / a1 + 1 from by unfold wrap64; omega]
         · rename_i hlt
           have : (a0 + a1 - 1) / a1 = a0 / a1 := by
            rw [show a0 + a1 - 1 = (a1 - 1) + a1 * (a0 / a1) from by omega, Int.add_mul_ediv_left _ _ (by omega), Int.ediv_eq_zero_of_lt (by omega) (by omega)]; omega
           rw [this]

theorem scullerref01_Ceil_c.calls (a0 : Int) (a1 : Int) (r : Int) (w : World) (h : scullerref01_Ceil_c.f a0 a1 = some r) :
 Calls Try.prog 52 #[.int .i64 a0, .int .i64 a1] w fun e w' => e = .returned (.int .i64 r) ∧ Drawn0 w w' := by
 obtain ⟨k_, hk_⟩ := scullerref01_Ceil_c.to h
 exact scullerref01_Ceil.calls k_ a0 a1 r w hk_

end Go.Proofs.Ytbijnfhcbanhdaa.F
end

section
namespace Go.Proofs.Ytbijnfhcbanhdaa.F
open Go.RowKit Go.Proofs.YtbijnfhcbanhdaaW.PrintWords Go.Proofs.YtbijnfhcbanhdaaW.PrintLast Go.Proofs.YtbijnfhcbanhdaaW.PrintMore
attribute [local go_sem] max2_int min2_int max_two min_two max_three min_three max_four min_four   -- for this text's walks alone
set_option linter.unusedVariables false
set_option linter.unusedSimpArgs false

/-! ### scullerref03_Make: function 22 -/
def scullerref03_Make.f (a0 : Int) : Option (List Int) := (scullerref01_Ceil_c.f (mx 0 (mn a0 65536)) 8).bind fun t101 => (if 0 ≤ t101 then (if (t101 : Int).toNat ≤ 281474976710656 then (some (List.replicate (t101 : Int).toNat 0)) else (none)) else (none))
set_option maxHeartbeats 8000000 in
set_option maxRecDepth 100000 in
theorem scullerref03_Make.calls (a0 : Int) (r : List Int) (w : World) (h : scullerref03_Make.f a0 = some r) :
 Calls Try.prog 22 #[.int .i64 a0] w fun e w' => ∃ v0_ : Value, e = .returned (v0_) ∧ Kd.R (Kd.int .u8) 5 w' w.heap.size (fun _ => True) v0_ r ∧ Below w.heap.size w w' := by
 have HB := Aside0.mk (Below.refl w.heap.size w)
 have H : ((scullerref01_Ceil_c.f (mx 0 (mn a0 65536)) 8).bind fun t101 => (if 0 ≤ t101 then (if (t101 : Int).toNat ≤ 281474976710656 then (some (List.replicate (t101 : Int).toNat 0)) else (none)) else (none))) = some r := h
 clear h
 obtain ⟨ji2, hji2⟩ : ∃ j_ : Int, (mn a0 65536) = j_ := ⟨_, rfl⟩
 replace H : ((scullerref01_Ceil_c.f (mx 0 (ji2)) 8).bind fun t101 => (if 0 ≤ t101 then (if (t101 : Int).toNat ≤ 281474976710656 then (some (List.replicate (t101 : Int).toNat 0)) else (none)) else (none))) = some r := by first | (rw [hji2] at H; exact H) | (simp only [hji2] at H ⊢; exact H)
 (try (have hji2h : ji2 ≤ 65536 := by (rw [← hji2]; unfold mn; (repeat' split) <;> omega)))
 (try (have hji2g : ji2 ≤ 64 := by omega))
 have hji2_ : (if 65536 < a0 then 65536 else a0) = ji2 := hji2
 obtain ⟨ji3, hji3⟩ : ∃ j_ : Int, (mx 0 (ji2)) = j_ := ⟨_, rfl⟩
 replace H : ((scullerref01_Ceil_c.f (ji3) 8).bind fun t101 => (if 0 ≤ t101 then (if (t101 : Int).toNat ≤ 281474976710656 then (some (List.replicate (t101 : Int).toNat 0)) else (none)) else (none))) = some r := by first | (rw [hji3] at H; exact H) | (simp only [hji3] at H ⊢; exact H)
 have hji3_ : (if 0 < (ji2) then (ji2) else 0) = ji3 := hji3
 replace H := Option.bind_eq_some_iff.mp H
 obtain ⟨t101, A40, H⟩ := H
 replace H : (if 0 ≤ t101 then (if (t101 : Int).toNat ≤ 281474976710656 then (some (List.replicate (t101 : Int).toNat 0)) else (none)) else (none)) = some r := H
 have A4 := Aside0.mk A40
 clear A40
 by_cases c5 : 0 ≤ t101
 · rw [if_pos c5] at H
   have c5b0 := eq_true c5
   have c5b1 : decide (0 ≤ t101) = true := decide_eq_true c5
   clear c5
   by_cases c6 : (t101 : Int).toNat ≤ 281474976710656
   · rw [if_pos c6] at H
     have c6b0 := eq_true c6
     have c6b1 : decide ((t101 : Int).toNat ≤ 281474976710656) = true := decide_eq_true c6
     clear c6
     obtain ⟨y102, hy102⟩ : ∃ y_ : List Int, y_ = (List.replicate (t101 : Int).toNat 0) := ⟨_, rfl⟩
     replace H : (some y102) = some r := by first | (rw [hy102]; with_reducible exact H) | (have H2_ := (Option.bind_some _ _).symm.trans H; rw [hy102]; with_reducible exact H2_) | (have H2_ := (Option.bind_some _ _).symm.trans H; with_reducible exact H2_) | with_reducible exact H | (rw [hy102]; exact H) | exact H
     have Ny102 := Aside0.mk hy102
     clear hy102
     obtain rfl := Option.some.inj H
     go_enter Try.func22, Try.ntmps22
     go_wp2_with (first | ((with_reducible refine gate_callee (f := 52) rfl ?_); refine goesL_ (some 6) rfl rfl Try.func52 (by kernel_rfl) rfl #[.int .i64 ji3, .int .i64 8] rfl (by (try simp only [List.map_toArray, List.map_cons, List.map_nil]); first | done | (simp only [hji3]; rfl) | rfl | (simp only [List.length_drop, List.length_take]; rfl)) ?_; (with_reducible refine (scullerref01_Ceil_c.calls ji3 8 t101 _ A4.out).mono ?_); rintro e w' ⟨rfl, ⟨nd, rfl⟩⟩; refine ⟨_, rfl, ?_⟩) | ((with_reducible refine gate_dst (N := 7) rfl ?_); refine Kd.R_make (Kd.int .u8) _ 5 rfl (N := 7) rfl 27 _ _ rfl t101 rfl rfl Try.underlying27 (.int .u8 0) 1 info5 rfl (by decide) (by omega) 0 (ok := fun _ => True) (okp := fun _ => True) rfl (fun _ hk => hk) trivial (of_decide_eq_true (by first | (with_reducible assumption) | assumption)) (Nat.le_trans (Nat.mul_le_mul_right _ (of_decide_eq_true (by first | (with_reducible assumption) | assumption) : t101.toNat ≤ 281474976710656)) (by omega)) (Below.refl _ _) (Nat.le_refl _) ?_; intro v103 w7 ho8 hb hg_ hnew_; clear hg_ hnew_; (first | rw [← Ny102.out] at ho8 | (simp only [Int.reduceToNat] at ho8; rw [← Ny102.out] at ho8)); have n0_ := Aside0.mk (Kd.R_lower ho8 (below_size (by repeat (first | (with_reducible first | exact HB.out | apply below_alloc | apply pw_below_drewN | apply below_drew1) | exact HB.out)))); have n1_ := Aside0.mk (below_step (by repeat (first | (with_reducible first | exact HB.out | apply below_alloc | apply pw_below_drewN | apply below_drew1) | exact HB.out)) hb); clear HB; have HO104 := n0_; have HB := n1_; clear n0_ n1_; clear hb ho8))
     go_ret
     exact ⟨_, by first | rfl | (simp [errW_none, errW_some] <;> rfl) | (simp only [← hji2, ← hji3]; first | rfl | (simp [errW_none, errW_some] <;> rfl)) | (simp [*, errW_none, errW_some] <;> rfl), by (with_reducible repeat (first | apply Kd.R_alloc | apply Kd.R_drewN | apply Kd.R_drew)); exact HO104.out, by repeat (first | (with_reducible first | exact HB.out | apply below_alloc | apply pw_below_drewN | apply below_drew1) | exact HB.out)⟩
   · rw [if_neg c6] at H
     exact absurd H (by simp)
 · rw [if_neg c5] at H
   exact absurd H (by simp)

end Go.Proofs.Ytbijnfhcbanhdaa.F
end

section
namespace Go.Proofs.Ytbijnfhcbanhdaa.F
open Go.RowKit Go.Proofs.YtbijnfhcbanhdaaW.PrintWords Go.Proofs.YtbijnfhcbanhdaaW.PrintLast Go.Proofs.YtbijnfhcbanhdaaW.PrintMore
attribute [local go_sem] max2_int min2_int max_two min_two max_three min_three max_four min_four   -- for this text's walks alone
set_option linter.unusedVariables false
set_option linter.unusedSimpArgs false

/-! ### word_Add: function 97 -/
def word_Add.f (a0 : Int) (a1 : Int) (a2 : Int) : Option (Int × Bool) := if (mn a0 a1) < 0 then (some (0, false)) else (if a0 > a2 then (some (0, false)) else (if a1 > (wrap64 (a2 - a0)) then (some (0, false)) else (some (wrap64 (a0 + a1), true))))
set_option maxHeartbeats 8000000 in
set_option maxRecDepth 100000 in
theorem word_Add.calls (a0 : Int) (a1 : Int) (a2 : Int) (r1 : Int) (r2 : Bool) (w : World) (h : word_Add.f a0 a1 a2 = some (r1, r2)) :
 Calls Try.prog 97 #[.int .i64 a0, .int .i64 a1, .int .i64 a2] w fun e w' => e = .returned (.tuple #[.int .i64 r1, .bool r2]) ∧ Below w.heap.size w w' := by
 have HB := Aside0.mk (Below.refl w.heap.size w)
 have H : (if (mn a0 a1) < 0 then (some (0, false)) else (if a0 > a2 then (some (0, false)) else (if a1 > (wrap64 (a2 - a0)) then (some (0, false)) else (some (wrap64 (a0 + a1), true))))) = some (r1, r2) := h
 clear h
 obtain ⟨ji4, hji4⟩ : ∃ j_ : Int, (mn a0 a1) = j_ := ⟨_, rfl⟩
 replace H : (if (ji4) < 0 then (some (0, false)) else (if a0 > a2 then (some (0, false)) else (if a1 > (wrap64 (a2 - a0)) then (some (0, false)) else (some (wrap64 (a0 + a1), true))))) = some (r1, r2) := by first | (rw [hji4] at H; exact H) | (simp only [hji4] at H ⊢; exact H)
 have hji4_ : (if a1 < a0 then a1 else a0) = ji4 := hji4
 by_cases c5 : (ji4) < 0
 · rw [if_pos c5] at H
   have c5b0 : decide ((ji4) < 0) = true := decide_eq_true c5
   clear c5
   simp only [Option.some.injEq, Prod.mk.injEq] at H
   obtain ⟨rfl, rfl⟩ := H
   go_enter Try.func97, Try.ntmps97
   go_wp2
   go_ret2
   exact ⟨by first | rfl | (simp [errW_none, errW_some] <;> rfl) | (simp only [← hji4]; first | rfl | (simp [errW_none, errW_some] <;> rfl)) | (simp [*, errW_none, errW_some] <;> rfl), by repeat (first | (with_reducible first | exact HB.out | apply below_alloc | apply pw_below_drewN | apply below_drew1) | exact HB.out)⟩
 · rw [if_neg c5] at H
   have c5b0 : decide ((ji4) < 0) = false := decide_eq_false c5
   clear c5
   by_cases c6 : a0 > a2
   · rw [if_pos c6] at H
     have c6b0 : decide (a2 < a0) = true := decide_eq_true c6
     clear c6
     simp only [Option.some.injEq, Prod.mk.injEq] at H
     obtain ⟨rfl, rfl⟩ := H
     go_enter Try.func97, Try.ntmps97
     go_wp2
     go_ret2
     exact ⟨by first | rfl | (simp [errW_none, errW_some] <;> rfl) | (simp only [← hji4]; first | rfl | (simp [errW_none, errW_some] <;> rfl)) | (simp [*, errW_none, errW_some] <;> rfl), by repeat (first | (with_reducible first | exact HB.out | apply below_alloc | apply pw_below_drewN | apply below_drew1) | exact HB.out)⟩
   · rw [if_neg c6] at H
     have c6b0 : decide (a2 < a0) = false := decide_eq_false c6
     clear c6
     by_cases c7 : a1 > (wrap64 (a2 - a0))
     · rw [if_pos c7] at H
       have c7b0 : decide ((wrap64 (a2 - a0)) < a1) = true := decide_eq_true c7
       clear c7
       simp only [Option.some.injEq, Prod.mk.injEq] at H
       obtain ⟨rfl, rfl⟩ := H
       go_enter Try.func97, Try.ntmps97
       go_wp2
       go_ret2
       exact ⟨by first | rfl | (simp [errW_none, errW_some] <;> rfl) | (simp only [← hji4]; first | rfl | (simp [errW_none, errW_some] <;> rfl)) | (simp [*, errW_none, errW_some] <;> rfl), by repeat (first | (with_reducible first | exact HB.out | apply below_alloc | apply pw_below_drewN | apply below_drew1) | exact HB.out)⟩
     · rw [if_neg c7] at H
       have c7b0 : decide ((wrap64 (a2 - a0)) < a1) = false := decide_eq_false c7
       clear c7
       simp only [Option.some.injEq, Prod.mk.injEq] at H
       obtain ⟨rfl, rfl⟩ := H
       go_enter Try.func97, Try.ntmps97
       go_wp2
       go_ret2
       exact ⟨by first | rfl | (simp [errW_none, errW_some] <;> rfl) | (simp only [← hji4]; first | rfl | (simp [errW_none, errW_some] <;> rfl)) | (simp [*, errW_none, errW_some] <;> rfl), by repeat (first | (with_reducible first | exact HB.out | apply below_alloc | apply pw_below_drewN | apply below_drew1) | exact HB.out)⟩

end Go.Proofs.Ytbijnfhcbanhdaa.F
end

section
namespace Go.Proofs.Ytbijnfhcbanhdaa.F
open Go.RowKit Go.Proofs.YtbijnfhcbanhdaaW.PrintWords Go.Proofs.YtbijnfhcbanhdaaW.PrintLast Go.Proofs.YtbijnfhcbanhdaaW.PrintMore
attribute [local go_sem] max2_int min2_int max_two min_two max_three min_three max_four min_four   -- for this text's walks alone
set_option linter.unusedVariables false
set_option linter.unusedSimpArgs false

/-! ### arena_Fits: function 84 -/
mutual
def arena_Fits.j0 : Nat → List Int → Bool → Option (Bool)
 | 0, _, _ => none
 | k + 1, x0, x21 => if x21 = true then (some false) else (arena_Fits.l0 k 0 x0 (x0.length : Int) 0)
def arena_Fits.l0 : Nat → Int → List Int → Int → Int → Option (Bool)
 | 0, _, _, _, _ => none
 | k + 1, x3, x22, x23, x24 => if x24 < x23 then (if 0 ≤ x24 then (if x24 < (x22.length : Int) then ((word_Add.f x3 (rd x22 x24) 4096).bind fun bt103 => (if bt103.2 = true then (arena_Fits.l0 k bt103.1 x22 x23 (wrap64 (x24 + 1))) else (some false))) else (none)) else (none)) else (some true)
end
def arena_Fits.f (k : Nat) (l0 : List Int) : Option (Bool) := if (l0.length : Int) < 1 then (arena_Fits.j0 k l0 true) else (if (l0.length : Int) > 16 then (arena_Fits.j0 k l0 true) else (if 0 < (l0.length : Int) then (arena_Fits.j0 k l0 (decide ((rd l0 0) < 1))) else (none)))
theorem arena_Fits.mono_l : ∀ k, (∀ y0 y1, LeO (arena_Fits.j0 k y0 y1) (arena_Fits.j0 (k + 1) y0 y1)) ∧ (∀ y0 y1 y2 y3, LeO (arena_Fits.l0 k y0 y1 y2 y3) (arena_Fits.l0 (k + 1) y0 y1 y2 y3))
 | 0 => ⟨fun _ _ r h => by simp [arena_Fits.j0] at h, fun _ _ _ _ r h => by simp [arena_Fits.l0] at h⟩
 | k + 1 => by
   obtain ⟨ih0, ih1⟩ := arena_Fits.mono_l k
   refine ⟨?_, ?_⟩
   · intro y0 y1
     unfold arena_Fits.j0
     repeat' first
     | (with_reducible exact ih0 _ _)
     | (with_reducible exact ih1 _ _ _ _)
     | (with_reducible exact LeO.refl _)
     | (with_reducible exact LeO.none _)
     | (with_reducible refine LeO.ite ?_ ?_)
     | (with_reducible refine LeO.bind ?_ (fun _ => ?_))
     | exact ih0 _ _
     | exact ih1 _ _ _ _
     | exact LeO.none _
     | refine LeO.ite ?_ ?_
     | refine LeO.bind ?_ (fun _ => ?_)
   · intro y0 y1 y2 y3
     unfold arena_Fits.l0
     repeat' first
     | (with_reducible exact ih0 _ _)
     | (with_reducible exact ih1 _ _ _ _)
     | (with_reducible exact LeO.refl _)
     | (with_reducible exact LeO.none _)
     | (with_reducible refine LeO.ite ?_ ?_)
     | (with_reducible refine LeO.bind ?_ (fun _ => ?_))
     | exact ih0 _ _
     | exact ih1 _ _ _ _
     | exact LeO.none _
     | refine LeO.ite ?_ ?_
     | refine LeO.bind ?_ (fun _ => ?_)
theorem arena_Fits.mono : ∀ a0 k, LeO (arena_Fits.f k a0) (arena_Fits.f (k + 1) a0) := by
 intro a0 k
 obtain ⟨ih0, ih1⟩ := arena_Fits.mono_l k
 unfold arena_Fits.f
 repeat' first
  | (with_reducible exact ih0 _ _)
  | (with_reducible exact ih1 _ _ _ _)
  | (with_reducible exact LeO.refl _)
  | (with_reducible exact LeO.none _)
  | (with_reducible refine LeO.ite ?_ ?_)
  | (with_reducible refine LeO.bind ?_ (fun _ => ?_))
  | exact ih0 _ _
  | exact ih1 _ _ _ _
  | exact LeO.none _
  | refine LeO.ite ?_ ?_
  | refine LeO.bind ?_ (fun _ => ?_)
set_option maxHeartbeats 8000000 in
set_option maxRecDepth 100000 in
theorem arena_Fits.calls (k : Nat) (A0 : Option Addr) (c0 : Nat) (l0 : List Int) (r : Bool) (w : World) (hr0 : Kd.C (Kd.int .i64) w A0 l0.length l0) (hc0 : l0.length ≤ c0) (h : arena_Fits.f k l0 = some r) :
 Calls Try.prog 84 #[.slice A0 l0.length c0] w fun e w' => e = .returned (.bool r) ∧ Below w.heap.size w w' := by
 have HR0 := Aside0.mk hr0
 have HC0 := Aside0.mk hc0
 clear hr0 hc0
 have HB := Aside0.mk (Below.refl w.heap.size w)
 have H : (if (l0.length : Int) < 1 then (arena_Fits.j0 k l0 true) else (if (l0.length : Int) > 16 then (arena_Fits.j0 k l0 true) else (if 0 < (l0.length : Int) then (arena_Fits.j0 k l0 (decide ((rd l0 0) < 1))) else (none)))) = some r := h
 clear h
 have HC2 := Aside0.mk H
 clear H
 go_enter Try.func84, Try.ntmps84
 go_upto_region 1 with (fail)
 go_cut [21] (fun v21 wc => ∃ (kq : Nat) (x21_1 : Bool), v21 = .bool x21_1 ∧ Aside0 (arena_Fits.j0 kq l0 x21_1 = some r) ∧ Aside0 (kq ≤ k) ∧ Aside0 (Below w.heap.size w wc))
 case first =>
  have H := HC2.out
  clear HC2
  by_cases c3 : (l0.length : Int) < 1
  · rw [if_pos c3] at H
    have c3b0 : decide ((l0.length : Int) < 1) = true := decide_eq_true c3
    have c3b1 : decide (l0.length < 1) = true := decide_eq_true (by omega)
    clear c3
    (first | rw [c3b0] | (simp only [i64_w, i32_w]; rw [c3b0]) | skip)
    have H' := Aside0.mk H
    clear H
    go_wp2
    go_meet
    case rel => exact ⟨_, (true), (by first | rfl | (simp; done) | (simp [*]; done)), H', ⟨by first | omega | exact Nat.le_refl _⟩, ⟨by repeat (first | (with_reducible first | exact HB.out | apply below_alloc | apply pw_below_drewN | apply below_drew1) | exact HB.out)⟩⟩
  · rw [if_neg c3] at H
    have c3b0 : decide ((l0.length : Int) < 1) = false := decide_eq_false c3
    have c3b1 : decide (l0.length < 1) = false := decide_eq_false (by omega)
    clear c3
    (first | rw [c3b0] | (simp only [i64_w, i32_w]; rw [c3b0]) | skip)
    by_cases c4 : (l0.length : Int) > 16
    · rw [if_pos c4] at H
      have c4b0 : decide (16 < (l0.length : Int)) = true := decide_eq_true c4
      have c4b1 : decide (16 < l0.length) = true := decide_eq_true (by omega)
      clear c4
      have H' := Aside0.mk H
      clear H
      go_wp2
      go_meet
      case rel => exact ⟨_, (true), (by first | rfl | (simp; done) | (simp [*]; done)), H', ⟨by first | omega | exact Nat.le_refl _⟩, ⟨by repeat (first | (with_reducible first | exact HB.out | apply below_alloc | apply pw_below_drewN | apply below_drew1) | exact HB.out)⟩⟩
    · rw [if_neg c4] at H
      have c4b0 : decide (16 < (l0.length : Int)) = false := decide_eq_false c4
      have c4b1 : decide (16 < l0.length) = false := decide_eq_false (by omega)
      clear c4
      by_cases c5 : 0 < (l0.length : Int)
      · rw [if_pos c5] at H
        have c5b0 : decide (0 < (l0.length : Int)) = true := decide_eq_true c5
        have c5b1 : decide (0 < l0.length) = true := decide_eq_true (by omega)
        clear c5
        have H' := Aside0.mk H
        clear H
        have p101 : 0 ≤ (0 : Int) := (by omega)
        have q101 : 0 < (l0.length : Int) := of_decide_eq_true (by first | (with_reducible assumption) | assumption)
        obtain ⟨ad101, e101, hx101_0⟩ := Kd.at_int HR0.out 0 p101 q101
        cases e101
        have qi101 : (0 < l0.length) = True := eq_true (by omega)
        (try rw [show ((0 : Int)).toNat = 0 from rfl] at hx101_0)
        (try rw [Addr.add_zero'] at hx101_0)
        replace hx101_0 := (HB.out.cell (World.block_lt_of_cell? w _ hx101_0)).trans hx101_0
        replace p101 := eq_true p101
        replace q101 := eq_true q101
        go_wp2
        go_meet
        case rel => exact ⟨_, (decide ((rd l0 0) < 1)), (by first | rfl | (simp; done) | (simp [*]; done)), H', ⟨by first | omega | exact Nat.le_refl _⟩, ⟨by repeat (first | (with_reducible first | exact HB.out | apply below_alloc | apply pw_below_drewN | apply below_drew1) | exact HB.out)⟩⟩
      · rw [if_neg c5] at H
        exact absurd H (by simp)
 case rest =>
  clear HC2
  try clear p1
  try clear q1
  try clear hx1
  try clear qi1
  try clear p2
  try clear c3
  try clear c3b0
  try clear c3b1
  try clear c4
  try clear c4b0
  try clear c4b1
  try clear c5
  try clear c5b0
  try clear c5b1
  try clear hx101_0
  try clear p101
  try clear q101
  obtain ⟨kq, x21_1, rfl, HA, HJ1, HB⟩ := hcut
  cases kq with
  | zero => exact absurd HA.out (by simp [arena_Fits.j0])
  | succ kj1 =>
    have H := HA.out
    clear HA
    simp only [arena_Fits.j0] at H
    by_cases c6 : x21_1 = true
    · subst c6
      have H1 : (some false) = some r := by rw [if_pos rfl] at H; exact H
      clear H
      have H := H1
      clear H1
      obtain rfl := Option.some.inj H
      go_wp2
      go_ret
      exact ⟨by first | rfl | (simp [errW_none, errW_some] <;> rfl) | (simp [*, errW_none, errW_some] <;> rfl), by repeat (first | (with_reducible first | exact HB.out | apply below_alloc | apply pw_below_drewN | apply below_drew1) | exact HB.out)⟩
    · replace c6 := Bool.eq_false_iff.mpr c6
      subst c6
      have H1 : (arena_Fits.l0 kj1 0 l0 (l0.length : Int) 0) = some r := by rw [if_neg (show ¬ (false = true) by decide)] at H; exact H
      clear H
      have H := H1
      clear H1
      have H' := Aside0.mk H
      clear H
      go_wp2
      go_loopg [3, 24] kj1 (fun kq v3 v24 w' => ∃ (x3_2 : Int) (x24_2 : Int), v3 = .int .i64 x3_2 ∧ v24 = .int .i64 x24_2 ∧ Aside0 (arena_Fits.l0 kq x3_2 l0 (l0.length : Int) x24_2 = some r) ∧ Aside0 (kq ≤ kj1) ∧ Aside0 (Below w.heap.size w w'))
      case atStart => exact ⟨(0), (0), (by first | rfl | (simp; done) | (simp [*]; done)), (by first | rfl | (simp; done) | (simp [*]; done)), H', ⟨Nat.le_refl _⟩, ⟨by repeat (first | (with_reducible first | exact HB.out | apply below_alloc | apply pw_below_drewN | apply below_drew1) | exact HB.out)⟩⟩
      case round =>
       clear H'
       try clear p1
       try clear q1
       try clear hx1
       try clear qi1
       try clear p2
       try clear c3
       try clear c3b0
       try clear c3b1
       try clear c4
       try clear c4b0
       try clear c4b1
       try clear c5
       try clear c5b0
       try clear c5b1
       try clear c6
       try clear hx101_0
       try clear p1
       try clear p101
       try clear p2
       try clear q1
       try clear q101
       obtain ⟨x3_2, x24_2, rfl, rfl, HA, HK2, HB⟩ := hrel
       cases gk with
       | zero => exact absurd HA.out (by simp [arena_Fits.l0])
       | succ k2 =>
         have H := HA.out
         clear HA
         simp only [arena_Fits.l0] at H
         by_cases c7 : x24_2 < (l0.length : Int)
         · rw [if_pos c7] at H
           have c7b0 : decide (x24_2 < (l0.length : Int)) = true := decide_eq_true c7
           clear c7
           by_cases c8 : 0 ≤ x24_2
           · rw [if_pos c8] at H
             have c8b0 : decide (0 ≤ x24_2) = true := decide_eq_true c8
             clear c8
             by_cases c9 : x24_2 < (l0.length : Int)
             · rw [if_pos c9] at H
               have c9b0 : decide (x24_2 < (l0.length : Int)) = true := decide_eq_true c9
               clear c9
               replace H := Option.bind_eq_some_iff.mp H
               obtain ⟨⟨t103, t104⟩, A100, H⟩ := H
               replace H : (if t104 = true then (arena_Fits.l0 k2 t103 l0 (l0.length : Int) (wrap64 (x24_2 + 1))) else (some false)) = some r := H
               have A10 := Aside0.mk A100
               clear A100
               by_cases c11 : t104 = true
               · subst c11
                 have H1 : (arena_Fits.l0 k2 t103 l0 (l0.length : Int) (wrap64 (x24_2 + 1))) = some r := by rw [if_pos rfl] at H; exact H
                 clear H
                 have H := H1
                 clear H1
                 have H' := Aside0.mk H
                 clear H
                 have p102 : 0 ≤ (x24_2 : Int) := of_decide_eq_true (by first | (with_reducible assumption) | assumption)
                 have q102 : x24_2 < (l0.length : Int) := of_decide_eq_true (by first | (with_reducible assumption) | assumption)
                 obtain ⟨ad102, e102, hx102_0⟩ := Kd.at_int HR0.out x24_2 p102 q102
                 cases e102
                 replace hx102_0 := (HB.out.cell (World.block_lt_of_cell? w _ hx102_0)).trans hx102_0
                 replace p102 := eq_true p102
                 replace q102 := eq_true q102
                 go_wp2_with (first | ((with_reducible refine gate_callee (f := 97) rfl ?_); refine goesL_ (some 31) rfl rfl Try.func97 (by kernel_rfl) rfl #[.int .i64 x3_2, .int .i64 (rd l0 x24_2), .int .i64 4096] rfl (by (try simp only [List.map_toArray, List.map_cons, List.map_nil]); first | done | rfl | (simp only [List.length_drop, List.length_take]; rfl)) ?_; (with_reducible refine (word_Add.calls x3_2 (rd l0 x24_2) 4096 t103 true _ A10.out).mono ?_); rintro e w12 ⟨rfl, hb⟩; refine ⟨_, rfl, ?_⟩; have n0_ := Aside0.mk (below_step (by repeat (first | (with_reducible first | exact HB.out | apply below_alloc | apply pw_below_drewN | apply below_drew1) | exact HB.out)) hb); clear HB; have HB := n0_; clear n0_; (try clear hb); (try clear hb2); (try clear hk); (try clear hi)))
                 go_roundg k2
                 case measure => have := HJ1.out; have := HK2.out; omega
                 case rel => exact ⟨(t103), (wrap64 (x24_2 + 1)), (by first | rfl | (simp; done) | (simp [*]; done)), (by first | rfl | (simp; done) | (simp [*]; done)), H', ⟨by have := HJ1.out; have := HK2.out; omega⟩, ⟨by repeat (first | (with_reducible first | exact HB.out | apply below_alloc | apply pw_below_drewN | apply below_drew1) | exact HB.out)⟩⟩
               · replace c11 := Bool.eq_false_iff.mpr c11
                 subst c11
                 have H1 : (some false) = some r := by rw [if_neg (show ¬ (false = true) by decide)] at H; exact H
                 clear H
                 have H := H1
                 clear H1
                 obtain rfl := Option.some.inj H
                 have p102 : 0 ≤ (x24_2 : Int) := of_decide_eq_true (by first | (with_reducible assumption) | assumption)
                 have q102 : x24_2 < (l0.length : Int) := of_decide_eq_true (by first | (with_reducible assumption) | assumption)
                 obtain ⟨ad102, e102, hx102_0⟩ := Kd.at_int HR0.out x24_2 p102 q102
                 cases e102
                 replace hx102_0 := (HB.out.cell (World.block_lt_of_cell? w _ hx102_0)).trans hx102_0
                 replace p102 := eq_true p102
                 replace q102 := eq_true q102
                 go_wp2_with (first | ((with_reducible refine gate_callee (f := 97) rfl ?_); refine goesL_ (some 31) rfl rfl Try.func97 (by kernel_rfl) rfl #[.int .i64 x3_2, .int .i64 (rd l0 x24_2), .int .i64 4096] rfl (by (try simp only [List.map_toArray, List.map_cons, List.map_nil]); first | done | rfl | (simp only [List.length_drop, List.length_take]; rfl)) ?_; (with_reducible refine (word_Add.calls x3_2 (rd l0 x24_2) 4096 t103 false _ A10.out).mono ?_); rintro e w13 ⟨rfl, hb⟩; refine ⟨_, rfl, ?_⟩; have n0_ := Aside0.mk (below_step (by repeat (first | (with_reducible first | exact HB.out | apply below_alloc | apply pw_below_drewN | apply below_drew1) | exact HB.out)) hb); clear HB; have HB := n0_; clear n0_; (try clear hb); (try clear hb2); (try clear hk); (try clear hi)))
                 go_ret
                 exact ⟨by first | rfl | (simp [errW_none, errW_some] <;> rfl) | (simp [*, errW_none, errW_some] <;> rfl), by repeat (first | (with_reducible first | exact HB.out | apply below_alloc | apply pw_below_drewN | apply below_drew1) | exact HB.out)⟩
             · rw [if_neg c9] at H
               exact absurd H (by simp)
           · rw [if_neg c8] at H
             exact absurd H (by simp)
         · rw [if_neg c7] at H
           have c7b0 : decide (x24_2 < (l0.length : Int)) = false := decide_eq_false c7
           clear c7
           obtain rfl := Option.some.inj H
           go_wp2
           go_ret
           exact ⟨by first | rfl | (simp [errW_none, errW_some] <;> rfl) | (simp [*, errW_none, errW_some] <;> rfl), by repeat (first | (with_reducible first | exact HB.out | apply below_alloc | apply pw_below_drewN | apply below_drew1) | exact HB.out)⟩

end Go.Proofs.Ytbijnfhcbanhdaa.F
end

section
namespace Go.Proofs.Ytbijnfhcbanhdaa.F
open Go.RowKit Go.Proofs.YtbijnfhcbanhdaaW.PrintWords Go.Proofs.YtbijnfhcbanhdaaW.PrintLast Go.Proofs.YtbijnfhcbanhdaaW.PrintMore
attribute [local go_sem] max2_int min2_int max_two min_two max_three min_three max_four min_four   -- for this text's walks alone
set_option linter.unusedVariables false
set_option linter.unusedSimpArgs false

open Go.Proofs.Ytbijnfhcbanhdaa.H
def arena_Fits_c.f (l0 : List Int) : Option Bool := some (fitsB l0)
theorem word_Add.at_ (n x : Int) (h0 : 0 ≤ n) (h1 : n ≤ 4096) : word_Add.f n x 4096 = some (if x < 0 then (0, false) else if x > 4096 - n then (0, false) else (n + x, true)) := by
 have hw : wrap64 (4096 - n) = 4096 - n := by unfold wrap64; omega
 unfold word_Add.f mn
 rw [hw]
 by_cases hx : x < 0
 · rw [if_pos hx, if_pos (by split <;> omega)]
 · rw [if_neg (by split <;> omega), if_neg (by omega), if_neg hx]
   by_cases h2 : x > 4096 - n
   · rw [if_pos h2, if_pos h2]
   · rw [if_neg h2, if_neg h2, show wrap64 (n + x) = n + x from by unfold wrap64; omega]
theorem arena_Fits.l0_to (l : List Int) (hl : l.length ≤ 1000000) : ∀ (d i : Nat) (n : Int), l.length - i = d → i ≤ l.length → 0 ≤ n → n ≤ 4096 → ∃ k, arena_Fits.l0 k n l (l.length : Int) (i : Int) = some (restB n (l.drop i))
 | 0, i, n, hd, hi, h0, h1 => ⟨1, by simp only [arena_Fits.l0]; rw [if_neg (by omega), List.drop_of_length_le (by omega)]; simp [restB, h1]⟩
 | d + 1, i, n, hd, hi, h0, h1 => by
   have hlt : i < l.length := by omega
   have hr : rd l i = l[i] := getD_toNat l 0 i hlt
   have hr' : ((l.length : Int) > (i : Int)) := by omega
   by_cases hx : l[i] < 0
   · refine ⟨1, ?_⟩
     simp only [arena_Fits.l0]
     rw [if_pos (by omega), if_pos (by omega), if_pos (by omega), hr, word_Add.at_ _ _ h0 h1, drop_at l i hlt, restB_cons, if_pos hx, if_pos hx]
     rfl
   · by_cases h2 : l[i] > 4096 - n
     · refine ⟨1, ?_⟩
       simp only [arena_Fits.l0]
       rw [if_pos (by omega), if_pos (by omega), if_pos (by omega), hr, word_Add.at_ _ _ h0 h1, drop_at l i hlt, restB_cons, if_neg hx, if_neg hx, if_pos h2, if_pos h2]
       rfl
     · obtain ⟨k, hk⟩ := arena_Fits.l0_to l hl d (i + 1) (n + l[i]) (by omega) (by omega) (by omega) (by omega)
       refine ⟨k + 1, ?_⟩
       simp only [arena_Fits.l0]
       rw [if_pos (by omega), if_pos (by omega), if_pos (by omega), hr, word_Add.at_ _ _ h0 h1, drop_at l i hlt, restB_cons, if_neg hx, if_neg hx, if_neg h2, if_neg h2]
       simp only [Option.bind_some, if_true]
       rw [show wrap64 ((i : Int) + 1) = ((i + 1 : Nat) : Int) from by unfold wrap64; omega, hk]
theorem arena_Fits_c.to {l0 : List Int} {r : Bool} (h : arena_Fits_c.f l0 = some r) : ∃ k, arena_Fits.f k l0 = some r := by
 obtain rfl := Option.some.inj h
 unfold arena_Fits.f fitsB
 by_cases h1 : (l0.length : Int) < 1
 · have e : decide (1 ≤ l0.length) = false := decide_eq_false (by omega)
   exact ⟨1, by rw [if_pos h1, e]; simp [arena_Fits.j0]⟩
 · have e : decide (1 ≤ l0.length) = true := decide_eq_true (by omega)
   by_cases h2 : (l0.length : Int) > 16
   · have e2 : decide (l0.length ≤ 16) = false := decide_eq_false (by omega)
     exact ⟨1, by rw [if_neg h1, if_pos h2, e, e2]; simp [arena_Fits.j0]⟩
   · have e2 : decide (l0.length ≤ 16) = true := decide_eq_true (by omega)
     have hr : rd l0 0 = l0.getD 0 0 := rfl
     by_cases h3 : l0.getD 0 0 < 1
     · have e3 : decide (1 ≤ l0.getD 0 0) = false := decide_eq_false (by omega)
       exact ⟨1, by rw [if_neg h1, if_neg h2, if_pos (by omega), e, e2, e3, hr, decide_eq_true h3]; simp [arena_Fits.j0]⟩
     · have e3 : decide (1 ≤ l0.getD 0 0) = true := decide_eq_true (by omega)
       obtain ⟨k, hk⟩ := arena_Fits.l0_to l0 (by omega) l0.length 0 0 (by omega) (by omega) (by omega) (by omega)
       refine ⟨k + 1, ?_⟩
       rw [if_neg h1, if_neg h2, if_pos (by omega), e, e2, e3, hr, decide_eq_false h3]
       simp only [arena_Fits.j0, Bool.true_and]
       simpa using hk

theorem arena_Fits_c.calls (A0 : Option Addr) (c0 : Nat) (l0 : List Int) (r : Bool) (w : World) (hr0 : Kd.C (Kd.int .i64) w A0 l0.length l0) (hc0 : l0.length ≤ c0) (h : arena_Fits_c.f l0 = some r) :
 Calls Try.prog 84 #[.slice A0 l0.length c0] w fun e w' => e = .returned (.bool r) ∧ Below w.heap.size w w' := by
 obtain ⟨k_, hk_⟩ := arena_Fits_c.to h
 exact arena_Fits.calls k_ A0 c0 l0 r w hr0 hc0 hk_

end Go.Proofs.Ytbijnfhcbanhdaa.F
end

section
namespace Go.Proofs.Ytbijnfhcbanhdaa.F
open Go.RowKit Go.Proofs.YtbijnfhcbanhdaaW.PrintWords Go.Proofs.YtbijnfhcbanhdaaW.PrintLast Go.Proofs.YtbijnfhcbanhdaaW.PrintMore
attribute [local go_sem] max2_int min2_int max_two min_two max_three min_three max_four min_four   -- for this text's walks alone
set_option linter.unusedVariables false
set_option linter.unusedSimpArgs false

/-! ### mani_Right: function 54 -/
def mani_Right.f (a0_0 : Int) (l0_1 : List Int) (a0_2 : Int) : Option (Bool) := (arena_Fits_c.f l0_1).bind fun t102 => (some t102)
set_option maxHeartbeats 8000000 in
set_option maxRecDepth 100000 in
theorem mani_Right.calls (a0_0 : Int) (A0_1 : Option Addr) (c0_1 : Nat) (l0_1 : List Int) (a0_2 : Int) (r : Bool) (w : World) (hr0_1 : Kd.C (Kd.int .i64) w A0_1 l0_1.length l0_1) (hc0_1 : l0_1.length ≤ c0_1) (h : mani_Right.f a0_0 l0_1 a0_2 = some r) :
 Calls Try.prog 54 #[.agg #[.int .u64 a0_0, .slice A0_1 l0_1.length c0_1, .int .u32 a0_2]] w fun e w' => e = .returned (.bool r) ∧ Below w.heap.size w w' := by
 have hu26 := Try.underlying26
 have HR0_1 := Aside0.mk hr0_1
 have HC0_1 := Aside0.mk hc0_1
 clear hr0_1 hc0_1
 have HB := Aside0.mk (Below.refl w.heap.size w)
 have H : ((arena_Fits_c.f l0_1).bind fun t102 => (some t102)) = some r := h
 clear h
 replace H := Option.bind_eq_some_iff.mp H
 obtain ⟨t102, A20, H⟩ := H
 replace H : (some t102) = some r := H
 have A2 := Aside0.mk A20
 clear A20
 obtain rfl := Option.some.inj H
 go_enter Try.func54, Try.ntmps54
 go_wp2_with (first | ((with_reducible refine gate_dst (N := 1) rfl ?_); refine box_event ?hg (N := 1) ?hd (cs := #[.int .u64 a0_0, .slice A0_1 l0_1.length c0_1, .int .u32 a0_2]) (t := 26) ?hr ?_; (case hd => rfl); (case hg => rfl); (case hr => first | (go_simp; done) | (go_simp; rfl)); intro gb101 hg w3 hbox hb; have n0_ := Aside0.mk (below_step (by repeat (first | (with_reducible first | exact HB.out | apply below_alloc | apply pw_below_drewN | apply below_drew1) | exact HB.out)) hb); have n1_ := Aside0.mk (hbox); have n2_ := Aside0.mk ((by rw [hg]; exact (below_size (by repeat (first | (with_reducible first | exact HB.out | apply below_alloc | apply pw_below_drewN | apply below_drew1) | exact HB.out))) : w.heap.size ≤ gb101)); have n3_ := Aside0.mk ((by rw [hg]; exact (below_size (by repeat (first | (with_reducible first | exact HB.out | apply below_alloc | apply pw_below_drewN | apply below_drew1) | exact HB.out))) : w.heap.size ≤ gb101)); clear HB; have HB := n0_; have BK101 := n1_; have GW101 := n2_; have GE101 := n3_; clear n0_ n1_ n2_ n3_; clear hb hbox hg; have hcz4_0 : w3.cell? ⟨gb101, 0, none⟩ = some (.int .u64 a0_0) := (blk_cell BK101.out 0).trans rfl; have hcz4_1 : w3.cell? ⟨gb101, 1, none⟩ = some (.slice A0_1 l0_1.length c0_1) := (blk_cell BK101.out 1).trans rfl; have hcz4_2 : w3.cell? ⟨gb101, 2, none⟩ = some (.int .u32 a0_2) := (blk_cell BK101.out 2).trans rfl; have hfz4_0 := blk_frozen BK101.out 0; have hfz4_1 := blk_frozen BK101.out 1; have hfz4_2 := blk_frozen BK101.out 2) | ((with_reducible refine gate_callee (f := 84) rfl ?_); refine goesL_ (some 5) rfl rfl Try.func84 (by kernel_rfl) rfl #[.slice A0_1 l0_1.length c0_1] rfl (by (try simp only [List.map_toArray, List.map_cons, List.map_nil]); first | done | rfl | (simp only [List.length_drop, List.length_take]; rfl)) ?_; (with_reducible refine (arena_Fits_c.calls _ _ l0_1 t102 _ ?side1 ?side2 A2.out).mono ?_); (case side1 => repeat (first | exact (Kd.C_below HR0_1.out HB.out) | (with_reducible refine Kd.C_alloc ?_ _) | (with_reducible refine Kd.C_drewN ?_ _) | (with_reducible refine Kd.C_drew ?_))); (case side2 => exact HC0_1.out); rintro e w5 ⟨rfl, hb⟩; refine ⟨_, rfl, ?_⟩; have n0_ := Aside0.mk (blk_below (g := gb101) (o := .cells #[.int .u64 a0_0, .slice A0_1 l0_1.length c0_1, .int .u32 a0_2] 26 (0, 0)) (by (with_reducible repeat (first | refine blk_drewN ?_ _ | refine blk_drew ?_ | refine blk_alloc ?_ _)); exact BK101.out) hb); have n1_ := Aside0.mk (below_step (by repeat (first | (with_reducible first | exact HB.out | apply below_alloc | apply pw_below_drewN | apply below_drew1 | refine below_set ?_ GE101.out) | exact HB.out)) hb); clear BK101; clear HB; have BK101 := n0_; have HB := n1_; clear n0_ n1_; (try clear hb); (try clear hb2); (try clear hk); (try clear hi)))
 go_ret
 exact ⟨by first | rfl | (simp [errW_none, errW_some] <;> rfl) | (simp [*, errW_none, errW_some] <;> rfl), by repeat (first | (with_reducible first | exact HB.out | apply below_alloc | apply pw_below_drewN | apply below_drew1 | refine below_set ?_ GE101.out) | exact HB.out)⟩

end Go.Proofs.Ytbijnfhcbanhdaa.F
end

section
namespace Go.Proofs.Ytbijnfhcbanhdaa.F
open Go.RowKit Go.Proofs.YtbijnfhcbanhdaaW.PrintWords Go.Proofs.YtbijnfhcbanhdaaW.PrintLast Go.Proofs.YtbijnfhcbanhdaaW.PrintMore
attribute [local go_sem] max2_int min2_int max_two min_two max_three min_three max_four min_four   -- for this text's walks alone
set_option linter.unusedVariables false
set_option linter.unusedSimpArgs false

/-! ### word_Ceil: function 86 -/
def word_Ceil.f (a0 : Int) (a1 : Int) : Option (Int) := if a0 < 0 then (some 0) else (if a0 > 9007199254740992 then (some 0) else (if a1 < 1 then (some 0) else (if a1 > 9007199254740992 then (some 0) else (if a1 = 0 then (none) else (some (wrap64 (Int.tdiv (wrap64 ((wrap64 (a0 + a1)) - 1)) a1)))))))
set_option maxHeartbeats 8000000 in
set_option maxRecDepth 100000 in
theorem word_Ceil.calls (a0 : Int) (a1 : Int) (r : Int) (w : World) (h : word_Ceil.f a0 a1 = some r) :
 Calls Try.prog 86 #[.int .i64 a0, .int .i64 a1] w fun e w' => e = .returned (.int .i64 r) ∧ Drawn0 w w' := by
 have H : (if a0 < 0 then (some 0) else (if a0 > 9007199254740992 then (some 0) else (if a1 < 1 then (some 0) else (if a1 > 9007199254740992 then (some 0) else (if a1 = 0 then (none) else (some (wrap64 (Int.tdiv (wrap64 ((wrap64 (a0 + a1)) - 1)) a1)))))))) = some r := h
 clear h
 by_cases c3 : a0 < 0
 · rw [if_pos c3] at H
   have c3b0 : decide (a0 < 0) = true := decide_eq_true c3
   clear c3
   obtain rfl := Option.some.inj H
   go_enter Try.func86, Try.ntmps86
   go_wp2
   go_ret
   exact ⟨by first | rfl | (simp; done) | (simp [*]; done), by repeat (first | exact Drawn0.refl _ | apply Drawn0.step)⟩
 · rw [if_neg c3] at H
   have c3b0 : decide (a0 < 0) = false := decide_eq_false c3
   clear c3
   by_cases c4 : a0 > 9007199254740992
   · rw [if_pos c4] at H
     have c4b0 : decide (9007199254740992 < a0) = true := decide_eq_true c4
     clear c4
     obtain rfl := Option.some.inj H
     go_enter Try.func86, Try.ntmps86
     go_wp2
     go_ret
     exact ⟨by first | rfl | (simp; done) | (simp [*]; done), by repeat (first | exact Drawn0.refl _ | apply Drawn0.step)⟩
   · rw [if_neg c4] at H
     have c4b0 : decide (9007199254740992 < a0) = false := decide_eq_false c4
     clear c4
     by_cases c5 : a1 < 1
     · rw [if_pos c5] at H
       have c5b0 : decide (a1 < 1) = true := decide_eq_true c5
       clear c5
       obtain rfl := Option.some.inj H
       go_enter Try.func86, Try.ntmps86
       go_wp2
       go_ret
       exact ⟨by first | rfl | (simp; done) | (simp [*]; done), by repeat (first | exact Drawn0.refl _ | apply Drawn0.step)⟩
     · rw [if_neg c5] at H
       have c5b0 : decide (a1 < 1) = false := decide_eq_false c5
       clear c5
       by_cases c6 : a1 > 9007199254740992
       · rw [if_pos c6] at H
         have c6b0 : decide (9007199254740992 < a1) = true := decide_eq_true c6
         clear c6
         obtain rfl := Option.some.inj H
         go_enter Try.func86, Try.ntmps86
         go_wp2
         go_ret
         exact ⟨by first | rfl | (simp; done) | (simp [*]; done), by repeat (first | exact Drawn0.refl _ | apply Drawn0.step)⟩
       · rw [if_neg c6] at H
         have c6b0 : decide (9007199254740992 < a1) = false := decide_eq_false c6
         clear c6
         by_cases c7 : a1 = 0
         · rw [if_pos c7] at H
           exact absurd H (by simp)
         · rw [if_neg c7] at H
           have c7b0 : (a1 == 0) = false := beq_eq_false_iff_ne.mpr c7
           have c7b1 : (a1 != 0) = true := bne_iff_ne.mpr c7
           obtain rfl := Option.some.inj H
           go_enter Try.func86, Try.ntmps86
           go_wp2
           go_ret
           exact ⟨by first | rfl | (simp; done) | (simp [*]; done), by repeat (first | exact Drawn0.refl _ | apply Drawn0.step)⟩

end Go.Proofs.Ytbijnfhcbanhdaa.F
end

section
namespace Go.Proofs.Ytbijnfhcbanhdaa.F
open Go.RowKit Go.Proofs.YtbijnfhcbanhdaaW.PrintWords Go.Proofs.YtbijnfhcbanhdaaW.PrintLast Go.Proofs.YtbijnfhcbanhdaaW.PrintMore
attribute [local go_sem] max2_int min2_int max_two min_two max_three min_three max_four min_four   -- for this text's walks alone
set_option linter.unusedVariables false
set_option linter.unusedSimpArgs false

/-! ### mani_Words: function 87 -/
def mani_Words.l0 : Nat → Int → List Int → Int → Int → Option (Int)
 | 0, _, _, _, _ => none
 | k + 1, x3, x10, x11, x12 => if x12 < x11 then (if 0 ≤ x12 then (if x12 < (x10.length : Int) then (mani_Words.l0 k (wrap64 (x3 + (rd x10 x12))) x10 x11 (wrap64 (x12 + 1))) else (none)) else (none)) else (some x3)
def mani_Words.f (k : Nat) (a0_0 : Int) (l0_1 : List Int) (a0_2 : Int) : Option (Int) := (mani_Right.f a0_0 l0_1 a0_2).bind fun t102 => (if t102 = true then (mani_Words.l0 k 0 l0_1 (l0_1.length : Int) 0) else (some 0))
theorem mani_Words.mono_l : ∀ k, (∀ y0 y1 y2 y3, LeO (mani_Words.l0 k y0 y1 y2 y3) (mani_Words.l0 (k + 1) y0 y1 y2 y3))
 | 0 => fun _ _ _ _ r h => by simp [mani_Words.l0] at h
 | k + 1 => by
   have ih0 := mani_Words.mono_l k
   · intro y0 y1 y2 y3
     unfold mani_Words.l0
     repeat' first
     | (with_reducible exact ih0 _ _ _ _)
     | (with_reducible exact LeO.refl _)
     | (with_reducible exact LeO.none _)
     | (with_reducible refine LeO.ite ?_ ?_)
     | (with_reducible refine LeO.bind ?_ (fun _ => ?_))
     | exact ih0 _ _ _ _
     | exact LeO.none _
     | refine LeO.ite ?_ ?_
     | refine LeO.bind ?_ (fun _ => ?_)
theorem mani_Words.mono : ∀ a0 a1 a2 k, LeO (mani_Words.f k a0 a1 a2) (mani_Words.f (k + 1) a0 a1 a2) := by
 intro a0 a1 a2 k
 have ih0 := mani_Words.mono_l k
 unfold mani_Words.f
 repeat' first
  | (with_reducible exact ih0 _ _ _ _)
  | (with_reducible exact LeO.refl _)
  | (with_reducible exact LeO.none _)
  | (with_reducible refine LeO.ite ?_ ?_)
  | (with_reducible refine LeO.bind ?_ (fun _ => ?_))
  | exact ih0 _ _ _ _
  | exact LeO.none _
  | refine LeO.ite ?_ ?_
  | refine LeO.bind ?_ (fun _ => ?_)
set_option maxHeartbeats 8000000 in
set_option maxRecDepth 100000 in
theorem mani_Words.calls (k : Nat) (a0_0 : Int) (A0_1 : Option Addr) (c0_1 : Nat) (l0_1 : List Int) (a0_2 : Int) (r : Int) (w : World) (hr0_1 : Kd.C (Kd.int .i64) w A0_1 l0_1.length l0_1) (hc0_1 : l0_1.length ≤ c0_1) (h : mani_Words.f k a0_0 l0_1 a0_2 = some r) :
 Calls Try.prog 87 #[.agg #[.int .u64 a0_0, .slice A0_1 l0_1.length c0_1, .int .u32 a0_2]] w fun e w' => e = .returned (.int .i64 r) ∧ Below w.heap.size w w' := by
 have hu26 := Try.underlying26
 have HR0_1 := Aside0.mk hr0_1
 have HC0_1 := Aside0.mk hc0_1
 clear hr0_1 hc0_1
 have HB := Aside0.mk (Below.refl w.heap.size w)
 have H : ((mani_Right.f a0_0 l0_1 a0_2).bind fun t102 => (if t102 = true then (mani_Words.l0 k 0 l0_1 (l0_1.length : Int) 0) else (some 0))) = some r := h
 clear h
 replace H := Option.bind_eq_some_iff.mp H
 obtain ⟨t102, A20, H⟩ := H
 replace H : (if t102 = true then (mani_Words.l0 k 0 l0_1 (l0_1.length : Int) 0) else (some 0)) = some r := H
 have A2 := Aside0.mk A20
 clear A20
 by_cases c3 : t102 = true
 · subst c3
   have H1 : (mani_Words.l0 k 0 l0_1 (l0_1.length : Int) 0) = some r := by rw [if_pos rfl] at H; exact H
   clear H
   have H := H1
   clear H1
   have H' := Aside0.mk H
   clear H
   go_enter Try.func87, Try.ntmps87
   go_wp2_with (first | ((with_reducible refine gate_dst (N := 1) rfl ?_); refine box_event ?hg (N := 1) ?hd (cs := #[.int .u64 a0_0, .slice A0_1 l0_1.length c0_1, .int .u32 a0_2]) (t := 26) ?hr ?_; (case hd => rfl); (case hg => rfl); (case hr => first | (go_simp; done) | (go_simp; rfl)); intro gb101 hg w4 hbox hb; have n0_ := Aside0.mk (below_step (by repeat (first | (with_reducible first | exact HB.out | apply below_alloc | apply pw_below_drewN | apply below_drew1) | exact HB.out)) hb); have n1_ := Aside0.mk (hbox); have n2_ := Aside0.mk ((by rw [hg]; exact (below_size (by repeat (first | (with_reducible first | exact HB.out | apply below_alloc | apply pw_below_drewN | apply below_drew1) | exact HB.out))) : w.heap.size ≤ gb101)); have n3_ := Aside0.mk ((by rw [hg]; exact (below_size (by repeat (first | (with_reducible first | exact HB.out | apply below_alloc | apply pw_below_drewN | apply below_drew1) | exact HB.out))) : w.heap.size ≤ gb101)); clear HB; have HB := n0_; have BK101 := n1_; have GW101 := n2_; have GE101 := n3_; clear n0_ n1_ n2_ n3_; clear hb hbox hg; have hcz5_0 : w4.cell? ⟨gb101, 0, none⟩ = some (.int .u64 a0_0) := (blk_cell BK101.out 0).trans rfl; have hcz5_1 : w4.cell? ⟨gb101, 1, none⟩ = some (.slice A0_1 l0_1.length c0_1) := (blk_cell BK101.out 1).trans rfl; have hcz5_2 : w4.cell? ⟨gb101, 2, none⟩ = some (.int .u32 a0_2) := (blk_cell BK101.out 2).trans rfl; have hfz5_0 := blk_frozen BK101.out 0; have hfz5_1 := blk_frozen BK101.out 1; have hfz5_2 := blk_frozen BK101.out 2) | ((with_reducible refine gate_callee (f := 54) rfl ?_); refine goesL_ (some 7) rfl rfl Try.func54 (by kernel_rfl) rfl #[.agg #[.int .u64 a0_0, .slice A0_1 l0_1.length c0_1, .int .u32 a0_2]] rfl (by (try simp only [List.map_toArray, List.map_cons, List.map_nil]); first | done | rfl | (simp only [List.length_drop, List.length_take]; rfl)) ?_; (with_reducible refine (mani_Right.calls a0_0 _ _ l0_1 a0_2 true _ ?side1 ?side2 A2.out).mono ?_); (case side1 => repeat (first | exact (Kd.C_below HR0_1.out HB.out) | (with_reducible refine Kd.C_alloc ?_ _) | (with_reducible refine Kd.C_drewN ?_ _) | (with_reducible refine Kd.C_drew ?_))); (case side2 => exact HC0_1.out); rintro e w6 ⟨rfl, hb⟩; refine ⟨_, rfl, ?_⟩; have n0_ := Aside0.mk (blk_below (g := gb101) (o := .cells #[.int .u64 a0_0, .slice A0_1 l0_1.length c0_1, .int .u32 a0_2] 26 (0, 0)) (by (with_reducible repeat (first | refine blk_drewN ?_ _ | refine blk_drew ?_ | refine blk_alloc ?_ _)); exact BK101.out) hb); have n1_ := Aside0.mk (below_step (by repeat (first | (with_reducible first | exact HB.out | apply below_alloc | apply pw_below_drewN | apply below_drew1 | refine below_set ?_ GE101.out) | exact HB.out)) hb); clear BK101; clear HB; have BK101 := n0_; have HB := n1_; clear n0_ n1_; (try clear hb); (try clear hb2); (try clear hk); (try clear hi); have hcz7_0 : w6.cell? ⟨gb101, 0, none⟩ = some (.int .u64 a0_0) := (blk_cell BK101.out 0).trans rfl; have hcz7_1 : w6.cell? ⟨gb101, 1, none⟩ = some (.slice A0_1 l0_1.length c0_1) := (blk_cell BK101.out 1).trans rfl; have hcz7_2 : w6.cell? ⟨gb101, 2, none⟩ = some (.int .u32 a0_2) := (blk_cell BK101.out 2).trans rfl; have hfz7_0 := blk_frozen BK101.out 0; have hfz7_1 := blk_frozen BK101.out 1; have hfz7_2 := blk_frozen BK101.out 2))
   go_loopg [3, 12] k (fun kq v3 v12 w' => ∃ (x3_1 : Int) (x12_1 : Int), v3 = .int .i64 x3_1 ∧ v12 = .int .i64 x12_1 ∧ Aside0 (mani_Words.l0 kq x3_1 l0_1 (l0_1.length : Int) x12_1 = some r) ∧ Aside0 (kq ≤ k) ∧ Aside0 (w'.heap[gb101]? = some (.cells #[.int .u64 a0_0, (.slice A0_1 l0_1.length c0_1), .int .u32 a0_2] 26 (0, 0))) ∧ Aside0 (Below w.heap.size w w'))
   case atStart => exact ⟨(0), (0), (by first | rfl | (simp; done) | (simp [*]; done)), (by first | rfl | (simp; done) | (simp [*]; done)), H', ⟨Nat.le_refl _⟩, ⟨by (with_reducible repeat (first | refine blk_drewN ?_ _ | refine blk_drew ?_ | refine blk_alloc ?_ _)); exact BK101.out⟩, ⟨by repeat (first | (with_reducible first | exact HB.out | apply below_alloc | apply pw_below_drewN | apply below_drew1 | refine below_set ?_ GE101.out) | exact HB.out)⟩⟩
   case round =>
    clear H'
    try clear p2
    try clear c3
    try clear c5
    try clear hcz5_0
    try clear hcz5_1
    try clear hcz5_2
    try clear hcz7_0
    try clear hcz7_1
    try clear hcz7_2
    try clear hfz5_0
    try clear hfz5_1
    try clear hfz5_2
    try clear hfz7_0
    try clear hfz7_1
    try clear hfz7_2
    obtain ⟨x3_1, x12_1, rfl, rfl, HA, HK1, BK101, HB⟩ := hrel
    cases gk with
    | zero => exact absurd HA.out (by simp [mani_Words.l0])
    | succ k1 =>
      have H := HA.out
      clear HA
      simp only [mani_Words.l0] at H
      by_cases c8 : x12_1 < (l0_1.length : Int)
      · rw [if_pos c8] at H
        have c8b0 : decide (x12_1 < (l0_1.length : Int)) = true := decide_eq_true c8
        clear c8
        by_cases c9 : 0 ≤ x12_1
        · rw [if_pos c9] at H
          have c9b0 : decide (0 ≤ x12_1) = true := decide_eq_true c9
          clear c9
          by_cases c10 : x12_1 < (l0_1.length : Int)
          · rw [if_pos c10] at H
            have c10b0 : decide (x12_1 < (l0_1.length : Int)) = true := decide_eq_true c10
            clear c10
            have H' := Aside0.mk H
            clear H
            have p103 : 0 ≤ (x12_1 : Int) := of_decide_eq_true (by first | (with_reducible assumption) | assumption)
            have q103 : x12_1 < (l0_1.length : Int) := of_decide_eq_true (by first | (with_reducible assumption) | assumption)
            obtain ⟨ad103, e103, hx103_0⟩ := Kd.at_int HR0_1.out x12_1 p103 q103
            cases e103
            replace hx103_0 := (HB.out.cell (World.block_lt_of_cell? w _ hx103_0)).trans hx103_0
            replace p103 := eq_true p103
            replace q103 := eq_true q103
            go_wp2
            go_roundg k1
            case measure => have := HK1.out; omega
            case rel => exact ⟨(wrap64 (x3_1 + (rd l0_1 x12_1))), (wrap64 (x12_1 + 1)), (by first | rfl | (simp; done) | (simp [*]; done)), (by first | rfl | (simp; done) | (simp [*]; done)), H', ⟨by have := HK1.out; omega⟩, ⟨by (with_reducible repeat (first | refine blk_drewN ?_ _ | refine blk_drew ?_ | refine blk_alloc ?_ _)); exact BK101.out⟩, ⟨by repeat (first | (with_reducible first | exact HB.out | apply below_alloc | apply pw_below_drewN | apply below_drew1 | refine below_set ?_ GE101.out) | exact HB.out)⟩⟩
          · rw [if_neg c10] at H
            exact absurd H (by simp)
        · rw [if_neg c9] at H
          exact absurd H (by simp)
      · rw [if_neg c8] at H
        have c8b0 : decide (x12_1 < (l0_1.length : Int)) = false := decide_eq_false c8
        clear c8
        obtain rfl := Option.some.inj H
        go_wp2
        go_ret
        exact ⟨by first | rfl | (simp [errW_none, errW_some] <;> rfl) | (simp [*, errW_none, errW_some] <;> rfl), by repeat (first | (with_reducible first | exact HB.out | apply below_alloc | apply pw_below_drewN | apply below_drew1 | refine below_set ?_ GE101.out) | exact HB.out)⟩
 · replace c3 := Bool.eq_false_iff.mpr c3
   subst c3
   have H1 : (some 0) = some r := by rw [if_neg (show ¬ (false = true) by decide)] at H; exact H
   clear H
   have H := H1
   clear H1
   obtain rfl := Option.some.inj H
   go_enter Try.func87, Try.ntmps87
   go_wp2_with (first | ((with_reducible refine gate_dst (N := 1) rfl ?_); refine box_event ?hg (N := 1) ?hd (cs := #[.int .u64 a0_0, .slice A0_1 l0_1.length c0_1, .int .u32 a0_2]) (t := 26) ?hr ?_; (case hd => rfl); (case hg => rfl); (case hr => first | (go_simp; done) | (go_simp; rfl)); intro gb101 hg w11 hbox hb; have n0_ := Aside0.mk (below_step (by repeat (first | (with_reducible first | exact HB.out | apply below_alloc | apply pw_below_drewN | apply below_drew1) | exact HB.out)) hb); have n1_ := Aside0.mk (hbox); have n2_ := Aside0.mk ((by rw [hg]; exact (below_size (by repeat (first | (with_reducible first | exact HB.out | apply below_alloc | apply pw_below_drewN | apply below_drew1) | exact HB.out))) : w.heap.size ≤ gb101)); have n3_ := Aside0.mk ((by rw [hg]; exact (below_size (by repeat (first | (with_reducible first | exact HB.out | apply below_alloc | apply pw_below_drewN | apply below_drew1) | exact HB.out))) : w.heap.size ≤ gb101)); clear HB; have HB := n0_; have BK101 := n1_; have GW101 := n2_; have GE101 := n3_; clear n0_ n1_ n2_ n3_; clear hb hbox hg; have hcz12_0 : w11.cell? ⟨gb101, 0, none⟩ = some (.int .u64 a0_0) := (blk_cell BK101.out 0).trans rfl; have hcz12_1 : w11.cell? ⟨gb101, 1, none⟩ = some (.slice A0_1 l0_1.length c0_1) := (blk_cell BK101.out 1).trans rfl; have hcz12_2 : w11.cell? ⟨gb101, 2, none⟩ = some (.int .u32 a0_2) := (blk_cell BK101.out 2).trans rfl; have hfz12_0 := blk_frozen BK101.out 0; have hfz12_1 := blk_frozen BK101.out 1; have hfz12_2 := blk_frozen BK101.out 2) | ((with_reducible refine gate_callee (f := 54) rfl ?_); refine goesL_ (some 7) rfl rfl Try.func54 (by kernel_rfl) rfl #[.agg #[.int .u64 a0_0, .slice A0_1 l0_1.length c0_1, .int .u32 a0_2]] rfl (by (try simp only [List.map_toArray, List.map_cons, List.map_nil]); first | done | rfl | (simp only [List.length_drop, List.length_take]; rfl)) ?_; (with_reducible refine (mani_Right.calls a0_0 _ _ l0_1 a0_2 false _ ?side1 ?side2 A2.out).mono ?_); (case side1 => repeat (first | exact (Kd.C_below HR0_1.out HB.out) | (with_reducible refine Kd.C_alloc ?_ _) | (with_reducible refine Kd.C_drewN ?_ _) | (with_reducible refine Kd.C_drew ?_))); (case side2 => exact HC0_1.out); rintro e w13 ⟨rfl, hb⟩; refine ⟨_, rfl, ?_⟩; have n0_ := Aside0.mk (blk_below (g := gb101) (o := .cells #[.int .u64 a0_0, .slice A0_1 l0_1.length c0_1, .int .u32 a0_2] 26 (0, 0)) (by (with_reducible repeat (first | refine blk_drewN ?_ _ | refine blk_drew ?_ | refine blk_alloc ?_ _)); exact BK101.out) hb); have n1_ := Aside0.mk (below_step (by repeat (first | (with_reducible first | exact HB.out | apply below_alloc | apply pw_below_drewN | apply below_drew1 | refine below_set ?_ GE101.out) | exact HB.out)) hb); clear BK101; clear HB; have BK101 := n0_; have HB := n1_; clear n0_ n1_; (try clear hb); (try clear hb2); (try clear hk); (try clear hi)))
   go_ret
   exact ⟨by first | rfl | (simp [errW_none, errW_some] <;> rfl) | (simp [*, errW_none, errW_some] <;> rfl), by repeat (first | (with_reducible first | exact HB.out | apply below_alloc | apply pw_below_drewN | apply below_drew1 | refine below_set ?_ GE101.out) | exact HB.out)⟩

end Go.Proofs.Ytbijnfhcbanhdaa.F
end

section
namespace Go.Proofs.Ytbijnfhcbanhdaa.F
open Go.RowKit Go.Proofs.YtbijnfhcbanhdaaW.PrintWords Go.Proofs.YtbijnfhcbanhdaaW.PrintLast Go.Proofs.YtbijnfhcbanhdaaW.PrintMore
attribute [local go_sem] max2_int min2_int max_two min_two max_three min_three max_four min_four   -- for this text's walks alone
set_option linter.unusedVariables false
set_option linter.unusedSimpArgs false

open Go.Proofs.Ytbijnfhcbanhdaa.H
def mani_Words_c.f (a0_0 : Int) (l0_1 : List Int) (a0_2 : Int) : Option Int := some (wordsM l0_1)
theorem mani_Words.l0_to (l : List Int) (hf : fitsB l = true) : ∀ (d i : Nat), l.length - i = d → i ≤ l.length → ∃ k, mani_Words.l0 k (l.take i).sum l (l.length : Int) (i : Int) = some l.sum
 | 0, i, hd, hi => ⟨1, by rw [mani_Words.l0, if_neg (by omega), List.take_of_length_le (by omega)]⟩
 | d + 1, i, hd, hi => by
   have hfit := fitsB_at hf
   have hlt : i < l.length := by omega
   obtain ⟨k, hk⟩ := mani_Words.l0_to l hf d (i + 1) (by omega) (by omega)
   refine ⟨k + 1, ?_⟩
   have h1 := sum_take_le hfit.2.2.2.1 (i + 1)
   have h2 := sum_nonneg' (l := l.take (i + 1)) (fun y hy => hfit.2.2.2.1 y (List.mem_of_mem_take hy))
   rw [sum_take_succ l i hlt] at hk h1 h2
   rw [mani_Words.l0, if_pos (by omega), if_pos (by omega), if_pos (by omega), show rd l (i : Int) = l[i] from getD_toNat l 0 i hlt, show wrap64 ((l.take i).sum + l[i]) = (l.take i).sum + l[i] from by unfold wrap64; omega, show wrap64 ((i : Int) + 1) = ((i + 1 : Nat) : Int) from by unfold wrap64; omega]
   exact hk
theorem mani_Words_c.to {a0_0 : Int} {l0_1 : List Int} {a0_2 : Int} {r : Int} (h : mani_Words_c.f a0_0 l0_1 a0_2 = some r) : ∃ k, mani_Words.f k a0_0 l0_1 a0_2 = some r := by
 obtain rfl := Option.some.inj h
 by_cases hf : fitsB l0_1 = true
 · obtain ⟨k, hk⟩ := mani_Words.l0_to l0_1 hf l0_1.length 0 (by omega) (by omega)
   refine ⟨k, ?_⟩
   rw [mani_Words.f, mani_Right.f, arena_Fits_c.f, Option.bind_some, Option.bind_some, if_pos hf, wordsM, if_pos hf]
   exact hk
 · refine ⟨0, ?_⟩
   rw [mani_Words.f, mani_Right.f, arena_Fits_c.f, Option.bind_some, Option.bind_some, if_neg hf, wordsM, if_neg hf]

theorem mani_Words_c.calls (a0_0 : Int) (A0_1 : Option Addr) (c0_1 : Nat) (l0_1 : List Int) (a0_2 : Int) (r : Int) (w : World) (hr0_1 : Kd.C (Kd.int .i64) w A0_1 l0_1.length l0_1) (hc0_1 : l0_1.length ≤ c0_1) (h : mani_Words_c.f a0_0 l0_1 a0_2 = some r) :
 Calls Try.prog 87 #[.agg #[.int .u64 a0_0, .slice A0_1 l0_1.length c0_1, .int .u32 a0_2]] w fun e w' => e = .returned (.int .i64 r) ∧ Below w.heap.size w w' := by
 obtain ⟨k_, hk_⟩ := mani_Words_c.to h
 exact mani_Words.calls k_ a0_0 A0_1 c0_1 l0_1 a0_2 r w hr0_1 hc0_1 hk_

end Go.Proofs.Ytbijnfhcbanhdaa.F
end

section
namespace Go.Proofs.Ytbijnfhcbanhdaa.F
open Go.RowKit Go.Proofs.YtbijnfhcbanhdaaW.PrintWords Go.Proofs.YtbijnfhcbanhdaaW.PrintLast Go.Proofs.YtbijnfhcbanhdaaW.PrintMore
attribute [local go_sem] max2_int min2_int max_two min_two max_three min_three max_four min_four   -- for this text's walks alone
set_option linter.unusedVariables false
set_option linter.unusedSimpArgs false

/-! ### mani_Chunks: function 56 -/
def mani_Chunks.f (a0_0 : Int) (l0_1 : List Int) (a0_2 : Int) : Option (Int) := (mani_Words_c.f a0_0 l0_1 a0_2).bind fun t102 => ((word_Ceil.f t102 8).bind fun t103 => (some t103))
set_option maxHeartbeats 8000000 in
set_option maxRecDepth 100000 in
theorem mani_Chunks.calls (a0_0 : Int) (A0_1 : Option Addr) (c0_1 : Nat) (l0_1 : List Int) (a0_2 : Int) (r : Int) (w : World) (hr0_1 : Kd.C (Kd.int .i64) w A0_1 l0_1.length l0_1) (hc0_1 : l0_1.length ≤ c0_1) (h : mani_Chunks.f a0_0 l0_1 a0_2 = some r) :
 Calls Try.prog 56 #[.agg #[.int .u64 a0_0, .slice A0_1 l0_1.length c0_1, .int .u32 a0_2]] w fun e w' => e = .returned (.int .i64 r) ∧ Below w.heap.size w w' := by
 have hu26 := Try.underlying26
 have HR0_1 := Aside0.mk hr0_1
 have HC0_1 := Aside0.mk hc0_1
 clear hr0_1 hc0_1
 have HB := Aside0.mk (Below.refl w.heap.size w)
 have H : ((mani_Words_c.f a0_0 l0_1 a0_2).bind fun t102 => ((word_Ceil.f t102 8).bind fun t103 => (some t103))) = some r := h
 clear h
 replace H := Option.bind_eq_some_iff.mp H
 obtain ⟨t102, A20, H⟩ := H
 replace H : ((word_Ceil.f t102 8).bind fun t103 => (some t103)) = some r := H
 have A2 := Aside0.mk A20
 clear A20
 replace H := Option.bind_eq_some_iff.mp H
 obtain ⟨t103, A30, H⟩ := H
 replace H : (some t103) = some r := H
 have A3 := Aside0.mk A30
 clear A30
 obtain rfl := Option.some.inj H
 go_enter Try.func56, Try.ntmps56
 go_wp2_with (first | ((with_reducible refine gate_dst (N := 1) rfl ?_); refine box_event ?hg (N := 1) ?hd (cs := #[.int .u64 a0_0, .slice A0_1 l0_1.length c0_1, .int .u32 a0_2]) (t := 26) ?hr ?_; (case hd => rfl); (case hg => rfl); (case hr => first | (go_simp; done) | (go_simp; rfl)); intro gb101 hg w4 hbox hb; have n0_ := Aside0.mk (below_step (by repeat (first | (with_reducible first | exact HB.out | apply below_alloc | apply pw_below_drewN | apply below_drew1) | exact HB.out)) hb); have n1_ := Aside0.mk (hbox); have n2_ := Aside0.mk ((by rw [hg]; exact (below_size (by repeat (first | (with_reducible first | exact HB.out | apply below_alloc | apply pw_below_drewN | apply below_drew1) | exact HB.out))) : w.heap.size ≤ gb101)); have n3_ := Aside0.mk ((by rw [hg]; exact (below_size (by repeat (first | (with_reducible first | exact HB.out | apply below_alloc | apply pw_below_drewN | apply below_drew1) | exact HB.out))) : w.heap.size ≤ gb101)); clear HB; have HB := n0_; have BK101 := n1_; have GW101 := n2_; have GE101 := n3_; clear n0_ n1_ n2_ n3_; clear hb hbox hg; have hcz5_0 : w4.cell? ⟨gb101, 0, none⟩ = some (.int .u64 a0_0) := (blk_cell BK101.out 0).trans rfl; have hcz5_1 : w4.cell? ⟨gb101, 1, none⟩ = some (.slice A0_1 l0_1.length c0_1) := (blk_cell BK101.out 1).trans rfl; have hcz5_2 : w4.cell? ⟨gb101, 2, none⟩ = some (.int .u32 a0_2) := (blk_cell BK101.out 2).trans rfl; have hfz5_0 := blk_frozen BK101.out 0; have hfz5_1 := blk_frozen BK101.out 1; have hfz5_2 := blk_frozen BK101.out 2) | ((with_reducible refine gate_callee (f := 87) rfl ?_); refine goesL_ (some 4) rfl rfl Try.func87 (by kernel_rfl) rfl #[.agg #[.int .u64 a0_0, .slice A0_1 l0_1.length c0_1, .int .u32 a0_2]] rfl (by (try simp only [List.map_toArray, List.map_cons, List.map_nil]); first | done | rfl | (simp only [List.length_drop, List.length_take]; rfl)) ?_; (with_reducible refine (mani_Words_c.calls a0_0 _ _ l0_1 a0_2 t102 _ ?side1 ?side2 A2.out).mono ?_); (case side1 => repeat (first | exact (Kd.C_below HR0_1.out HB.out) | (with_reducible refine Kd.C_alloc ?_ _) | (with_reducible refine Kd.C_drewN ?_ _) | (with_reducible refine Kd.C_drew ?_))); (case side2 => exact HC0_1.out); rintro e w6 ⟨rfl, hb⟩; refine ⟨_, rfl, ?_⟩; have n0_ := Aside0.mk (blk_below (g := gb101) (o := .cells #[.int .u64 a0_0, .slice A0_1 l0_1.length c0_1, .int .u32 a0_2] 26 (0, 0)) (by (with_reducible repeat (first | refine blk_drewN ?_ _ | refine blk_drew ?_ | refine blk_alloc ?_ _)); exact BK101.out) hb); have n1_ := Aside0.mk (below_step (by repeat (first | (with_reducible first | exact HB.out | apply below_alloc | apply pw_below_drewN | apply below_drew1 | refine below_set ?_ GE101.out) | exact HB.out)) hb); clear BK101; clear HB; have BK101 := n0_; have HB := n1_; clear n0_ n1_; (try clear hb); (try clear hb2); (try clear hk); (try clear hi)) | ((with_reducible refine gate_callee (f := 86) rfl ?_); refine goesL_ (some 5) rfl rfl Try.func86 (by kernel_rfl) rfl #[.int .i64 t102, .int .i64 8] rfl (by (try simp only [List.map_toArray, List.map_cons, List.map_nil]); first | done | rfl | (simp only [List.length_drop, List.length_take]; rfl)) ?_; (with_reducible refine (word_Ceil.calls t102 8 t103 _ A3.out).mono ?_); rintro e w' ⟨rfl, ⟨nd, rfl⟩⟩; refine ⟨_, rfl, ?_⟩))
 go_ret
 exact ⟨by first | rfl | (simp [errW_none, errW_some] <;> rfl) | (simp [*, errW_none, errW_some] <;> rfl), by repeat (first | (with_reducible first | exact HB.out | apply below_alloc | apply pw_below_drewN | apply below_drew1 | refine below_set ?_ GE101.out) | exact HB.out)⟩

end Go.Proofs.Ytbijnfhcbanhdaa.F
end

section
namespace Go.Proofs.Ytbijnfhcbanhdaa.F
open Go.RowKit Go.Proofs.YtbijnfhcbanhdaaW.PrintWords Go.Proofs.YtbijnfhcbanhdaaW.PrintLast Go.Proofs.YtbijnfhcbanhdaaW.PrintMore
attribute [local go_sem] max2_int min2_int max_two min_two max_three min_three max_four min_four   -- for this text's walks alone
set_option linter.unusedVariables false
set_option linter.unusedSimpArgs false

/-! ### bits_Make: function 85 -/
def bits_Make.f (a0 : Int) : Option (List Int) := (word_Ceil.f (mx 0 (mn a0 65536)) 8).bind fun t101 => (if 0 ≤ t101 then (if (t101 : Int).toNat ≤ 281474976710656 then (some (List.replicate (t101 : Int).toNat 0)) else (none)) else (none))
set_option maxHeartbeats 8000000 in
set_option maxRecDepth 100000 in
theorem bits_Make.calls (a0 : Int) (r : List Int) (w : World) (h : bits_Make.f a0 = some r) :
 Calls Try.prog 85 #[.int .i64 a0] w fun e w' => ∃ v0_ : Value, e = .returned (v0_) ∧ Kd.R (Kd.int .u8) 5 w' w.heap.size (fun _ => True) v0_ r ∧ Below w.heap.size w w' := by
 have HB := Aside0.mk (Below.refl w.heap.size w)
 have H : ((word_Ceil.f (mx 0 (mn a0 65536)) 8).bind fun t101 => (if 0 ≤ t101 then (if (t101 : Int).toNat ≤ 281474976710656 then (some (List.replicate (t101 : Int).toNat 0)) else (none)) else (none))) = some r := h
 clear h
 obtain ⟨ji2, hji2⟩ : ∃ j_ : Int, (mn a0 65536) = j_ := ⟨_, rfl⟩
 replace H : ((word_Ceil.f (mx 0 (ji2)) 8).bind fun t101 => (if 0 ≤ t101 then (if (t101 : Int).toNat ≤ 281474976710656 then (some (List.replicate (t101 : Int).toNat 0)) else (none)) else (none))) = some r := by first | (rw [hji2] at H; exact H) | (simp only [hji2] at H ⊢; exact H)
 (try (have hji2h : ji2 ≤ 65536 := by (rw [← hji2]; unfold mn; (repeat' split) <;> omega)))
 (try (have hji2g : ji2 ≤ 64 := by omega))
 have hji2_ : (if 65536 < a0 then 65536 else a0) = ji2 := hji2
 obtain ⟨ji3, hji3⟩ : ∃ j_ : Int, (mx 0 (ji2)) = j_ := ⟨_, rfl⟩
 replace H : ((word_Ceil.f (ji3) 8).bind fun t101 => (if 0 ≤ t101 then (if (t101 : Int).toNat ≤ 281474976710656 then (some (List.replicate (t101 : Int).toNat 0)) else (none)) else (none))) = some r := by first | (rw [hji3] at H; exact H) | (simp only [hji3] at H ⊢; exact H)
 have hji3_ : (if 0 < (ji2) then (ji2) else 0) = ji3 := hji3
 replace H := Option.bind_eq_some_iff.mp H
 obtain ⟨t101, A40, H⟩ := H
 replace H : (if 0 ≤ t101 then (if (t101 : Int).toNat ≤ 281474976710656 then (some (List.replicate (t101 : Int).toNat 0)) else (none)) else (none)) = some r := H
 have A4 := Aside0.mk A40
 clear A40
 by_cases c5 : 0 ≤ t101
 · rw [if_pos c5] at H
   have c5b0 := eq_true c5
   have c5b1 : decide (0 ≤ t101) = true := decide_eq_true c5
   clear c5
   by_cases c6 : (t101 : Int).toNat ≤ 281474976710656
   · rw [if_pos c6] at H
     have c6b0 := eq_true c6
     have c6b1 : decide ((t101 : Int).toNat ≤ 281474976710656) = true := decide_eq_true c6
     clear c6
     obtain ⟨y102, hy102⟩ : ∃ y_ : List Int, y_ = (List.replicate (t101 : Int).toNat 0) := ⟨_, rfl⟩
     replace H : (some y102) = some r := by first | (rw [hy102]; with_reducible exact H) | (have H2_ := (Option.bind_some _ _).symm.trans H; rw [hy102]; with_reducible exact H2_) | (have H2_ := (Option.bind_some _ _).symm.trans H; with_reducible exact H2_) | with_reducible exact H | (rw [hy102]; exact H) | exact H
     have Ny102 := Aside0.mk hy102
     clear hy102
     obtain rfl := Option.some.inj H
     go_enter Try.func85, Try.ntmps85
     go_wp2_with (first | ((with_reducible refine gate_callee (f := 86) rfl ?_); refine goesL_ (some 6) rfl rfl Try.func86 (by kernel_rfl) rfl #[.int .i64 ji3, .int .i64 8] rfl (by (try simp only [List.map_toArray, List.map_cons, List.map_nil]); first | done | (simp only [hji3]; rfl) | rfl | (simp only [List.length_drop, List.length_take]; rfl)) ?_; (with_reducible refine (word_Ceil.calls ji3 8 t101 _ A4.out).mono ?_); rintro e w' ⟨rfl, ⟨nd, rfl⟩⟩; refine ⟨_, rfl, ?_⟩) | ((with_reducible refine gate_dst (N := 7) rfl ?_); refine Kd.R_make (Kd.int .u8) _ 5 rfl (N := 7) rfl 27 _ _ rfl t101 rfl rfl Try.underlying27 (.int .u8 0) 1 info5 rfl (by decide) (by omega) 0 (ok := fun _ => True) (okp := fun _ => True) rfl (fun _ hk => hk) trivial (of_decide_eq_true (by first | (with_reducible assumption) | assumption)) (Nat.le_trans (Nat.mul_le_mul_right _ (of_decide_eq_true (by first | (with_reducible assumption) | assumption) : t101.toNat ≤ 281474976710656)) (by omega)) (Below.refl _ _) (Nat.le_refl _) ?_; intro v103 w7 ho8 hb hg_ hnew_; clear hg_ hnew_; (first | rw [← Ny102.out] at ho8 | (simp only [Int.reduceToNat] at ho8; rw [← Ny102.out] at ho8)); have n0_ := Aside0.mk (Kd.R_lower ho8 (below_size (by repeat (first | (with_reducible first | exact HB.out | apply below_alloc | apply pw_below_drewN | apply below_drew1) | exact HB.out)))); have n1_ := Aside0.mk (below_step (by repeat (first | (with_reducible first | exact HB.out | apply below_alloc | apply pw_below_drewN | apply below_drew1) | exact HB.out)) hb); clear HB; have HO104 := n0_; have HB := n1_; clear n0_ n1_; clear hb ho8))
     go_ret
     exact ⟨_, by first | rfl | (simp [errW_none, errW_some] <;> rfl) | (simp only [← hji2, ← hji3]; first | rfl | (simp [errW_none, errW_some] <;> rfl)) | (simp [*, errW_none, errW_some] <;> rfl), by (with_reducible repeat (first | apply Kd.R_alloc | apply Kd.R_drewN | apply Kd.R_drew)); exact HO104.out, by repeat (first | (with_reducible first | exact HB.out | apply below_alloc | apply pw_below_drewN | apply below_drew1) | exact HB.out)⟩
   · rw [if_neg c6] at H
     exact absurd H (by simp)
 · rw [if_neg c5] at H
   exact absurd H (by simp)

end Go.Proofs.Ytbijnfhcbanhdaa.F
end

section
namespace Go.Proofs.Ytbijnfhcbanhdaa.F
open Go.RowKit Go.Proofs.YtbijnfhcbanhdaaW.PrintWords Go.Proofs.YtbijnfhcbanhdaaW.PrintLast Go.Proofs.YtbijnfhcbanhdaaW.PrintMore
attribute [local go_sem] max2_int min2_int max_two min_two max_three min_three max_four min_four   -- for this text's walks alone
set_option linter.unusedVariables false
set_option linter.unusedSimpArgs false

/-! ### bits_Right: function 55 -/
def bits_Right.f (l0 : List Int) (a1 : Int) : Option (Bool) := if a1 < 0 then (some false) else (if a1 > 65536 then (some false) else ((bits_Make.f a1).bind fun t101 => (if (l0.length : Int) = (t101.length : Int) then (if (Int.tmod a1 8) = 0 then (some true) else (if 0 ≤ (wrap64 ((l0.length : Int) - 1)) then (if (wrap64 ((l0.length : Int) - 1)) < (l0.length : Int) then (if 0 ≤ (Int.tmod a1 8) then (some ((shr .u8 (rd l0 (wrap64 ((l0.length : Int) - 1))) (Int.tmod a1 8)) == 0)) else (none)) else (none)) else (none))) else (some false))))
set_option maxHeartbeats 8000000 in
set_option maxRecDepth 100000 in
theorem bits_Right.calls (A0 : Option Addr) (c0 : Nat) (l0 : List Int) (a1 : Int) (r : Bool) (w : World) (hr0 : Kd.C (Kd.int .u8) w A0 l0.length l0) (hc0 : l0.length ≤ c0) (h : bits_Right.f l0 a1 = some r) :
 Calls Try.prog 55 #[.slice A0 l0.length c0, .int .i64 a1] w fun e w' => e = .returned (.bool r) ∧ Below w.heap.size w w' := by
 have HR0 := Aside0.mk hr0
 have HC0 := Aside0.mk hc0
 clear hr0 hc0
 have HB := Aside0.mk (Below.refl w.heap.size w)
 have H : (if a1 < 0 then (some false) else (if a1 > 65536 then (some false) else ((bits_Make.f a1).bind fun t101 => (if (l0.length : Int) = (t101.length : Int) then (if (Int.tmod a1 8) = 0 then (some true) else (if 0 ≤ (wrap64 ((l0.length : Int) - 1)) then (if (wrap64 ((l0.length : Int) - 1)) < (l0.length : Int) then (if 0 ≤ (Int.tmod a1 8) then (some ((shr .u8 (rd l0 (wrap64 ((l0.length : Int) - 1))) (Int.tmod a1 8)) == 0)) else (none)) else (none)) else (none))) else (some false))))) = some r := h
 clear h
 by_cases c3 : a1 < 0
 · rw [if_pos c3] at H
   have c3b0 : decide (a1 < 0) = true := decide_eq_true c3
   clear c3
   obtain rfl := Option.some.inj H
   go_enter Try.func55, Try.ntmps55
   go_wp2
   go_ret
   exact ⟨by first | rfl | (simp [errW_none, errW_some] <;> rfl) | (simp [*, errW_none, errW_some] <;> rfl), by repeat (first | (with_reducible first | exact HB.out | apply below_alloc | apply pw_below_drewN | apply below_drew1) | exact HB.out)⟩
 · rw [if_neg c3] at H
   have c3b0 : decide (a1 < 0) = false := decide_eq_false c3
   clear c3
   by_cases c4 : a1 > 65536
   · rw [if_pos c4] at H
     have c4b0 : decide (65536 < a1) = true := decide_eq_true c4
     clear c4
     obtain rfl := Option.some.inj H
     go_enter Try.func55, Try.ntmps55
     go_wp2
     go_ret
     exact ⟨by first | rfl | (simp [errW_none, errW_some] <;> rfl) | (simp [*, errW_none, errW_some] <;> rfl), by repeat (first | (with_reducible first | exact HB.out | apply below_alloc | apply pw_below_drewN | apply below_drew1) | exact HB.out)⟩
   · rw [if_neg c4] at H
     have c4b0 : decide (65536 < a1) = false := decide_eq_false c4
     clear c4
     replace H := Option.bind_eq_some_iff.mp H
     obtain ⟨t101, A50, H⟩ := H
     replace H : (if (l0.length : Int) = (t101.length : Int) then (if (Int.tmod a1 8) = 0 then (some true) else (if 0 ≤ (wrap64 ((l0.length : Int) - 1)) then (if (wrap64 ((l0.length : Int) - 1)) < (l0.length : Int) then (if 0 ≤ (Int.tmod a1 8) then (some ((shr .u8 (rd l0 (wrap64 ((l0.length : Int) - 1))) (Int.tmod a1 8)) == 0)) else (none)) else (none)) else (none))) else (some false)) = some r := H
     have A5 := Aside0.mk A50
     clear A50
     by_cases c6 : (l0.length : Int) = (t101.length : Int)
     · rw [if_pos c6] at H
       have c6b0 : ((l0.length : Int) == (t101.length : Int)) = true := beq_iff_eq.mpr c6
       have c6b1 : ((l0.length : Int) != (t101.length : Int)) = false := bne_eq_false_iff_eq.mpr c6
       have c6b2 : (l0.length == t101.length) = true := by first | simpa using c6 | (simp at c6 ⊢; omega)
       clear c6
       by_cases c7 : (Int.tmod a1 8) = 0
       · rw [if_pos c7] at H
         have c7b0 : ((Int.tmod a1 8) == 0) = true := beq_iff_eq.mpr c7
         have c7b1 : ((Int.tmod a1 8) != 0) = false := bne_eq_false_iff_eq.mpr c7
         clear c7
         obtain rfl := Option.some.inj H
         go_enter Try.func55, Try.ntmps55
         go_wp2_with (first | (go_at_call 85; (with_reducible refine (bits_Make.calls a1 t101 _ A5.out).mono ?_); rintro e w8 ⟨v102, rfl, ho0, hb⟩; have n0_ := Aside0.mk (Kd.R_lower ho0 (below_size (by repeat (first | (with_reducible first | exact HB.out | apply below_alloc | apply pw_below_drewN | apply below_drew1) | exact HB.out)))); have n1_ := Aside0.mk (below_step (by repeat (first | (with_reducible first | exact HB.out | apply below_alloc | apply pw_below_drewN | apply below_drew1) | exact HB.out)) hb); clear HB; have HO103 := n0_; have HB := n1_; clear n0_ n1_; (try clear hb); (try clear hb2); (try clear hk); (try clear hi); (try clear ho0); obtain ⟨Ao9, co9, eo9⟩ := Kd.R_slice HO103.out; subst eo9))
         go_ret
         exact ⟨by first | rfl | (simp [errW_none, errW_some] <;> rfl) | (simp [*, errW_none, errW_some] <;> rfl), by repeat (first | (with_reducible first | exact HB.out | apply below_alloc | apply pw_below_drewN | apply below_drew1) | exact HB.out)⟩
       · rw [if_neg c7] at H
         have c7b0 : ((Int.tmod a1 8) == 0) = false := beq_eq_false_iff_ne.mpr c7
         have c7b1 : ((Int.tmod a1 8) != 0) = true := bne_iff_ne.mpr c7
         obtain ⟨ji10, hji10⟩ : ∃ j_ : Int, (wrap64 ((l0.length : Int) - 1)) = j_ := ⟨_, rfl⟩
         replace H : (if 0 ≤ (ji10) then (if (ji10) < (l0.length : Int) then (if 0 ≤ (Int.tmod a1 8) then (some ((shr .u8 (rd l0 (ji10)) (Int.tmod a1 8)) == 0)) else (none)) else (none)) else (none)) = some r := by first | (rw [hji10] at H; exact H) | (simp only [hji10] at H ⊢; exact H)
         (try rw [hji10] at A5)
         have hji10w : (IntKind.i64.wrap ((l0.length : Int) - 1)) = ji10 := (i64_w _).trans hji10
         by_cases c11 : 0 ≤ (ji10)
         · rw [if_pos c11] at H
           have c11b0 : decide (0 ≤ (ji10)) = true := decide_eq_true c11
           clear c11
           by_cases c12 : (ji10) < (l0.length : Int)
           · rw [if_pos c12] at H
             have c12b0 : decide ((ji10) < (l0.length : Int)) = true := decide_eq_true c12
             clear c12
             obtain ⟨ji13, hji13⟩ : ∃ j_ : Int, (Int.tmod a1 8) = j_ := ⟨_, rfl⟩
             replace H : (if 0 ≤ (ji13) then (some ((shr .u8 (rd l0 (ji10)) (ji13)) == 0)) else (none)) = some r := by first | (rw [hji13] at H; exact H) | (simp only [hji13] at H ⊢; exact H)
             (try rw [hji13] at c7b0)
             (try rw [hji13] at c7b1)
             (try rw [hji13] at A5)
             by_cases c14 : 0 ≤ (ji13)
             · rw [if_pos c14] at H
               have c14b0 := eq_true c14
               have c14b1 : decide (0 ≤ (ji13)) = true := decide_eq_true c14
               clear c14
               obtain ⟨ji15, hji15⟩ : ∃ j_ : Int, (shr .u8 (rd l0 (ji10)) (ji13)) = j_ := ⟨_, rfl⟩
               replace H : (some ((ji15) == 0)) = some r := by first | (rw [hji15] at H; exact H) | (simp only [hji15] at H ⊢; exact H)
               (try rw [hji15] at A5)
               have hji15_ : ((rd l0 (ji10)) / 2 ^ min (ji13).toNat 8) = ji15 := hji15
               have hji15z : (ji13) ≤ 8 → ((rd l0 (ji10)) / 2 ^ (ji13).toNat) = ji15 := shr_small hji15
               obtain rfl := Option.some.inj H
               go_enter Try.func55, Try.ntmps55
               go_wp2_with (first | (go_at_call 85; (with_reducible refine (bits_Make.calls a1 t101 _ A5.out).mono ?_); rintro e w16 ⟨v102, rfl, ho0, hb⟩; have n0_ := Aside0.mk (Kd.R_lower ho0 (below_size (by repeat (first | (with_reducible first | exact HB.out | apply below_alloc | apply pw_below_drewN | apply below_drew1) | exact HB.out)))); have n1_ := Aside0.mk (below_step (by repeat (first | (with_reducible first | exact HB.out | apply below_alloc | apply pw_below_drewN | apply below_drew1) | exact HB.out)) hb); clear HB; have HO103 := n0_; have HB := n1_; clear n0_ n1_; (try clear hb); (try clear hb2); (try clear hk); (try clear hi); (try clear ho0); obtain ⟨Ao17, co17, eo17⟩ := Kd.R_slice HO103.out; subst eo17; have p104 : 0 ≤ ((ji10) : Int) := of_decide_eq_true (by first | (with_reducible assumption) | assumption); have q104 : (ji10) < (l0.length : Int) := of_decide_eq_true (by first | (with_reducible assumption) | assumption); obtain ⟨ad104, e104, hx104_0⟩ := Kd.at_int HR0.out (ji10) p104 q104; cases e104; replace hx104_0 := (HB.out.cell (World.block_lt_of_cell? w _ hx104_0)).trans hx104_0; replace p104 := eq_true p104; replace q104 := eq_true q104))
               go_ret
               exact ⟨by first | rfl | (simp [errW_none, errW_some] <;> rfl) | (simp only [← hji10, ← hji13, ← hji15]; first | rfl | (simp [errW_none, errW_some] <;> rfl)) | (simp [*, errW_none, errW_some] <;> rfl), by repeat (first | (with_reducible first | exact HB.out | apply below_alloc | apply pw_below_drewN | apply below_drew1) | exact HB.out)⟩
             · rw [if_neg c14] at H
               exact absurd H (by simp)
           · rw [if_neg c12] at H
             exact absurd H (by simp)
         · rw [if_neg c11] at H
           exact absurd H (by simp)
     · rw [if_neg c6] at H
       have c6b0 : ((l0.length : Int) == (t101.length : Int)) = false := beq_eq_false_iff_ne.mpr c6
       have c6b1 : ((l0.length : Int) != (t101.length : Int)) = true := bne_iff_ne.mpr c6
       have c6b2 : (l0.length == t101.length) = false := by first | simpa using c6 | (simp at c6 ⊢; omega)
       obtain rfl := Option.some.inj H
       go_enter Try.func55, Try.ntmps55
       go_wp2_with (first | (go_at_call 85; (with_reducible refine (bits_Make.calls a1 t101 _ A5.out).mono ?_); rintro e w18 ⟨v102, rfl, ho0, hb⟩; have n0_ := Aside0.mk (Kd.R_lower ho0 (below_size (by repeat (first | (with_reducible first | exact HB.out | apply below_alloc | apply pw_below_drewN | apply below_drew1) | exact HB.out)))); have n1_ := Aside0.mk (below_step (by repeat (first | (with_reducible first | exact HB.out | apply below_alloc | apply pw_below_drewN | apply below_drew1) | exact HB.out)) hb); clear HB; have HO103 := n0_; have HB := n1_; clear n0_ n1_; (try clear hb); (try clear hb2); (try clear hk); (try clear hi); (try clear ho0); obtain ⟨Ao19, co19, eo19⟩ := Kd.R_slice HO103.out; subst eo19))
       go_ret
       exact ⟨by first | rfl | (simp [errW_none, errW_some] <;> rfl) | (simp [*, errW_none, errW_some] <;> rfl), by repeat (first | (with_reducible first | exact HB.out | apply below_alloc | apply pw_below_drewN | apply below_drew1) | exact HB.out)⟩

end Go.Proofs.Ytbijnfhcbanhdaa.F
end

section
/- Tokens as plain lists and numbers. No program in sight. -/
namespace Go.Proofs.Ytbijnfhcbanhdaa.H
set_option linter.unusedVariables false
set_option linter.unusedSimpArgs false
/-- May so many bits be so many bytes? -/
def rightBits (k : List Int) (n : Int) : Bool := decide ((k.length : Int) = (n + 7) / 8) && (decide (n % 8 = 0) || decide (k.getD (k.length - 1) 0 / 2 ^ (n % 8).toNat = 0))
def rightT (sizes known : List Int) : Bool := fitsB sizes && rightBits known ((wordsM sizes + 7) / 8)
def tokenH (s : Int) (sizes : List Int) (sum : Int) (i : Nat) : List Int := putL s 8 ++ putL sum 4 ++ putL sizes.length 1 ++ (sizes.take i).flatMap fun n => putL n 2
theorem tokenH_succ (s : Int) (sizes : List Int) (sum : Int) (i : Nat) (h : i < sizes.length) : tokenH s sizes sum (i + 1) = tokenH s sizes sum i ++ putL (sizes[i]'h) 2 := by
 unfold tokenH
 rw [take_at _ i h, List.flatMap_append, ← List.append_assoc]
 simp
theorem flat2_length (l : List Int) : (l.flatMap fun n => putL n 2).length = 2 * l.length := by
 induction l with
 | nil => rfl
 | cons x xs ih => rw [List.flatMap_cons, List.length_append, ih, putL_length, List.length_cons]; omega
theorem tokenH_length (s : Int) (sizes : List Int) (sum : Int) (i : Nat) : (tokenH s sizes sum i).length = 13 + 2 * (sizes.take i).length := by
 unfold tokenH
 simp only [List.length_append, putL_length, flat2_length]
theorem tokenH_byte (s : Int) (sizes : List Int) (sum : Int) (i : Nat) : bytesB (tokenH s sizes sum i) = true := by
 refine bytesB_of fun c hc => ?_
 simp only [tokenH, List.mem_append, List.mem_flatMap] at hc
 rcases hc with ((hc | hc) | hc) | ⟨n, _, hc⟩ <;> exact putL_byte _ _ c hc
def tokenB (s : Int) (sizes : List Int) (sum : Int) (known : List Int) : List Int := tokenH s sizes sum sizes.length ++ known
def encodeL (s : Int) (sizes : List Int) (sum : Int) (known : List Int) : List Int × Int := if rightT sizes known = true then (sealL (tokenB s sizes sum known), 0) else ([], 1)
end Go.Proofs.Ytbijnfhcbanhdaa.H
end

section
namespace Go.Proofs.Ytbijnfhcbanhdaa.F
open Go.RowKit Go.Proofs.YtbijnfhcbanhdaaW.PrintWords Go.Proofs.YtbijnfhcbanhdaaW.PrintLast Go.Proofs.YtbijnfhcbanhdaaW.PrintMore
attribute [local go_sem] max2_int min2_int max_two min_two max_three min_three max_four min_four   -- for this text's walks alone
set_option linter.unusedVariables false
set_option linter.unusedSimpArgs false

open Go.Proofs.Ytbijnfhcbanhdaa.H
def bits_Right_c.f (l0 : List Int) (a1 : Int) : Option Bool := if bytesB l0 = true ∧ 0 ≤ a1 ∧ a1 ≤ 65536 then some (rightBits l0 a1) else none
theorem bits_Right_c.to {l0 : List Int} {a1 : Int} {r : Bool} (h : bits_Right_c.f l0 a1 = some r) : bits_Right.f l0 a1 = some r := by
 unfold bits_Right_c.f at h
 split at h
 case isFalse => cases h
 case isTrue hb =>
 obtain rfl := Option.some.inj h
 obtain ⟨hb, h0, h1⟩ := hb
 have hmn : mx 0 (mn a1 65536) = a1 := by unfold mx mn; split <;> split <;> omega
 have hce : word_Ceil.f a1 8 = some ((a1 + 7) / 8) := by
  rw [word_Ceil.f, if_neg (by omega), if_neg (by omega), if_neg (by omega), if_neg (by omega), if_neg (by omega), show wrap64 (a1 + 8) = a1 + 8 from by unfold wrap64; omega, show wrap64 (a1 + 8 - 1) = a1 + 7 from by unfold wrap64; omega, Int.tdiv_eq_ediv_of_nonneg (by omega)]
  congr 1
  unfold wrap64
  omega
 have ht : Int.tmod a1 8 = a1 % 8 := Int.tmod_eq_emod_of_nonneg h0
 rw [bits_Right.f, if_neg (by omega), if_neg (by omega), bits_Make.f, hmn, hce, Option.bind_some, if_pos (by omega), if_pos (by omega), Option.bind_some, List.length_replicate, Int.toNat_of_nonneg (by omega), ht]
 by_cases h2 : (l0.length : Int) = (a1 + 7) / 8
 · rw [if_pos h2]
   by_cases h3 : a1 % 8 = 0
   · rw [if_pos h3]
     unfold rightBits
     rw [decide_eq_true h2, decide_eq_true h3]
     rfl
   · have e1 : wrap64 ((l0.length : Int) - 1) = ((l0.length - 1 : Nat) : Int) := by unfold wrap64; omega
     rw [if_neg h3, e1, if_pos (by omega), if_pos (by omega), if_pos (by omega)]
     have e2 : rd l0 ((l0.length - 1 : Nat) : Int) = l0.getD (l0.length - 1) 0 := by unfold rd; rw [Int.toNat_natCast]
     have e3 : shr .u8 (l0.getD (l0.length - 1) 0) (a1 % 8) = l0.getD (l0.length - 1) 0 / 2 ^ (a1 % 8).toNat := by
      unfold shr
      rw [Nat.min_eq_left (by simp [IntKind.bits]; omega)]
     unfold rightBits
     rw [e2, e3, decide_eq_true h2, decide_eq_false h3, Bool.true_and, Bool.false_or]
     congr 1
 · rw [if_neg h2]
   unfold rightBits
   rw [decide_eq_false h2]
   rfl

theorem bits_Right_c.calls (A0 : Option Addr) (c0 : Nat) (l0 : List Int) (a1 : Int) (r : Bool) (w : World) (hr0 : Kd.C (Kd.int .u8) w A0 l0.length l0) (hc0 : l0.length ≤ c0) (h : bits_Right_c.f l0 a1 = some r) :
 Calls Try.prog 55 #[.slice A0 l0.length c0, .int .i64 a1] w fun e w' => e = .returned (.bool r) ∧ Below w.heap.size w w' := by
 exact bits_Right.calls A0 c0 l0 a1 r w hr0 hc0 (bits_Right_c.to h)

end Go.Proofs.Ytbijnfhcbanhdaa.F
end

section
namespace Go.Proofs.Ytbijnfhcbanhdaa.F
open Go.RowKit Go.Proofs.YtbijnfhcbanhdaaW.PrintWords Go.Proofs.YtbijnfhcbanhdaaW.PrintLast Go.Proofs.YtbijnfhcbanhdaaW.PrintMore
attribute [local go_sem] max2_int min2_int max_two min_two max_three min_three max_four min_four   -- for this text's walks alone
set_option linter.unusedVariables false
set_option linter.unusedSimpArgs false

/-! ### token_Right: function 24 -/
def token_Right.f (a0_0 : Int) (l0_1 : List Int) (a0_2 : Int) (l0_3 : List Int) : Option (Bool) := (mani_Right.f a0_0 l0_1 a0_2).bind fun t102 => (if t102 = true then ((mani_Chunks.f a0_0 l0_1 a0_2).bind fun t103 => ((bits_Right_c.f l0_3 t103).bind fun t104 => (some t104))) else (some false))
def token_Right.T1 : Bool × List (List Nat × List Nat) := (true, [([], []), ([0], [0]), ([1], [1]), ([2, 2], [2]), ([3], [3]), ([4, 3], [3, 4]), ([3], [3]), ([6, 3], [3, 6]), ([7, 3, 3], [3, 7]), ([5, 8, 8, 3], [3, 5, 8]), ([3, 9], [3, 9]), ([10, 9, 0, 1, 2, 3, 4, 5, 6, 7, 8, 9, 10], [10])])
def token_Right.B1 : List Nat := [0, 1, 3, 7, 15, 31, 15, 79, 207, 511, 1023, 2047]
theorem token_Right.tab1 : rtab .any (opsOf Try.f24 1) = token_Right.T1 := by kernel_rfl
theorem token_Right.bits1 : waitsOk token_Right.T1.2 token_Right.B1 = true := by kernel_rfl
set_option maxHeartbeats 8000000 in
set_option maxRecDepth 100000 in
theorem token_Right.calls (a0_0 : Int) (A0_1 : Option Addr) (c0_1 : Nat) (l0_1 : List Int) (a0_2 : Int) (A0_3 : Option Addr) (c0_3 : Nat) (l0_3 : List Int) (r : Bool) (w : World) (hr0_1 : Kd.C (Kd.int .i64) w A0_1 l0_1.length l0_1) (hc0_1 : l0_1.length ≤ c0_1) (hr0_3 : Kd.C (Kd.int .u8) w A0_3 l0_3.length l0_3) (hc0_3 : l0_3.length ≤ c0_3) (h : token_Right.f a0_0 l0_1 a0_2 l0_3 = some r) :
 Calls Try.prog 24 #[.agg #[.int .u64 a0_0, .slice A0_1 l0_1.length c0_1, .int .u32 a0_2, .slice A0_3 l0_3.length c0_3]] w fun e w' => e = .returned (.bool r) ∧ Below w.heap.size w w' := by
 have hu29 := Try.underlying29
 have hu26 := Try.underlying26
 have HR0_1 := Aside0.mk hr0_1
 have HC0_1 := Aside0.mk hc0_1
 clear hr0_1 hc0_1
 have HR0_3 := Aside0.mk hr0_3
 have HC0_3 := Aside0.mk hc0_3
 clear hr0_3 hc0_3
 have HB := Aside0.mk (Below.refl w.heap.size w)
 have H : ((mani_Right.f a0_0 l0_1 a0_2).bind fun t102 => (if t102 = true then ((mani_Chunks.f a0_0 l0_1 a0_2).bind fun t103 => ((bits_Right_c.f l0_3 t103).bind fun t104 => (some t104))) else (some false))) = some r := h
 clear h
 replace H := Option.bind_eq_some_iff.mp H
 obtain ⟨t102, A20, H⟩ := H
 replace H : (if t102 = true then ((mani_Chunks.f a0_0 l0_1 a0_2).bind fun t103 => ((bits_Right_c.f l0_3 t103).bind fun t104 => (some t104))) else (some false)) = some r := H
 have A2 := Aside0.mk A20
 clear A20
 by_cases c3 : t102 = true
 · subst c3
   have H1 : ((mani_Chunks.f a0_0 l0_1 a0_2).bind fun t103 => ((bits_Right_c.f l0_3 t103).bind fun t104 => (some t104))) = some r := by rw [if_pos rfl] at H; exact H
   clear H
   have H := H1
   clear H1
   replace H := Option.bind_eq_some_iff.mp H
   obtain ⟨t103, A40, H⟩ := H
   replace H : ((bits_Right_c.f l0_3 t103).bind fun t104 => (some t104)) = some r := H
   have A4 := Aside0.mk A40
   clear A40
   replace H := Option.bind_eq_some_iff.mp H
   obtain ⟨t104, A50, H⟩ := H
   replace H : (some t104) = some r := H
   have A5 := Aside0.mk A50
   clear A50
   obtain rfl := Option.some.inj H
   go_enter Try.func24, Try.ntmps24
   try go_wp2_with (first | ((with_reducible refine gate_dst (N := 1) rfl ?_); refine box_event ?hg (N := 1) ?hd (cs := #[.int .u64 a0_0, .slice A0_1 l0_1.length c0_1, .int .u32 a0_2, .slice A0_3 l0_3.length c0_3]) (t := 29) ?hr ?_; (case hd => rfl); (case hg => rfl); (case hr => first | (go_simp; done) | (go_simp; rfl)); intro gb101 hg w6 hbox hb; have n0_ := Aside0.mk (below_step (by repeat (first | (with_reducible first | exact HB.out | apply below_alloc | apply pw_below_drewN | apply below_drew1) | exact HB.out)) hb); have n1_ := Aside0.mk (hbox); have n2_ := Aside0.mk ((by rw [hg]; exact (below_size (by repeat (first | (with_reducible first | exact HB.out | apply below_alloc | apply pw_below_drewN | apply below_drew1) | exact HB.out))) : w.heap.size ≤ gb101)); have n3_ := Aside0.mk ((by rw [hg]; exact (below_size (by repeat (first | (with_reducible first | exact HB.out | apply below_alloc | apply pw_below_drewN | apply below_drew1) | exact HB.out))) : w.heap.size ≤ gb101)); clear HB; have HB := n0_; have BK101 := n1_; have GW101 := n2_; have GE101 := n3_; clear n0_ n1_ n2_ n3_; clear hb hbox hg))
   have n0_ := Aside0.mk (blk_drew BK101.out)
   have n1_ := Aside0.mk (below_drew1 HB.out)
   clear BK101
   clear HB
   have BK101 := n0_
   have HB := n1_
   clear n0_ n1_
   refine start_ (n := 12) (S := fun w' => w'.cell? ⟨gb101, 0, none⟩ = some (.int .u64 a0_0) ∧ w'.cell? ⟨gb101, 1, none⟩ = some (.slice A0_1 l0_1.length c0_1) ∧ w'.cell? ⟨gb101, 2, none⟩ = some (.int .u32 a0_2) ∧ w'.cell? ⟨gb101, 3, none⟩ = some (.slice A0_3 l0_3.length c0_3)) (ds := []) #[false, false, false, false, false, false, false, false, false, false, false, false] (by kernel_rfl) rfl rfl ⟨(blk_cell BK101.out 0).trans rfl, (blk_cell BK101.out 1).trans rfl, (blk_cell BK101.out 2).trans rfl, (blk_cell BK101.out 3).trans rfl⟩ (fun hHeld => ?_); refine with_tabW token_Right.tab1 token_Right.bits1 (fun HT_ HW_ => ?_)
   generalize w6.drew = w7 at BK101 HB hHeld ⊢
   refine pure_ (i := 0) (N := some 3) (v := ?_) (a' := ?_) #[true, false, false, false, false, false, false, false, false, false, false, false] rfl rfl (any_of HT_.out (by kernel_rfl)) (fun _ _ _ h => h) (Or.inl ⟨by rfl, ?_⟩) ?_ ?_
   rotate_left
   · intro w'
     go_simp
     with_reducible rfl
   rotate_left
   · simp only [Act.put, List.setIfInBounds_toArray, List.set_cons_zero, List.set_cons_succ, i64_w, i32_w]
     rfl
   refine take_ (i := 1) (N := some 4) (v := ?_) (a' := ?_) #[true, true, false, false, false, false, false, false, false, false, false, false] rfl rfl (take_ofW HT_.out HW_.out (by kernel_rfl)) (fun _ _ _ h => h) (Or.inl ⟨by rfl, ?_⟩) hHeld ?_ ?_
   rotate_left
   · rintro w' ⟨s0, s1, s2, s3⟩
     go_simp
     with_reducible rfl
   rotate_left
   · simp only [Act.put, List.setIfInBounds_toArray, List.set_cons_zero, List.set_cons_succ, i64_w, i32_w]
     rfl
   refine one_ (i := 2) (N := some 5) #[true, true, true, false, false, false, false, false, false, false, false, false] rfl rfl (one_of HT_.out (by kernel_rfl)) (by decide) (fun K hK => ?_)
   refine goes_ Try.func54 (by kernel_rfl) rfl #[.agg #[.int .u64 a0_0, .slice A0_1 l0_1.length c0_1, .int .u32 a0_2]] (by rfl) rfl rfl (by (try simp only [List.map_toArray, List.map_cons, List.map_nil]); first | done | rfl | (simp only [List.length_drop, List.length_take]; rfl)) ?_
   with_reducible refine (mani_Right.calls a0_0 _ _ l0_1 a0_2 true _ ?side1 ?side2 A2.out).mono ?_
   (case side1 => repeat (first | exact (Kd.C_below HR0_1.out HB.out) | (with_reducible refine Kd.C_alloc ?_ _) | (with_reducible refine Kd.C_drewN ?_ _) | (with_reducible refine Kd.C_drew ?_)))
   (case side2 => exact HC0_1.out)
   rintro e w8 ⟨rfl, hb⟩
   refine ⟨_, rfl, ?_⟩
   have n0_ := Aside0.mk (blk_below (g := gb101) (o := .cells #[.int .u64 a0_0, .slice A0_1 l0_1.length c0_1, .int .u32 a0_2, .slice A0_3 l0_3.length c0_3] 29 (0, 0)) (by (with_reducible repeat (first | refine blk_drewN ?_ _ | refine blk_drew ?_ | refine blk_alloc ?_ _)); exact BK101.out) hb)
   have n1_ := Aside0.mk (below_step (by repeat (first | (with_reducible first | exact HB.out | apply below_alloc | apply pw_below_drewN | apply below_drew1 | refine below_set ?_ GE101.out) | exact HB.out)) hb)
   clear BK101
   clear HB
   have BK101 := n0_
   have HB := n1_
   clear n0_ n1_
   (try clear hb)
   (try clear hb2)
   (try clear hk)
   (try clear hi)
   refine hK.out _ _ ⟨(blk_cell BK101.out 0).trans rfl, (blk_cell BK101.out 1).trans rfl, (blk_cell BK101.out 2).trans rfl, (blk_cell BK101.out 3).trans rfl⟩ (fun hHeld => ?_)
   clear hK K
   refine norm_ (a' := ?_) ?_ ?_
   rotate_left
   · show Act.put _ (some 5) _ = _
     simp only [Act.put, List.setIfInBounds_toArray, List.set_cons_zero, List.set_cons_succ, i64_w, i32_w]
     rfl
   refine pure_ (i := 3) (N := some 6) (v := ?_) (a' := ?_) #[true, true, true, true, false, false, false, false, false, false, false, false] rfl rfl (any_of HT_.out (by kernel_rfl)) (fun _ _ _ h => h) (Or.inl ⟨by rfl, ?_⟩) ?_ ?_
   rotate_left
   · intro w'
     go_simp
     with_reducible rfl
   rotate_left
   · simp only [Act.put, List.setIfInBounds_toArray, List.set_cons_zero, List.set_cons_succ, i64_w, i32_w]
     rfl
   refine pure_ (i := 4) (N := some 7) (v := ?_) (a' := ?_) #[true, true, true, true, true, false, false, false, false, false, false, false] rfl rfl (any_of HT_.out (by kernel_rfl)) (fun _ _ _ h => h) (Or.inl ⟨by rfl, ?_⟩) ?_ ?_
   rotate_left
   · intro w'
     go_simp
     with_reducible rfl
   rotate_left
   · simp only [Act.put, List.setIfInBounds_toArray, List.set_cons_zero, List.set_cons_succ, i64_w, i32_w]
     rfl
   refine pure_ (i := 6) (N := some 9) (v := ?_) (a' := ?_) #[true, true, true, true, true, false, true, false, false, false, false, false] rfl rfl (any_of HT_.out (by kernel_rfl)) (fun _ _ _ h => h) (Or.inl ⟨by rfl, ?_⟩) ?_ ?_
   rotate_left
   · intro w'
     go_simp
     with_reducible rfl
   rotate_left
   · simp only [Act.put, List.setIfInBounds_toArray, List.set_cons_zero, List.set_cons_succ, i64_w, i32_w]
     rfl
   refine take_ (i := 5) (N := some 8) (v := ?_) (a' := ?_) #[true, true, true, true, true, true, true, false, false, false, false, false] rfl rfl (take_ofW HT_.out HW_.out (by kernel_rfl)) (fun _ _ _ h => h) (Or.inl ⟨by rfl, ?_⟩) hHeld ?_ ?_
   rotate_left
   · rintro w' ⟨s0, s1, s2, s3⟩
     go_simp
     with_reducible rfl
   rotate_left
   · simp only [Act.put, List.setIfInBounds_toArray, List.set_cons_zero, List.set_cons_succ, i64_w, i32_w]
     rfl
   refine take_ (i := 7) (N := some 10) (v := ?_) (a' := ?_) #[true, true, true, true, true, true, true, true, false, false, false, false] rfl rfl (take_ofW HT_.out HW_.out (by kernel_rfl)) (fun _ _ _ h => h) (Or.inl ⟨by rfl, ?_⟩) hHeld ?_ ?_
   rotate_left
   · rintro w' ⟨s0, s1, s2, s3⟩
     go_simp
     with_reducible rfl
   rotate_left
   · simp only [Act.put, List.setIfInBounds_toArray, List.set_cons_zero, List.set_cons_succ, i64_w, i32_w]
     rfl
   refine one_ (i := 8) (N := some 11) #[true, true, true, true, true, true, true, true, true, false, false, false] rfl rfl (one_of HT_.out (by kernel_rfl)) (by decide) (fun K hK => ?_)
   refine goes_ Try.func56 (by kernel_rfl) rfl #[.agg #[.int .u64 a0_0, .slice A0_1 l0_1.length c0_1, .int .u32 a0_2]] (by rfl) rfl rfl (by (try simp only [List.map_toArray, List.map_cons, List.map_nil]); first | done | rfl | (simp only [List.length_drop, List.length_take]; rfl)) ?_
   with_reducible refine (mani_Chunks.calls a0_0 _ _ l0_1 a0_2 t103 _ ?side1 ?side2 A4.out).mono ?_
   (case side1 => repeat (first | exact (Kd.C_below HR0_1.out HB.out) | (with_reducible refine Kd.C_alloc ?_ _) | (with_reducible refine Kd.C_drewN ?_ _) | (with_reducible refine Kd.C_drew ?_)))
   (case side2 => exact HC0_1.out)
   rintro e w9 ⟨rfl, hb⟩
   refine ⟨_, rfl, ?_⟩
   have n0_ := Aside0.mk (blk_below (g := gb101) (o := .cells #[.int .u64 a0_0, .slice A0_1 l0_1.length c0_1, .int .u32 a0_2, .slice A0_3 l0_3.length c0_3] 29 (0, 0)) (by (with_reducible repeat (first | refine blk_drewN ?_ _ | refine blk_drew ?_ | refine blk_alloc ?_ _)); exact BK101.out) hb)
   have n1_ := Aside0.mk (below_step (by repeat (first | (with_reducible first | exact HB.out | apply below_alloc | apply pw_below_drewN | apply below_drew1 | refine below_set ?_ GE101.out) | exact HB.out)) hb)
   clear BK101
   clear HB
   have BK101 := n0_
   have HB := n1_
   clear n0_ n1_
   (try clear hb)
   (try clear hb2)
   (try clear hk)
   (try clear hi)
   refine hK.out _ _ ⟨(blk_cell BK101.out 0).trans rfl, (blk_cell BK101.out 1).trans rfl, (blk_cell BK101.out 2).trans rfl, (blk_cell BK101.out 3).trans rfl⟩ (fun hHeld => ?_)
   clear hK K
   refine norm_ (a' := ?_) ?_ ?_
   rotate_left
   · show Act.put _ (some 11) _ = _
     simp only [Act.put, List.setIfInBounds_toArray, List.set_cons_zero, List.set_cons_succ, i64_w, i32_w]
     rfl
   refine one_ (i := 9) (N := some 12) #[true, true, true, true, true, true, true, true, true, true, false, false] rfl rfl (one_of HT_.out (by kernel_rfl)) (by decide) (fun K hK => ?_)
   refine goes_ Try.func55 (by kernel_rfl) rfl #[.slice A0_3 l0_3.length c0_3, .int .i64 t103] (by rfl) rfl rfl (by (try simp only [List.map_toArray, List.map_cons, List.map_nil]); first | done | rfl | (simp only [List.length_drop, List.length_take]; rfl)) ?_
   with_reducible refine (bits_Right_c.calls _ _ l0_3 t103 t104 _ ?side1 ?side2 A5.out).mono ?_
   (case side1 => repeat (first | exact (Kd.C_below HR0_3.out HB.out) | (with_reducible refine Kd.C_alloc ?_ _) | (with_reducible refine Kd.C_drewN ?_ _) | (with_reducible refine Kd.C_drew ?_)))
   (case side2 => exact HC0_3.out)
   rintro e w10 ⟨rfl, hb⟩
   refine ⟨_, rfl, ?_⟩
   have n0_ := Aside0.mk (blk_below (g := gb101) (o := .cells #[.int .u64 a0_0, .slice A0_1 l0_1.length c0_1, .int .u32 a0_2, .slice A0_3 l0_3.length c0_3] 29 (0, 0)) (by (with_reducible repeat (first | refine blk_drewN ?_ _ | refine blk_drew ?_ | refine blk_alloc ?_ _)); exact BK101.out) hb)
   have n1_ := Aside0.mk (below_step (by repeat (first | (with_reducible first | exact HB.out | apply below_alloc | apply pw_below_drewN | apply below_drew1 | refine below_set ?_ GE101.out) | exact HB.out)) hb)
   clear BK101
   clear HB
   have BK101 := n0_
   have HB := n1_
   clear n0_ n1_
   (try clear hb)
   (try clear hb2)
   (try clear hk)
   (try clear hi)
   refine hK.out _ _ ⟨(blk_cell BK101.out 0).trans rfl, (blk_cell BK101.out 1).trans rfl, (blk_cell BK101.out 2).trans rfl, (blk_cell BK101.out 3).trans rfl⟩ (fun hHeld => ?_)
   clear hK K
   refine norm_ (a' := ?_) ?_ ?_
   rotate_left
   · show Act.put _ (some 12) _ = _
     simp only [Act.put, List.setIfInBounds_toArray, List.set_cons_zero, List.set_cons_succ, i64_w, i32_w]
     rfl
   refine pure_ (i := 10) (N := some 13) (v := ?_) (a' := ?_) #[true, true, true, true, true, true, true, true, true, true, true, false] rfl rfl (any_of HT_.out (by kernel_rfl)) (fun _ _ _ h => h) (Or.inl ⟨by rfl, ?_⟩) ?_ ?_
   rotate_left
   · intro w'
     go_simp
     with_reducible rfl
   rotate_left
   · simp only [Act.put, List.setIfInBounds_toArray, List.set_cons_zero, List.set_cons_succ, i64_w, i32_w]
     rfl
   refine pure_ (i := 11) (N := some 2) (v := ?_) (a' := ?_) #[true, true, true, true, true, true, true, true, true, true, true, true] rfl rfl (any_of HT_.out (by kernel_rfl)) (fun _ _ _ h => h) (Or.inl ⟨by rfl, ?_⟩) ?_ ?_
   rotate_left
   · intro w'
     go_simp
     with_reducible rfl
   rotate_left
   · simp only [Act.put, List.setIfInBounds_toArray, List.set_cons_zero, List.set_cons_succ, i64_w, i32_w]
     rfl
   refine done_ (done_of HT_.out (by kernel_rfl)) ?_
   try go_wp2
   go_ret
   exact ⟨by first | rfl | (simp [errW_none, errW_some] <;> rfl) | (simp [*, errW_none, errW_some] <;> rfl), by repeat (first | (with_reducible first | exact HB.out | apply below_alloc | apply pw_below_drewN | apply below_drew1 | refine below_set ?_ GE101.out) | exact HB.out)⟩
 · replace c3 := Bool.eq_false_iff.mpr c3
   subst c3
   have H1 : (some false) = some r := by rw [if_neg (show ¬ (false = true) by decide)] at H; exact H
   clear H
   have H := H1
   clear H1
   obtain rfl := Option.some.inj H
   go_enter Try.func24, Try.ntmps24
   try go_wp2_with (first | ((with_reducible refine gate_dst (N := 1) rfl ?_); refine box_event ?hg (N := 1) ?hd (cs := #[.int .u64 a0_0, .slice A0_1 l0_1.length c0_1, .int .u32 a0_2, .slice A0_3 l0_3.length c0_3]) (t := 29) ?hr ?_; (case hd => rfl); (case hg => rfl); (case hr => first | (go_simp; done) | (go_simp; rfl)); intro gb101 hg w11 hbox hb; have n0_ := Aside0.mk (below_step (by repeat (first | (with_reducible first | exact HB.out | apply below_alloc | apply pw_below_drewN | apply below_drew1) | exact HB.out)) hb); have n1_ := Aside0.mk (hbox); have n2_ := Aside0.mk ((by rw [hg]; exact (below_size (by repeat (first | (with_reducible first | exact HB.out | apply below_alloc | apply pw_below_drewN | apply below_drew1) | exact HB.out))) : w.heap.size ≤ gb101)); have n3_ := Aside0.mk ((by rw [hg]; exact (below_size (by repeat (first | (with_reducible first | exact HB.out | apply below_alloc | apply pw_below_drewN | apply below_drew1) | exact HB.out))) : w.heap.size ≤ gb101)); clear HB; have HB := n0_; have BK101 := n1_; have GW101 := n2_; have GE101 := n3_; clear n0_ n1_ n2_ n3_; clear hb hbox hg))
   have n0_ := Aside0.mk (blk_drew BK101.out)
   have n1_ := Aside0.mk (below_drew1 HB.out)
   clear BK101
   clear HB
   have BK101 := n0_
   have HB := n1_
   clear n0_ n1_
   refine start_ (n := 12) (S := fun w' => w'.cell? ⟨gb101, 0, none⟩ = some (.int .u64 a0_0) ∧ w'.cell? ⟨gb101, 1, none⟩ = some (.slice A0_1 l0_1.length c0_1) ∧ w'.cell? ⟨gb101, 2, none⟩ = some (.int .u32 a0_2) ∧ w'.cell? ⟨gb101, 3, none⟩ = some (.slice A0_3 l0_3.length c0_3)) (ds := []) #[false, false, false, false, false, false, false, false, false, false, false, false] (by kernel_rfl) rfl rfl ⟨(blk_cell BK101.out 0).trans rfl, (blk_cell BK101.out 1).trans rfl, (blk_cell BK101.out 2).trans rfl, (blk_cell BK101.out 3).trans rfl⟩ (fun hHeld => ?_); refine with_tabW token_Right.tab1 token_Right.bits1 (fun HT_ HW_ => ?_)
   generalize w11.drew = w12 at BK101 HB hHeld ⊢
   refine pure_ (i := 0) (N := some 3) (v := ?_) (a' := ?_) #[true, false, false, false, false, false, false, false, false, false, false, false] rfl rfl (any_of HT_.out (by kernel_rfl)) (fun _ _ _ h => h) (Or.inl ⟨by rfl, ?_⟩) ?_ ?_
   rotate_left
   · intro w'
     go_simp
     with_reducible rfl
   rotate_left
   · simp only [Act.put, List.setIfInBounds_toArray, List.set_cons_zero, List.set_cons_succ, i64_w, i32_w]
     rfl
   refine take_ (i := 1) (N := some 4) (v := ?_) (a' := ?_) #[true, true, false, false, false, false, false, false, false, false, false, false] rfl rfl (take_ofW HT_.out HW_.out (by kernel_rfl)) (fun _ _ _ h => h) (Or.inl ⟨by rfl, ?_⟩) hHeld ?_ ?_
   rotate_left
   · rintro w' ⟨s0, s1, s2, s3⟩
     go_simp
     with_reducible rfl
   rotate_left
   · simp only [Act.put, List.setIfInBounds_toArray, List.set_cons_zero, List.set_cons_succ, i64_w, i32_w]
     rfl
   refine one_ (i := 2) (N := some 5) #[true, true, true, false, false, false, false, false, false, false, false, false] rfl rfl (one_of HT_.out (by kernel_rfl)) (by decide) (fun K hK => ?_)
   refine goes_ Try.func54 (by kernel_rfl) rfl #[.agg #[.int .u64 a0_0, .slice A0_1 l0_1.length c0_1, .int .u32 a0_2]] (by rfl) rfl rfl (by (try simp only [List.map_toArray, List.map_cons, List.map_nil]); first | done | rfl | (simp only [List.length_drop, List.length_take]; rfl)) ?_
   with_reducible refine (mani_Right.calls a0_0 _ _ l0_1 a0_2 false _ ?side1 ?side2 A2.out).mono ?_
   (case side1 => repeat (first | exact (Kd.C_below HR0_1.out HB.out) | (with_reducible refine Kd.C_alloc ?_ _) | (with_reducible refine Kd.C_drewN ?_ _) | (with_reducible refine Kd.C_drew ?_)))
   (case side2 => exact HC0_1.out)
   rintro e w13 ⟨rfl, hb⟩
   refine ⟨_, rfl, ?_⟩
   have n0_ := Aside0.mk (blk_below (g := gb101) (o := .cells #[.int .u64 a0_0, .slice A0_1 l0_1.length c0_1, .int .u32 a0_2, .slice A0_3 l0_3.length c0_3] 29 (0, 0)) (by (with_reducible repeat (first | refine blk_drewN ?_ _ | refine blk_drew ?_ | refine blk_alloc ?_ _)); exact BK101.out) hb)
   have n1_ := Aside0.mk (below_step (by repeat (first | (with_reducible first | exact HB.out | apply below_alloc | apply pw_below_drewN | apply below_drew1 | refine below_set ?_ GE101.out) | exact HB.out)) hb)
   clear BK101
   clear HB
   have BK101 := n0_
   have HB := n1_
   clear n0_ n1_
   (try clear hb)
   (try clear hb2)
   (try clear hk)
   (try clear hi)
   refine hK.out _ _ ⟨(blk_cell BK101.out 0).trans rfl, (blk_cell BK101.out 1).trans rfl, (blk_cell BK101.out 2).trans rfl, (blk_cell BK101.out 3).trans rfl⟩ (fun hHeld => ?_)
   clear hK K
   refine norm_ (a' := ?_) ?_ ?_
   rotate_left
   · show Act.put _ (some 5) _ = _
     simp only [Act.put, List.setIfInBounds_toArray, List.set_cons_zero, List.set_cons_succ, i64_w, i32_w]
     rfl
   refine pure_ (i := 3) (N := some 6) (v := ?_) (a' := ?_) #[true, true, true, true, false, false, false, false, false, false, false, false] rfl rfl (any_of HT_.out (by kernel_rfl)) (fun _ _ _ h => h) (Or.inl ⟨by rfl, ?_⟩) ?_ ?_
   rotate_left
   · intro w'
     go_simp
     with_reducible rfl
   rotate_left
   · simp only [Act.put, List.setIfInBounds_toArray, List.set_cons_zero, List.set_cons_succ, i64_w, i32_w]
     rfl
   refine pure_ (i := 4) (N := some 7) (v := undef) (a' := ?_) #[true, true, true, true, true, false, false, false, false, false, false, false] rfl rfl (any_of HT_.out (by kernel_rfl)) (fun _ _ _ h => h) (Or.inr ⟨by rfl, rfl⟩) ?_ ?_
   rotate_left
   · simp only [Act.put, List.setIfInBounds_toArray, List.set_cons_zero, List.set_cons_succ, i64_w, i32_w]
     rfl
   refine pure_ (i := 5) (N := some 8) (v := undef) (a' := ?_) #[true, true, true, true, true, true, false, false, false, false, false, false] rfl rfl (any_of HT_.out (by kernel_rfl)) (fun _ _ _ h => h) (Or.inr ⟨by rfl, rfl⟩) ?_ ?_
   rotate_left
   · simp only [Act.put, List.setIfInBounds_toArray, List.set_cons_zero, List.set_cons_succ, i64_w, i32_w]
     rfl
   refine pure_ (i := 6) (N := some 9) (v := undef) (a' := ?_) #[true, true, true, true, true, true, true, false, false, false, false, false] rfl rfl (any_of HT_.out (by kernel_rfl)) (fun _ _ _ h => h) (Or.inr ⟨by rfl, rfl⟩) ?_ ?_
   rotate_left
   · simp only [Act.put, List.setIfInBounds_toArray, List.set_cons_zero, List.set_cons_succ, i64_w, i32_w]
     rfl
   refine pure_ (i := 7) (N := some 10) (v := undef) (a' := ?_) #[true, true, true, true, true, true, true, true, false, false, false, false] rfl rfl (any_of HT_.out (by kernel_rfl)) (fun _ _ _ h => h) (Or.inr ⟨by rfl, rfl⟩) ?_ ?_
   rotate_left
   · simp only [Act.put, List.setIfInBounds_toArray, List.set_cons_zero, List.set_cons_succ, i64_w, i32_w]
     rfl
   refine pure_ (i := 8) (N := some 11) (v := undef) (a' := ?_) #[true, true, true, true, true, true, true, true, true, false, false, false] rfl rfl (any_of HT_.out (by kernel_rfl)) (fun _ _ _ h => h) (Or.inr ⟨by rfl, rfl⟩) ?_ ?_
   rotate_left
   · simp only [Act.put, List.setIfInBounds_toArray, List.set_cons_zero, List.set_cons_succ, i64_w, i32_w]
     rfl
   refine pure_ (i := 9) (N := some 12) (v := undef) (a' := ?_) #[true, true, true, true, true, true, true, true, true, true, false, false] rfl rfl (any_of HT_.out (by kernel_rfl)) (fun _ _ _ h => h) (Or.inr ⟨by rfl, rfl⟩) ?_ ?_
   rotate_left
   · simp only [Act.put, List.setIfInBounds_toArray, List.set_cons_zero, List.set_cons_succ, i64_w, i32_w]
     rfl
   refine pure_ (i := 10) (N := some 13) (v := ?_) (a' := ?_) #[true, true, true, true, true, true, true, true, true, true, true, false] rfl rfl (any_of HT_.out (by kernel_rfl)) (fun _ _ _ h => h) (Or.inl ⟨by rfl, ?_⟩) ?_ ?_
   rotate_left
   · intro w'
     go_simp
     with_reducible rfl
   rotate_left
   · simp only [Act.put, List.setIfInBounds_toArray, List.set_cons_zero, List.set_cons_succ, i64_w, i32_w]
     rfl
   refine pure_ (i := 11) (N := some 2) (v := ?_) (a' := ?_) #[true, true, true, true, true, true, true, true, true, true, true, true] rfl rfl (any_of HT_.out (by kernel_rfl)) (fun _ _ _ h => h) (Or.inl ⟨by rfl, ?_⟩) ?_ ?_
   rotate_left
   · intro w'
     go_simp
     with_reducible rfl
   rotate_left
   · simp only [Act.put, List.setIfInBounds_toArray, List.set_cons_zero, List.set_cons_succ, i64_w, i32_w]
     rfl
   refine done_ (done_of HT_.out (by kernel_rfl)) ?_
   try go_wp2
   go_ret
   exact ⟨by first | rfl | (simp [errW_none, errW_some] <;> rfl) | (simp [*, errW_none, errW_some] <;> rfl), by repeat (first | (with_reducible first | exact HB.out | apply below_alloc | apply pw_below_drewN | apply below_drew1 | refine below_set ?_ GE101.out) | exact HB.out)⟩

end Go.Proofs.Ytbijnfhcbanhdaa.F
end

section
namespace Go.Proofs.Ytbijnfhcbanhdaa.F
open Go.RowKit Go.Proofs.YtbijnfhcbanhdaaW.PrintWords Go.Proofs.YtbijnfhcbanhdaaW.PrintLast Go.Proofs.YtbijnfhcbanhdaaW.PrintMore
attribute [local go_sem] max2_int min2_int max_two min_two max_three min_three max_four min_four   -- for this text's walks alone
set_option linter.unusedVariables false
set_option linter.unusedSimpArgs false

/-! ### slices_Equal_int_int: function 80 -/
def slices_Equal_int_int.l0 : Nat → List Int → List Int → Int → Int → Option (Bool)
 | 0, _, _, _, _ => none
 | k + 1, x0, x1, x12, x13 => if x13 < x12 then (if 0 ≤ x13 then (if x13 < (x0.length : Int) then (if x13 < (x1.length : Int) then (if (rd x0 x13) = (rd x1 x13) then (slices_Equal_int_int.l0 k x0 x1 x12 (wrap64 (x13 + 1))) else (some false)) else (none)) else (none)) else (none)) else (some true)
def slices_Equal_int_int.f (k : Nat) (l0 : List Int) (l1 : List Int) : Option (Bool) := if (l0.length : Int) = (l1.length : Int) then (slices_Equal_int_int.l0 k l0 l1 (l0.length : Int) 0) else (some false)
theorem slices_Equal_int_int.mono_l : ∀ k, (∀ y0 y1 y2 y3, LeO (slices_Equal_int_int.l0 k y0 y1 y2 y3) (slices_Equal_int_int.l0 (k + 1) y0 y1 y2 y3))
 | 0 => fun _ _ _ _ r h => by simp [slices_Equal_int_int.l0] at h
 | k + 1 => by
   have ih0 := slices_Equal_int_int.mono_l k
   · intro y0 y1 y2 y3
     unfold slices_Equal_int_int.l0
     repeat' first
     | (with_reducible exact ih0 _ _ _ _)
     | (with_reducible exact LeO.refl _)
     | (with_reducible exact LeO.none _)
     | (with_reducible refine LeO.ite ?_ ?_)
     | (with_reducible refine LeO.bind ?_ (fun _ => ?_))
     | exact ih0 _ _ _ _
     | exact LeO.none _
     | refine LeO.ite ?_ ?_
     | refine LeO.bind ?_ (fun _ => ?_)
theorem slices_Equal_int_int.mono : ∀ a0 a1 k, LeO (slices_Equal_int_int.f k a0 a1) (slices_Equal_int_int.f (k + 1) a0 a1) := by
 intro a0 a1 k
 have ih0 := slices_Equal_int_int.mono_l k
 unfold slices_Equal_int_int.f
 repeat' first
  | (with_reducible exact ih0 _ _ _ _)
  | (with_reducible exact LeO.refl _)
  | (with_reducible exact LeO.none _)
  | (with_reducible refine LeO.ite ?_ ?_)
  | (with_reducible refine LeO.bind ?_ (fun _ => ?_))
  | exact ih0 _ _ _ _
  | exact LeO.none _
  | refine LeO.ite ?_ ?_
  | refine LeO.bind ?_ (fun _ => ?_)
set_option maxHeartbeats 8000000 in
set_option maxRecDepth 100000 in
theorem slices_Equal_int_int.calls (k : Nat) (A0 : Option Addr) (c0 : Nat) (l0 : List Int) (A1 : Option Addr) (c1 : Nat) (l1 : List Int) (r : Bool) (w : World) (hr0 : Kd.C (Kd.int .i64) w A0 l0.length l0) (hc0 : l0.length ≤ c0) (hr1 : Kd.C (Kd.int .i64) w A1 l1.length l1) (hc1 : l1.length ≤ c1) (h : slices_Equal_int_int.f k l0 l1 = some r) :
 Calls Try.prog 80 #[.slice A0 l0.length c0, .slice A1 l1.length c1] w fun e w' => e = .returned (.bool r) ∧ Drawn0 w w' := by
 have HR0 := Aside0.mk hr0
 have HC0 := Aside0.mk hc0
 clear hr0 hc0
 have HR1 := Aside0.mk hr1
 have HC1 := Aside0.mk hc1
 clear hr1 hc1
 have H : (if (l0.length : Int) = (l1.length : Int) then (slices_Equal_int_int.l0 k l0 l1 (l0.length : Int) 0) else (some false)) = some r := h
 clear h
 by_cases c3 : (l0.length : Int) = (l1.length : Int)
 · rw [if_pos c3] at H
   have c3b0 : ((l0.length : Int) == (l1.length : Int)) = true := beq_iff_eq.mpr c3
   have c3b1 : ((l0.length : Int) != (l1.length : Int)) = false := bne_eq_false_iff_eq.mpr c3
   have c3b2 : (l0.length == l1.length) = true := by first | simpa using c3 | (simp at c3 ⊢; omega)
   clear c3
   have H' := Aside0.mk H
   clear H
   go_enter Try.func80, Try.ntmps80
   go_wp2
   repeat (go_quiet (fail); try go_wp2)
   go_loopg [13] k (fun kq v13 w' => ∃ (x13_1 : Int), v13 = .int .i64 x13_1 ∧ Aside0 (slices_Equal_int_int.l0 kq l0 l1 (l0.length : Int) x13_1 = some r) ∧ Aside0 (kq ≤ k) ∧ Drawn0 w w')
   case atStart => exact ⟨(0), (by first | rfl | (simp; done) | (simp [*]; done)), H', ⟨Nat.le_refl _⟩, by repeat (first | exact Drawn0.refl _ | apply Drawn0.step)⟩
   case round =>
    clear H'
    try clear c1
    try clear p2
    try clear c3
    try clear c3b0
    try clear c3b1
    try clear c3b2
    obtain ⟨x13_1, rfl, HA, HK1, ⟨m1, rfl⟩⟩ := hrel
    cases gk with
    | zero => exact absurd HA.out (by simp [slices_Equal_int_int.l0])
    | succ k1 =>
      have H := HA.out
      clear HA
      simp only [slices_Equal_int_int.l0] at H
      by_cases c4 : x13_1 < (l0.length : Int)
      · rw [if_pos c4] at H
        have c4b0 : decide (x13_1 < (l0.length : Int)) = true := decide_eq_true c4
        clear c4
        by_cases c5 : 0 ≤ x13_1
        · rw [if_pos c5] at H
          have c5b0 : decide (0 ≤ x13_1) = true := decide_eq_true c5
          clear c5
          by_cases c6 : x13_1 < (l0.length : Int)
          · rw [if_pos c6] at H
            have c6b0 : decide (x13_1 < (l0.length : Int)) = true := decide_eq_true c6
            clear c6
            by_cases c7 : x13_1 < (l1.length : Int)
            · rw [if_pos c7] at H
              have c7b0 : decide (x13_1 < (l1.length : Int)) = true := decide_eq_true c7
              clear c7
              by_cases c8 : (rd l0 x13_1) = (rd l1 x13_1)
              · rw [if_pos c8] at H
                have c8b0 : ((rd l0 x13_1) == (rd l1 x13_1)) = true := beq_iff_eq.mpr c8
                have c8b1 : ((rd l0 x13_1) != (rd l1 x13_1)) = false := bne_eq_false_iff_eq.mpr c8
                clear c8
                have H' := Aside0.mk H
                clear H
                have p101 : 0 ≤ (x13_1 : Int) := of_decide_eq_true (by first | (with_reducible assumption) | assumption)
                have q101 : x13_1 < (l0.length : Int) := of_decide_eq_true (by first | (with_reducible assumption) | assumption)
                obtain ⟨ad101, e101, hx101_0⟩ := Kd.at_int HR0.out x13_1 p101 q101
                cases e101
                replace p101 := eq_true p101
                replace q101 := eq_true q101
                have p102 : 0 ≤ (x13_1 : Int) := of_decide_eq_true (by first | (with_reducible assumption) | assumption)
                have q102 : x13_1 < (l1.length : Int) := of_decide_eq_true (by first | (with_reducible assumption) | assumption)
                obtain ⟨ad102, e102, hx102_0⟩ := Kd.at_int HR1.out x13_1 p102 q102
                cases e102
                replace p102 := eq_true p102
                replace q102 := eq_true q102
                go_wp2
                repeat (go_quiet (fail); try go_wp2)
                go_roundg k1
                case measure => have := HK1.out; omega
                case rel => exact ⟨(wrap64 (x13_1 + 1)), (by first | rfl | (simp; done) | (simp [*]; done)), H', ⟨by have := HK1.out; omega⟩, by repeat (first | exact Drawn0.refl _ | apply Drawn0.step)⟩
              · rw [if_neg c8] at H
                have c8b0 : ((rd l0 x13_1) == (rd l1 x13_1)) = false := beq_eq_false_iff_ne.mpr c8
                have c8b1 : ((rd l0 x13_1) != (rd l1 x13_1)) = true := bne_iff_ne.mpr c8
                obtain rfl := Option.some.inj H
                have p101 : 0 ≤ (x13_1 : Int) := of_decide_eq_true (by first | (with_reducible assumption) | assumption)
                have q101 : x13_1 < (l0.length : Int) := of_decide_eq_true (by first | (with_reducible assumption) | assumption)
                obtain ⟨ad101, e101, hx101_0⟩ := Kd.at_int HR0.out x13_1 p101 q101
                cases e101
                replace p101 := eq_true p101
                replace q101 := eq_true q101
                have p102 : 0 ≤ (x13_1 : Int) := of_decide_eq_true (by first | (with_reducible assumption) | assumption)
                have q102 : x13_1 < (l1.length : Int) := of_decide_eq_true (by first | (with_reducible assumption) | assumption)
                obtain ⟨ad102, e102, hx102_0⟩ := Kd.at_int HR1.out x13_1 p102 q102
                cases e102
                replace p102 := eq_true p102
                replace q102 := eq_true q102
                go_wp2
                repeat (go_quiet (fail); try go_wp2)
                go_ret
                exact ⟨by first | rfl | (simp; done) | (simp [*]; done), by repeat (first | exact Drawn0.refl _ | apply Drawn0.step)⟩
            · rw [if_neg c7] at H
              exact absurd H (by simp)
          · rw [if_neg c6] at H
            exact absurd H (by simp)
        · rw [if_neg c5] at H
          exact absurd H (by simp)
      · rw [if_neg c4] at H
        have c4b0 : decide (x13_1 < (l0.length : Int)) = false := decide_eq_false c4
        clear c4
        obtain rfl := Option.some.inj H
        go_wp2
        repeat (go_quiet (fail); try go_wp2)
        go_ret
        exact ⟨by first | rfl | (simp; done) | (simp [*]; done), by repeat (first | exact Drawn0.refl _ | apply Drawn0.step)⟩
 · rw [if_neg c3] at H
   have c3b0 : ((l0.length : Int) == (l1.length : Int)) = false := beq_eq_false_iff_ne.mpr c3
   have c3b1 : ((l0.length : Int) != (l1.length : Int)) = true := bne_iff_ne.mpr c3
   have c3b2 : (l0.length == l1.length) = false := by first | simpa using c3 | (simp at c3 ⊢; omega)
   obtain rfl := Option.some.inj H
   go_enter Try.func80, Try.ntmps80
   go_wp2
   repeat (go_quiet (fail); try go_wp2)
   go_ret
   exact ⟨by first | rfl | (simp; done) | (simp [*]; done), by repeat (first | exact Drawn0.refl _ | apply Drawn0.step)⟩

end Go.Proofs.Ytbijnfhcbanhdaa.F
end

section
namespace Go.Proofs.Ytbijnfhcbanhdaa.F
open Go.RowKit Go.Proofs.YtbijnfhcbanhdaaW.PrintWords Go.Proofs.YtbijnfhcbanhdaaW.PrintLast Go.Proofs.YtbijnfhcbanhdaaW.PrintMore
attribute [local go_sem] max2_int min2_int max_two min_two max_three min_three max_four min_four   -- for this text's walks alone
set_option linter.unusedVariables false
set_option linter.unusedSimpArgs false

open Go.Proofs.Ytbijnfhcbanhdaa.H
def slices_Equal_int_int_c.f (l0 l1 : List Int) : Option Bool := if l0.length ≤ 1000000 then some (decide (l0 = l1)) else none
theorem slices_Equal_int_int.l0_to (l m : List Int) (hl : l.length ≤ 1000000) (hm : l.length = m.length) : ∀ (d i : Nat), l.length - i = d → i ≤ l.length → ∃ k, slices_Equal_int_int.l0 k l m (l.length : Int) (i : Int) = some (decide (l.drop i = m.drop i))
 | 0, i, hd, hi => ⟨1, by simp only [slices_Equal_int_int.l0]; rw [if_neg (by omega), List.drop_of_length_le (by omega), List.drop_of_length_le (by omega)]; simp⟩
 | d + 1, i, hd, hi => by
   have hlt : i < l.length := by omega
   have hr : rd l i = l[i] := getD_toNat l 0 i hlt
   have hr2 : rd m i = m[i]'(by omega) := getD_toNat m 0 i (by omega)
   obtain ⟨k, hk⟩ := slices_Equal_int_int.l0_to l m hl hm d (i + 1) (by omega) (by omega)
   refine ⟨k + 1, ?_⟩
   simp only [slices_Equal_int_int.l0]
   rw [if_pos (by omega), if_pos (by omega), if_pos (by omega), if_pos (by omega), hr, hr2, drop_at l i hlt, drop_at m i (by omega)]
   by_cases e : l[i] = m[i]'(by omega)
   · rw [if_pos e, show wrap64 ((i : Int) + 1) = ((i + 1 : Nat) : Int) from by unfold wrap64; omega, hk, decide_cons_eq e]
   · rw [if_neg e, decide_cons_ne e]
theorem slices_Equal_int_int_c.to {l0 l1 : List Int} {r : Bool} (h : slices_Equal_int_int_c.f l0 l1 = some r) : ∃ k, slices_Equal_int_int.f k l0 l1 = some r := by
 unfold slices_Equal_int_int_c.f at h
 split at h
 case isFalse => cases h
 case isTrue hl =>
 obtain rfl := Option.some.inj h
 unfold slices_Equal_int_int.f
 by_cases e : (l0.length : Int) = (l1.length : Int)
 · obtain ⟨k, hk⟩ := slices_Equal_int_int.l0_to l0 l1 hl (by omega) l0.length 0 (by omega) (by omega)
   exact ⟨k, by rw [if_pos e]; simpa using hk⟩
 · refine ⟨0, ?_⟩
   rw [if_neg e, decide_eq_false]
   rintro rfl
   exact e rfl

theorem slices_Equal_int_int_c.calls (A0 : Option Addr) (c0 : Nat) (l0 : List Int) (A1 : Option Addr) (c1 : Nat) (l1 : List Int) (r : Bool) (w : World) (hr0 : Kd.C (Kd.int .i64) w A0 l0.length l0) (hc0 : l0.length ≤ c0) (hr1 : Kd.C (Kd.int .i64) w A1 l1.length l1) (hc1 : l1.length ≤ c1) (h : slices_Equal_int_int_c.f l0 l1 = some r) :
 Calls Try.prog 80 #[.slice A0 l0.length c0, .slice A1 l1.length c1] w fun e w' => e = .returned (.bool r) ∧ Drawn0 w w' := by
 obtain ⟨k_, hk_⟩ := slices_Equal_int_int_c.to h
 exact slices_Equal_int_int.calls k_ A0 c0 l0 A1 c1 l1 r w hr0 hc0 hr1 hc1 hk_

end Go.Proofs.Ytbijnfhcbanhdaa.F
end

section
namespace Go.Proofs.Ytbijnfhcbanhdaa.F
open Go.RowKit Go.Proofs.YtbijnfhcbanhdaaW.PrintWords Go.Proofs.YtbijnfhcbanhdaaW.PrintLast Go.Proofs.YtbijnfhcbanhdaaW.PrintMore
attribute [local go_sem] max2_int min2_int max_two min_two max_three min_three max_four min_four   -- for this text's walks alone
set_option linter.unusedVariables false
set_option linter.unusedSimpArgs false

/-! ### mani_Same: function 43 -/
def mani_Same.f (a0_0 : Int) (l0_1 : List Int) (a0_2 : Int) (a1_0 : Int) (l1_1 : List Int) (a1_2 : Int) : Option (Bool) := if a0_0 = a1_0 then (if a0_2 = a1_2 then ((slices_Equal_int_int_c.f l0_1 l1_1).bind fun t103 => (some t103)) else (some false)) else (some false)
set_option maxHeartbeats 8000000 in
set_option maxRecDepth 100000 in
theorem mani_Same.calls (a0_0 : Int) (A0_1 : Option Addr) (c0_1 : Nat) (l0_1 : List Int) (a0_2 : Int) (a1_0 : Int) (A1_1 : Option Addr) (c1_1 : Nat) (l1_1 : List Int) (a1_2 : Int) (r : Bool) (w : World) (hr0_1 : Kd.C (Kd.int .i64) w A0_1 l0_1.length l0_1) (hc0_1 : l0_1.length ≤ c0_1) (hr1_1 : Kd.C (Kd.int .i64) w A1_1 l1_1.length l1_1) (hc1_1 : l1_1.length ≤ c1_1) (h : mani_Same.f a0_0 l0_1 a0_2 a1_0 l1_1 a1_2 = some r) :
 Calls Try.prog 43 #[.agg #[.int .u64 a0_0, .slice A0_1 l0_1.length c0_1, .int .u32 a0_2], .agg #[.int .u64 a1_0, .slice A1_1 l1_1.length c1_1, .int .u32 a1_2]] w fun e w' => e = .returned (.bool r) ∧ Below w.heap.size w w' := by
 have hu26 := Try.underlying26
 have HR0_1 := Aside0.mk hr0_1
 have HC0_1 := Aside0.mk hc0_1
 clear hr0_1 hc0_1
 have HR1_1 := Aside0.mk hr1_1
 have HC1_1 := Aside0.mk hc1_1
 clear hr1_1 hc1_1
 have HB := Aside0.mk (Below.refl w.heap.size w)
 have H : (if a0_0 = a1_0 then (if a0_2 = a1_2 then ((slices_Equal_int_int_c.f l0_1 l1_1).bind fun t103 => (some t103)) else (some false)) else (some false)) = some r := h
 clear h
 by_cases c3 : a0_0 = a1_0
 · rw [if_pos c3] at H
   have c3b0 : (a0_0 == a1_0) = true := beq_iff_eq.mpr c3
   have c3b1 : (a0_0 != a1_0) = false := bne_eq_false_iff_eq.mpr c3
   clear c3
   by_cases c4 : a0_2 = a1_2
   · rw [if_pos c4] at H
     have c4b0 : (a0_2 == a1_2) = true := beq_iff_eq.mpr c4
     have c4b1 : (a0_2 != a1_2) = false := bne_eq_false_iff_eq.mpr c4
     clear c4
     replace H := Option.bind_eq_some_iff.mp H
     obtain ⟨t103, A50, H⟩ := H
     replace H : (some t103) = some r := H
     have A5 := Aside0.mk A50
     clear A50
     obtain rfl := Option.some.inj H
     go_enter Try.func43, Try.ntmps43
     go_wp2_with (first | ((with_reducible refine gate_dst (N := 2) rfl ?_); refine box_event ?hg (N := 2) ?hd (cs := #[.int .u64 a0_0, .slice A0_1 l0_1.length c0_1, .int .u32 a0_2]) (t := 26) ?hr ?_; (case hd => rfl); (case hg => rfl); (case hr => first | (go_simp; done) | (go_simp; rfl)); intro gb101 hg w6 hbox hb; have n0_ := Aside0.mk (below_step (by repeat (first | (with_reducible first | exact HB.out | apply below_alloc | apply pw_below_drewN | apply below_drew1) | exact HB.out)) hb); have n1_ := Aside0.mk (hbox); have n2_ := Aside0.mk ((by rw [hg]; exact (below_size (by repeat (first | (with_reducible first | exact HB.out | apply below_alloc | apply pw_below_drewN | apply below_drew1) | exact HB.out))) : w.heap.size ≤ gb101)); have n3_ := Aside0.mk ((by rw [hg]; exact (below_size (by repeat (first | (with_reducible first | exact HB.out | apply below_alloc | apply pw_below_drewN | apply below_drew1) | exact HB.out))) : w.heap.size ≤ gb101)); clear HB; have HB := n0_; have BK101 := n1_; have GW101 := n2_; have GE101 := n3_; clear n0_ n1_ n2_ n3_; clear hb hbox hg) | ((with_reducible refine gate_dst (N := 3) rfl ?_); refine box_event ?hg (N := 3) ?hd (cs := #[.int .u64 a1_0, .slice A1_1 l1_1.length c1_1, .int .u32 a1_2]) (t := 26) ?hr ?_; (case hd => rfl); (case hg => rfl); (case hr => first | (go_simp; done) | (go_simp; rfl)); intro gb102 hg w7 hbox hb; have n0_ := Aside0.mk (blk_below (g := gb101) (o := .cells #[.int .u64 a0_0, .slice A0_1 l0_1.length c0_1, .int .u32 a0_2] 26 (0, 0)) (by (with_reducible repeat (first | refine blk_drewN ?_ _ | refine blk_drew ?_ | refine blk_alloc ?_ _)); exact BK101.out) hb); have n1_ := Aside0.mk (below_step (by repeat (first | (with_reducible first | exact HB.out | apply below_alloc | apply pw_below_drewN | apply below_drew1 | refine below_set ?_ GE101.out) | exact HB.out)) hb); have n2_ := Aside0.mk (hbox); have n3_ := Aside0.mk ((by rw [hg]; exact (below_size (by repeat (first | (with_reducible first | exact HB.out | apply below_alloc | apply pw_below_drewN | apply below_drew1 | refine below_set ?_ GE101.out) | exact HB.out))) : w.heap.size ≤ gb102)); have n4_ := Aside0.mk ((by rw [hg]; exact (below_size (by repeat (first | (with_reducible first | exact HB.out | apply below_alloc | apply pw_below_drewN | apply below_drew1 | refine below_set ?_ GE101.out) | exact HB.out))) : w.heap.size ≤ gb102)); have n5_ := Aside0.mk ((by rw [hg]; exact Nat.ne_of_lt (blk_lt (g := gb101) (o := .cells #[.int .u64 a0_0, .slice A0_1 l0_1.length c0_1, .int .u32 a0_2] 26 (0, 0)) (by (with_reducible repeat (first | refine blk_drewN ?_ _ | refine blk_drew ?_ | refine blk_alloc ?_ _)); exact BK101.out)) : gb101 ≠ gb102)); have n6_ := Aside0.mk ((by rw [hg]; exact Nat.ne_of_gt (blk_lt (g := gb101) (o := .cells #[.int .u64 a0_0, .slice A0_1 l0_1.length c0_1, .int .u32 a0_2] 26 (0, 0)) (by (with_reducible repeat (first | refine blk_drewN ?_ _ | refine blk_drew ?_ | refine blk_alloc ?_ _)); exact BK101.out)) : gb102 ≠ gb101)); clear BK101; clear HB; have BK101 := n0_; have HB := n1_; have BK102 := n2_; have GW102 := n3_; have GE102 := n4_; have NB101_102 := n5_; have NB102_101 := n6_; clear n0_ n1_ n2_ n3_ n4_ n5_ n6_; clear hb hbox hg; have hnb8 := NB101_102.out; have hnc8 := NB102_101.out; have hcz9_0 : w7.cell? ⟨gb101, 0, none⟩ = some (.int .u64 a0_0) := (blk_cell BK101.out 0).trans rfl; have hcz9_1 : w7.cell? ⟨gb101, 1, none⟩ = some (.slice A0_1 l0_1.length c0_1) := (blk_cell BK101.out 1).trans rfl; have hcz9_2 : w7.cell? ⟨gb101, 2, none⟩ = some (.int .u32 a0_2) := (blk_cell BK101.out 2).trans rfl; have hfz9_0 := blk_frozen BK101.out 0; have hfz9_1 := blk_frozen BK101.out 1; have hfz9_2 := blk_frozen BK101.out 2; have hcz10_0 : w7.cell? ⟨gb102, 0, none⟩ = some (.int .u64 a1_0) := (blk_cell BK102.out 0).trans rfl; have hcz10_1 : w7.cell? ⟨gb102, 1, none⟩ = some (.slice A1_1 l1_1.length c1_1) := (blk_cell BK102.out 1).trans rfl; have hcz10_2 : w7.cell? ⟨gb102, 2, none⟩ = some (.int .u32 a1_2) := (blk_cell BK102.out 2).trans rfl; have hfz10_0 := blk_frozen BK102.out 0; have hfz10_1 := blk_frozen BK102.out 1; have hfz10_2 := blk_frozen BK102.out 2) | (go_at_call 80; (with_reducible refine (slices_Equal_int_int_c.calls _ _ l0_1 _ _ l1_1 t103 _ ?side1 ?side2 ?side3 ?side4 A5.out).mono ?_); (case side1 => repeat (first | exact (Kd.C_below HR0_1.out HB.out) | (with_reducible refine Kd.C_alloc ?_ _) | (with_reducible refine Kd.C_drewN ?_ _) | (with_reducible refine Kd.C_drew ?_))); (case side2 => exact HC0_1.out); (case side3 => repeat (first | exact (Kd.C_below HR1_1.out HB.out) | (with_reducible refine Kd.C_alloc ?_ _) | (with_reducible refine Kd.C_drewN ?_ _) | (with_reducible refine Kd.C_drew ?_))); (case side4 => exact HC1_1.out); rintro e w' ⟨rfl, ⟨nd, rfl⟩⟩))
     go_ret
     exact ⟨by first | rfl | (simp [errW_none, errW_some] <;> rfl) | (simp [*, errW_none, errW_some] <;> rfl), by repeat (first | (with_reducible first | exact HB.out | apply below_alloc | apply pw_below_drewN | apply below_drew1 | refine below_set ?_ GE101.out | refine below_set ?_ GE102.out) | exact HB.out)⟩
   · rw [if_neg c4] at H
     have c4b0 : (a0_2 == a1_2) = false := beq_eq_false_iff_ne.mpr c4
     have c4b1 : (a0_2 != a1_2) = true := bne_iff_ne.mpr c4
     obtain rfl := Option.some.inj H
     go_enter Try.func43, Try.ntmps43
     go_wp2_with (first | ((with_reducible refine gate_dst (N := 2) rfl ?_); refine box_event ?hg (N := 2) ?hd (cs := #[.int .u64 a0_0, .slice A0_1 l0_1.length c0_1, .int .u32 a0_2]) (t := 26) ?hr ?_; (case hd => rfl); (case hg => rfl); (case hr => first | (go_simp; done) | (go_simp; rfl)); intro gb101 hg w11 hbox hb; have n0_ := Aside0.mk (below_step (by repeat (first | (with_reducible first | exact HB.out | apply below_alloc | apply pw_below_drewN | apply below_drew1) | exact HB.out)) hb); have n1_ := Aside0.mk (hbox); have n2_ := Aside0.mk ((by rw [hg]; exact (below_size (by repeat (first | (with_reducible first | exact HB.out | apply below_alloc | apply pw_below_drewN | apply below_drew1) | exact HB.out))) : w.heap.size ≤ gb101)); have n3_ := Aside0.mk ((by rw [hg]; exact (below_size (by repeat (first | (with_reducible first | exact HB.out | apply below_alloc | apply pw_below_drewN | apply below_drew1) | exact HB.out))) : w.heap.size ≤ gb101)); clear HB; have HB := n0_; have BK101 := n1_; have GW101 := n2_; have GE101 := n3_; clear n0_ n1_ n2_ n3_; clear hb hbox hg) | ((with_reducible refine gate_dst (N := 3) rfl ?_); refine box_event ?hg (N := 3) ?hd (cs := #[.int .u64 a1_0, .slice A1_1 l1_1.length c1_1, .int .u32 a1_2]) (t := 26) ?hr ?_; (case hd => rfl); (case hg => rfl); (case hr => first | (go_simp; done) | (go_simp; rfl)); intro gb102 hg w12 hbox hb; have n0_ := Aside0.mk (blk_below (g := gb101) (o := .cells #[.int .u64 a0_0, .slice A0_1 l0_1.length c0_1, .int .u32 a0_2] 26 (0, 0)) (by (with_reducible repeat (first | refine blk_drewN ?_ _ | refine blk_drew ?_ | refine blk_alloc ?_ _)); exact BK101.out) hb); have n1_ := Aside0.mk (below_step (by repeat (first | (with_reducible first | exact HB.out | apply below_alloc | apply pw_below_drewN | apply below_drew1 | refine below_set ?_ GE101.out) | exact HB.out)) hb); have n2_ := Aside0.mk (hbox); have n3_ := Aside0.mk ((by rw [hg]; exact (below_size (by repeat (first | (with_reducible first | exact HB.out | apply below_alloc | apply pw_below_drewN | apply below_drew1 | refine below_set ?_ GE101.out) | exact HB.out))) : w.heap.size ≤ gb102)); have n4_ := Aside0.mk ((by rw [hg]; exact (below_size (by repeat (first | (with_reducible first | exact HB.out | apply below_alloc | apply pw_below_drewN | apply below_drew1 | refine below_set ?_ GE101.out) | exact HB.out))) : w.heap.size ≤ gb102)); have n5_ := Aside0.mk ((by rw [hg]; exact Nat.ne_of_lt (blk_lt (g := gb101) (o := .cells #[.int .u64 a0_0, .slice A0_1 l0_1.length c0_1, .int .u32 a0_2] 26 (0, 0)) (by (with_reducible repeat (first | refine blk_drewN ?_ _ | refine blk_drew ?_ | refine blk_alloc ?_ _)); exact BK101.out)) : gb101 ≠ gb102)); have n6_ := Aside0.mk ((by rw [hg]; exact Nat.ne_of_gt (blk_lt (g := gb101) (o := .cells #[.int .u64 a0_0, .slice A0_1 l0_1.length c0_1, .int .u32 a0_2] 26 (0, 0)) (by (with_reducible repeat (first | refine blk_drewN ?_ _ | refine blk_drew ?_ | refine blk_alloc ?_ _)); exact BK101.out)) : gb102 ≠ gb101)); clear BK101; clear HB; have BK101 := n0_; have HB := n1_; have BK102 := n2_; have GW102 := n3_; have GE102 := n4_; have NB101_102 := n5_; have NB102_101 := n6_; clear n0_ n1_ n2_ n3_ n4_ n5_ n6_; clear hb hbox hg; have hnb13 := NB101_102.out; have hnc13 := NB102_101.out; have hcz14_0 : w12.cell? ⟨gb101, 0, none⟩ = some (.int .u64 a0_0) := (blk_cell BK101.out 0).trans rfl; have hcz14_1 : w12.cell? ⟨gb101, 1, none⟩ = some (.slice A0_1 l0_1.length c0_1) := (blk_cell BK101.out 1).trans rfl; have hcz14_2 : w12.cell? ⟨gb101, 2, none⟩ = some (.int .u32 a0_2) := (blk_cell BK101.out 2).trans rfl; have hfz14_0 := blk_frozen BK101.out 0; have hfz14_1 := blk_frozen BK101.out 1; have hfz14_2 := blk_frozen BK101.out 2; have hcz15_0 : w12.cell? ⟨gb102, 0, none⟩ = some (.int .u64 a1_0) := (blk_cell BK102.out 0).trans rfl; have hcz15_1 : w12.cell? ⟨gb102, 1, none⟩ = some (.slice A1_1 l1_1.length c1_1) := (blk_cell BK102.out 1).trans rfl; have hcz15_2 : w12.cell? ⟨gb102, 2, none⟩ = some (.int .u32 a1_2) := (blk_cell BK102.out 2).trans rfl; have hfz15_0 := blk_frozen BK102.out 0; have hfz15_1 := blk_frozen BK102.out 1; have hfz15_2 := blk_frozen BK102.out 2))
     go_ret
     exact ⟨by first | rfl | (simp [errW_none, errW_some] <;> rfl) | (simp [*, errW_none, errW_some] <;> rfl), by repeat (first | (with_reducible first | exact HB.out | apply below_alloc | apply pw_below_drewN | apply below_drew1 | refine below_set ?_ GE101.out | refine below_set ?_ GE102.out) | exact HB.out)⟩
 · rw [if_neg c3] at H
   have c3b0 : (a0_0 == a1_0) = false := beq_eq_false_iff_ne.mpr c3
   have c3b1 : (a0_0 != a1_0) = true := bne_iff_ne.mpr c3
   obtain rfl := Option.some.inj H
   go_enter Try.func43, Try.ntmps43
   go_wp2_with (first | ((with_reducible refine gate_dst (N := 2) rfl ?_); refine box_event ?hg (N := 2) ?hd (cs := #[.int .u64 a0_0, .slice A0_1 l0_1.length c0_1, .int .u32 a0_2]) (t := 26) ?hr ?_; (case hd => rfl); (case hg => rfl); (case hr => first | (go_simp; done) | (go_simp; rfl)); intro gb101 hg w16 hbox hb; have n0_ := Aside0.mk (below_step (by repeat (first | (with_reducible first | exact HB.out | apply below_alloc | apply pw_below_drewN | apply below_drew1) | exact HB.out)) hb); have n1_ := Aside0.mk (hbox); have n2_ := Aside0.mk ((by rw [hg]; exact (below_size (by repeat (first | (with_reducible first | exact HB.out | apply below_alloc | apply pw_below_drewN | apply below_drew1) | exact HB.out))) : w.heap.size ≤ gb101)); have n3_ := Aside0.mk ((by rw [hg]; exact (below_size (by repeat (first | (with_reducible first | exact HB.out | apply below_alloc | apply pw_below_drewN | apply below_drew1) | exact HB.out))) : w.heap.size ≤ gb101)); clear HB; have HB := n0_; have BK101 := n1_; have GW101 := n2_; have GE101 := n3_; clear n0_ n1_ n2_ n3_; clear hb hbox hg) | ((with_reducible refine gate_dst (N := 3) rfl ?_); refine box_event ?hg (N := 3) ?hd (cs := #[.int .u64 a1_0, .slice A1_1 l1_1.length c1_1, .int .u32 a1_2]) (t := 26) ?hr ?_; (case hd => rfl); (case hg => rfl); (case hr => first | (go_simp; done) | (go_simp; rfl)); intro gb102 hg w17 hbox hb; have n0_ := Aside0.mk (blk_below (g := gb101) (o := .cells #[.int .u64 a0_0, .slice A0_1 l0_1.length c0_1, .int .u32 a0_2] 26 (0, 0)) (by (with_reducible repeat (first | refine blk_drewN ?_ _ | refine blk_drew ?_ | refine blk_alloc ?_ _)); exact BK101.out) hb); have n1_ := Aside0.mk (below_step (by repeat (first | (with_reducible first | exact HB.out | apply below_alloc | apply pw_below_drewN | apply below_drew1 | refine below_set ?_ GE101.out) | exact HB.out)) hb); have n2_ := Aside0.mk (hbox); have n3_ := Aside0.mk ((by rw [hg]; exact (below_size (by repeat (first | (with_reducible first | exact HB.out | apply below_alloc | apply pw_below_drewN | apply below_drew1 | refine below_set ?_ GE101.out) | exact HB.out))) : w.heap.size ≤ gb102)); have n4_ := Aside0.mk ((by rw [hg]; exact (below_size (by repeat (first | (with_reducible first | exact HB.out | apply below_alloc | apply pw_below_drewN | apply below_drew1 | refine below_set ?_ GE101.out) | exact HB.out))) : w.heap.size ≤ gb102)); have n5_ := Aside0.mk ((by rw [hg]; exact Nat.ne_of_lt (blk_lt (g := gb101) (o := .cells #[.int .u64 a0_0, .slice A0_1 l0_1.length c0_1, .int .u32 a0_2] 26 (0, 0)) (by (with_reducible repeat (first | refine blk_drewN ?_ _ | refine blk_drew ?_ | refine blk_alloc ?_ _)); exact BK101.out)) : gb101 ≠ gb102)); have n6_ := Aside0.mk ((by rw [hg]; exact Nat.ne_of_gt (blk_lt (g := gb101) (o := .cells #[.int .u64 a0_0, .slice A0_1 l0_1.length c0_1, .int .u32 a0_2] 26 (0, 0)) (by (with_reducible repeat (first | refine blk_drewN ?_ _ | refine blk_drew ?_ | refine blk_alloc ?_ _)); exact BK101.out)) : gb102 ≠ gb101)); clear BK101; clear HB; have BK101 := n0_; have HB := n1_; have BK102 := n2_; have GW102 := n3_; have GE102 := n4_; have NB101_102 := n5_; have NB102_101 := n6_; clear n0_ n1_ n2_ n3_ n4_ n5_ n6_; clear hb hbox hg; have hnb18 := NB101_102.out; have hnc18 := NB102_101.out; have hcz19_0 : w17.cell? ⟨gb101, 0, none⟩ = some (.int .u64 a0_0) := (blk_cell BK101.out 0).trans rfl; have hcz19_1 : w17.cell? ⟨gb101, 1, none⟩ = some (.slice A0_1 l0_1.length c0_1) := (blk_cell BK101.out 1).trans rfl; have hcz19_2 : w17.cell? ⟨gb101, 2, none⟩ = some (.int .u32 a0_2) := (blk_cell BK101.out 2).trans rfl; have hfz19_0 := blk_frozen BK101.out 0; have hfz19_1 := blk_frozen BK101.out 1; have hfz19_2 := blk_frozen BK101.out 2; have hcz20_0 : w17.cell? ⟨gb102, 0, none⟩ = some (.int .u64 a1_0) := (blk_cell BK102.out 0).trans rfl; have hcz20_1 : w17.cell? ⟨gb102, 1, none⟩ = some (.slice A1_1 l1_1.length c1_1) := (blk_cell BK102.out 1).trans rfl; have hcz20_2 : w17.cell? ⟨gb102, 2, none⟩ = some (.int .u32 a1_2) := (blk_cell BK102.out 2).trans rfl; have hfz20_0 := blk_frozen BK102.out 0; have hfz20_1 := blk_frozen BK102.out 1; have hfz20_2 := blk_frozen BK102.out 2))
   go_ret
   exact ⟨by first | rfl | (simp [errW_none, errW_some] <;> rfl) | (simp [*, errW_none, errW_some] <;> rfl), by repeat (first | (with_reducible first | exact HB.out | apply below_alloc | apply pw_below_drewN | apply below_drew1 | refine below_set ?_ GE101.out | refine below_set ?_ GE102.out) | exact HB.out)⟩

end Go.Proofs.Ytbijnfhcbanhdaa.F
end

section
namespace Go.Proofs.Ytbijnfhcbanhdaa.F
open Go.RowKit Go.Proofs.YtbijnfhcbanhdaaW.PrintWords Go.Proofs.YtbijnfhcbanhdaaW.PrintLast Go.Proofs.YtbijnfhcbanhdaaW.PrintMore
attribute [local go_sem] max2_int min2_int max_two min_two max_three min_three max_four min_four   -- for this text's walks alone
set_option linter.unusedVariables false
set_option linter.unusedSimpArgs false

/-! ### bytes_Equal: function 44 -/
def bytes_Equal.f (l0 : List Int) (l1 : List Int) : Option (Bool) := some ((strOfNums l0).toList == (strOfNums l1).toList)
set_option maxHeartbeats 8000000 in
set_option maxRecDepth 100000 in
theorem bytes_Equal.calls (A0 : Option Addr) (c0 : Nat) (l0 : List Int) (A1 : Option Addr) (c1 : Nat) (l1 : List Int) (r : Bool) (w : World) (hr0 : Kd.C (Kd.int .u8) w A0 l0.length l0) (hc0 : l0.length ≤ c0) (hr1 : Kd.C (Kd.int .u8) w A1 l1.length l1) (hc1 : l1.length ≤ c1) (h : bytes_Equal.f l0 l1 = some r) :
 Calls Try.prog 44 #[.slice A0 l0.length c0, .slice A1 l1.length c1] w fun e w' => e = .returned (.bool r) ∧ Drawn0 w w' := by
 have HR0 := Aside0.mk hr0
 have HC0 := Aside0.mk hc0
 clear hr0 hc0
 have HR1 := Aside0.mk hr1
 have HC1 := Aside0.mk hc1
 clear hr1 hc1
 have H : (some ((strOfNums l0).toList == (strOfNums l1).toList)) = some r := h
 clear h
 obtain rfl := Option.some.inj H
 have hcv3 := Kd.C_string (P := Try.prog) (A := A0) (c := c0) Try.underlying27 Try.underlying5 Try.underlying9 HR0.out
 have hcv4 := Kd.C_string (P := Try.prog) (A := A1) (c := c1) Try.underlying27 Try.underlying5 Try.underlying9 HR1.out
 go_enter Try.func44, Try.ntmps44
 go_wp2
 go_ret
 exact ⟨by first | rfl | (simp; done) | (simp [*]; done), by repeat (first | exact Drawn0.refl _ | apply Drawn0.step)⟩

end Go.Proofs.Ytbijnfhcbanhdaa.F
end
