/- Proved: at every input in bounds the statement TokenBits of the token layer answers yes: a token with bits of more, or fewer, chunks than there are is none.
Text 4 of 5; functions told as plain ones, with the contracts of their calls. -/
import Derived.Test.YtbijnfhcbanhdaaQTokenBits1
import Derived.Test.YtbijnfhcbanhdaaQTokenBits3
import Derived.Test.YtbijnfhcbanhdaaQTokenBits2
section
namespace Go.Proofs.Ytbijnfhcbanhdaa.F
open Go.RowKit Go.Proofs.YtbijnfhcbanhdaaW.PrintWords Go.Proofs.YtbijnfhcbanhdaaW.PrintLast Go.Proofs.YtbijnfhcbanhdaaW.PrintMore
attribute [local go_sem] max2_int min2_int max_two min_two max_three min_three max_four min_four   -- for this text's walks alone
set_option linter.unusedVariables false
set_option linter.unusedSimpArgs false

/-! ### scullerlaw07_Arena: function 74 -/
mutual
def scullerlaw07_Arena.l0 : Nat → List Int → Int → List (List Int) → Int → Int → Option ((List (List Int)))
 | 0, _, _, _, _, _ => none
 | k + 1, x0, x1, x5, x6, x7 => if x7 < (wrap64 (1 + (wrap64 (Int.tmod x1 5)))) then (if x7 < (x0.length : Int) then (if 0 ≤ x7 then (scullerlaw07_Arena.j1 k x0 x1 x5 x6 x7 ([] : List Int) (wrap64 (Int.tmod (rd x0 x7) 12))) else (none)) else (scullerlaw07_Arena.j1 k x0 x1 x5 x6 x7 ([] : List Int) 1)) else (some x5)
def scullerlaw07_Arena.j1 : Nat → List Int → Int → List (List Int) → Int → Int → List Int → Int → Option ((List (List Int)))
 | 0, _, _, _, _, _, _, _ => none
 | k + 1, x0, x1, x5, x6, x7, x8, x9 => if x7 = 0 then (scullerlaw07_Arena.j2 k x0 x1 x5 x6 x7 x8 (wrap64 (x9 + 1))) else (scullerlaw07_Arena.j2 k x0 x1 x5 x6 x7 x8 x9)
def scullerlaw07_Arena.j2 : Nat → List Int → Int → List (List Int) → Int → Int → List Int → Int → Option ((List (List Int)))
 | 0, _, _, _, _, _, _, _ => none
 | k + 1, x0, x1, x5, x6, x7, x8, x9 => scullerlaw07_Arena.l1 k x0 x1 x5 x6 x7 x8 x9 0
def scullerlaw07_Arena.l1 : Nat → List Int → Int → List (List Int) → Int → Int → List Int → Int → Int → Option ((List (List Int)))
 | 0, _, _, _, _, _, _, _, _ => none
 | k + 1, x0, x1, x5, x6, x7, x8, x9, x10 => if x10 < x9 then (if (x0.length : Int) > 0 then (if (x0.length : Int) = 0 then (none) else (if 0 ≤ (Int.tmod x6 (x0.length : Int)) then (if (Int.tmod x6 (x0.length : Int)) < (x0.length : Int) then (if x8.length < 17592186044416 then (scullerlaw07_Arena.l1 k x0 x1 x5 (wrap64 (x6 + 1)) x7 (x8 ++ [IntKind.u64.wrap ((IntKind.u64.wrap ((IntKind.u64.wrap (rd x0 (Int.tmod x6 (x0.length : Int)))) * 4311810305)) + (IntKind.u64.wrap (x6)))]) x9 (wrap64 (x10 + 1))) else (none)) else (none)) else (none))) else (if x8.length < 17592186044416 then (scullerlaw07_Arena.l1 k x0 x1 x5 (wrap64 (x6 + 1)) x7 (x8 ++ [IntKind.u64.wrap (x6)]) x9 (wrap64 (x10 + 1))) else (none))) else (if x5.length < 5864062014805 then (scullerlaw07_Arena.l0 k x0 x1 (x5 ++ [x8]) x6 (wrap64 (x7 + 1))) else (none))
end
def scullerlaw07_Arena.f (k : Nat) (l0 : List Int) (a1 : Int) : Option ((List (List Int))) := scullerlaw07_Arena.l0 k l0 a1 ([] : List (List Int)) 0 0
theorem scullerlaw07_Arena.mono_l : ∀ k, (∀ y0 y1 y2 y3 y4, LeO (scullerlaw07_Arena.l0 k y0 y1 y2 y3 y4) (scullerlaw07_Arena.l0 (k + 1) y0 y1 y2 y3 y4)) ∧ (∀ y0 y1 y2 y3 y4 y5 y6, LeO (scullerlaw07_Arena.j1 k y0 y1 y2 y3 y4 y5 y6) (scullerlaw07_Arena.j1 (k + 1) y0 y1 y2 y3 y4 y5 y6)) ∧ (∀ y0 y1 y2 y3 y4 y5 y6, LeO (scullerlaw07_Arena.j2 k y0 y1 y2 y3 y4 y5 y6) (scullerlaw07_Arena.j2 (k + 1) y0 y1 y2 y3 y4 y5 y6)) ∧ (∀ y0 y1 y2 y3 y4 y5 y6 y7, LeO (scullerlaw07_Arena.l1 k y0 y1 y2 y3 y4 y5 y6 y7) (scullerlaw07_Arena.l1 (k + 1) y0 y1 y2 y3 y4 y5 y6 y7))
 | 0 => ⟨fun _ _ _ _ _ r h => by simp [scullerlaw07_Arena.l0] at h, fun _ _ _ _ _ _ _ r h => by simp [scullerlaw07_Arena.j1] at h, fun _ _ _ _ _ _ _ r h => by simp [scullerlaw07_Arena.j2] at h, fun _ _ _ _ _ _ _ _ r h => by simp [scullerlaw07_Arena.l1] at h⟩
 | k + 1 => by
   obtain ⟨ih0, ih1, ih2, ih3⟩ := scullerlaw07_Arena.mono_l k
   refine ⟨?_, ?_, ?_, ?_⟩
   · intro y0 y1 y2 y3 y4
     unfold scullerlaw07_Arena.l0
     repeat' first
     | (with_reducible exact ih0 _ _ _ _ _)
     | (with_reducible exact ih1 _ _ _ _ _ _ _)
     | (with_reducible exact ih2 _ _ _ _ _ _ _)
     | (with_reducible exact ih3 _ _ _ _ _ _ _ _)
     | (with_reducible exact LeO.refl _)
     | (with_reducible exact LeO.none _)
     | (with_reducible refine LeO.ite ?_ ?_)
     | (with_reducible refine LeO.bind ?_ (fun _ => ?_))
     | exact ih0 _ _ _ _ _
     | exact ih1 _ _ _ _ _ _ _
     | exact ih2 _ _ _ _ _ _ _
     | exact ih3 _ _ _ _ _ _ _ _
     | exact LeO.none _
     | refine LeO.ite ?_ ?_
     | refine LeO.bind ?_ (fun _ => ?_)
   · intro y0 y1 y2 y3 y4 y5 y6
     unfold scullerlaw07_Arena.j1
     repeat' first
     | (with_reducible exact ih0 _ _ _ _ _)
     | (with_reducible exact ih1 _ _ _ _ _ _ _)
     | (with_reducible exact ih2 _ _ _ _ _ _ _)
     | (with_reducible exact ih3 _ _ _ _ _ _ _ _)
     | (with_reducible exact LeO.refl _)
     | (with_reducible exact LeO.none _)
     | (with_reducible refine LeO.ite ?_ ?_)
     | (with_reducible refine LeO.bind ?_ (fun _ => ?_))
     | exact ih0 _ _ _ _ _
     | exact ih1 _ _ _ _ _ _ _
     | exact ih2 _ _ _ _ _ _ _
     | exact ih3 _ _ _ _ _ _ _ _
     | exact LeO.none _
     | refine LeO.ite ?_ ?_
     | refine LeO.bind ?_ (fun _ => ?_)
   · intro y0 y1 y2 y3 y4 y5 y6
     unfold scullerlaw07_Arena.j2
     repeat' first
     | (with_reducible exact ih0 _ _ _ _ _)
     | (with_reducible exact ih1 _ _ _ _ _ _ _)
     | (with_reducible exact ih2 _ _ _ _ _ _ _)
     | (with_reducible exact ih3 _ _ _ _ _ _ _ _)
     | (with_reducible exact LeO.refl _)
     | (with_reducible exact LeO.none _)
     | (with_reducible refine LeO.ite ?_ ?_)
     | (with_reducible refine LeO.bind ?_ (fun _ => ?_))
     | exact ih0 _ _ _ _ _
     | exact ih1 _ _ _ _ _ _ _
     | exact ih2 _ _ _ _ _ _ _
     | exact ih3 _ _ _ _ _ _ _ _
     | exact LeO.none _
     | refine LeO.ite ?_ ?_
     | refine LeO.bind ?_ (fun _ => ?_)
   · intro y0 y1 y2 y3 y4 y5 y6 y7
     unfold scullerlaw07_Arena.l1
     repeat' first
     | (with_reducible exact ih0 _ _ _ _ _)
     | (with_reducible exact ih1 _ _ _ _ _ _ _)
     | (with_reducible exact ih2 _ _ _ _ _ _ _)
     | (with_reducible exact ih3 _ _ _ _ _ _ _ _)
     | (with_reducible exact LeO.refl _)
     | (with_reducible exact LeO.none _)
     | (with_reducible refine LeO.ite ?_ ?_)
     | (with_reducible refine LeO.bind ?_ (fun _ => ?_))
     | exact ih0 _ _ _ _ _
     | exact ih1 _ _ _ _ _ _ _
     | exact ih2 _ _ _ _ _ _ _
     | exact ih3 _ _ _ _ _ _ _ _
     | exact LeO.none _
     | refine LeO.ite ?_ ?_
     | refine LeO.bind ?_ (fun _ => ?_)
theorem scullerlaw07_Arena.mono : ∀ a0 a1 k, LeO (scullerlaw07_Arena.f k a0 a1) (scullerlaw07_Arena.f (k + 1) a0 a1) := by
 intro a0 a1 k
 obtain ⟨ih0, ih1, ih2, ih3⟩ := scullerlaw07_Arena.mono_l k
 unfold scullerlaw07_Arena.f
 repeat' first
  | (with_reducible exact ih0 _ _ _ _ _)
  | (with_reducible exact ih1 _ _ _ _ _ _ _)
  | (with_reducible exact ih2 _ _ _ _ _ _ _)
  | (with_reducible exact ih3 _ _ _ _ _ _ _ _)
  | (with_reducible exact LeO.refl _)
  | (with_reducible exact LeO.none _)
  | (with_reducible refine LeO.ite ?_ ?_)
  | (with_reducible refine LeO.bind ?_ (fun _ => ?_))
  | exact ih0 _ _ _ _ _
  | exact ih1 _ _ _ _ _ _ _
  | exact ih2 _ _ _ _ _ _ _
  | exact ih3 _ _ _ _ _ _ _ _
  | exact LeO.none _
  | refine LeO.ite ?_ ?_
  | refine LeO.bind ?_ (fun _ => ?_)
set_option maxHeartbeats 8000000 in
set_option maxRecDepth 100000 in
theorem scullerlaw07_Arena.calls (k : Nat) (A0 : Option Addr) (c0 : Nat) (l0 : List Int) (a1 : Int) (r : List (List Int)) (w : World) (hr0 : Kd.C (Kd.int .u8) w A0 l0.length l0) (hc0 : l0.length ≤ c0) (h : scullerlaw07_Arena.f k l0 a1 = some r) :
 Calls Try.prog 74 #[.slice A0 l0.length c0, .int .u8 a1] w fun e w' => ∃ v0_ : Value, e = .returned (v0_) ∧ Kd.S (Kd.slice 22 (Kd.int .u64)) 123 w' w.heap.size (fun _ => True) v0_ r ∧ Below w.heap.size w w' := by
 have HR0 := Aside0.mk hr0
 have HC0 := Aside0.mk hc0
 clear hr0 hc0
 have HB := Aside0.mk (Below.refl w.heap.size w)
 have H : (scullerlaw07_Arena.l0 k l0 a1 ([] : List (List Int)) 0 0) = some r := h
 clear h
 have H' := Aside0.mk H
 clear H
 go_enter Try.func74, Try.ntmps74
 go_wp2
 go_loopg [5, 6, 7] k (fun kq v5 v6 v7 w' => ∃ (x5_1 : List (List Int)) (x6_1 : Int) (x7_1 : Int), v6 = .int .i64 x6_1 ∧ v7 = .int .i64 x7_1 ∧ Aside0 (scullerlaw07_Arena.l0 kq l0 a1 x5_1 x6_1 x7_1 = some r) ∧ Aside0 (kq ≤ k) ∧ Aside0 (Kd.S (Kd.slice 22 (Kd.int .u64)) 123 w' w.heap.size (fun _ => True) v5 x5_1) ∧ Aside0 (Below w.heap.size w w'))
 case atStart => exact ⟨(([] : List (List Int))), (0), (0), (by first | rfl | (simp; done) | (simp [*]; done)), (by first | rfl | (simp; done) | (simp [*]; done)), H', ⟨Nat.le_refl _⟩, ⟨by first | exact Kd.S_nil _ _ _ _ _ | exact Kd.N_nil _ _ _ _ _ | exact Kd.V_nil _ _ _ _ _ | exact Kd.Q_nil _ _ _ _ _ | exact Kd.R_nil _ _ _ _ _⟩, ⟨by repeat (first | (with_reducible first | exact HB.out | apply below_alloc | apply pw_below_drewN | apply below_drew1) | exact HB.out)⟩⟩
 case round =>
  clear H'
  try clear p2
  obtain ⟨x5_1, x6_1, x7_1, rfl, rfl, HA, HK1, HO_5, HB⟩ := hrel
  cases gk with
  | zero => exact absurd HA.out (by simp [scullerlaw07_Arena.l0])
  | succ k1 =>
    have H := HA.out
    clear HA
    simp only [scullerlaw07_Arena.l0] at H
    by_cases c3 : x7_1 < (wrap64 (1 + (wrap64 (Int.tmod a1 5))))
    · rw [if_pos c3] at H
      have c3b0 : decide (x7_1 < (wrap64 (1 + (wrap64 (Int.tmod a1 5))))) = true := decide_eq_true c3
      clear c3
      have HC4 := Aside0.mk H
      clear H
      go_upto_if 23 with (fail)
      go_cut [9] (fun v9 wc => ∃ (kq : Nat) (x9_3 : Int), v9 = .int .i64 x9_3 ∧ Aside0 (scullerlaw07_Arena.j1 kq l0 a1 x5_1 x6_1 x7_1 ([] : List Int) x9_3 = some r) ∧ Aside0 (kq ≤ k1) ∧ Aside0 (Kd.S (Kd.slice 22 (Kd.int .u64)) 123 wc w.heap.size (fun k_ => some k_ ≠ ((.slice none 0 0) : Value).ownBlock) u5 x5_1) ∧ Aside0 (Kd.R (Kd.int .u64) 22 wc w.heap.size (fun _ => True) (.slice none 0 0) ([] : List Int)) ∧ Aside0 (Below w.heap.size w wc))
      case first =>
       have H := HC4.out
       clear HC4
       by_cases c5 : x7_1 < (l0.length : Int)
       · rw [if_pos c5] at H
         have c5b0 : decide (x7_1 < (l0.length : Int)) = true := decide_eq_true c5
         clear c5
         (first | rw [c5b0] | (simp only [i64_w, i32_w]; rw [c5b0]) | skip)
         by_cases c6 : 0 ≤ x7_1
         · rw [if_pos c6] at H
           have c6b0 : decide (0 ≤ x7_1) = true := decide_eq_true c6
           clear c6
           have H' := Aside0.mk H
           clear H
           have p101 : 0 ≤ (x7_1 : Int) := of_decide_eq_true (by first | (with_reducible assumption) | assumption)
           have q101 : x7_1 < (l0.length : Int) := of_decide_eq_true (by first | (with_reducible assumption) | assumption)
           obtain ⟨ad101, e101, hx101_0⟩ := Kd.at_int HR0.out x7_1 p101 q101
           cases e101
           replace hx101_0 := (HB.out.cell (World.block_lt_of_cell? w _ hx101_0)).trans hx101_0
           replace p101 := eq_true p101
           replace q101 := eq_true q101
           go_wp2
           go_meet
           case rel => exact ⟨_, (wrap64 (Int.tmod (rd l0 x7_1) 12)), (by first | rfl | (simp; done) | (simp [*]; done)), H', ⟨by have := HK1.out; first | omega | exact Nat.le_refl _⟩, ⟨by (with_reducible repeat (first | apply Kd.S_alloc | apply Kd.S_drewN | apply Kd.S_drew)); exact Kd.S_mono HO_5.out (fun _ hk => (by simp [Value.ownBlock]))⟩, ⟨by first | exact Kd.R_nil _ _ _ _ _ | exact Kd.N_nil _ _ _ _ _ | exact Kd.V_nil _ _ _ _ _ | exact Kd.Q_nil _ _ _ _ _ | exact Kd.S_nil _ _ _ _ _⟩, ⟨by repeat (first | (with_reducible first | exact HB.out | apply below_alloc | apply pw_below_drewN | apply below_drew1) | exact HB.out)⟩⟩
         · rw [if_neg c6] at H
           exact absurd H (by simp)
       · rw [if_neg c5] at H
         have c5b0 : decide (x7_1 < (l0.length : Int)) = false := decide_eq_false c5
         clear c5
         (first | rw [c5b0] | (simp only [i64_w, i32_w]; rw [c5b0]) | skip)
         have H' := Aside0.mk H
         clear H
         go_wp2
         go_meet
         case rel => exact ⟨_, (1), (by first | rfl | (simp; done) | (simp [*]; done)), H', ⟨by have := HK1.out; first | omega | exact Nat.le_refl _⟩, ⟨by (with_reducible repeat (first | apply Kd.S_alloc | apply Kd.S_drewN | apply Kd.S_drew)); exact Kd.S_mono HO_5.out (fun _ hk => (by simp [Value.ownBlock]))⟩, ⟨by first | exact Kd.R_nil _ _ _ _ _ | exact Kd.N_nil _ _ _ _ _ | exact Kd.V_nil _ _ _ _ _ | exact Kd.Q_nil _ _ _ _ _ | exact Kd.S_nil _ _ _ _ _⟩, ⟨by repeat (first | (with_reducible first | exact HB.out | apply below_alloc | apply pw_below_drewN | apply below_drew1) | exact HB.out)⟩⟩
      case rest =>
       clear HC4
       try clear p1
       try clear q1
       try clear hx1
       try clear p2
       try clear c3
       try clear c3b0
       try clear c5
       try clear c5b0
       try clear c6
       try clear c6b0
       try clear p6
       try clear hx101_0
       try clear p101
       try clear p2
       try clear q101
       obtain ⟨kq, x9_3, rfl, HA, HJ3, HO_5, HO_8, HB⟩ := hcut
       cases kq with
       | zero => exact absurd HA.out (by simp [scullerlaw07_Arena.j1])
       | succ kj3 =>
         have H := HA.out
         clear HA
         simp only [scullerlaw07_Arena.j1] at H
         have HC7 := Aside0.mk H
         clear H
         go_upto_if 31 with (fail)
         go_cut [9] (fun v9 wc => ∃ (kq : Nat) (x9_6 : Int), v9 = .int .i64 x9_6 ∧ Aside0 (scullerlaw07_Arena.j2 kq l0 a1 x5_1 x6_1 x7_1 ([] : List Int) x9_6 = some r) ∧ Aside0 (kq ≤ kj3) ∧ Aside0 (Kd.S (Kd.slice 22 (Kd.int .u64)) 123 wc w.heap.size (fun k_ => some k_ ≠ ((.slice none 0 0) : Value).ownBlock) u5 x5_1) ∧ Aside0 (Kd.R (Kd.int .u64) 22 wc w.heap.size (fun _ => True) (.slice none 0 0) ([] : List Int)) ∧ Aside0 (Below w.heap.size w wc))
         case first =>
          have H := HC7.out
          clear HC7
          by_cases c8 : x7_1 = 0
          · rw [if_pos c8] at H
            have c8b0 : (x7_1 == 0) = true := beq_iff_eq.mpr c8
            have c8b1 : (x7_1 != 0) = false := bne_eq_false_iff_eq.mpr c8
            clear c8
            (first | rw [c8b0] | (simp only [i64_w, i32_w]; rw [c8b0]) | skip)
            have H' := Aside0.mk H
            clear H
            go_wp2
            go_meet
            case rel => exact ⟨_, (wrap64 (x9_3 + 1)), (by first | rfl | (simp; done) | (simp [*]; done)), H', ⟨by have := HK1.out; have := HJ3.out; first | omega | exact Nat.le_refl _⟩, ⟨by (with_reducible repeat (first | apply Kd.S_alloc | apply Kd.S_drewN | apply Kd.S_drew)); exact HO_5.out⟩, ⟨by (with_reducible repeat (first | apply Kd.R_alloc | apply Kd.R_drewN | apply Kd.R_drew)); exact HO_8.out⟩, ⟨by repeat (first | (with_reducible first | exact HB.out | apply below_alloc | apply pw_below_drewN | apply below_drew1) | exact HB.out)⟩⟩
          · rw [if_neg c8] at H
            have c8b0 : (x7_1 == 0) = false := beq_eq_false_iff_ne.mpr c8
            have c8b1 : (x7_1 != 0) = true := bne_iff_ne.mpr c8
            (first | rw [c8b0] | (simp only [i64_w, i32_w]; rw [c8b0]) | skip)
            have H' := Aside0.mk H
            clear H
            go_wp2
            go_meet
            case rel => exact ⟨_, (x9_3), (by first | rfl | (simp; done) | (simp [*]; done)), H', ⟨by have := HK1.out; have := HJ3.out; first | omega | exact Nat.le_refl _⟩, ⟨by (with_reducible repeat (first | apply Kd.S_alloc | apply Kd.S_drewN | apply Kd.S_drew)); exact HO_5.out⟩, ⟨by (with_reducible repeat (first | apply Kd.R_alloc | apply Kd.R_drewN | apply Kd.R_drew)); exact HO_8.out⟩, ⟨by repeat (first | (with_reducible first | exact HB.out | apply below_alloc | apply pw_below_drewN | apply below_drew1) | exact HB.out)⟩⟩
         case rest =>
          clear HC7
          try clear p1
          try clear q1
          try clear hx1
          try clear p2
          try clear c3
          try clear c3b0
          try clear c5
          try clear c5b0
          try clear c6
          try clear c6b0
          try clear p6
          try clear c7
          try clear c8
          try clear c8b0
          try clear c8b1
          try clear hx101_0
          try clear p1
          try clear p101
          try clear p2
          try clear p6
          try clear q1
          try clear q101
          obtain ⟨kq, x9_6, rfl, HA, HJ6, HO_5, HO_8, HB⟩ := hcut
          cases kq with
          | zero => exact absurd HA.out (by simp [scullerlaw07_Arena.j2])
          | succ kj6 =>
            have H := HA.out
            clear HA
            simp only [scullerlaw07_Arena.j2] at H
            have H' := Aside0.mk H
            clear H
            go_wp2
            go_loopg [6, 8, 10] kj6 (fun kq v6 v8 v10 w' => ∃ (x6_4 : Int) (x8_4 : List Int) (x10_4 : Int), v6 = .int .i64 x6_4 ∧ v10 = .int .i64 x10_4 ∧ Aside0 (scullerlaw07_Arena.l1 kq l0 a1 x5_1 x6_4 x7_1 x8_4 x9_6 x10_4 = some r) ∧ Aside0 (kq ≤ kj6) ∧ Aside0 (Kd.S (Kd.slice 22 (Kd.int .u64)) 123 w' w.heap.size (fun k_ => some k_ ≠ (v8 : Value).ownBlock) u5 x5_1) ∧ Aside0 (Kd.R (Kd.int .u64) 22 w' w.heap.size (fun _ => True) v8 x8_4) ∧ Aside0 (Below w.heap.size w w'))
            case atStart => exact ⟨(x6_1), (([] : List Int)), (0), (by first | rfl | (simp; done) | (simp [*]; done)), (by first | rfl | (simp; done) | (simp [*]; done)), H', ⟨Nat.le_refl _⟩, ⟨by (with_reducible repeat (first | apply Kd.S_alloc | apply Kd.S_drewN | apply Kd.S_drew)); exact HO_5.out⟩, ⟨by (with_reducible repeat (first | apply Kd.R_alloc | apply Kd.R_drewN | apply Kd.R_drew)); exact HO_8.out⟩, ⟨by repeat (first | (with_reducible first | exact HB.out | apply below_alloc | apply pw_below_drewN | apply below_drew1) | exact HB.out)⟩⟩
            case round =>
             clear H'
             try clear p1
             try clear q1
             try clear hx1
             try clear p2
             try clear c3
             try clear c3b0
             try clear c5
             try clear c5b0
             try clear c6
             try clear c6b0
             try clear p6
             try clear c7
             try clear c8
             try clear c8b0
             try clear c8b1
             try clear hx101_0
             try clear p1
             try clear p101
             try clear p2
             try clear p6
             try clear q1
             try clear q101
             obtain ⟨x6_4, x8_4, x10_4, rfl, rfl, HA, HK4, HO_5, HO_8, HB⟩ := hrel
             cases gk with
             | zero => exact absurd HA.out (by simp [scullerlaw07_Arena.l1])
             | succ k4 =>
               have H := HA.out
               clear HA
               simp only [scullerlaw07_Arena.l1] at H
               by_cases c9 : x10_4 < x9_6
               · rw [if_pos c9] at H
                 have c9b0 : decide (x10_4 < x9_6) = true := decide_eq_true c9
                 clear c9
                 by_cases c10 : (l0.length : Int) > 0
                 · rw [if_pos c10] at H
                   have c10b0 : decide (0 < (l0.length : Int)) = true := decide_eq_true c10
                   have c10b1 : decide (0 < l0.length) = true := decide_eq_true (by omega)
                   clear c10
                   by_cases c11 : (l0.length : Int) = 0
                   · rw [if_pos c11] at H
                     exact absurd H (by simp)
                   · rw [if_neg c11] at H
                     have c11b0 : ((l0.length : Int) == 0) = false := beq_eq_false_iff_ne.mpr c11
                     have c11b1 : ((l0.length : Int) != 0) = true := bne_iff_ne.mpr c11
                     have c11b2 : ¬ (l0 = []) := fun h_ => c11 (by rw [h_]; rfl)
                     obtain ⟨ji12, hji12⟩ : ∃ j_ : Int, (Int.tmod x6_4 (l0.length : Int)) = j_ := ⟨_, rfl⟩
                     replace H : (if 0 ≤ (ji12) then (if (ji12) < (l0.length : Int) then (if x8_4.length < 17592186044416 then (scullerlaw07_Arena.l1 k4 l0 a1 x5_1 (wrap64 (x6_4 + 1)) x7_1 (x8_4 ++ [IntKind.u64.wrap ((IntKind.u64.wrap ((IntKind.u64.wrap (rd l0 (ji12))) * 4311810305)) + (IntKind.u64.wrap (x6_4)))]) x9_6 (wrap64 (x10_4 + 1))) else (none)) else (none)) else (none)) = some r := by first | (rw [hji12] at H; exact H) | (simp only [hji12] at H ⊢; exact H)
                     by_cases c13 : 0 ≤ (ji12)
                     · rw [if_pos c13] at H
                       have c13b0 : decide (0 ≤ (ji12)) = true := decide_eq_true c13
                       clear c13
                       by_cases c14 : (ji12) < (l0.length : Int)
                       · rw [if_pos c14] at H
                         have c14b0 : decide ((ji12) < (l0.length : Int)) = true := decide_eq_true c14
                         clear c14
                         by_cases c15 : x8_4.length < 17592186044416
                         · rw [if_pos c15] at H
                           have LMc15 := Aside0.mk c15
                           clear c15
                           obtain ⟨y103, hy103⟩ : ∃ y_ : List Int, y_ = (x8_4 ++ [IntKind.u64.wrap ((IntKind.u64.wrap ((IntKind.u64.wrap (rd l0 (ji12))) * 4311810305)) + (IntKind.u64.wrap (x6_4)))]) := ⟨_, rfl⟩
                           replace H : (scullerlaw07_Arena.l1 k4 l0 a1 x5_1 (wrap64 (x6_4 + 1)) x7_1 y103 x9_6 (wrap64 (x10_4 + 1))) = some r := by first | (rw [hy103]; with_reducible exact H) | (have H2_ := (Option.bind_some _ _).symm.trans H; rw [hy103]; with_reducible exact H2_) | (have H2_ := (Option.bind_some _ _).symm.trans H; with_reducible exact H2_) | with_reducible exact H | (rw [hy103]; exact H) | exact H
                           have Ny103 := Aside0.mk hy103
                           clear hy103
                           have H' := Aside0.mk H
                           clear H
                           have p102 : 0 ≤ ((ji12) : Int) := of_decide_eq_true (by first | (with_reducible assumption) | assumption)
                           have q102 : (ji12) < (l0.length : Int) := of_decide_eq_true (by first | (with_reducible assumption) | assumption)
                           obtain ⟨ad102, e102, hx102_0⟩ := Kd.at_int HR0.out (ji12) p102 q102
                           cases e102
                           replace hx102_0 := (HB.out.cell (World.block_lt_of_cell? w _ hx102_0)).trans hx102_0
                           replace p102 := eq_true p102
                           replace q102 := eq_true q102
                           go_wp2_with (first | ((with_reducible refine gate_builtin (b := .append) (xs := #[.tmp 56, .tmp 58]) rfl ?_); at_builtin; refine Kd.R_append (Kd.int .u64) (w0 := w) w.heap.size rfl (.tmp 56) (.tmp 58) 123 22 (.int .u64 0) 8 rfl Try.underlying123 info22 rfl (by decide) (by omega) u8 x8_4 (IntKind.u64.wrap ((IntKind.u64.wrap ((IntKind.u64.wrap (rd l0 (ji12))) * 4311810305)) + (IntKind.u64.wrap (x6_4)))) [.int .u64 (IntKind.u64.wrap ((IntKind.u64.wrap ((IntKind.u64.wrap (rd l0 (ji12))) * 4311810305)) + (IntKind.u64.wrap (x6_4))))] (fun _ => True) (fun _ => False) rfl rfl ?aP (fun _ hk => hk.elim) ?aF ?aO ?aB ?aS ?aL ?_; (case aP => exact rfl); (case aB => exact (by repeat (first | (with_reducible first | exact HB.out | apply below_alloc | apply pw_below_drewN | apply below_drew1) | exact HB.out))); (case aF => exact (fun _ _ => trivial)); (case aO => exact (by (with_reducible repeat (first | apply Kd.R_alloc | apply Kd.R_drewN | apply Kd.R_drew)); exact HO_8.out)); (case aS => exact (below_size (by repeat (first | (with_reducible first | exact HB.out | apply below_alloc | apply pw_below_drewN | apply below_drew1) | exact HB.out)))); (case aL => have := LMc15.out; omega); intro v104 w16 ho hb hg hat; rw [← Ny103.out] at ho; have n0_ := Aside0.mk (Kd.S_after (ok := (fun _ => True)) (by (with_reducible repeat (first | apply Kd.S_alloc | apply Kd.S_drewN | apply Kd.S_drew)); exact Kd.S_mono HO_5.out (fun _ hk => ⟨trivial, hk⟩)) hg hat); have n1_ := Aside0.mk (hb); have n2_ := Aside0.mk (ho); clear HO_5; clear HB; clear HO_8; have HO_5 := n0_; have HB := n1_; have HO105 := n2_; clear n0_ n1_ n2_; clear ho hb hg hat))
                           go_roundg k4
                           case measure => have := HK1.out; have := HJ3.out; have := HJ6.out; have := HK4.out; omega
                           case rel => exact ⟨(wrap64 (x6_4 + 1)), (y103), (wrap64 (x10_4 + 1)), (by first | rfl | (simp; done) | (simp [*]; done)), (by first | rfl | (simp; done) | (simp [*]; done)), H', ⟨by have := HK1.out; have := HJ3.out; have := HJ6.out; have := HK4.out; omega⟩, ⟨by (with_reducible repeat (first | apply Kd.S_alloc | apply Kd.S_drewN | apply Kd.S_drew)); exact Kd.S_mono HO_5.out (fun _ hk => hk.2)⟩, ⟨by (with_reducible repeat (first | apply Kd.R_alloc | apply Kd.R_drewN | apply Kd.R_drew)); exact HO105.out⟩, ⟨by repeat (first | (with_reducible first | exact HB.out | apply below_alloc | apply pw_below_drewN | apply below_drew1) | exact HB.out)⟩⟩
                         · rw [if_neg c15] at H
                           exact absurd H (by simp)
                       · rw [if_neg c14] at H
                         exact absurd H (by simp)
                     · rw [if_neg c13] at H
                       exact absurd H (by simp)
                 · rw [if_neg c10] at H
                   have c10b0 : decide (0 < (l0.length : Int)) = false := decide_eq_false c10
                   have c10b1 : decide (0 < l0.length) = false := decide_eq_false (by omega)
                   clear c10
                   by_cases c17 : x8_4.length < 17592186044416
                   · rw [if_pos c17] at H
                     have LMc17 := Aside0.mk c17
                     clear c17
                     obtain ⟨y106, hy106⟩ : ∃ y_ : List Int, y_ = (x8_4 ++ [IntKind.u64.wrap (x6_4)]) := ⟨_, rfl⟩
                     replace H : (scullerlaw07_Arena.l1 k4 l0 a1 x5_1 (wrap64 (x6_4 + 1)) x7_1 y106 x9_6 (wrap64 (x10_4 + 1))) = some r := by first | (rw [hy106]; with_reducible exact H) | (have H2_ := (Option.bind_some _ _).symm.trans H; rw [hy106]; with_reducible exact H2_) | (have H2_ := (Option.bind_some _ _).symm.trans H; with_reducible exact H2_) | with_reducible exact H | (rw [hy106]; exact H) | exact H
                     have Ny106 := Aside0.mk hy106
                     clear hy106
                     have H' := Aside0.mk H
                     clear H
                     go_wp2_with (first | ((with_reducible refine gate_builtin (b := .append) (xs := #[.tmp 56, .tmp 58]) rfl ?_); at_builtin; refine Kd.R_append (Kd.int .u64) (w0 := w) w.heap.size rfl (.tmp 56) (.tmp 58) 123 22 (.int .u64 0) 8 rfl Try.underlying123 info22 rfl (by decide) (by omega) u8 x8_4 (IntKind.u64.wrap (x6_4)) [.int .u64 (IntKind.u64.wrap (x6_4))] (fun _ => True) (fun _ => False) rfl rfl ?aP (fun _ hk => hk.elim) ?aF ?aO ?aB ?aS ?aL ?_; (case aP => exact rfl); (case aB => exact (by repeat (first | (with_reducible first | exact HB.out | apply below_alloc | apply pw_below_drewN | apply below_drew1) | exact HB.out))); (case aF => exact (fun _ _ => trivial)); (case aO => exact (by (with_reducible repeat (first | apply Kd.R_alloc | apply Kd.R_drewN | apply Kd.R_drew)); exact HO_8.out)); (case aS => exact (below_size (by repeat (first | (with_reducible first | exact HB.out | apply below_alloc | apply pw_below_drewN | apply below_drew1) | exact HB.out)))); (case aL => have := LMc17.out; omega); intro v107 w18 ho hb hg hat; rw [← Ny106.out] at ho; have n0_ := Aside0.mk (Kd.S_after (ok := (fun _ => True)) (by (with_reducible repeat (first | apply Kd.S_alloc | apply Kd.S_drewN | apply Kd.S_drew)); exact Kd.S_mono HO_5.out (fun _ hk => ⟨trivial, hk⟩)) hg hat); have n1_ := Aside0.mk (hb); have n2_ := Aside0.mk (ho); clear HO_5; clear HB; clear HO_8; have HO_5 := n0_; have HB := n1_; have HO108 := n2_; clear n0_ n1_ n2_; clear ho hb hg hat))
                     go_roundg k4
                     case measure => have := HK1.out; have := HJ3.out; have := HJ6.out; have := HK4.out; omega
                     case rel => exact ⟨(wrap64 (x6_4 + 1)), (y106), (wrap64 (x10_4 + 1)), (by first | rfl | (simp; done) | (simp [*]; done)), (by first | rfl | (simp; done) | (simp [*]; done)), H', ⟨by have := HK1.out; have := HJ3.out; have := HJ6.out; have := HK4.out; omega⟩, ⟨by (with_reducible repeat (first | apply Kd.S_alloc | apply Kd.S_drewN | apply Kd.S_drew)); exact Kd.S_mono HO_5.out (fun _ hk => hk.2)⟩, ⟨by (with_reducible repeat (first | apply Kd.R_alloc | apply Kd.R_drewN | apply Kd.R_drew)); exact HO108.out⟩, ⟨by repeat (first | (with_reducible first | exact HB.out | apply below_alloc | apply pw_below_drewN | apply below_drew1) | exact HB.out)⟩⟩
                   · rw [if_neg c17] at H
                     exact absurd H (by simp)
               · rw [if_neg c9] at H
                 have c9b0 : decide (x10_4 < x9_6) = false := decide_eq_false c9
                 clear c9
                 by_cases c19 : x5_1.length < 5864062014805
                 · rw [if_pos c19] at H
                   have LMc19 := Aside0.mk c19
                   clear c19
                   obtain ⟨y109, hy109⟩ : ∃ y_ : List (List Int), y_ = (x5_1 ++ [x8_4]) := ⟨_, rfl⟩
                   replace H : (scullerlaw07_Arena.l0 k4 l0 a1 y109 x6_4 (wrap64 (x7_1 + 1))) = some r := by first | (rw [hy109]; with_reducible exact H) | (have H2_ := (Option.bind_some _ _).symm.trans H; rw [hy109]; with_reducible exact H2_) | (have H2_ := (Option.bind_some _ _).symm.trans H; with_reducible exact H2_) | with_reducible exact H | (rw [hy109]; exact H) | exact H
                   have Ny109 := Aside0.mk hy109
                   clear hy109
                   have H' := Aside0.mk H
                   clear H
                   obtain ⟨Ao21, co21, eo21⟩ := Kd.R_slice HO_8.out
                   subst eo21
                   go_wp2_with (first | ((with_reducible refine gate_builtin (b := .append) (xs := #[.tmp 62, .tmp 64]) rfl ?_); at_builtin; refine Kd.S_append (Kd.slice 22 (Kd.int .u64)) (w0 := w) w.heap.size rfl (.tmp 62) (.tmp 64) 76 123 (.slice none 0 0) 24 rfl Try.underlying76 info123 rfl (by decide) (by omega) u5 x5_1 x8_4 [.slice Ao21 x8_4.length co21] (fun _ => True) (fun k_ => some k_ = (.slice Ao21 x8_4.length co21 : Value).ownBlock) rfl rfl ?aP (fun k_ hk_ => ((Kd.R_mono (ok' := fun k_ => ((fun _ => True)) k_ ∧ some k_ ≠ (u5 : Value).ownBlock) (Kd.R_apart' (HO_8.out) (Kd.S_typed HO_5.out) (by decide)) (fun k_ hk => ⟨trivial, hk.2⟩))).1 k_ hk_.symm) ?aF ?aO ?aB ?aS ?aL ?_; (case aP => exact Kd.M_row (Kd.R_mono (Kd.R_tight rfl (Kd.R_mono (ok' := fun k_ => ((fun _ => True)) k_ ∧ some k_ ≠ (u5 : Value).ownBlock) (Kd.R_apart' (HO_8.out) (Kd.S_typed HO_5.out) (by decide)) (fun k_ hk => ⟨trivial, hk.2⟩))) (fun _ h_ => h_))); (case aB => exact (by repeat (first | (with_reducible first | exact HB.out | apply below_alloc | apply pw_below_drewN | apply below_drew1) | exact HB.out))); (case aF => exact (fun _ _ => trivial)); (case aO => exact (by (with_reducible repeat (first | apply Kd.S_alloc | apply Kd.S_drewN | apply Kd.S_drew)); exact Kd.S_mono HO_5.out (fun k_ hk => ⟨trivial, fun e_ => hk e_⟩))); (case aS => exact (below_size (by repeat (first | (with_reducible first | exact HB.out | apply below_alloc | apply pw_below_drewN | apply below_drew1) | exact HB.out)))); (case aL => have := LMc19.out; omega); intro v110 w20 ho hb hg hat; rw [← Ny109.out] at ho; have n0_ := Aside0.mk (hb); have n1_ := Aside0.mk (ho); clear HB; clear HO_5; clear HO_8; have HB := n0_; have HO111 := n1_; clear n0_ n1_; clear ho hb hg hat))
                   go_roundg k4
                   case measure => have := HK1.out; have := HJ3.out; have := HJ6.out; have := HK4.out; omega
                   case rel => exact ⟨(y109), (x6_4), (wrap64 (x7_1 + 1)), (by first | rfl | (simp; done) | (simp [*]; done)), (by first | rfl | (simp; done) | (simp [*]; done)), H', ⟨by have := HK1.out; have := HJ3.out; have := HJ6.out; have := HK4.out; omega⟩, ⟨by (with_reducible repeat (first | apply Kd.S_alloc | apply Kd.S_drewN | apply Kd.S_drew)); exact HO111.out⟩, ⟨by repeat (first | (with_reducible first | exact HB.out | apply below_alloc | apply pw_below_drewN | apply below_drew1) | exact HB.out)⟩⟩
                 · rw [if_neg c19] at H
                   exact absurd H (by simp)
    · rw [if_neg c3] at H
      have c3b0 : decide (x7_1 < (wrap64 (1 + (wrap64 (Int.tmod a1 5))))) = false := decide_eq_false c3
      clear c3
      obtain rfl := Option.some.inj H
      go_wp2
      go_ret
      exact ⟨_, by first | rfl | (simp [errW_none, errW_some] <;> rfl) | (simp [*, errW_none, errW_some] <;> rfl), by (with_reducible repeat (first | apply Kd.S_alloc | apply Kd.S_drewN | apply Kd.S_drew)); exact HO_5.out, by repeat (first | (with_reducible first | exact HB.out | apply below_alloc | apply pw_below_drewN | apply below_drew1) | exact HB.out)⟩

end Go.Proofs.Ytbijnfhcbanhdaa.F
end

section
namespace Go.Proofs.Ytbijnfhcbanhdaa.F
open Go.RowKit Go.Proofs.YtbijnfhcbanhdaaW.PrintWords Go.Proofs.YtbijnfhcbanhdaaW.PrintLast Go.Proofs.YtbijnfhcbanhdaaW.PrintMore
attribute [local go_sem] max2_int min2_int max_two min_two max_three min_three max_four min_four   -- for this text's walks alone
set_option linter.unusedVariables false
set_option linter.unusedSimpArgs false

open Go.Proofs.Ytbijnfhcbanhdaa.H
def scullerlaw07_Arena_c.f (l0 : List Int) (a1 : Int) : Option (List (List Int)) := if bytesB l0 = true ∧ l0.length ≤ 140737488351232 ∧ 0 ≤ a1 ∧ a1 ≤ 255 then some (arenaL l0 a1) else none
theorem wrapu {z : Int} (hz : 0 ≤ z) (hz2 : z < 18446744073709551616) : IntKind.u64.wrap z = z := by
 simp [IntKind.wrap, IntKind.signed, IntKind.bits]
 omega
theorem scullerlaw07_Arena.l1_to (c : List Int) (hc : ∀ x ∈ c, 0 ≤ x ∧ x ≤ 255) (hcl : c.length ≤ 140737488351232) (n : Int) (acc : List (List Int)) (hacc : acc.length ≤ 100) (i k0 size : Nat) (hi : i ≤ 100) (hk0 : k0 ≤ 1000) (hsz : size ≤ 13) (R : Option (List (List Int)))
 (K : ∃ k, scullerlaw07_Arena.l0 k c n (acc ++ [segC c k0 size]) ((k0 + size : Nat) : Int) ((i + 1 : Nat) : Int) = R) :
 ∀ (d j : Nat), size - j = d → j ≤ size → ∃ k, scullerlaw07_Arena.l1 k c n acc ((k0 + j : Nat) : Int) (i : Int) (segC c k0 j) (size : Int) (j : Int) = R
 | 0, j, hd, hj => by
   obtain rfl : j = size := by omega
   obtain ⟨k, hk⟩ := K
   refine ⟨k + 1, ?_⟩
   simp only [scullerlaw07_Arena.l1]
   rw [if_neg (by omega), if_pos (by omega), show wrap64 ((i : Int) + 1) = ((i + 1 : Nat) : Int) from by unfold wrap64; omega, hk]
 | d + 1, j, hd, hj => by
   obtain ⟨k, hk⟩ := scullerlaw07_Arena.l1_to c hc hcl n acc hacc i k0 size hi hk0 hsz R K d (j + 1) (by omega) (by omega)
   refine ⟨k + 1, ?_⟩
   simp only [scullerlaw07_Arena.l1]
   have e1 : wrap64 (((k0 + j : Nat) : Int) + 1) = ((k0 + (j + 1) : Nat) : Int) := by unfold wrap64; omega
   have e2 : wrap64 ((j : Int) + 1) = ((j + 1 : Nat) : Int) := by unfold wrap64; omega
   rw [if_pos (by omega)]
   by_cases hc0 : (c.length : Int) > 0
   · have ht : Int.tmod ((k0 + j : Nat) : Int) (c.length : Int) = (((k0 + j) % c.length : Nat) : Int) := by
      rw [Int.tmod_eq_emod_of_nonneg (by omega)]; omega
     have hm : (k0 + j) % c.length < c.length := Nat.mod_lt _ (by omega)
     have hr : rd c (((k0 + j) % c.length : Nat) : Int) = c.getD ((k0 + j) % c.length) 0 := rfl
     have hx : 0 ≤ c.getD ((k0 + j) % c.length) 0 ∧ c.getD ((k0 + j) % c.length) 0 ≤ 255 := by
      rw [List.getD_eq_getElem?_getD, List.getElem?_eq_getElem hm]; exact hc _ (List.getElem_mem hm)
     rw [if_pos hc0, if_neg (by omega), ht, if_pos (by omega), if_pos (by omega), if_pos (by rw [segC_length]; omega), hr, wrapu hx.1 (by omega), wrapu (z := ((k0 + j : Nat) : Int)) (by omega) (by omega), wrapu (z := c.getD ((k0 + j) % c.length) 0 * 4311810305) (by omega) (by omega), wrapu (by omega) (by omega), e1, e2]
     rw [segC_succ] at hk
     exact hk
   · have hnil : c = [] := List.eq_nil_of_length_eq_zero (by omega)
     rw [if_neg hc0, if_pos (by rw [segC_length]; omega), wrapu (z := ((k0 + j : Nat) : Int)) (by omega) (by omega), e1, e2]
     rw [segC_succ] at hk
     have : wordC c (k0 + j) = ((k0 + j : Nat) : Int) := by simp [wordC, hnil]
     rw [this] at hk
     exact hk
theorem scullerlaw07_Arena.l0_to (c : List Int) (hc : ∀ x ∈ c, 0 ≤ x ∧ x ≤ 255) (hcl : c.length ≤ 140737488351232) (n : Int) (hn0 : 0 ≤ n) (hn : n ≤ 255) : ∀ (m i k0 : Nat) (acc : List (List Int)), i + m = (1 + n % 5).toNat → acc.length = i → k0 ≤ 13 * i →
 ∃ k, scullerlaw07_Arena.l0 k c n acc (k0 : Int) (i : Int) = some (acc ++ arenaC c m i k0)
 | 0, i, k0, acc, hm, ha, hk0 => ⟨1, by
   simp only [scullerlaw07_Arena.l0, arenaC, List.append_nil]
   rw [if_neg (by rw [Int.tmod_eq_emod_of_nonneg hn0]; unfold wrap64; omega)]⟩
 | m + 1, i, k0, acc, hm, ha, hk0 => by
   have hs := sizeC_le c i
   obtain ⟨k, hk⟩ := scullerlaw07_Arena.l0_to c hc hcl n hn0 hn m (i + 1) (k0 + sizeC c i) (acc ++ [segC c k0 (sizeC c i)]) (by omega) (by simp [ha]) (by omega)
   obtain ⟨k1, hk1⟩ := scullerlaw07_Arena.l1_to c hc hcl n acc (by omega) i k0 (sizeC c i) (by omega) (by omega) (by omega) _ ⟨k, hk⟩ (sizeC c i) 0 (by omega) (by omega)
   have hfin : ∃ q, scullerlaw07_Arena.j1 q c n acc (k0 : Int) (i : Int) [] (if i < c.length then c.getD i 0 % 12 else 1) = some (acc ++ arenaC c (m + 1) i k0) := by
    refine ⟨k1 + 1 + 1, ?_⟩
    have hnn : 0 ≤ (if i < c.length then c.getD i 0 % 12 else 1) ∧ (if i < c.length then c.getD i 0 % 12 else 1) < 12 := by split <;> omega
    have hsz : (sizeC c i : Int) = (if i < c.length then c.getD i 0 % 12 else 1) + (if i = 0 then 1 else 0) := by
     unfold sizeC; split <;> split <;> omega
    have hsz0 : i = 0 → (sizeC c i : Int) = (if i < c.length then c.getD i 0 % 12 else 1) + 1 := fun e => by rw [hsz, if_pos e]
    have hsz1 : ¬ i = 0 → (sizeC c i : Int) = (if i < c.length then c.getD i 0 % 12 else 1) := fun e => by rw [hsz, if_neg e]; omega
    clear hsz
    generalize (if i < c.length then c.getD i 0 % 12 else 1) = q0 at *
    simp only [scullerlaw07_Arena.j1, scullerlaw07_Arena.j2]
    rw [show segC c k0 0 = [] from rfl, List.append_assoc] at hk1
    by_cases e : (i : Int) = 0
    · rw [if_pos e, show wrap64 (q0 + 1) = (sizeC c i : Int) from by rw [hsz0 (by omega)]; unfold wrap64; omega]
      exact hk1
    · rw [if_neg e, show q0 = (sizeC c i : Int) from (hsz1 (by omega)).symm]
      exact hk1
   obtain ⟨q, hq⟩ := hfin
   refine ⟨q + 1, ?_⟩
   simp only [scullerlaw07_Arena.l0]
   rw [if_pos (by rw [Int.tmod_eq_emod_of_nonneg hn0]; unfold wrap64; omega)]
   by_cases hlt : (i : Int) < (c.length : Int)
   · have hr : rd c i = c.getD i 0 := rfl
     have hx : 0 ≤ c.getD i 0 ∧ c.getD i 0 ≤ 255 := by
      rw [List.getD_eq_getElem?_getD, List.getElem?_eq_getElem (show i < c.length by omega)]; exact hc _ (List.getElem_mem _)
     rw [if_pos hlt, if_pos (by omega), hr, Int.tmod_eq_emod_of_nonneg hx.1, show wrap64 (c.getD i 0 % 12) = c.getD i 0 % 12 from by unfold wrap64; omega]
     rw [if_pos (by omega)] at hq
     exact hq
   · rw [if_neg hlt]
     rw [if_neg (by omega)] at hq
     exact hq
theorem scullerlaw07_Arena_c.to {l0 : List Int} {a1 : Int} {r : List (List Int)} (h : scullerlaw07_Arena_c.f l0 a1 = some r) : ∃ k, scullerlaw07_Arena.f k l0 a1 = some r := by
 unfold scullerlaw07_Arena_c.f at h
 split at h
 case isFalse => cases h
 case isTrue hl =>
 obtain rfl := Option.some.inj h
 obtain ⟨hb, hl, h0, h1⟩ := hl
 obtain ⟨k, hk⟩ := scullerlaw07_Arena.l0_to l0 (bytesB_at hb) hl a1 h0 h1 (1 + (a1 % 5)).toNat 0 0 [] (by omega) rfl (by omega)
 exact ⟨k, by unfold scullerlaw07_Arena.f; simpa [arenaL] using hk⟩

theorem scullerlaw07_Arena_c.calls (A0 : Option Addr) (c0 : Nat) (l0 : List Int) (a1 : Int) (r : List (List Int)) (w : World) (hr0 : Kd.C (Kd.int .u8) w A0 l0.length l0) (hc0 : l0.length ≤ c0) (h : scullerlaw07_Arena_c.f l0 a1 = some r) :
 Calls Try.prog 74 #[.slice A0 l0.length c0, .int .u8 a1] w fun e w' => ∃ v0_ : Value, e = .returned (v0_) ∧ Kd.S (Kd.slice 22 (Kd.int .u64)) 123 w' w.heap.size (fun _ => True) v0_ r ∧ Below w.heap.size w w' := by
 obtain ⟨k_, hk_⟩ := scullerlaw07_Arena_c.to h
 exact scullerlaw07_Arena.calls k_ A0 c0 l0 a1 r w hr0 hc0 hk_

end Go.Proofs.Ytbijnfhcbanhdaa.F
end

section
namespace Go.Proofs.Ytbijnfhcbanhdaa.F
open Go.RowKit Go.Proofs.YtbijnfhcbanhdaaW.PrintWords Go.Proofs.YtbijnfhcbanhdaaW.PrintLast Go.Proofs.YtbijnfhcbanhdaaW.PrintMore
attribute [local go_sem] max2_int min2_int max_two min_two max_three min_three max_four min_four   -- for this text's walks alone
set_option linter.unusedVariables false
set_option linter.unusedSimpArgs false

/-! ### scullerlaw12_Arena: function 37 -/
mutual
def scullerlaw12_Arena.l0 : Nat → Int → Int → List (List Int) → Int → Option ((List (List Int)))
 | 0, _, _, _, _ => none
 | k + 1, x1, x2, x7, x8 => if x8 < (wrap64 (Int.tmod x2 40)) then (if 0 ≤ (wrap64 ((x7.length : Int) - 1)) then (if (wrap64 ((x7.length : Int) - 1)) < (x7.length : Int) then (if (rd_L8 x7 (wrap64 ((x7.length : Int) - 1))).length < 17592186044416 then (scullerlaw12_Arena.l0 k x1 x2 (x7.set ((wrap64 ((x7.length : Int) - 1)) : Int).toNat ((rd_L8 x7 (wrap64 ((x7.length : Int) - 1))) ++ [IntKind.u64.wrap ((IntKind.u64.wrap (x8)) * (IntKind.u64.wrap (x1)))])) (wrap64 (x8 + 1))) else (none)) else (none)) else (none)) else (scullerlaw12_Arena.l1 k x2 x7 0)
def scullerlaw12_Arena.l1 : Nat → Int → List (List Int) → Int → Option ((List (List Int)))
 | 0, _, _, _ => none
 | k + 1, x2, x7, x9 => if x9 < (wrap64 (Int.tmod x2 7)) then (if 0 ≤ x9 then (if (x9 : Int).toNat ≤ 35184372088832 then (if x7.length < 5864062014805 then (scullerlaw12_Arena.l1 k x2 (x7 ++ [(List.replicate (x9 : Int).toNat 0)]) (wrap64 (x9 + 1))) else (none)) else (none)) else (none)) else (some x7)
end
def scullerlaw12_Arena.f (k : Nat) (l0 : List Int) (a1 : Int) (a2 : Int) : Option ((List (List Int))) := (scullerlaw07_Arena_c.f l0 a1).bind fun t101 => (scullerlaw12_Arena.l0 k a1 a2 t101 0)
theorem scullerlaw12_Arena.mono_l : ∀ k, (∀ y0 y1 y2 y3, LeO (scullerlaw12_Arena.l0 k y0 y1 y2 y3) (scullerlaw12_Arena.l0 (k + 1) y0 y1 y2 y3)) ∧ (∀ y0 y1 y2, LeO (scullerlaw12_Arena.l1 k y0 y1 y2) (scullerlaw12_Arena.l1 (k + 1) y0 y1 y2))
 | 0 => ⟨fun _ _ _ _ r h => by simp [scullerlaw12_Arena.l0] at h, fun _ _ _ r h => by simp [scullerlaw12_Arena.l1] at h⟩
 | k + 1 => by
   obtain ⟨ih0, ih1⟩ := scullerlaw12_Arena.mono_l k
   refine ⟨?_, ?_⟩
   · intro y0 y1 y2 y3
     unfold scullerlaw12_Arena.l0
     repeat' first
     | (with_reducible exact ih0 _ _ _ _)
     | (with_reducible exact ih1 _ _ _)
     | (with_reducible exact LeO.refl _)
     | (with_reducible exact LeO.none _)
     | (with_reducible refine LeO.ite ?_ ?_)
     | (with_reducible refine LeO.bind ?_ (fun _ => ?_))
     | exact ih0 _ _ _ _
     | exact ih1 _ _ _
     | exact LeO.none _
     | refine LeO.ite ?_ ?_
     | refine LeO.bind ?_ (fun _ => ?_)
   · intro y0 y1 y2
     unfold scullerlaw12_Arena.l1
     repeat' first
     | (with_reducible exact ih0 _ _ _ _)
     | (with_reducible exact ih1 _ _ _)
     | (with_reducible exact LeO.refl _)
     | (with_reducible exact LeO.none _)
     | (with_reducible refine LeO.ite ?_ ?_)
     | (with_reducible refine LeO.bind ?_ (fun _ => ?_))
     | exact ih0 _ _ _ _
     | exact ih1 _ _ _
     | exact LeO.none _
     | refine LeO.ite ?_ ?_
     | refine LeO.bind ?_ (fun _ => ?_)
theorem scullerlaw12_Arena.mono : ∀ a0 a1 a2 k, LeO (scullerlaw12_Arena.f k a0 a1 a2) (scullerlaw12_Arena.f (k + 1) a0 a1 a2) := by
 intro a0 a1 a2 k
 obtain ⟨ih0, ih1⟩ := scullerlaw12_Arena.mono_l k
 unfold scullerlaw12_Arena.f
 repeat' first
  | (with_reducible exact ih0 _ _ _ _)
  | (with_reducible exact ih1 _ _ _)
  | (with_reducible exact LeO.refl _)
  | (with_reducible exact LeO.none _)
  | (with_reducible refine LeO.ite ?_ ?_)
  | (with_reducible refine LeO.bind ?_ (fun _ => ?_))
  | exact ih0 _ _ _ _
  | exact ih1 _ _ _
  | exact LeO.none _
  | refine LeO.ite ?_ ?_
  | refine LeO.bind ?_ (fun _ => ?_)
set_option maxHeartbeats 8000000 in
set_option maxRecDepth 100000 in
theorem scullerlaw12_Arena.calls (k : Nat) (A0 : Option Addr) (c0 : Nat) (l0 : List Int) (a1 : Int) (a2 : Int) (r : List (List Int)) (w : World) (hr0 : Kd.C (Kd.int .u8) w A0 l0.length l0) (hc0 : l0.length ≤ c0) (h : scullerlaw12_Arena.f k l0 a1 a2 = some r) :
 Calls Try.prog 37 #[.slice A0 l0.length c0, .int .u8 a1, .int .u8 a2] w fun e w' => ∃ v0_ : Value, e = .returned (v0_) ∧ Kd.S (Kd.slice 22 (Kd.int .u64)) 123 w' w.heap.size (fun _ => True) v0_ r ∧ Below w.heap.size w w' := by
 have HR0 := Aside0.mk hr0
 have HC0 := Aside0.mk hc0
 clear hr0 hc0
 have HB := Aside0.mk (Below.refl w.heap.size w)
 have H : ((scullerlaw07_Arena_c.f l0 a1).bind fun t101 => (scullerlaw12_Arena.l0 k a1 a2 t101 0)) = some r := h
 clear h
 replace H := Option.bind_eq_some_iff.mp H
 obtain ⟨t101, A40, H⟩ := H
 replace H : (scullerlaw12_Arena.l0 k a1 a2 t101 0) = some r := H
 have A4 := Aside0.mk A40
 clear A40
 have H' := Aside0.mk H
 clear H
 go_enter Try.func37, Try.ntmps37
 go_wp2_with (first | ((with_reducible refine gate_callee (f := 74) rfl ?_); refine goesL_ (some 12) rfl rfl Try.func74 (by kernel_rfl) rfl #[.slice A0 l0.length c0, .int .u8 a1] rfl (by (try simp only [List.map_toArray, List.map_cons, List.map_nil]); first | done | rfl | (simp only [List.length_drop, List.length_take]; rfl)) ?_; (with_reducible refine (scullerlaw07_Arena_c.calls _ _ l0 a1 t101 _ ?side1 ?side2 A4.out).mono ?_); (case side1 => repeat (first | exact HR0.out | (with_reducible refine Kd.C_alloc ?_ _) | (with_reducible refine Kd.C_drewN ?_ _) | (with_reducible refine Kd.C_drew ?_))); (case side2 => exact HC0.out); rintro e w5 ⟨v102, rfl, ho0, hb⟩; refine ⟨_, rfl, ?_⟩; have n0_ := Aside0.mk (Kd.S_lower ho0 (below_size (by repeat (first | (with_reducible first | exact HB.out | apply below_alloc | apply pw_below_drewN | apply below_drew1) | exact HB.out)))); have n1_ := Aside0.mk (below_step (by repeat (first | (with_reducible first | exact HB.out | apply below_alloc | apply pw_below_drewN | apply below_drew1) | exact HB.out)) hb); clear HB; have HO103 := n0_; have HB := n1_; clear n0_ n1_; (try clear hb); (try clear hb2); (try clear hk); (try clear hi); (try clear ho0)))
 go_loopg [8] k (fun kq v8 w' => ∃ (x7_1 : List (List Int)) (x8_1 : Int), v8 = .int .i64 x8_1 ∧ Aside0 (scullerlaw12_Arena.l0 kq a1 a2 x7_1 x8_1 = some r) ∧ Aside0 (kq ≤ k) ∧ Aside0 (Kd.S (Kd.slice 22 (Kd.int .u64)) 123 w' w.heap.size (fun _ => True) v102 x7_1) ∧ Aside0 (Below w.heap.size w w'))
 case atStart => exact ⟨(t101), (0), (by first | rfl | (simp; done) | (simp [*]; done)), H', ⟨Nat.le_refl _⟩, ⟨by (with_reducible repeat (first | apply Kd.S_alloc | apply Kd.S_drewN | apply Kd.S_drew)); exact HO103.out⟩, ⟨by repeat (first | (with_reducible first | exact HB.out | apply below_alloc | apply pw_below_drewN | apply below_drew1) | exact HB.out)⟩⟩
 case round =>
  clear H'
  try clear p2
  try clear c3
  obtain ⟨x7_1, x8_1, rfl, HA, HK1, HO_7, HB⟩ := hrel
  cases gk with
  | zero => exact absurd HA.out (by simp [scullerlaw12_Arena.l0])
  | succ k1 =>
    have H := HA.out
    clear HA
    simp only [scullerlaw12_Arena.l0] at H
    by_cases c6 : x8_1 < (wrap64 (Int.tmod a2 40))
    · rw [if_pos c6] at H
      have c6b0 : decide (x8_1 < (wrap64 (Int.tmod a2 40))) = true := decide_eq_true c6
      clear c6
      obtain ⟨ji7, hji7⟩ : ∃ j_ : Int, (wrap64 ((x7_1.length : Int) - 1)) = j_ := ⟨_, rfl⟩
      replace H : (if 0 ≤ (ji7) then (if (ji7) < (x7_1.length : Int) then (if (rd_L8 x7_1 (ji7)).length < 17592186044416 then (scullerlaw12_Arena.l0 k1 a1 a2 (x7_1.set ((ji7) : Int).toNat ((rd_L8 x7_1 (ji7)) ++ [IntKind.u64.wrap ((IntKind.u64.wrap (x8_1)) * (IntKind.u64.wrap (a1)))])) (wrap64 (x8_1 + 1))) else (none)) else (none)) else (none)) = some r := by first | (rw [hji7] at H; exact H) | (simp only [hji7] at H ⊢; exact H)
      have hji7w : (IntKind.i64.wrap ((x7_1.length : Int) - 1)) = ji7 := (i64_w _).trans hji7
      by_cases c8 : 0 ≤ (ji7)
      · rw [if_pos c8] at H
        have c8b0 : decide (0 ≤ (ji7)) = true := decide_eq_true c8
        clear c8
        by_cases c9 : (ji7) < (x7_1.length : Int)
        · rw [if_pos c9] at H
          have c9b0 : decide ((ji7) < (x7_1.length : Int)) = true := decide_eq_true c9
          clear c9
          by_cases c10 : (rd_L8 x7_1 (ji7)).length < 17592186044416
          · rw [if_pos c10] at H
            have LMc10 := Aside0.mk c10
            clear c10
            obtain ⟨y105, hy105⟩ : ∃ y_ : List Int, y_ = ((rd_L8 x7_1 (ji7)) ++ [IntKind.u64.wrap ((IntKind.u64.wrap (x8_1)) * (IntKind.u64.wrap (a1)))]) := ⟨_, rfl⟩
            replace H : (scullerlaw12_Arena.l0 k1 a1 a2 (x7_1.set ((ji7) : Int).toNat y105) (wrap64 (x8_1 + 1))) = some r := by first | (rw [hy105]; with_reducible exact H) | (have H2_ := (Option.bind_some _ _).symm.trans H; rw [hy105]; with_reducible exact H2_) | (have H2_ := (Option.bind_some _ _).symm.trans H; with_reducible exact H2_) | with_reducible exact H | (rw [hy105]; exact H) | exact H
            have Ny105 := Aside0.mk hy105
            clear hy105
            obtain ⟨y108, hy108⟩ : ∃ y_ : List (List Int), y_ = (x7_1.set ((ji7) : Int).toNat y105) := ⟨_, rfl⟩
            replace H : (scullerlaw12_Arena.l0 k1 a1 a2 y108 (wrap64 (x8_1 + 1))) = some r := by first | (rw [hy108]; with_reducible exact H) | (have H2_ := (Option.bind_some _ _).symm.trans H; rw [hy108]; with_reducible exact H2_) | (have H2_ := (Option.bind_some _ _).symm.trans H; with_reducible exact H2_) | with_reducible exact H | (rw [hy108]; exact H) | exact H
            have Ny108 := Aside0.mk hy108
            clear hy108
            have H' := Aside0.mk H
            clear H
            obtain ⟨Ao12, co12, eo12⟩ := Kd.S_slice HO_7.out
            subst eo12
            have p104 : 0 ≤ ((ji7) : Int) := of_decide_eq_true (by first | (with_reducible assumption) | assumption)
            have q104 : (ji7) < (x7_1.length : Int) := of_decide_eq_true (by first | (with_reducible assumption) | assumption)
            obtain ⟨ad104, A104_0, c104_0, e104, hx104_0, hl104_0, hi104_0⟩ := at_L8 (Kd.S_reads' HO_7.out).2.2 (ji7) p104 q104
            cases e104
            obtain ⟨ce104, hce104, hMe104, hcc104⟩ := Kd.S_get HO_7.out [] (ji7) p104 (by first | exact q104 | exact of_decide_eq_true (by first | (with_reducible assumption) | assumption) | (have e_ := (Kd.S_reads' HO_7.out).1; omega))
            obtain ⟨ve104_0, rfl, ge104_0⟩ := hMe104
            have hv104_0 := hcc104 0 _ rfl
            rw [Nat.add_zero, show ((Kd.slice 22 (Kd.int .u64))).sz = 1 from rfl, Nat.mul_one] at hv104_0
            replace hv104_0 := Option.some.inj (hv104_0.symm.trans hx104_0)
            rw [hv104_0] at ge104_0
            have HL104_0 := Aside0.mk (show Kd.R (Kd.int .u64) 22 _ _ _ _ (rd_L8 x7_1 (ji7)) from ge104_0)
            clear hv104_0 ge104_0
            have HX104_0 := Aside0.mk hx104_0
            clear hcc104 hce104
            have HR104_0 := Aside0.mk hi104_0
            have HC104_0 := Aside0.mk hl104_0
            clear hi104_0 hl104_0
            replace p104 := eq_true p104
            replace q104 := eq_true q104
            obtain ⟨go13, co13, eo13, gb13, gl13, cl13, HG13⟩ := Kd.S_form HO_7.out (by have h_ : ((ji7) : Int) < ((x7_1.length : Int) : Int) := of_decide_eq_true (by first | (with_reducible assumption) | assumption); have h2_ : 0 ≤ ((ji7) : Int) := (of_decide_eq_true (by first | (with_reducible assumption) | assumption)); omega)
            (first | cases eo13 | (injection eo13 with ea_ en_ ec_; (first | subst ea_ | (injection ea_ with ea_; subst ea_)); subst ec_; clear en_))
            have GB13 := Aside0.mk gb13
            have GG13 := Aside0.mk HG13
            clear gb13 gl13 HG13
            (first | simp only [add_plain] at hx104_0 | skip)
            obtain ⟨oki13, ce13, hcl13, hM13, hcc13, _, _, hH13⟩ := Kd.S_elem HO_7.out [] ((ji7) : Int) (of_decide_eq_true (by first | (with_reducible assumption) | assumption)) (by have h_ : ((ji7) : Int) < ((x7_1.length : Int) : Int) := of_decide_eq_true (by first | (with_reducible assumption) | assumption); first | exact h_ | (have e_ := (Kd.S_reads' HO_7.out).1; omega) | simpa using h_)
            obtain ⟨ve13_0, rfl, ge13_0⟩ := hM13
            have hv13 := hcc13 0 _ rfl
            have hX13 := HX104_0.out
            (try simp only [add_plain] at hX13)
            (try simp only [Nat.add_zero] at hv13)
            (try rw [show ((Kd.slice 22 (Kd.int .u64))).sz = 1 from rfl, Nat.mul_one] at hv13)
            replace hv13 := Option.some.inj (hv13.symm.trans hX13)
            subst hv13
            clear hX13 hcc13 hcl13
            have UU13 := Aside0.mk (show Kd.R (Kd.int .u64) 22 _ w.heap.size oki13 (.slice A104_0 (rd_L8 x7_1 (ji7)).length c104_0) (rd_L8 x7_1 (ji7)) from ge13_0)
            have HH13 := Aside0.mk hH13
            have HN13 := Aside0.mk (Kd.S_reads' HO_7.out).1
            clear hH13 ge13_0
            go_wp2_with (first | ((with_reducible refine gate_builtin (b := .append) (xs := #[.tmp 29, .tmp 35]) rfl ?_); at_builtin; refine Kd.R_append (Kd.int .u64) (w0 := w) w.heap.size rfl (.tmp 29) (.tmp 35) 123 22 (.int .u64 0) 8 rfl Try.underlying123 info22 rfl (by decide) (by omega) (.slice A104_0 (rd_L8 x7_1 (ji7)).length c104_0) (rd_L8 x7_1 (ji7)) (IntKind.u64.wrap ((IntKind.u64.wrap (x8_1)) * (IntKind.u64.wrap (a1)))) [.int .u64 (IntKind.u64.wrap ((IntKind.u64.wrap (x8_1)) * (IntKind.u64.wrap (a1))))] (fun k_ => oki13 k_ ∨ ((fun _ => True)) k_ ∧ wr.heap.size ≤ k_) (fun _ => False) rfl rfl ?aP (fun _ hk => hk.elim) ?aF ?aO ?aB ?aS ?aL ?_; (case aP => exact rfl); (case aB => exact (by repeat (first | (with_reducible first | exact HB.out | apply below_alloc | apply pw_below_drewN | apply below_drew1) | exact HB.out))); (case aF => exact (fun k_ hk => .inr ⟨trivial, hk⟩)); (case aO => exact (by (with_reducible repeat (first | apply Kd.R_alloc | apply Kd.R_drewN | apply Kd.R_drew)); exact Kd.R_mono UU13.out (fun _ hk => .inl hk))); (case aS => exact (below_size (by repeat (first | (with_reducible first | exact HB.out | apply below_alloc | apply pw_below_drewN | apply below_drew1) | exact HB.out)))); (case aL => have := LMc10.out; omega); intro v106 w14 ho hb hg hat; rw [← Ny105.out] at ho; have n0_ := Aside0.mk (hb); have n1_ := Aside0.mk (Kd.H_grown (Kd.H_widen (by repeat (first | exact HH13.out | refine Kd.H_alloc ?_ _ | refine Kd.H_drewN ?_ _ | refine Kd.H_drew ?_))) hg (fun k_ e_ => .inl (UU13.out.1 k_ e_))); have n2_ := Aside0.mk (ho); clear HB; clear HH13; clear HO_7; clear UU13; clear HL104_0; have HB := n0_; have HH13 := n1_; have HO107 := n2_; clear n0_ n1_ n2_; clear ho hb hg hat; have p11 : 0 ≤ ((ji7) : Int) := of_decide_eq_true (by first | (with_reducible assumption) | assumption); have q11 : ((ji7) : Int) < ((x7_1.length : Int) : Int) := of_decide_eq_true (by first | (with_reducible assumption) | assumption); replace p11 := eq_true p11; replace q11 := eq_true q11; obtain ⟨Ao17, co17, eo17⟩ := Kd.R_slice HO107.out; subst eo17; obtain ⟨_, _, hraw15, _, _, hcc15, _⟩ := Kd.H_raw HH13.out (of_decide_eq_true (by first | (with_reducible assumption) | assumption)) (by have h_ : ((ji7) : Int) < ((x7_1.length : Int) : Int) := of_decide_eq_true (by first | (with_reducible assumption) | assumption); first | exact h_ | (have e_ := (HN13.out); omega) | simpa using h_); obtain ⟨_, hfr15⟩ := Kd.H_at HH13.out (of_decide_eq_true (by first | (with_reducible assumption) | assumption)) (by have h_ : ((ji7) : Int) < ((x7_1.length : Int) : Int) := of_decide_eq_true (by first | (with_reducible assumption) | assumption); first | exact h_ | (have e_ := (HN13.out); omega) | simpa using h_); have hx15_0 := hcc15 0 _ rfl; have hf15_0 := hfr15 0; (try simp only [Nat.add_zero] at hx15_0 hf15_0); (try rw [show ((Kd.slice 22 (Kd.int .u64))).sz = 1 from rfl, Nat.mul_one] at hx15_0); (try rw [show ((Kd.slice 22 (Kd.int .u64))).sz = 1 from rfl, Nat.mul_one] at hf15_0); have HP15 := Kd.S_seg0 HH13.out (of_decide_eq_true (by first | (with_reducible assumption) | assumption)) (by have h_ : ((ji7) : Int) < ((x7_1.length : Int) : Int) := of_decide_eq_true (by first | (with_reducible assumption) | assumption); first | exact h_ | (have e_ := (HN13.out); omega) | simpa using h_) (seg := [.slice Ao17 y105.length co17]) (j := 0) (show 1 ≤ 1 from by decide) (x' := y105) (Kd.M_row HO107.out) (fun _ hk => hk); (try simp only [show ((Kd.slice 22 (Kd.int .u64))).sz = 1 from rfl, Nat.mul_one, Nat.add_zero] at HP15); clear hcc15 hfr15) | ((with_reducible refine gate_store (t := 123) (p := 37) rfl ?_); refine store_event (t := 123) (p := 37) (v := ?vo_w16) (w1 := (w14.setCell ⟨go13, ((ji7) : Int).toNat, none⟩ (.slice Ao17 y105.length co17))) ?hg ?ho ?hn ?hr ?_; (case ho => rfl); (case hg => rfl); (case hn => rfl); (case hr => first | (go_simp; done) | (go_simp; rfl)); intro w16 hw; have hg : w14.grownBy w16 (some go13) := (by rw [hw]; exact HP15.2); have hp_ : Kd.S (Kd.slice 22 (Kd.int .u64)) 123 w16 w.heap.size (fun _ => True) (.slice (some ⟨go13, 0, none⟩) x7_1.length co12) y108 := (by rw [hw, Ny108.out]; exact HP15.1); clear HP15; have n0_ := Aside0.mk ((by rw [hw]; exact below_set HB.out GB13.out : Below w.heap.size w w16)); have n1_ := Aside0.mk (hp_); clear HB; clear HO107; clear HH13; have HB := n0_; have HO_7 := n1_; clear n0_ n1_; clear hg hw hp_ hraw15))
            go_roundg k1
            case measure => have := HK1.out; omega
            case rel => exact ⟨(y108), (wrap64 (x8_1 + 1)), (by first | rfl | (simp; done) | (simp [*]; done)), H', ⟨by have := HK1.out; omega⟩, ⟨by (with_reducible repeat (first | apply Kd.S_alloc | apply Kd.S_drewN | apply Kd.S_drew)); exact HO_7.out⟩, ⟨by repeat (first | (with_reducible first | exact HB.out | apply below_alloc | apply pw_below_drewN | apply below_drew1) | exact HB.out)⟩⟩
          · rw [if_neg c10] at H
            exact absurd H (by simp)
        · rw [if_neg c9] at H
          exact absurd H (by simp)
      · rw [if_neg c8] at H
        exact absurd H (by simp)
    · rw [if_neg c6] at H
      have c6b0 : decide (x8_1 < (wrap64 (Int.tmod a2 40))) = false := decide_eq_false c6
      clear c6
      have H' := Aside0.mk H
      clear H
      go_wp2
      go_loopg [7, 9] k1 (fun kq v7 v9 w' => ∃ (x7_2 : List (List Int)) (x9_2 : Int), v9 = .int .i64 x9_2 ∧ Aside0 (scullerlaw12_Arena.l1 kq a2 x7_2 x9_2 = some r) ∧ Aside0 (kq ≤ k1) ∧ Aside0 (Kd.S (Kd.slice 22 (Kd.int .u64)) 123 w' w.heap.size (fun _ => True) v7 x7_2) ∧ Aside0 (Below w.heap.size w w'))
      case atStart => exact ⟨(x7_1), (0), (by first | rfl | (simp; done) | (simp [*]; done)), H', ⟨Nat.le_refl _⟩, ⟨by (with_reducible repeat (first | apply Kd.S_alloc | apply Kd.S_drewN | apply Kd.S_drew)); exact HO_7.out⟩, ⟨by repeat (first | (with_reducible first | exact HB.out | apply below_alloc | apply pw_below_drewN | apply below_drew1) | exact HB.out)⟩⟩
      case round =>
       clear H'
       try clear c1
       try clear p1
       try clear q1
       try clear hx1
       try clear p2
       try clear c3
       try clear c6
       try clear c6b0
       try clear p6
       try clear c7
       try clear c8
       try clear c8b0
       try clear c9
       try clear c9b0
       try clear c10
       try clear p10
       try clear q10
       try clear hx10
       try clear p11
       try clear q11
       try clear c13
       try clear c15
       try clear hx15
       try clear hf15
       try clear hx104_0
       try clear hx15_0
       try clear p104
       try clear p11
       try clear p2
       try clear q104
       try clear q11
       obtain ⟨x7_2, x9_2, rfl, HA, HK2, HO_7, HB⟩ := hrel
       cases gk with
       | zero => exact absurd HA.out (by simp [scullerlaw12_Arena.l1])
       | succ k2 =>
         have H := HA.out
         clear HA
         simp only [scullerlaw12_Arena.l1] at H
         by_cases c18 : x9_2 < (wrap64 (Int.tmod a2 7))
         · rw [if_pos c18] at H
           have c18b0 : decide (x9_2 < (wrap64 (Int.tmod a2 7))) = true := decide_eq_true c18
           clear c18
           by_cases c19 : 0 ≤ x9_2
           · rw [if_pos c19] at H
             have c19b0 := eq_true c19
             have c19b1 : decide (0 ≤ x9_2) = true := decide_eq_true c19
             clear c19
             by_cases c20 : (x9_2 : Int).toNat ≤ 35184372088832
             · rw [if_pos c20] at H
               have c20b0 := eq_true c20
               have c20b1 : decide ((x9_2 : Int).toNat ≤ 35184372088832) = true := decide_eq_true c20
               clear c20
               obtain ⟨y109, hy109⟩ : ∃ y_ : List Int, y_ = (List.replicate (x9_2 : Int).toNat 0) := ⟨_, rfl⟩
               replace H : (if x7_2.length < 5864062014805 then (scullerlaw12_Arena.l1 k2 a2 (x7_2 ++ [y109]) (wrap64 (x9_2 + 1))) else (none)) = some r := by first | (rw [hy109]; with_reducible exact H) | (have H2_ := (Option.bind_some _ _).symm.trans H; rw [hy109]; with_reducible exact H2_) | (have H2_ := (Option.bind_some _ _).symm.trans H; with_reducible exact H2_) | with_reducible exact H | (rw [hy109]; exact H) | exact H
               have Ny109 := Aside0.mk hy109
               clear hy109
               by_cases c21 : x7_2.length < 5864062014805
               · rw [if_pos c21] at H
                 have LMc21 := Aside0.mk c21
                 clear c21
                 obtain ⟨y112, hy112⟩ : ∃ y_ : List (List Int), y_ = (x7_2 ++ [y109]) := ⟨_, rfl⟩
                 replace H : (scullerlaw12_Arena.l1 k2 a2 y112 (wrap64 (x9_2 + 1))) = some r := by first | (rw [hy112]; with_reducible exact H) | (have H2_ := (Option.bind_some _ _).symm.trans H; rw [hy112]; with_reducible exact H2_) | (have H2_ := (Option.bind_some _ _).symm.trans H; with_reducible exact H2_) | with_reducible exact H | (rw [hy112]; exact H) | exact H
                 have Ny112 := Aside0.mk hy112
                 clear hy112
                 have H' := Aside0.mk H
                 clear H
                 go_wp2_with (first | ((with_reducible refine gate_dst (N := 47) rfl ?_); refine Kd.R_make (Kd.int .u64) _ 22 rfl (N := 47) rfl 123 _ _ rfl x9_2 rfl rfl Try.underlying123 (.int .u64 0) 8 info22 rfl (by decide) (by omega) 0 (ok := fun _ => True) (okp := fun _ => True) rfl (fun _ hk => hk) trivial (of_decide_eq_true (by first | (with_reducible assumption) | assumption)) (Nat.le_trans (Nat.mul_le_mul_right _ (of_decide_eq_true (by first | (with_reducible assumption) | assumption) : x9_2.toNat ≤ 35184372088832)) (by omega)) (Below.refl _ _) (Nat.le_refl _) ?_; intro v110 w22 ho23 hb hg_ hnew_; clear hg_ hnew_; (first | rw [← Ny109.out] at ho23 | (simp only [Int.reduceToNat] at ho23; rw [← Ny109.out] at ho23)); have n0_ := Aside0.mk (Kd.S_elder' (by (with_reducible repeat (first | apply Kd.S_alloc | apply Kd.S_drewN | apply Kd.S_drew)); exact HO_7.out) (Kd.R_base ho23) hb); have n1_ := Aside0.mk (Kd.R_lower ho23 (below_size (by repeat (first | (with_reducible first | exact HB.out | apply below_alloc | apply pw_below_drewN | apply below_drew1) | exact HB.out)))); have n2_ := Aside0.mk (below_step (by repeat (first | (with_reducible first | exact HB.out | apply below_alloc | apply pw_below_drewN | apply below_drew1) | exact HB.out)) hb); clear HO_7; clear HB; have HO_7 := n0_; have HO111 := n1_; have HB := n2_; clear n0_ n1_ n2_; clear hb ho23; obtain ⟨Ao25, co25, eo25⟩ := Kd.R_slice HO111.out; subst eo25) | ((with_reducible refine gate_builtin (b := .append) (xs := #[.tmp 45, .tmp 48]) rfl ?_); at_builtin; refine Kd.S_append (Kd.slice 22 (Kd.int .u64)) (w0 := w) w.heap.size rfl (.tmp 45) (.tmp 48) 76 123 (.slice none 0 0) 24 rfl Try.underlying76 info123 rfl (by decide) (by omega) u7 x7_2 y109 [.slice Ao25 y109.length co25] (fun _ => True) (fun k_ => some k_ = (.slice Ao25 y109.length co25 : Value).ownBlock) rfl rfl ?aP (fun k_ hk_ => ((Kd.R_mono (ok' := fun k_ => ((fun _ => True)) k_ ∧ some k_ ≠ (u7 : Value).ownBlock) (Kd.R_apart' (HO111.out) (Kd.S_typed HO_7.out) (by decide)) (fun k_ hk => ⟨trivial, hk.2⟩))).1 k_ hk_.symm) ?aF ?aO ?aB ?aS ?aL ?_; (case aP => exact Kd.M_row (Kd.R_mono (Kd.R_tight rfl (Kd.R_mono (ok' := fun k_ => ((fun _ => True)) k_ ∧ some k_ ≠ (u7 : Value).ownBlock) (Kd.R_apart' (HO111.out) (Kd.S_typed HO_7.out) (by decide)) (fun k_ hk => ⟨trivial, hk.2⟩))) (fun _ h_ => h_))); (case aB => exact (by repeat (first | (with_reducible first | exact HB.out | apply below_alloc | apply pw_below_drewN | apply below_drew1) | exact HB.out))); (case aF => exact (fun _ _ => trivial)); (case aO => exact (by (with_reducible repeat (first | apply Kd.S_alloc | apply Kd.S_drewN | apply Kd.S_drew)); exact Kd.S_mono HO_7.out (fun k_ hk => ⟨trivial, fun e_ => hk.2 e_⟩))); (case aS => exact (below_size (by repeat (first | (with_reducible first | exact HB.out | apply below_alloc | apply pw_below_drewN | apply below_drew1) | exact HB.out)))); (case aL => have := LMc21.out; omega); intro v113 w24 ho hb hg hat; rw [← Ny112.out] at ho; have n0_ := Aside0.mk (hb); have n1_ := Aside0.mk (ho); clear HB; clear HO_7; clear HO111; have HB := n0_; have HO114 := n1_; clear n0_ n1_; clear ho hb hg hat))
                 go_roundg k2
                 case measure => have := HK1.out; have := HK2.out; omega
                 case rel => exact ⟨(y112), (wrap64 (x9_2 + 1)), (by first | rfl | (simp; done) | (simp [*]; done)), H', ⟨by have := HK1.out; have := HK2.out; omega⟩, ⟨by (with_reducible repeat (first | apply Kd.S_alloc | apply Kd.S_drewN | apply Kd.S_drew)); exact HO114.out⟩, ⟨by repeat (first | (with_reducible first | exact HB.out | apply below_alloc | apply pw_below_drewN | apply below_drew1) | exact HB.out)⟩⟩
               · rw [if_neg c21] at H
                 exact absurd H (by simp)
             · rw [if_neg c20] at H
               exact absurd H (by simp)
           · rw [if_neg c19] at H
             exact absurd H (by simp)
         · rw [if_neg c18] at H
           have c18b0 : decide (x9_2 < (wrap64 (Int.tmod a2 7))) = false := decide_eq_false c18
           clear c18
           obtain rfl := Option.some.inj H
           go_wp2
           go_ret
           exact ⟨_, by first | rfl | (simp [errW_none, errW_some] <;> rfl) | (simp [*, errW_none, errW_some] <;> rfl), by (with_reducible repeat (first | apply Kd.S_alloc | apply Kd.S_drewN | apply Kd.S_drew)); exact HO_7.out, by repeat (first | (with_reducible first | exact HB.out | apply below_alloc | apply pw_below_drewN | apply below_drew1) | exact HB.out)⟩

end Go.Proofs.Ytbijnfhcbanhdaa.F
end

section
namespace Go.Proofs.Ytbijnfhcbanhdaa.F
open Go.RowKit Go.Proofs.YtbijnfhcbanhdaaW.PrintWords Go.Proofs.YtbijnfhcbanhdaaW.PrintLast Go.Proofs.YtbijnfhcbanhdaaW.PrintMore
attribute [local go_sem] max2_int min2_int max_two min_two max_three min_three max_four min_four   -- for this text's walks alone
set_option linter.unusedVariables false
set_option linter.unusedSimpArgs false

open Go.Proofs.Ytbijnfhcbanhdaa.H
def scullerlaw12_Arena_c.f (l0 : List Int) (a1 : Int) (a2 : Int) : Option (List (List Int)) := if bytesB l0 = true ∧ l0.length ≤ 140737488351232 ∧ 0 ≤ a1 ∧ a1 ≤ 255 ∧ 0 ≤ a2 ∧ a2 ≤ 255 then some (arena12L l0 a1 a2) else none
theorem scullerlaw12_Arena.l1_to (m : Int) (hm0 : 0 ≤ m) (hm : m ≤ 255) (x : List (List Int)) (hx : x.length ≤ 100) : ∀ (d i : Nat), (m % 7).toNat - i = d → i ≤ (m % 7).toNat → ∃ k, scullerlaw12_Arena.l1 k m (x ++ zerosC i) (i : Int) = some (x ++ zerosC (m % 7).toNat)
 | 0, i, hd, hi => ⟨1, by
   obtain rfl : i = (m % 7).toNat := by omega
   rw [scullerlaw12_Arena.l1, Int.tmod_eq_emod_of_nonneg hm0, if_neg (by unfold wrap64; omega)]⟩
 | d + 1, i, hd, hi => by
   obtain ⟨k, hk⟩ := scullerlaw12_Arena.l1_to m hm0 hm x hx d (i + 1) (by omega) (by omega)
   refine ⟨k + 1, ?_⟩
   rw [zerosC_succ] at hk
   rw [scullerlaw12_Arena.l1, Int.tmod_eq_emod_of_nonneg hm0, if_pos (by unfold wrap64; omega), if_pos (by omega), if_pos (by omega), if_pos (by rw [List.length_append, zerosC_length]; omega), List.append_assoc, Int.toNat_natCast, show wrap64 ((i : Int) + 1) = ((i + 1 : Nat) : Int) from by unfold wrap64; omega]
   exact hk
theorem scullerlaw12_Arena.l0_to (n m : Int) (hn0 : 0 ≤ n) (hn : n ≤ 255) (hm0 : 0 ≤ m) (hm : m ≤ 255) (x : List (List Int)) (e : List Int) (hx : x.length ≤ 50) (he : e.length ≤ 1000) : ∀ (d i : Nat), (m % 40).toNat - i = d → i ≤ (m % 40).toNat →
 ∃ k, scullerlaw12_Arena.l0 k n m (x ++ [e ++ addC n i]) (i : Int) = some (x ++ [e ++ addC n (m % 40).toNat] ++ zerosC (m % 7).toNat)
 | 0, i, hd, hi => by
   obtain rfl : i = (m % 40).toNat := by omega
   obtain ⟨k, hk⟩ := scullerlaw12_Arena.l1_to m hm0 hm (x ++ [e ++ addC n (m % 40).toNat]) (by simp; omega) (m % 7).toNat 0 (by omega) (by omega)
   refine ⟨k + 1, ?_⟩
   rw [scullerlaw12_Arena.l0, Int.tmod_eq_emod_of_nonneg hm0, if_neg (by unfold wrap64; omega)]
   rw [show zerosC 0 = [] from rfl, List.append_nil] at hk
   exact hk
 | d + 1, i, hd, hi => by
   obtain ⟨k, hk⟩ := scullerlaw12_Arena.l0_to n m hn0 hn hm0 hm x e hx he d (i + 1) (by omega) (by omega)
   refine ⟨k + 1, ?_⟩
   have hl : (x ++ [e ++ addC n i]).length = x.length + 1 := by simp
   have e1 : wrap64 (((x ++ [e ++ addC n i]).length : Int) - 1) = (x.length : Int) := by rw [hl]; unfold wrap64; omega
   have hr : rd_L8 (x ++ [e ++ addC n i]) (x.length : Int) = e ++ addC n i := by
    unfold rd_L8
    rw [getD_toNat _ _ x.length (by simp)]
    simp
   have h2 : (i : Int) * n ≤ 40 * 255 := Int.mul_le_mul (by omega) (by omega) (by omega) (by omega)
   have h3 : 0 ≤ (i : Int) * n := Int.mul_nonneg (by omega) (by omega)
   have wu : ∀ z : Int, 0 ≤ z → z < 18446744073709551616 → IntKind.u64.wrap z = z := fun z hz hz2 => wrapu hz hz2
   rw [addC_succ] at hk
   rw [scullerlaw12_Arena.l0, Int.tmod_eq_emod_of_nonneg hm0, if_pos (by unfold wrap64; omega), e1, if_pos (by omega), if_pos (by rw [hl]; omega), hr, if_pos (by rw [List.length_append, addC_length]; omega), wu (i : Int) (by omega) (by omega), wu n hn0 (by omega), wu _ h3 (by omega), Int.toNat_natCast,
    List.set_append_right _ _ (Nat.le_refl _), Nat.sub_self, List.set_cons_zero, List.append_assoc, show wrap64 ((i : Int) + 1) = ((i + 1 : Nat) : Int) from by unfold wrap64; omega]
   exact hk
theorem scullerlaw12_Arena_c.to {l0 : List Int} {a1 a2 : Int} {r : List (List Int)} (h : scullerlaw12_Arena_c.f l0 a1 a2 = some r) : ∃ k, scullerlaw12_Arena.f k l0 a1 a2 = some r := by
 unfold scullerlaw12_Arena_c.f at h
 split at h
 case isFalse => cases h
 case isTrue hb =>
 obtain rfl := Option.some.inj h
 obtain ⟨h0, h1, h2, h3, h4, h5⟩ := hb
 have hl := arenaL_length l0 h2
 have hw := arenaL_words l0 h2
 have hlast := arenaL_last l0 h2
 have he : ((arenaL l0 a1).getLastD []).length ≤ 1000 := by
  rw [← hlast, wordsL_append, wordsL_one] at hw
  omega
 obtain ⟨k, hk⟩ := scullerlaw12_Arena.l0_to a1 a2 h2 h3 h4 h5 (arenaL l0 a1).dropLast ((arenaL l0 a1).getLastD []) (by simp; omega) he (a2 % 40).toNat 0 (by omega) (by omega)
 refine ⟨k, ?_⟩
 rw [show addC a1 0 = [] from rfl, List.append_nil, hlast] at hk
 rw [scullerlaw12_Arena.f, scullerlaw07_Arena_c.f, if_pos ⟨h0, h1, h2, h3⟩, Option.bind_some]
 exact hk

theorem scullerlaw12_Arena_c.calls (A0 : Option Addr) (c0 : Nat) (l0 : List Int) (a1 : Int) (a2 : Int) (r : List (List Int)) (w : World) (hr0 : Kd.C (Kd.int .u8) w A0 l0.length l0) (hc0 : l0.length ≤ c0) (h : scullerlaw12_Arena_c.f l0 a1 a2 = some r) :
 Calls Try.prog 37 #[.slice A0 l0.length c0, .int .u8 a1, .int .u8 a2] w fun e w' => ∃ v0_ : Value, e = .returned (v0_) ∧ Kd.S (Kd.slice 22 (Kd.int .u64)) 123 w' w.heap.size (fun _ => True) v0_ r ∧ Below w.heap.size w w' := by
 obtain ⟨k_, hk_⟩ := scullerlaw12_Arena_c.to h
 exact scullerlaw12_Arena.calls k_ A0 c0 l0 a1 a2 r w hr0 hc0 hk_

end Go.Proofs.Ytbijnfhcbanhdaa.F
end

section
namespace Go.Proofs.Ytbijnfhcbanhdaa.F
open Go.RowKit Go.Proofs.YtbijnfhcbanhdaaW.PrintWords Go.Proofs.YtbijnfhcbanhdaaW.PrintLast Go.Proofs.YtbijnfhcbanhdaaW.PrintMore
attribute [local go_sem] max2_int min2_int max_two min_two max_three min_three max_four min_four   -- for this text's walks alone
set_option linter.unusedVariables false
set_option linter.unusedSimpArgs false

/-! ### scullerlaw14_Token: function 12 -/
def scullerlaw14_Token.l0 : Nat → List Int → List Int → Int → Int → List Int → Int → Option (Int × List Int × Int × List Int)
 | 0, _, _, _, _, _, _ => none
 | k + 1, x1, x11, x12, x112000, x112001, x112002 => if x12 < (x1.length : Int) then (if 0 ≤ x12 then ((scullerref12_Chunks.f x112000 x112001 x112002).bind fun t117 => (if (wrap64 (rd x1 x12)) < t117 then ((scullerref03_Set_c.f x11 (wrap64 (rd x1 x12))).bind fun t119 => (scullerlaw14_Token.l0 k x1 t119 (wrap64 (x12 + 1)) x112000 x112001 x112002)) else (scullerlaw14_Token.l0 k x1 x11 (wrap64 (x12 + 1)) x112000 x112001 x112002))) else (none)) else (some (x112000, x112001, x112002, x11))
def scullerlaw14_Token.f (k : Nat) (a0 : Int) (l1 : List Int) (a2 : Int) (a3 : Int) : Option (Int × List Int × Int × List Int) := (scullerlaw12_Arena_c.f l1 a2 a3).bind fun t102 => ((scullerref12_Of_c.f a0 t102).bind fun bt105 => ((scullerref12_Chunks.f bt105.1 bt105.2.1 bt105.2.2.1).bind fun t112 => ((scullerref03_Make.f t112).bind fun t113 => (scullerlaw14_Token.l0 k l1 t113 0 bt105.1 bt105.2.1 bt105.2.2.1))))
theorem scullerlaw14_Token.mono_l : ∀ k, (∀ y0 y1 y2 y3 y4 y5, LeO (scullerlaw14_Token.l0 k y0 y1 y2 y3 y4 y5) (scullerlaw14_Token.l0 (k + 1) y0 y1 y2 y3 y4 y5))
 | 0 => fun _ _ _ _ _ _ r h => by simp [scullerlaw14_Token.l0] at h
 | k + 1 => by
   have ih0 := scullerlaw14_Token.mono_l k
   · intro y0 y1 y2 y3 y4 y5
     unfold scullerlaw14_Token.l0
     repeat' first
     | (with_reducible exact ih0 _ _ _ _ _ _)
     | (with_reducible exact LeO.refl _)
     | (with_reducible exact LeO.none _)
     | (with_reducible refine LeO.ite ?_ ?_)
     | (with_reducible refine LeO.bind ?_ (fun _ => ?_))
     | exact ih0 _ _ _ _ _ _
     | exact LeO.none _
     | refine LeO.ite ?_ ?_
     | refine LeO.bind ?_ (fun _ => ?_)
theorem scullerlaw14_Token.mono : ∀ a0 a1 a2 a3 k, LeO (scullerlaw14_Token.f k a0 a1 a2 a3) (scullerlaw14_Token.f (k + 1) a0 a1 a2 a3) := by
 intro a0 a1 a2 a3 k
 have ih0 := scullerlaw14_Token.mono_l k
 unfold scullerlaw14_Token.f
 repeat' first
  | (with_reducible exact ih0 _ _ _ _ _ _)
  | (with_reducible exact LeO.refl _)
  | (with_reducible exact LeO.none _)
  | (with_reducible refine LeO.ite ?_ ?_)
  | (with_reducible refine LeO.bind ?_ (fun _ => ?_))
  | exact ih0 _ _ _ _ _ _
  | exact LeO.none _
  | refine LeO.ite ?_ ?_
  | refine LeO.bind ?_ (fun _ => ?_)
def scullerlaw14_Token.T6 : Bool × List (List Nat × List Nat) := (true, [([], []), ([], []), ([0, 1], [0, 1]), ([2], [2]), ([3], [3]), ([], []), ([5], [5]), ([4, 6], [4, 6])])
def scullerlaw14_Token.B6 : List Nat := [0, 0, 3, 7, 15, 0, 32, 127]
theorem scullerlaw14_Token.tab6 : rtab .any (opsOf Try.f12 6) = scullerlaw14_Token.T6 := by kernel_rfl
theorem scullerlaw14_Token.bits6 : waitsOk scullerlaw14_Token.T6.2 scullerlaw14_Token.B6 = true := by kernel_rfl
set_option maxHeartbeats 8000000 in
set_option maxRecDepth 100000 in
theorem scullerlaw14_Token.calls (k : Nat) (a0 : Int) (A1 : Option Addr) (c1 : Nat) (l1 : List Int) (a2 : Int) (a3 : Int) (r1 : Int) (r2 : List Int) (r3 : Int) (r4 : List Int) (w : World) (hr1 : Kd.C (Kd.int .u8) w A1 l1.length l1) (hc1 : l1.length ≤ c1) (h : scullerlaw14_Token.f k a0 l1 a2 a3 = some (r1, r2, r3, r4)) :
 Calls Try.prog 12 #[.int .u64 a0, .slice A1 l1.length c1, .int .u8 a2, .int .u8 a3] w fun e w' => ∃ v1_ v3_ : Value, e = .returned (.agg #[.int .u64 r1, v1_, .int .u32 r3, v3_]) ∧ Kd.R (Kd.int .i64) 3 w' w.heap.size (fun _ => True) v1_ r2 ∧ Kd.R (Kd.int .u8) 5 w' w.heap.size (fun _ => True) v3_ r4 ∧ Below w.heap.size w w' := by
 have hu29 := Try.underlying29
 have hu26 := Try.underlying26
 have HR1 := Aside0.mk hr1
 have HC1 := Aside0.mk hc1
 clear hr1 hc1
 have HB := Aside0.mk (Below.refl w.heap.size w)
 have H : ((scullerlaw12_Arena_c.f l1 a2 a3).bind fun t102 => ((scullerref12_Of_c.f a0 t102).bind fun bt105 => ((scullerref12_Chunks.f bt105.1 bt105.2.1 bt105.2.2.1).bind fun t112 => ((scullerref03_Make.f t112).bind fun t113 => (scullerlaw14_Token.l0 k l1 t113 0 bt105.1 bt105.2.1 bt105.2.2.1))))) = some (r1, r2, r3, r4) := h
 clear h
 replace H := Option.bind_eq_some_iff.mp H
 obtain ⟨t102, A50, H⟩ := H
 replace H : ((scullerref12_Of_c.f a0 t102).bind fun bt105 => ((scullerref12_Chunks.f bt105.1 bt105.2.1 bt105.2.2.1).bind fun t112 => ((scullerref03_Make.f t112).bind fun t113 => (scullerlaw14_Token.l0 k l1 t113 0 bt105.1 bt105.2.1 bt105.2.2.1)))) = some (r1, r2, r3, r4) := H
 have A5 := Aside0.mk A50
 clear A50
 replace H := Option.bind_eq_some_iff.mp H
 obtain ⟨⟨t105, t106, t109, t110⟩, A60, H⟩ := H
 replace H : ((scullerref12_Chunks.f t105 t106 t109).bind fun t112 => ((scullerref03_Make.f t112).bind fun t113 => (scullerlaw14_Token.l0 k l1 t113 0 t105 t106 t109))) = some (r1, r2, r3, r4) := H
 have A6 := Aside0.mk A60
 clear A60
 replace H := Option.bind_eq_some_iff.mp H
 obtain ⟨t112, A70, H⟩ := H
 replace H : ((scullerref03_Make.f t112).bind fun t113 => (scullerlaw14_Token.l0 k l1 t113 0 t105 t106 t109)) = some (r1, r2, r3, r4) := H
 have A7 := Aside0.mk A70
 clear A70
 replace H := Option.bind_eq_some_iff.mp H
 obtain ⟨t113, A80, H⟩ := H
 replace H : (scullerlaw14_Token.l0 k l1 t113 0 t105 t106 t109) = some (r1, r2, r3, r4) := H
 have A8 := Aside0.mk A80
 clear A80
 have H' := Aside0.mk H
 clear H
 go_enter Try.func12, Try.ntmps12
 go_wp2_with (first | ((with_reducible refine gate_dst (N := 8) rfl ?_); refine box_event ?hg (N := 8) ?hd (cs := #[.int .u64 0, .slice none 0 0, .int .u32 0, .slice none 0 0]) (t := 29) ?hr ?_; (case hd => rfl); (case hg => rfl); (case hr => first | (go_simp; done) | (go_simp; rfl)); intro gb101 hg w9 hbox hb; have n0_ := Aside0.mk (below_step (by repeat (first | (with_reducible first | exact HB.out | apply below_alloc | apply pw_below_drewN | apply below_drew1) | exact HB.out)) hb); have n1_ := Aside0.mk (hbox); have n2_ := Aside0.mk ((by rw [hg]; exact (below_size (by repeat (first | (with_reducible first | exact HB.out | apply below_alloc | apply pw_below_drewN | apply below_drew1) | exact HB.out))) : w.heap.size ≤ gb101)); have n3_ := Aside0.mk ((by rw [hg]; exact (below_size (by repeat (first | (with_reducible first | exact HB.out | apply below_alloc | apply pw_below_drewN | apply below_drew1) | exact HB.out))) : w.heap.size ≤ gb101)); clear HB; have HB := n0_; have BK101 := n1_; have GW101 := n2_; have GE101 := n3_; clear n0_ n1_ n2_ n3_; clear hb hbox hg) | ((with_reducible refine gate_callee (f := 37) rfl ?_); refine goesL_ (some 18) rfl rfl Try.func37 (by kernel_rfl) rfl #[.slice A1 l1.length c1, .int .u8 a2, .int .u8 a3] rfl (by (try simp only [List.map_toArray, List.map_cons, List.map_nil]); first | done | rfl | (simp only [List.length_drop, List.length_take]; rfl)) ?_; (with_reducible refine (scullerlaw12_Arena_c.calls _ _ l1 a2 a3 t102 _ ?side1 ?side2 A5.out).mono ?_); (case side1 => repeat (first | exact (Kd.C_below HR1.out HB.out) | (with_reducible refine Kd.C_alloc ?_ _) | (with_reducible refine Kd.C_drewN ?_ _) | (with_reducible refine Kd.C_drew ?_))); (case side2 => exact HC1.out); rintro e w10 ⟨v103, rfl, ho0, hb⟩; refine ⟨_, rfl, ?_⟩; have n0_ := Aside0.mk (Kd.S_lower ho0 (below_size (by repeat (first | (with_reducible first | exact HB.out | apply below_alloc | apply pw_below_drewN | apply below_drew1 | refine below_set ?_ GE101.out) | exact HB.out)))); have n1_ := Aside0.mk (blk_below (g := gb101) (o := .cells #[.int .u64 0, .slice none 0 0, .int .u32 0, .slice none 0 0] 29 (0, 0)) (by (with_reducible repeat (first | refine blk_drewN ?_ _ | refine blk_drew ?_ | refine blk_alloc ?_ _)); exact BK101.out) hb); have n2_ := Aside0.mk (below_step (by repeat (first | (with_reducible first | exact HB.out | apply below_alloc | apply pw_below_drewN | apply below_drew1 | refine below_set ?_ GE101.out) | exact HB.out)) hb); clear BK101; clear HB; have HO104 := n0_; have BK101 := n1_; have HB := n2_; clear n0_ n1_ n2_; (try clear hb); (try clear hb2); (try clear hk); (try clear hi); (try clear ho0); obtain ⟨Ao11, co11, eo11⟩ := Kd.S_slice HO104.out; subst eo11) | ((with_reducible refine gate_callee (f := 36) rfl ?_); refine goesL_ (some 19) rfl rfl Try.func36 (by kernel_rfl) rfl #[.int .u64 a0, .slice Ao11 t102.length co11] rfl (by (try simp only [List.map_toArray, List.map_cons, List.map_nil]); first | done | rfl | (simp only [List.length_drop, List.length_take]; rfl)) ?_; (with_reducible refine (scullerref12_Of_c.calls a0 _ _ t102 t105 t106 t109 t110 _ ?side1 ?side2 A6.out).mono ?_); (case side1 => repeat (first | exact (Kd.S_reads' HO104.out).2.2 | (with_reducible refine Kd.C_alloc ?_ _) | (with_reducible refine Kd.C_drewN ?_ _) | (with_reducible refine Kd.C_drew ?_))); (case side2 => exact (Kd.S_reads' HO104.out).2.1); rintro e w12 ⟨v107, rfl, ho0, hb⟩; refine ⟨_, rfl, ?_⟩; have n0_ := Aside0.mk (Kd.S_below (by (with_reducible repeat (first | apply Kd.S_alloc | apply Kd.S_drewN | apply Kd.S_drew)); exact HO104.out) hb); have n1_ := Aside0.mk (Kd.R_lower ho0 (below_size (by repeat (first | (with_reducible first | exact HB.out | apply below_alloc | apply pw_below_drewN | apply below_drew1 | refine below_set ?_ GE101.out) | exact HB.out)))); have n2_ := Aside0.mk (blk_below (g := gb101) (o := .cells #[.int .u64 0, .slice none 0 0, .int .u32 0, .slice none 0 0] 29 (0, 0)) (by (with_reducible repeat (first | refine blk_drewN ?_ _ | refine blk_drew ?_ | refine blk_alloc ?_ _)); exact BK101.out) hb); have n3_ := Aside0.mk (below_step (by repeat (first | (with_reducible first | exact HB.out | apply below_alloc | apply pw_below_drewN | apply below_drew1 | refine below_set ?_ GE101.out) | exact HB.out)) hb); clear HO104; clear BK101; clear HB; have HO104 := n0_; have HO108 := n1_; have BK101 := n2_; have HB := n3_; clear n0_ n1_ n2_ n3_; (try clear hb); (try clear hb2); (try clear hk); (try clear hi); (try clear ho0)) | ((with_reducible refine gate_dst (N := 9) rfl ?_); refine box_event ?hg (N := 9) ?hd (cs := #[.int .u64 0, .slice none 0 0, .int .u32 0]) (t := 26) ?hr ?_; (case hd => rfl); (case hg => rfl); (case hr => first | (go_simp; done) | (go_simp; rfl)); intro gb111 hg w13 hbox hb; have n0_ := Aside0.mk (Kd.S_below (by (with_reducible repeat (first | apply Kd.S_alloc | apply Kd.S_drewN | apply Kd.S_drew)); exact HO104.out) hb); have n1_ := Aside0.mk (Kd.R_below (by (with_reducible repeat (first | apply Kd.R_alloc | apply Kd.R_drewN | apply Kd.R_drew)); exact HO108.out) hb); have n2_ := Aside0.mk (blk_below (g := gb101) (o := .cells #[.int .u64 0, .slice none 0 0, .int .u32 0, .slice none 0 0] 29 (0, 0)) (by (with_reducible repeat (first | refine blk_drewN ?_ _ | refine blk_drew ?_ | refine blk_alloc ?_ _)); exact BK101.out) hb); have n3_ := Aside0.mk (below_step (by repeat (first | (with_reducible first | exact HB.out | apply below_alloc | apply pw_below_drewN | apply below_drew1 | refine below_set ?_ GE101.out) | exact HB.out)) hb); have n4_ := Aside0.mk (hbox); have n5_ := Aside0.mk ((by rw [hg]; exact (below_size (by repeat (first | (with_reducible first | exact HB.out | apply below_alloc | apply pw_below_drewN | apply below_drew1 | refine below_set ?_ GE101.out) | exact HB.out))) : w.heap.size ≤ gb111)); have n6_ := Aside0.mk ((by rw [hg]; exact (below_size (by repeat (first | (with_reducible first | exact HB.out | apply below_alloc | apply pw_below_drewN | apply below_drew1 | refine below_set ?_ GE101.out) | exact HB.out))) : w.heap.size ≤ gb111)); have n7_ := Aside0.mk ((by rw [hg]; exact Nat.ne_of_lt (blk_lt (g := gb101) (o := .cells #[.int .u64 0, .slice none 0 0, .int .u32 0, .slice none 0 0] 29 (0, 0)) (by (with_reducible repeat (first | refine blk_drewN ?_ _ | refine blk_drew ?_ | refine blk_alloc ?_ _)); exact BK101.out)) : gb101 ≠ gb111)); have n8_ := Aside0.mk ((by rw [hg]; exact Nat.ne_of_gt (blk_lt (g := gb101) (o := .cells #[.int .u64 0, .slice none 0 0, .int .u32 0, .slice none 0 0] 29 (0, 0)) (by (with_reducible repeat (first | refine blk_drewN ?_ _ | refine blk_drew ?_ | refine blk_alloc ?_ _)); exact BK101.out)) : gb111 ≠ gb101)); clear HO104; clear HO108; clear BK101; clear HB; have HO104 := n0_; have HO108 := n1_; have BK101 := n2_; have HB := n3_; have BK111 := n4_; have GW111 := n5_; have GE111 := n6_; have NB101_111 := n7_; have NB111_101 := n8_; clear n0_ n1_ n2_ n3_ n4_ n5_ n6_ n7_ n8_; clear hb hbox hg; have hnb14 := NB111_101.out; have hnc14 := NB101_111.out; have hcz15_0 : w13.cell? ⟨gb111, 0, none⟩ = some (.int .u64 0) := (blk_cell BK111.out 0).trans rfl; have hcz15_1 : w13.cell? ⟨gb111, 1, none⟩ = some (.slice none 0 0) := (blk_cell BK111.out 1).trans rfl; have hcz15_2 : w13.cell? ⟨gb111, 2, none⟩ = some (.int .u32 0) := (blk_cell BK111.out 2).trans rfl; have hfz15_0 := blk_frozen BK111.out 0; have hfz15_1 := blk_frozen BK111.out 1; have hfz15_2 := blk_frozen BK111.out 2; obtain ⟨Ao16, co16, eo16⟩ := Kd.R_slice HO108.out; subst eo16) | ((with_reducible refine gate_callee (f := 21) rfl ?_); refine goesL_ (some 23) rfl rfl Try.func21 (by kernel_rfl) rfl #[.agg #[.int .u64 t105, .slice Ao16 t106.length co16, .int .u32 t109]] rfl (by (try simp only [List.map_toArray, List.map_cons, List.map_nil]); first | done | rfl | (simp only [List.length_drop, List.length_take]; rfl)) ?_; (with_reducible refine (scullerref12_Chunks.calls t105 _ _ t106 t109 t112 _ ?side1 ?side2 A7.out).mono ?_); (case side1 => refine (Kd.R_reads' (e := 3) (base := w.heap.size) (ok := fun k_ => True) (n := t106.length) (c := co16) ?_).2.2; exact (by (with_reducible repeat (first | apply Kd.R_alloc | apply Kd.R_drewN | apply Kd.R_drew)); exact (Kd.R_mono (Kd.R_far (p := ⟨gb111, 2, none⟩) (Kd.R_far (p := ⟨gb111, 1, none⟩) (Kd.R_far (p := ⟨gb111, 0, none⟩) (Kd.R_types HO108.out BK111.out (by decide)) (fun _ hk => hk.2) (.int .u64 t105)) (fun _ hk => hk.2) (.slice Ao16 t106.length co16)) (fun _ hk => hk.2) (.int .u32 t109)) (fun _ h_ => h_.1)))); (case side2 => exact (Kd.R_reads' HO108.out).2.1); rintro e w17 ⟨rfl, hb⟩; refine ⟨_, rfl, ?_⟩; have n0_ := Aside0.mk (Kd.S_below (by (with_reducible repeat (first | apply Kd.S_alloc | apply Kd.S_drewN | apply Kd.S_drew)); exact (Kd.S_mono (Kd.S_far (p := ⟨gb111, 2, none⟩) (Kd.S_far (p := ⟨gb111, 1, none⟩) (Kd.S_far (p := ⟨gb111, 0, none⟩) (Kd.S_types HO104.out BK111.out (by decide)) (fun _ hk => hk.2) (.int .u64 t105)) (fun _ hk => hk.2) (.slice Ao16 t106.length co16)) (fun _ hk => hk.2) (.int .u32 t109)) (fun _ h_ => h_.1))) hb); have n1_ := Aside0.mk (Kd.R_below (by (with_reducible repeat (first | apply Kd.R_alloc | apply Kd.R_drewN | apply Kd.R_drew)); exact (Kd.R_mono (Kd.R_far (p := ⟨gb111, 2, none⟩) (Kd.R_far (p := ⟨gb111, 1, none⟩) (Kd.R_far (p := ⟨gb111, 0, none⟩) (Kd.R_types HO108.out BK111.out (by decide)) (fun _ hk => hk.2) (.int .u64 t105)) (fun _ hk => hk.2) (.slice Ao16 t106.length co16)) (fun _ hk => hk.2) (.int .u32 t109)) (fun _ h_ => h_.1))) hb); have n2_ := Aside0.mk (blk_below (g := gb101) (o := .cells #[.int .u64 0, .slice none 0 0, .int .u32 0, .slice none 0 0] 29 (0, 0)) (by (with_reducible repeat (first | refine blk_drewN ?_ _ | refine blk_drew ?_ | refine blk_alloc ?_ _)); refine blk_far ?_ NB101_111.out _; (with_reducible repeat (first | refine blk_drewN ?_ _ | refine blk_drew ?_ | refine blk_alloc ?_ _)); refine blk_far ?_ NB101_111.out _; (with_reducible repeat (first | refine blk_drewN ?_ _ | refine blk_drew ?_ | refine blk_alloc ?_ _)); refine blk_far ?_ NB101_111.out _; (with_reducible repeat (first | refine blk_drewN ?_ _ | refine blk_drew ?_ | refine blk_alloc ?_ _)); exact BK101.out) hb); have n3_ := Aside0.mk (blk_below (g := gb111) (o := .cells #[.int .u64 t105, .slice Ao16 t106.length co16, .int .u32 t109] 26 (0, 0)) (by (with_reducible repeat (first | refine blk_drewN ?_ _ | refine blk_drew ?_ | refine blk_alloc ?_ _)); refine blk_put (cs := #[.int .u64 t105, .slice Ao16 t106.length co16, .int .u32 0]) ?_ 2 _ rfl; (with_reducible repeat (first | refine blk_drewN ?_ _ | refine blk_drew ?_ | refine blk_alloc ?_ _)); refine blk_put (cs := #[.int .u64 t105, .slice none 0 0, .int .u32 0]) ?_ 1 _ rfl; (with_reducible repeat (first | refine blk_drewN ?_ _ | refine blk_drew ?_ | refine blk_alloc ?_ _)); refine blk_put (cs := #[.int .u64 0, .slice none 0 0, .int .u32 0]) ?_ 0 _ rfl; (with_reducible repeat (first | refine blk_drewN ?_ _ | refine blk_drew ?_ | refine blk_alloc ?_ _)); exact BK111.out) hb); have n4_ := Aside0.mk (below_step (by repeat (first | (with_reducible first | exact HB.out | apply below_alloc | apply pw_below_drewN | apply below_drew1 | refine below_set ?_ GE101.out | refine below_set ?_ GE111.out) | exact HB.out)) hb); clear HO104; clear HO108; clear BK101; clear BK111; clear HB; have HO104 := n0_; have HO108 := n1_; have BK101 := n2_; have BK111 := n3_; have HB := n4_; clear n0_ n1_ n2_ n3_ n4_; (try clear hb); (try clear hb2); (try clear hk); (try clear hi)) | ((with_reducible refine gate_callee (f := 22) rfl ?_); refine goesL_ (some 24) rfl rfl Try.func22 (by kernel_rfl) rfl #[.int .i64 t112] rfl (by (try simp only [List.map_toArray, List.map_cons, List.map_nil]); first | done | rfl | (simp only [List.length_drop, List.length_take]; rfl)) ?_; (with_reducible refine (scullerref03_Make.calls t112 t113 _ A8.out).mono ?_); rintro e w18 ⟨v114, rfl, ho0, hb⟩; refine ⟨_, rfl, ?_⟩; have n0_ := Aside0.mk (Kd.S_below (by (with_reducible repeat (first | apply Kd.S_alloc | apply Kd.S_drewN | apply Kd.S_drew)); exact HO104.out) hb); have n1_ := Aside0.mk (Kd.R_below (by (with_reducible repeat (first | apply Kd.R_alloc | apply Kd.R_drewN | apply Kd.R_drew)); exact HO108.out) hb); have n2_ := Aside0.mk (Kd.R_lower ho0 (below_size (by repeat (first | (with_reducible first | exact HB.out | apply below_alloc | apply pw_below_drewN | apply below_drew1 | refine below_set ?_ GE101.out | refine below_set ?_ GE111.out) | exact HB.out)))); have n3_ := Aside0.mk (blk_below (g := gb101) (o := .cells #[.int .u64 0, .slice none 0 0, .int .u32 0, .slice none 0 0] 29 (0, 0)) (by (with_reducible repeat (first | refine blk_drewN ?_ _ | refine blk_drew ?_ | refine blk_alloc ?_ _)); exact BK101.out) hb); have n4_ := Aside0.mk (blk_below (g := gb111) (o := .cells #[.int .u64 t105, .slice Ao16 t106.length co16, .int .u32 t109] 26 (0, 0)) (by (with_reducible repeat (first | refine blk_drewN ?_ _ | refine blk_drew ?_ | refine blk_alloc ?_ _)); exact BK111.out) hb); have n5_ := Aside0.mk (below_step (by repeat (first | (with_reducible first | exact HB.out | apply below_alloc | apply pw_below_drewN | apply below_drew1 | refine below_set ?_ GE101.out | refine below_set ?_ GE111.out) | exact HB.out)) hb); clear HO104; clear HO108; clear BK101; clear BK111; clear HB; have HO104 := n0_; have HO108 := n1_; have HO115 := n2_; have BK101 := n3_; have BK111 := n4_; have HB := n5_; clear n0_ n1_ n2_ n3_ n4_ n5_; (try clear hb); (try clear hb2); (try clear hk); (try clear hi); (try clear ho0)))
 go_loopg [11, 12] k (fun kq v11 v12 w' => ∃ (x11_1 : List Int) (x12_1 : Int), v12 = .int .i64 x12_1 ∧ Aside0 (scullerlaw14_Token.l0 kq l1 x11_1 x12_1 t105 t106 t109 = some (r1, r2, r3, r4)) ∧ Aside0 (kq ≤ k) ∧ Aside0 (Kd.R (Kd.int .u8) 5 w' w.heap.size (fun _ => True) v11 x11_1) ∧ Aside0 (Kd.R (Kd.int .i64) 3 w' w.heap.size (fun _ => True) (.slice Ao16 t106.length co16) t106) ∧ Aside0 (w'.heap[gb101]? = some (.cells #[.int .u64 0, (.slice none 0 0), .int .u32 0, (.slice none 0 0)] 29 (0, 0))) ∧ Aside0 (w'.heap[gb111]? = some (.cells #[.int .u64 t105, (.slice Ao16 t106.length co16), .int .u32 t109] 26 (0, 0))) ∧ Aside0 (Below w.heap.size w w'))
 case atStart => exact ⟨(t113), (0), (by first | rfl | (simp; done) | (simp [*]; done)), H', ⟨Nat.le_refl _⟩, ⟨by (with_reducible repeat (first | apply Kd.R_alloc | apply Kd.R_drewN | apply Kd.R_drew)); exact HO115.out⟩, ⟨by (with_reducible repeat (first | apply Kd.R_alloc | apply Kd.R_drewN | apply Kd.R_drew)); exact HO108.out⟩, ⟨by (with_reducible repeat (first | refine blk_drewN ?_ _ | refine blk_drew ?_ | refine blk_alloc ?_ _)); exact BK101.out⟩, ⟨by (with_reducible repeat (first | refine blk_drewN ?_ _ | refine blk_drew ?_ | refine blk_alloc ?_ _)); exact BK111.out⟩, ⟨by repeat (first | (with_reducible first | exact HB.out | apply below_alloc | apply pw_below_drewN | apply below_drew1 | refine below_set ?_ GE101.out | refine below_set ?_ GE111.out) | exact HB.out)⟩⟩
 case round =>
  clear H'
  try clear c1
  try clear c2
  try clear p2
  try clear c3
  try clear c12
  try clear c14
  try clear hcz15_0
  try clear hcz15_1
  try clear hcz15_2
  try clear hfz15_0
  try clear hfz15_1
  try clear hfz15_2
  obtain ⟨x11_1, x12_1, rfl, HA, HK1, HO_11, HO_112001, BK101, BK111, HB⟩ := hrel
  cases gk with
  | zero => exact absurd HA.out (by simp [scullerlaw14_Token.l0])
  | succ k1 =>
    have H := HA.out
    clear HA
    simp only [scullerlaw14_Token.l0] at H
    by_cases c19 : x12_1 < (l1.length : Int)
    · rw [if_pos c19] at H
      have c19b0 : decide (x12_1 < (l1.length : Int)) = true := decide_eq_true c19
      clear c19
      by_cases c20 : 0 ≤ x12_1
      · rw [if_pos c20] at H
        have c20b0 : decide (0 ≤ x12_1) = true := decide_eq_true c20
        clear c20
        replace H := Option.bind_eq_some_iff.mp H
        obtain ⟨t117, A210, H⟩ := H
        replace H : (if (wrap64 (rd l1 x12_1)) < t117 then ((scullerref03_Set_c.f x11_1 (wrap64 (rd l1 x12_1))).bind fun t119 => (scullerlaw14_Token.l0 k1 l1 t119 (wrap64 (x12_1 + 1)) t105 t106 t109)) else (scullerlaw14_Token.l0 k1 l1 x11_1 (wrap64 (x12_1 + 1)) t105 t106 t109)) = some (r1, r2, r3, r4) := H
        have A21 := Aside0.mk A210
        clear A210
        by_cases c22 : (wrap64 (rd l1 x12_1)) < t117
        · rw [if_pos c22] at H
          have c22b0 : decide ((wrap64 (rd l1 x12_1)) < t117) = true := decide_eq_true c22
          clear c22
          replace H := Option.bind_eq_some_iff.mp H
          obtain ⟨t119, A230, H⟩ := H
          replace H : (scullerlaw14_Token.l0 k1 l1 t119 (wrap64 (x12_1 + 1)) t105 t106 t109) = some (r1, r2, r3, r4) := H
          have A23 := Aside0.mk A230
          clear A230
          have H' := Aside0.mk H
          clear H
          try go_wp2
          have n0_ := Aside0.mk (Kd.R_drew HO_11.out)
          have n1_ := Aside0.mk (Kd.R_drew HO_112001.out)
          have n2_ := Aside0.mk (blk_drew BK101.out)
          have n3_ := Aside0.mk (blk_drew BK111.out)
          have n4_ := Aside0.mk (below_drew1 HB.out)
          clear HO_11
          clear HO_112001
          clear BK101
          clear BK111
          clear HB
          have HO_11 := n0_
          have HO_112001 := n1_
          have BK101 := n2_
          have BK111 := n3_
          have HB := n4_
          clear n0_ n1_ n2_ n3_ n4_
          have p116 : 0 ≤ (x12_1 : Int) := of_decide_eq_true (by first | (with_reducible assumption) | assumption)
          have q116 : x12_1 < (l1.length : Int) := of_decide_eq_true (by first | (with_reducible assumption) | assumption)
          obtain ⟨ad116, e116, hx116_0⟩ := Kd.at_int HR1.out x12_1 p116 q116
          have hw116_0 := hx116_0
          cases e116
          replace hx116_0 := (HB.out.cell (World.block_lt_of_cell? w _ hx116_0)).trans hx116_0
          replace p116 := eq_true p116
          replace q116 := eq_true q116
          refine start_ (n := 8) (S := fun w' => w'.cell? ⟨gb111, 0, none⟩ = some (.int .u64 t105) ∧ w'.cell? ⟨gb111, 1, none⟩ = some (.slice Ao16 t106.length co16) ∧ w'.cell? ⟨gb111, 2, none⟩ = some (.int .u32 t109) ∧ w'.cell? (ad116.add (x12_1).toNat) = some (.int .u8 (rd l1 x12_1))) (ds := []) #[false, false, false, false, false, false, false, false] (by kernel_rfl) rfl rfl ⟨(blk_cell BK111.out 0).trans rfl, (blk_cell BK111.out 1).trans rfl, (blk_cell BK111.out 2).trans rfl, ((HB.out.cell (World.block_lt_of_cell? w _ hw116_0)).trans hw116_0)⟩ (fun hHeld => ?_); refine with_tabW scullerlaw14_Token.tab6 scullerlaw14_Token.bits6 (fun HT_ HW_ => ?_)
          generalize wr.drew = w24 at HO_11 HO_112001 BK101 BK111 HB hx116_0 hHeld ⊢
          refine pure_ (i := 0) (N := some 31) (v := ?_) (a' := ?_) #[true, false, false, false, false, false, false, false] rfl rfl (any_of HT_.out (by kernel_rfl)) (fun _ _ _ h => h) (Or.inl ⟨by rfl, ?_⟩) ?_ ?_
          rotate_left
          · intro w'
            go_simp
            with_reducible rfl
          rotate_left
          · simp only [Act.put, List.setIfInBounds_toArray, List.set_cons_zero, List.set_cons_succ, i64_w, i32_w]
            rfl
          refine pure_ (i := 1) (N := some 32) (v := ?_) (a' := ?_) #[true, true, false, false, false, false, false, false] rfl rfl (any_of HT_.out (by kernel_rfl)) (fun _ _ _ h => h) (Or.inl ⟨by rfl, ?_⟩) ?_ ?_
          rotate_left
          · intro w'
            go_simp
            with_reducible rfl
          rotate_left
          · simp only [Act.put, List.setIfInBounds_toArray, List.set_cons_zero, List.set_cons_succ, i64_w, i32_w]
            rfl
          refine pure_ (i := 2) (N := some 33) (v := ?_) (a' := ?_) #[true, true, true, false, false, false, false, false] rfl rfl (any_of HT_.out (by kernel_rfl)) (fun _ _ _ h => h) (Or.inl ⟨by rfl, ?_⟩) ?_ ?_
          rotate_left
          · intro w'
            go_simp
            with_reducible rfl
          rotate_left
          · simp only [Act.put, List.setIfInBounds_toArray, List.set_cons_zero, List.set_cons_succ, i64_w, i32_w]
            rfl
          refine take_ (i := 3) (N := some 34) (v := ?_) (a' := ?_) #[true, true, true, true, false, false, false, false] rfl rfl (take_ofW HT_.out HW_.out (by kernel_rfl)) (fun _ _ _ h => h) (Or.inl ⟨by rfl, ?_⟩) hHeld ?_ ?_
          rotate_left
          · rintro w' ⟨s0, s1, s2, s3⟩
            go_simp
            with_reducible rfl
          rotate_left
          · simp only [Act.put, List.setIfInBounds_toArray, List.set_cons_zero, List.set_cons_succ, i64_w, i32_w]
            rfl
          refine pure_ (i := 4) (N := some 35) (v := ?_) (a' := ?_) #[true, true, true, true, true, false, false, false] rfl rfl (any_of HT_.out (by kernel_rfl)) (fun _ _ _ h => h) (Or.inl ⟨by rfl, ?_⟩) ?_ ?_
          rotate_left
          · intro w'
            go_simp
            with_reducible rfl
          rotate_left
          · simp only [Act.put, List.setIfInBounds_toArray, List.set_cons_zero, List.set_cons_succ, i64_w, i32_w]
            rfl
          refine take_ (i := 5) (N := some 36) (v := ?_) (a' := ?_) #[true, true, true, true, true, true, false, false] rfl rfl (take_ofW HT_.out HW_.out (by kernel_rfl)) (fun _ _ _ h => h) (Or.inl ⟨by rfl, ?_⟩) hHeld ?_ ?_
          rotate_left
          · rintro w' ⟨s0, s1, s2, s3⟩
            go_simp
            with_reducible rfl
          rotate_left
          · simp only [Act.put, List.setIfInBounds_toArray, List.set_cons_zero, List.set_cons_succ, i64_w, i32_w]
            rfl
          refine one_ (i := 6) (N := some 37) #[true, true, true, true, true, true, true, false] rfl rfl (one_of HT_.out (by kernel_rfl)) (by decide) (fun K hK => ?_)
          refine goes_ Try.func21 (by kernel_rfl) rfl #[.agg #[.int .u64 t105, .slice Ao16 t106.length co16, .int .u32 t109]] (by rfl) rfl rfl (by (try simp only [List.map_toArray, List.map_cons, List.map_nil]); first | done | rfl | (simp only [List.length_drop, List.length_take]; rfl)) ?_
          with_reducible refine (scullerref12_Chunks.calls t105 _ _ t106 t109 t117 _ ?side1 ?side2 A21.out).mono ?_
          (case side1 => repeat (first | exact (Kd.R_reads' HO_112001.out).2.2 | (with_reducible refine Kd.C_alloc ?_ _) | (with_reducible refine Kd.C_drewN ?_ _) | (with_reducible refine Kd.C_drew ?_)))
          (case side2 => exact (Kd.R_reads' HO_112001.out).2.1)
          rintro e w25 ⟨rfl, hb⟩
          refine ⟨_, rfl, ?_⟩
          have n0_ := Aside0.mk (Kd.R_below (by (with_reducible repeat (first | apply Kd.R_alloc | apply Kd.R_drewN | apply Kd.R_drew)); exact HO_11.out) hb)
          have n1_ := Aside0.mk (Kd.R_below (by (with_reducible repeat (first | apply Kd.R_alloc | apply Kd.R_drewN | apply Kd.R_drew)); exact HO_112001.out) hb)
          have n2_ := Aside0.mk (blk_below (g := gb101) (o := .cells #[.int .u64 0, .slice none 0 0, .int .u32 0, .slice none 0 0] 29 (0, 0)) (by (with_reducible repeat (first | refine blk_drewN ?_ _ | refine blk_drew ?_ | refine blk_alloc ?_ _)); exact BK101.out) hb)
          have n3_ := Aside0.mk (blk_below (g := gb111) (o := .cells #[.int .u64 t105, .slice Ao16 t106.length co16, .int .u32 t109] 26 (0, 0)) (by (with_reducible repeat (first | refine blk_drewN ?_ _ | refine blk_drew ?_ | refine blk_alloc ?_ _)); exact BK111.out) hb)
          have n4_ := Aside0.mk (below_step (by repeat (first | (with_reducible first | exact HB.out | apply below_alloc | apply pw_below_drewN | apply below_drew1 | refine below_set ?_ GE101.out | refine below_set ?_ GE111.out) | exact HB.out)) hb)
          clear HO_11
          clear HO_112001
          clear BK101
          clear BK111
          clear HB
          have HO_11 := n0_
          have HO_112001 := n1_
          have BK101 := n2_
          have BK111 := n3_
          have HB := n4_
          clear n0_ n1_ n2_ n3_ n4_
          (try clear hb)
          (try clear hb2)
          (try clear hk)
          (try clear hi)
          refine hK.out _ _ ⟨(blk_cell BK111.out 0).trans rfl, (blk_cell BK111.out 1).trans rfl, (blk_cell BK111.out 2).trans rfl, ((HB.out.cell (World.block_lt_of_cell? w _ hw116_0)).trans hw116_0)⟩ (fun hHeld => ?_)
          clear hK K
          refine norm_ (a' := ?_) ?_ ?_
          rotate_left
          · show Act.put _ (some 37) _ = _
            simp only [Act.put, List.setIfInBounds_toArray, List.set_cons_zero, List.set_cons_succ, i64_w, i32_w]
            rfl
          refine pure_ (i := 7) (N := some 38) (v := ?_) (a' := ?_) #[true, true, true, true, true, true, true, true] rfl rfl (any_of HT_.out (by kernel_rfl)) (fun _ _ _ h => h) (Or.inl ⟨by rfl, ?_⟩) ?_ ?_
          rotate_left
          · intro w'
            go_simp
            with_reducible rfl
          rotate_left
          · simp only [Act.put, List.setIfInBounds_toArray, List.set_cons_zero, List.set_cons_succ, i64_w, i32_w]
            rfl
          refine done_ (done_of HT_.out (by kernel_rfl)) ?_
          have p118 : 0 ≤ (x12_1 : Int) := of_decide_eq_true (by first | (with_reducible assumption) | assumption)
          have q118 : x12_1 < (l1.length : Int) := of_decide_eq_true (by first | (with_reducible assumption) | assumption)
          obtain ⟨ad118, e118, hx118_0⟩ := Kd.at_int HR1.out x12_1 p118 q118
          obtain rfl : ad116 = ad118 := (by injection e118)
          replace hx118_0 := (HB.out.cell (World.block_lt_of_cell? w _ hx118_0)).trans hx118_0
          replace p118 := eq_true p118
          replace q118 := eq_true q118
          obtain ⟨Ao26, co26, eo26⟩ := Kd.R_slice HO_11.out
          subst eo26
          try go_wp2_with (first | ((with_reducible refine gate_callee (f := 23) rfl ?_); refine goesL_ (some 45) rfl rfl Try.func23 (by kernel_rfl) rfl #[.slice Ao26 x11_1.length co26, .int .i64 (wrap64 (rd l1 x12_1))] rfl (by (try simp only [List.map_toArray, List.map_cons, List.map_nil]); first | done | rfl | (simp only [List.length_drop, List.length_take]; rfl)) ?_; (with_reducible refine (scullerref03_Set_c.calls _ _ x11_1 (wrap64 (rd l1 x12_1)) t119 _ ?side1 ?side2 A23.out).mono ?_); (case side1 => repeat (first | exact (Kd.R_reads' HO_11.out).2.2 | (with_reducible refine Kd.C_alloc ?_ _) | (with_reducible refine Kd.C_drewN ?_ _) | (with_reducible refine Kd.C_drew ?_))); (case side2 => exact (Kd.R_reads' HO_11.out).2.1); rintro e w27 ⟨v120, rfl, ho0, hb⟩; refine ⟨_, rfl, ?_⟩; have n0_ := Aside0.mk (Kd.R_elder' (by (with_reducible repeat (first | apply Kd.R_alloc | apply Kd.R_drewN | apply Kd.R_drew)); exact HO_11.out) (Kd.R_base ho0) hb); have n1_ := Aside0.mk (Kd.R_below (by (with_reducible repeat (first | apply Kd.R_alloc | apply Kd.R_drewN | apply Kd.R_drew)); exact HO_112001.out) hb); have n2_ := Aside0.mk (Kd.R_lower (Kd.R_new' ho0 (Kd.R_lt (by (with_reducible repeat (first | apply Kd.R_alloc | apply Kd.R_drewN | apply Kd.R_drew)); exact HO_11.out))) (below_size (by repeat (first | (with_reducible first | exact HB.out | apply below_alloc | apply pw_below_drewN | apply below_drew1 | refine below_set ?_ GE101.out | refine below_set ?_ GE111.out) | exact HB.out)))); have n3_ := Aside0.mk (blk_below (g := gb101) (o := .cells #[.int .u64 0, .slice none 0 0, .int .u32 0, .slice none 0 0] 29 (0, 0)) (by (with_reducible repeat (first | refine blk_drewN ?_ _ | refine blk_drew ?_ | refine blk_alloc ?_ _)); exact BK101.out) hb); have n4_ := Aside0.mk (blk_below (g := gb111) (o := .cells #[.int .u64 t105, .slice Ao16 t106.length co16, .int .u32 t109] 26 (0, 0)) (by (with_reducible repeat (first | refine blk_drewN ?_ _ | refine blk_drew ?_ | refine blk_alloc ?_ _)); exact BK111.out) hb); have n5_ := Aside0.mk (below_step (by repeat (first | (with_reducible first | exact HB.out | apply below_alloc | apply pw_below_drewN | apply below_drew1 | refine below_set ?_ GE101.out | refine below_set ?_ GE111.out) | exact HB.out)) hb); clear HO_11; clear HO_112001; clear BK101; clear BK111; clear HB; have HO_11 := n0_; have HO_112001 := n1_; have HO121 := n2_; have BK101 := n3_; have BK111 := n4_; have HB := n5_; clear n0_ n1_ n2_ n3_ n4_ n5_; (try clear hb); (try clear hb2); (try clear hk); (try clear hi); (try clear ho0)))
          go_roundg k1
          case measure => have := HK1.out; omega
          case rel => exact ⟨(t119), (wrap64 (x12_1 + 1)), (by first | rfl | (simp; done) | (simp [*]; done)), H', ⟨by have := HK1.out; omega⟩, ⟨by (with_reducible repeat (first | apply Kd.R_alloc | apply Kd.R_drewN | apply Kd.R_drew)); exact Kd.R_mono HO121.out (fun _ hk => trivial)⟩, ⟨by (with_reducible repeat (first | apply Kd.R_alloc | apply Kd.R_drewN | apply Kd.R_drew)); exact HO_112001.out⟩, ⟨by (with_reducible repeat (first | refine blk_drewN ?_ _ | refine blk_drew ?_ | refine blk_alloc ?_ _)); exact BK101.out⟩, ⟨by (with_reducible repeat (first | refine blk_drewN ?_ _ | refine blk_drew ?_ | refine blk_alloc ?_ _)); exact BK111.out⟩, ⟨by repeat (first | (with_reducible first | exact HB.out | apply below_alloc | apply pw_below_drewN | apply below_drew1 | refine below_set ?_ GE101.out | refine below_set ?_ GE111.out) | exact HB.out)⟩⟩
        · rw [if_neg c22] at H
          have c22b0 : decide ((wrap64 (rd l1 x12_1)) < t117) = false := decide_eq_false c22
          clear c22
          have H' := Aside0.mk H
          clear H
          try go_wp2
          have n0_ := Aside0.mk (Kd.R_drew HO_11.out)
          have n1_ := Aside0.mk (Kd.R_drew HO_112001.out)
          have n2_ := Aside0.mk (blk_drew BK101.out)
          have n3_ := Aside0.mk (blk_drew BK111.out)
          have n4_ := Aside0.mk (below_drew1 HB.out)
          clear HO_11
          clear HO_112001
          clear BK101
          clear BK111
          clear HB
          have HO_11 := n0_
          have HO_112001 := n1_
          have BK101 := n2_
          have BK111 := n3_
          have HB := n4_
          clear n0_ n1_ n2_ n3_ n4_
          have p116 : 0 ≤ (x12_1 : Int) := of_decide_eq_true (by first | (with_reducible assumption) | assumption)
          have q116 : x12_1 < (l1.length : Int) := of_decide_eq_true (by first | (with_reducible assumption) | assumption)
          obtain ⟨ad116, e116, hx116_0⟩ := Kd.at_int HR1.out x12_1 p116 q116
          have hw116_0 := hx116_0
          cases e116
          replace hx116_0 := (HB.out.cell (World.block_lt_of_cell? w _ hx116_0)).trans hx116_0
          replace p116 := eq_true p116
          replace q116 := eq_true q116
          refine start_ (n := 8) (S := fun w' => w'.cell? ⟨gb111, 0, none⟩ = some (.int .u64 t105) ∧ w'.cell? ⟨gb111, 1, none⟩ = some (.slice Ao16 t106.length co16) ∧ w'.cell? ⟨gb111, 2, none⟩ = some (.int .u32 t109) ∧ w'.cell? (ad116.add (x12_1).toNat) = some (.int .u8 (rd l1 x12_1))) (ds := []) #[false, false, false, false, false, false, false, false] (by kernel_rfl) rfl rfl ⟨(blk_cell BK111.out 0).trans rfl, (blk_cell BK111.out 1).trans rfl, (blk_cell BK111.out 2).trans rfl, ((HB.out.cell (World.block_lt_of_cell? w _ hw116_0)).trans hw116_0)⟩ (fun hHeld => ?_); refine with_tabW scullerlaw14_Token.tab6 scullerlaw14_Token.bits6 (fun HT_ HW_ => ?_)
          generalize wr.drew = w28 at HO_11 HO_112001 BK101 BK111 HB hx116_0 hHeld ⊢
          refine pure_ (i := 0) (N := some 31) (v := ?_) (a' := ?_) #[true, false, false, false, false, false, false, false] rfl rfl (any_of HT_.out (by kernel_rfl)) (fun _ _ _ h => h) (Or.inl ⟨by rfl, ?_⟩) ?_ ?_
          rotate_left
          · intro w'
            go_simp
            with_reducible rfl
          rotate_left
          · simp only [Act.put, List.setIfInBounds_toArray, List.set_cons_zero, List.set_cons_succ, i64_w, i32_w]
            rfl
          refine pure_ (i := 1) (N := some 32) (v := ?_) (a' := ?_) #[true, true, false, false, false, false, false, false] rfl rfl (any_of HT_.out (by kernel_rfl)) (fun _ _ _ h => h) (Or.inl ⟨by rfl, ?_⟩) ?_ ?_
          rotate_left
          · intro w'
            go_simp
            with_reducible rfl
          rotate_left
          · simp only [Act.put, List.setIfInBounds_toArray, List.set_cons_zero, List.set_cons_succ, i64_w, i32_w]
            rfl
          refine pure_ (i := 2) (N := some 33) (v := ?_) (a' := ?_) #[true, true, true, false, false, false, false, false] rfl rfl (any_of HT_.out (by kernel_rfl)) (fun _ _ _ h => h) (Or.inl ⟨by rfl, ?_⟩) ?_ ?_
          rotate_left
          · intro w'
            go_simp
            with_reducible rfl
          rotate_left
          · simp only [Act.put, List.setIfInBounds_toArray, List.set_cons_zero, List.set_cons_succ, i64_w, i32_w]
            rfl
          refine take_ (i := 3) (N := some 34) (v := ?_) (a' := ?_) #[true, true, true, true, false, false, false, false] rfl rfl (take_ofW HT_.out HW_.out (by kernel_rfl)) (fun _ _ _ h => h) (Or.inl ⟨by rfl, ?_⟩) hHeld ?_ ?_
          rotate_left
          · rintro w' ⟨s0, s1, s2, s3⟩
            go_simp
            with_reducible rfl
          rotate_left
          · simp only [Act.put, List.setIfInBounds_toArray, List.set_cons_zero, List.set_cons_succ, i64_w, i32_w]
            rfl
          refine pure_ (i := 4) (N := some 35) (v := ?_) (a' := ?_) #[true, true, true, true, true, false, false, false] rfl rfl (any_of HT_.out (by kernel_rfl)) (fun _ _ _ h => h) (Or.inl ⟨by rfl, ?_⟩) ?_ ?_
          rotate_left
          · intro w'
            go_simp
            with_reducible rfl
          rotate_left
          · simp only [Act.put, List.setIfInBounds_toArray, List.set_cons_zero, List.set_cons_succ, i64_w, i32_w]
            rfl
          refine take_ (i := 5) (N := some 36) (v := ?_) (a' := ?_) #[true, true, true, true, true, true, false, false] rfl rfl (take_ofW HT_.out HW_.out (by kernel_rfl)) (fun _ _ _ h => h) (Or.inl ⟨by rfl, ?_⟩) hHeld ?_ ?_
          rotate_left
          · rintro w' ⟨s0, s1, s2, s3⟩
            go_simp
            with_reducible rfl
          rotate_left
          · simp only [Act.put, List.setIfInBounds_toArray, List.set_cons_zero, List.set_cons_succ, i64_w, i32_w]
            rfl
          refine one_ (i := 6) (N := some 37) #[true, true, true, true, true, true, true, false] rfl rfl (one_of HT_.out (by kernel_rfl)) (by decide) (fun K hK => ?_)
          refine goes_ Try.func21 (by kernel_rfl) rfl #[.agg #[.int .u64 t105, .slice Ao16 t106.length co16, .int .u32 t109]] (by rfl) rfl rfl (by (try simp only [List.map_toArray, List.map_cons, List.map_nil]); first | done | rfl | (simp only [List.length_drop, List.length_take]; rfl)) ?_
          with_reducible refine (scullerref12_Chunks.calls t105 _ _ t106 t109 t117 _ ?side1 ?side2 A21.out).mono ?_
          (case side1 => repeat (first | exact (Kd.R_reads' HO_112001.out).2.2 | (with_reducible refine Kd.C_alloc ?_ _) | (with_reducible refine Kd.C_drewN ?_ _) | (with_reducible refine Kd.C_drew ?_)))
          (case side2 => exact (Kd.R_reads' HO_112001.out).2.1)
          rintro e w29 ⟨rfl, hb⟩
          refine ⟨_, rfl, ?_⟩
          have n0_ := Aside0.mk (Kd.R_below (by (with_reducible repeat (first | apply Kd.R_alloc | apply Kd.R_drewN | apply Kd.R_drew)); exact HO_11.out) hb)
          have n1_ := Aside0.mk (Kd.R_below (by (with_reducible repeat (first | apply Kd.R_alloc | apply Kd.R_drewN | apply Kd.R_drew)); exact HO_112001.out) hb)
          have n2_ := Aside0.mk (blk_below (g := gb101) (o := .cells #[.int .u64 0, .slice none 0 0, .int .u32 0, .slice none 0 0] 29 (0, 0)) (by (with_reducible repeat (first | refine blk_drewN ?_ _ | refine blk_drew ?_ | refine blk_alloc ?_ _)); exact BK101.out) hb)
          have n3_ := Aside0.mk (blk_below (g := gb111) (o := .cells #[.int .u64 t105, .slice Ao16 t106.length co16, .int .u32 t109] 26 (0, 0)) (by (with_reducible repeat (first | refine blk_drewN ?_ _ | refine blk_drew ?_ | refine blk_alloc ?_ _)); exact BK111.out) hb)
          have n4_ := Aside0.mk (below_step (by repeat (first | (with_reducible first | exact HB.out | apply below_alloc | apply pw_below_drewN | apply below_drew1 | refine below_set ?_ GE101.out | refine below_set ?_ GE111.out) | exact HB.out)) hb)
          clear HO_11
          clear HO_112001
          clear BK101
          clear BK111
          clear HB
          have HO_11 := n0_
          have HO_112001 := n1_
          have BK101 := n2_
          have BK111 := n3_
          have HB := n4_
          clear n0_ n1_ n2_ n3_ n4_
          (try clear hb)
          (try clear hb2)
          (try clear hk)
          (try clear hi)
          refine hK.out _ _ ⟨(blk_cell BK111.out 0).trans rfl, (blk_cell BK111.out 1).trans rfl, (blk_cell BK111.out 2).trans rfl, ((HB.out.cell (World.block_lt_of_cell? w _ hw116_0)).trans hw116_0)⟩ (fun hHeld => ?_)
          clear hK K
          refine norm_ (a' := ?_) ?_ ?_
          rotate_left
          · show Act.put _ (some 37) _ = _
            simp only [Act.put, List.setIfInBounds_toArray, List.set_cons_zero, List.set_cons_succ, i64_w, i32_w]
            rfl
          refine pure_ (i := 7) (N := some 38) (v := ?_) (a' := ?_) #[true, true, true, true, true, true, true, true] rfl rfl (any_of HT_.out (by kernel_rfl)) (fun _ _ _ h => h) (Or.inl ⟨by rfl, ?_⟩) ?_ ?_
          rotate_left
          · intro w'
            go_simp
            with_reducible rfl
          rotate_left
          · simp only [Act.put, List.setIfInBounds_toArray, List.set_cons_zero, List.set_cons_succ, i64_w, i32_w]
            rfl
          refine done_ (done_of HT_.out (by kernel_rfl)) ?_
          try go_wp2
          go_roundg k1
          case measure => have := HK1.out; omega
          case rel => exact ⟨(x11_1), (wrap64 (x12_1 + 1)), (by first | rfl | (simp; done) | (simp [*]; done)), H', ⟨by have := HK1.out; omega⟩, ⟨by (with_reducible repeat (first | apply Kd.R_alloc | apply Kd.R_drewN | apply Kd.R_drew)); exact HO_11.out⟩, ⟨by (with_reducible repeat (first | apply Kd.R_alloc | apply Kd.R_drewN | apply Kd.R_drew)); exact HO_112001.out⟩, ⟨by (with_reducible repeat (first | refine blk_drewN ?_ _ | refine blk_drew ?_ | refine blk_alloc ?_ _)); exact BK101.out⟩, ⟨by (with_reducible repeat (first | refine blk_drewN ?_ _ | refine blk_drew ?_ | refine blk_alloc ?_ _)); exact BK111.out⟩, ⟨by repeat (first | (with_reducible first | exact HB.out | apply below_alloc | apply pw_below_drewN | apply below_drew1 | refine below_set ?_ GE101.out | refine below_set ?_ GE111.out) | exact HB.out)⟩⟩
      · rw [if_neg c20] at H
        exact absurd H (by simp)
    · rw [if_neg c19] at H
      have c19b0 : decide (x12_1 < (l1.length : Int)) = false := decide_eq_false c19
      clear c19
      simp only [Option.some.injEq, Prod.mk.injEq] at H
      obtain ⟨rfl, rfl, rfl, rfl⟩ := H
      have hnb30 := NB111_101.out
      have hnc30 := NB101_111.out
      have hcz31_0 : wr.cell? ⟨gb111, 0, none⟩ = some (.int .u64 t105) := (blk_cell BK111.out 0).trans rfl
      have hcz31_1 : wr.cell? ⟨gb111, 1, none⟩ = some (.slice Ao16 t106.length co16) := (blk_cell BK111.out 1).trans rfl
      have hcz31_2 : wr.cell? ⟨gb111, 2, none⟩ = some (.int .u32 t109) := (blk_cell BK111.out 2).trans rfl
      have hfz31_0 := blk_frozen BK111.out 0
      have hfz31_1 := blk_frozen BK111.out 1
      have hfz31_2 := blk_frozen BK111.out 2
      obtain ⟨Ao32, co32, eo32⟩ := Kd.R_slice HO_11.out
      subst eo32
      have hcz33_0 : wr.cell? ⟨gb101, 0, none⟩ = some (.int .u64 0) := (blk_cell BK101.out 0).trans rfl
      have hcz33_1 : wr.cell? ⟨gb101, 1, none⟩ = some (.slice none 0 0) := (blk_cell BK101.out 1).trans rfl
      have hcz33_2 : wr.cell? ⟨gb101, 2, none⟩ = some (.int .u32 0) := (blk_cell BK101.out 2).trans rfl
      have hcz33_3 : wr.cell? ⟨gb101, 3, none⟩ = some (.slice none 0 0) := (blk_cell BK101.out 3).trans rfl
      have hfz33_0 := blk_frozen BK101.out 0
      have hfz33_1 := blk_frozen BK101.out 1
      have hfz33_2 := blk_frozen BK101.out 2
      have hfz33_3 := blk_frozen BK101.out 3
      go_wp2
      refine bodyPost_ret (results_cell_row rfl _ _ gb101 29 #[.int .u64 t105, .slice Ao16 t106.length co16, .int .u32 t109, .slice Ao32 x11_1.length co32] (0, 0) _ rfl (by (with_reducible repeat (first | refine blk_drewN ?_ _ | refine blk_drew ?_ | refine blk_alloc ?_ _)); refine blk_put (cs := #[.int .u64 t105, .slice Ao16 t106.length co16, .int .u32 t109, .slice none 0 0]) ?_ 3 _ rfl; (with_reducible repeat (first | refine blk_drewN ?_ _ | refine blk_drew ?_ | refine blk_alloc ?_ _)); refine blk_put (cs := #[.int .u64 t105, .slice Ao16 t106.length co16, .int .u32 0, .slice none 0 0]) ?_ 2 _ rfl; (with_reducible repeat (first | refine blk_drewN ?_ _ | refine blk_drew ?_ | refine blk_alloc ?_ _)); refine blk_put (cs := #[.int .u64 t105, .slice none 0 0, .int .u32 0, .slice none 0 0]) ?_ 1 _ rfl; (with_reducible repeat (first | refine blk_drewN ?_ _ | refine blk_drew ?_ | refine blk_alloc ?_ _)); refine blk_put (cs := #[.int .u64 0, .slice none 0 0, .int .u32 0, .slice none 0 0]) ?_ 0 _ rfl; (with_reducible repeat (first | refine blk_drewN ?_ _ | refine blk_drew ?_ | refine blk_alloc ?_ _)); exact BK101.out) Try.underlying29 rfl (by kernel_rfl)) rfl ?_
      exact ⟨_, _, by first | rfl | (simp [errW_none, errW_some] <;> rfl) | (simp [*, errW_none, errW_some] <;> rfl), by (with_reducible repeat (first | apply Kd.R_alloc | apply Kd.R_drewN | apply Kd.R_drew)); exact Kd.R_mono (Kd.R_far (p := ⟨gb101, 3, none⟩) (Kd.R_far (p := ⟨gb101, 2, none⟩) (Kd.R_far (p := ⟨gb101, 1, none⟩) (Kd.R_far (p := ⟨gb101, 0, none⟩) (Kd.R_types HO_112001.out BK101.out (by decide)) (fun _ hk => hk.2) (.int .u64 t105)) (fun _ hk => hk.2) (.slice Ao16 t106.length co16)) (fun _ hk => hk.2) (.int .u32 t109)) (fun _ hk => hk.2) (.slice Ao32 x11_1.length co32)) (fun _ hk => trivial), by (with_reducible repeat (first | apply Kd.R_alloc | apply Kd.R_drewN | apply Kd.R_drew)); exact Kd.R_mono (Kd.R_far (p := ⟨gb101, 3, none⟩) (Kd.R_far (p := ⟨gb101, 2, none⟩) (Kd.R_far (p := ⟨gb101, 1, none⟩) (Kd.R_far (p := ⟨gb101, 0, none⟩) (Kd.R_types HO_11.out BK101.out (by decide)) (fun _ hk => hk.2) (.int .u64 t105)) (fun _ hk => hk.2) (.slice Ao16 t106.length co16)) (fun _ hk => hk.2) (.int .u32 t109)) (fun _ hk => hk.2) (.slice Ao32 x11_1.length co32)) (fun _ hk => trivial), by repeat (first | (with_reducible first | exact HB.out | apply below_alloc | apply pw_below_drewN | apply below_drew1 | refine below_set ?_ GE101.out | refine below_set ?_ GE111.out) | exact HB.out)⟩

end Go.Proofs.Ytbijnfhcbanhdaa.F
end

section
namespace Go.Proofs.Ytbijnfhcbanhdaa.F
open Go.RowKit Go.Proofs.YtbijnfhcbanhdaaW.PrintWords Go.Proofs.YtbijnfhcbanhdaaW.PrintLast Go.Proofs.YtbijnfhcbanhdaaW.PrintMore
attribute [local go_sem] max2_int min2_int max_two min_two max_three min_three max_four min_four   -- for this text's walks alone
set_option linter.unusedVariables false
set_option linter.unusedSimpArgs false

open Go.Proofs.Ytbijnfhcbanhdaa.H
def scullerlaw14_Token_c.f (a0 : Int) (l1 : List Int) (a2 a3 : Int) : Option (Int × List Int × Int × List Int) := if u64B a0 = true ∧ bytesB l1 = true ∧ l1.length ≤ 140737488351232 ∧ 0 ≤ a2 ∧ a2 ≤ 255 ∧ 0 ≤ a3 ∧ a3 ≤ 255 then some (tokenC a0 l1 a2 a3) else none
theorem chunks12_is (a : Int) (l : List Int) (b : Int) : scullerref12_Chunks.f a l b = some ((wordsM l + 7) / 8) := by
 have h := wordsM_range l
 rw [scullerref12_Chunks.f, scullerref12_Words_c.f, Option.bind_some, show wrap64 (wordsM l + 7) = wordsM l + 7 from by unfold wrap64; omega, Int.tdiv_eq_ediv_of_nonneg (by omega)]
 congr 1
 unfold wrap64
 omega
theorem make03_is (n : Int) (h0 : 0 ≤ n) (h1 : n ≤ 65536) : scullerref03_Make.f n = some (zerosB n) := by
 have hmn : mx 0 (mn n 65536) = n := by unfold mx mn; split <;> split <;> omega
 rw [scullerref03_Make.f, hmn, scullerref01_Ceil_c.f, ceilL, if_pos ⟨by omega, by omega, by omega, by omega⟩, Option.bind_some, show n + 8 - 1 = n + 7 from by omega, if_pos (by omega), if_pos (by omega)]
 rfl
theorem scullerlaw14_Token.l0_to (s sum : Int) (sizes c : List Int) (hc : bytesB c = true) (hl : c.length ≤ 140737488351232) : ∀ (d i : Nat) (x : List Int), c.length - i = d → i ≤ c.length → bytesB x = true → x.length ≤ 1000000 →
 ∃ k, scullerlaw14_Token.l0 k c x (i : Int) s sizes sum = some (s, sizes, sum, (c.drop i).foldl (fun k x => if x < (wordsM sizes + 7) / 8 then setB k x else k) x)
 | 0, i, x, hd, hi, hx, hxl => ⟨1, by
   rw [scullerlaw14_Token.l0, if_neg (by omega), List.drop_of_length_le (by omega)]
   rfl⟩
 | d + 1, i, x, hd, hi, hx, hxl => by
   have hlt : i < c.length := by omega
   have hci := bytesB_at hc _ (List.getElem_mem hlt)
   have er : rd c (i : Int) = c[i] := getD_toNat c 0 i hlt
   have ew : wrap64 c[i] = c[i] := by unfold wrap64; omega
   rw [drop_at c i hlt, List.foldl_cons]
   by_cases hb : c[i] < (wordsM sizes + 7) / 8
   · obtain ⟨k, hk⟩ := scullerlaw14_Token.l0_to s sum sizes c hc hl d (i + 1) (setB x c[i]) (by omega) (by omega) (setB_byte hx _) (by rw [setB_length]; exact hxl)
     refine ⟨k + 1, ?_⟩
     rw [if_pos hb, scullerlaw14_Token.l0, if_pos (by omega), if_pos (by omega), chunks12_is, Option.bind_some, er, ew, if_pos hb, scullerref03_Set_c.f, if_pos ⟨hx, by omega, by omega⟩, Option.bind_some, show wrap64 ((i : Int) + 1) = ((i + 1 : Nat) : Int) from by unfold wrap64; omega]
     exact hk
   · obtain ⟨k, hk⟩ := scullerlaw14_Token.l0_to s sum sizes c hc hl d (i + 1) x (by omega) (by omega) hx hxl
     refine ⟨k + 1, ?_⟩
     rw [if_neg hb, scullerlaw14_Token.l0, if_pos (by omega), if_pos (by omega), chunks12_is, Option.bind_some, er, ew, if_neg hb, show wrap64 ((i : Int) + 1) = ((i + 1 : Nat) : Int) from by unfold wrap64; omega]
     exact hk
theorem scullerlaw14_Token_c.to {a0 : Int} {l1 : List Int} {a2 a3 : Int} {r : Int × List Int × Int × List Int} (h : scullerlaw14_Token_c.f a0 l1 a2 a3 = some r) : ∃ k, scullerlaw14_Token.f k a0 l1 a2 a3 = some r := by
 unfold scullerlaw14_Token_c.f at h
 split at h
 case isFalse => cases h
 case isTrue hb =>
 obtain rfl := Option.some.inj h
 obtain ⟨hs, hb, hl, h2, h3, h4, h5⟩ := hb
 have hfit : rightB (arena12L l1 a2 a3) = true := arena12L_fits l1 h2 h4
 have hok := arena12L_ok hb h2 h3 h4
 have hcr := chunksL_range (arena12L l1 a2 a3)
 obtain ⟨k, hk⟩ := scullerlaw14_Token.l0_to a0 (sumA a0 (arena12L l1 a2 a3)) (sizesL (arena12L l1 a2 a3)) l1 hb hl l1.length 0 (zerosB (chunksL (arena12L l1 a2 a3))) (by omega) (by omega) (zerosB_byte _) (by unfold zerosB; rw [List.length_replicate]; omega)
 refine ⟨k, ?_⟩
 rw [scullerlaw14_Token.f, scullerlaw12_Arena_c.f, if_pos ⟨hb, hl, h2, h3, h4, h5⟩, Option.bind_some, scullerref12_Of_c.f, if_pos ⟨hs, hok⟩, Option.bind_some, ofL, if_pos hfit]
 dsimp only
 rw [chunks12_is, Option.bind_some, show (wordsM (sizesL (arena12L l1 a2 a3)) + 7) / 8 = chunksL (arena12L l1 a2 a3) from rfl, make03_is _ hcr.1 (by omega), Option.bind_some]
 rw [List.drop_zero] at hk
 exact hk

theorem scullerlaw14_Token_c.calls (a0 : Int) (A1 : Option Addr) (c1 : Nat) (l1 : List Int) (a2 : Int) (a3 : Int) (r1 : Int) (r2 : List Int) (r3 : Int) (r4 : List Int) (w : World) (hr1 : Kd.C (Kd.int .u8) w A1 l1.length l1) (hc1 : l1.length ≤ c1) (h : scullerlaw14_Token_c.f a0 l1 a2 a3 = some (r1, r2, r3, r4)) :
 Calls Try.prog 12 #[.int .u64 a0, .slice A1 l1.length c1, .int .u8 a2, .int .u8 a3] w fun e w' => ∃ v1_ v3_ : Value, e = .returned (.agg #[.int .u64 r1, v1_, .int .u32 r3, v3_]) ∧ Kd.R (Kd.int .i64) 3 w' w.heap.size (fun _ => True) v1_ r2 ∧ Kd.R (Kd.int .u8) 5 w' w.heap.size (fun _ => True) v3_ r4 ∧ Below w.heap.size w w' := by
 obtain ⟨k_, hk_⟩ := scullerlaw14_Token_c.to h
 exact scullerlaw14_Token.calls k_ a0 A1 c1 l1 a2 a3 r1 r2 r3 r4 w hr1 hc1 hk_

end Go.Proofs.Ytbijnfhcbanhdaa.F
end

section
/- Numbers in the bounds of their kinds. -/
namespace Go.Proofs.Ytbijnfhcbanhdaa.Pure
open Go.RowKit Go.Proofs.Ytbijnfhcbanhdaa.H
theorem byte_wf {x : Int} (h : (Lit.int .u8 x).wf = true) : 0 ≤ x ∧ x ≤ 255 := by
 simp [Lit.wf, IntKind.min, IntKind.max, IntKind.signed, IntKind.bits] at h
 omega
theorem bytes_wf {l : List Int} (h : ∀ x ∈ l, (Lit.int .u8 x).wf = true) : bytesB l = true := bytesB_of fun x hx => byte_wf (h x hx)
end Go.Proofs.Ytbijnfhcbanhdaa.Pure
end

section
/- What a token's bytes are read back as. -/
namespace Go.Proofs.Ytbijnfhcbanhdaa.Pure
set_option linter.unusedVariables false
open Go.RowKit Go.Proofs.Ytbijnfhcbanhdaa.F Go.Proofs.Ytbijnfhcbanhdaa.H Go.Proofs.YtbijnfhcbanhdaaW.PrintWords Go.Proofs.YtbijnfhcbanhdaaW.PrintLast Go.Proofs.YtbijnfhcbanhdaaW.PrintMore
theorem tokenB_length (s : Int) (sizes : List Int) (sum : Int) (known : List Int) : (tokenB s sizes sum known).length = 13 + 2 * sizes.length + known.length := by
 unfold tokenB
 rw [List.length_append, tokenH_length, List.take_length]
theorem tokenB_byte (s : Int) (sizes : List Int) (sum : Int) (known : List Int) (h : bytesB known = true) : bytesB (tokenB s sizes sum known) = true := by
 unfold tokenB
 rw [bytesB_append, tokenH_byte, h]
 rfl
theorem rightT_fits {sizes known : List Int} (h : rightT sizes known = true) : fitsB sizes = true := by
 unfold rightT at h
 rw [Bool.and_eq_true] at h
 exact h.1
/-- The statements' token: what it is. -/
structure TokOk (s : Int) (sizes : List Int) (sum : Int) (known : List Int) : Prop where
 u : u64B s = true
 m : 0 ≤ sum ∧ sum < 4294967296
 r : rightT sizes known = true
 k : bytesB known = true
 l : known.length ≤ 64
theorem TokOk.fits {s : Int} {sizes : List Int} {sum : Int} {known : List Int} (h : TokOk s sizes sum known) : fitsB sizes = true := rightT_fits h.r
theorem TokOk.enc {s : Int} {sizes : List Int} {sum : Int} {known : List Int} (h : TokOk s sizes sum known) : token_Encode_c.f s sizes sum known = some (sealL (tokenB s sizes sum known), 0) := by
 rw [token_Encode_c.f, if_pos ⟨h.k, by have := h.l; omega, h.m.1, h.m.2⟩, encodeL, if_pos h.r]
theorem TokOk.len {s : Int} {sizes : List Int} {sum : Int} {known : List Int} (h : TokOk s sizes sum known) : (known.length : Int) = ((wordsM sizes + 7) / 8 + 7) / 8 := by
 have h2 := h.r
 unfold rightT at h2
 rw [Bool.and_eq_true] at h2
 exact rightBits_length h2.2
theorem TokOk.size {s : Int} {sizes : List Int} {sum : Int} {known : List Int} (h : TokOk s sizes sum known) : (sealL (tokenB s sizes sum known)).length = 17 + 2 * sizes.length + known.length := by
 rw [sealL_length, tokenB_length]; omega
theorem TokOk.byte {s : Int} {sizes : List Int} {sum : Int} {known : List Int} (h : TokOk s sizes sum known) : bytesB (sealL (tokenB s sizes sum known)) = true := sealL_byte _ (tokenB_byte s sizes sum known h.k)
theorem tokenC_ok {s : Int} (hs : u64B s = true) {c : List Int} (hc : bytesB c = true) {n m : Int} (hn : 0 ≤ n) (hm : 0 ≤ m) : TokOk (tokenC s c n m).1 (tokenC s c n m).2.1 (tokenC s c n m).2.2.1 (tokenC s c n m).2.2.2 := by
 have hk := knownL_right hc (chunksL_range (arena12L c n m)).1
 have hr := chunksL_range (arena12L c n m)
 refine ⟨hs, moreL_range 0 _ (by omega) (by rw [bytesB_append, ofBytes_byte, bytesB_of (bytesL_byte _)]; rfl), tokenC_right hc hn hm, hk.1, ?_⟩
 have := rightBits_length hk.2
 show (knownL c (chunksL (arena12L c n m))).length ≤ 64
 omega
theorem token_is {s : Int} (hs : u64B s = true) {c : List Int} (hc : bytesB c = true) (hl : c.length ≤ 140737488351232) {n m : Int} (hn : 0 ≤ n) (hn1 : n ≤ 255) (hm : 0 ≤ m) (hm1 : m ≤ 255) :
 scullerlaw14_Token_c.f s c n m = some (tokenC s c n m) := if_pos ⟨hs, hc, hl, hn, hn1, hm, hm1⟩
theorem u64_wf {x : Int} (h : (Lit.int .u64 x).wf = true) : u64B x = true := by
 simp [Lit.wf, IntKind.min, IntKind.max, IntKind.signed, IntKind.bits] at h
 exact u64B_mk (by omega) (by omega)
end Go.Proofs.Ytbijnfhcbanhdaa.Pure
end

section
namespace Go.Proofs.Ytbijnfhcbanhdaa.F
open Go.RowKit Go.Proofs.YtbijnfhcbanhdaaW.PrintWords Go.Proofs.YtbijnfhcbanhdaaW.PrintLast Go.Proofs.YtbijnfhcbanhdaaW.PrintMore
attribute [local go_sem] max2_int min2_int max_two min_two max_three min_three max_four min_four   -- for this text's walks alone
set_option linter.unusedVariables false
set_option linter.unusedSimpArgs false

open Go.Proofs.Ytbijnfhcbanhdaa.H Go.Proofs.Ytbijnfhcbanhdaa.Pure
/-! ### scullerlaw14_TokenBits: given -/
def scullerlaw14_TokenBits.f (a0 : Int) (l1 : List Int) (a2 a3 a4 : Int) : Option Bool :=
 if u64B a0 = true ∧ bytesB l1 = true ∧ l1.length ≤ 140737488351232 ∧ (0 ≤ a2 ∧ a2 ≤ 255) ∧ (0 ≤ a3 ∧ a3 ≤ 255) ∧ (0 ≤ a4 ∧ a4 ≤ 255) then some true else none
theorem wrong_bits {sizes k : List Int} (h : (k.length : Int) ≠ ((wordsM sizes + 7) / 8 + 7) / 8) : rightT sizes k = false := by
 unfold rightT rightBits
 rw [decide_eq_false h, Bool.false_and, Bool.and_false]
theorem set_wrong {l : List Int} (hb : bytesB l = true) {n : Int} (h0 : 0 ≤ n) (h8 : n % 8 ≠ 0) (h : rightBits l n = true) : rightBits (setB l n) n = false := by
 simp only [rightBits, Bool.and_eq_true, Bool.or_eq_true, decide_eq_true_eq] at h
 obtain ⟨hl, hz⟩ := h
 have hz2 := hz.resolve_left h8
 have e8 : n.toNat / 8 = l.length - 1 := by omega
 have em : n.toNat % 8 = (n % 8).toNat := by omega
 obtain ⟨b, hb8, e⟩ := getD_byte hb (l.length - 1)
 rw [e] at hz2
 obtain ⟨m, hm⟩ : ∃ m, (n % 8).toNat = m := ⟨_, rfl⟩
 rw [hm] at hz2 em
 have hzn : b / 2 ^ m = 0 := by
  have e3 : (b : Int) / 2 ^ m = ((b / 2 ^ m : Nat) : Int) := by simp
  rw [e3] at hz2
  omega
 have hget : getB l n.toNat = false := by
  unfold getB
  rw [e8, em, e]
  refine decide_eq_false ?_
  rw [getB_nat, hzn]
  decide
 have hset : setB l n = l.set (l.length - 1) (((b + 2 ^ m : Nat) : Nat) : Int) := by
  unfold setB
  rw [if_pos ⟨h0, by omega, hget⟩, e8, em, e]
  congr 1
 have hpos : 0 < 2 ^ m := Nat.pow_pos (by decide)
 have hne : ¬ (((b + 2 ^ m : Nat) : Nat) : Int) / 2 ^ m = 0 := by
  have e4 : (((b + 2 ^ m : Nat) : Nat) : Int) / 2 ^ m = (((b + 2 ^ m) / 2 ^ m : Nat) : Int) := by simp
  rw [e4, Nat.add_div_right b hpos, hzn]
  decide
 unfold rightBits
 rw [hset, List.length_set, hm, List.getD_eq_getElem?_getD, List.getElem?_set_self (by omega), Option.getD_some, decide_eq_false h8, decide_eq_false hne]
 simp
theorem set_wrongT {sizes k : List Int} (hb : bytesB k = true) (h8 : ((wordsM sizes + 7) / 8) % 8 ≠ 0) (h : rightT sizes k = true) : rightT sizes (setB k ((wordsM sizes + 7) / 8)) = false := by
 have hr := wordsM_range sizes
 unfold rightT at h ⊢
 rw [Bool.and_eq_true] at h
 rw [set_wrong hb (by omega) h8 h.2, Bool.and_false]
theorem enc_wrong {s : Int} {sum : Int} (hm : 0 ≤ sum ∧ sum < 4294967296) {sizes k : List Int} (hk : bytesB k = true) (hl : k.length ≤ 1000000) (h : rightT sizes k = false) : token_Encode_c.f s sizes sum k = some ([], 1) := by
 rw [token_Encode_c.f, if_pos ⟨hk, hl, hm.1, hm.2⟩, encodeL, if_neg (by rw [h]; decide)]
theorem token_Encode_cut (a0_0 : Int) (A0_1 : Option Addr) (c0_1 : Nat) (l0_1 : List Int) (a0_2 : Int) (A0_3 : Option Addr) (c0_3 m : Nat) (l0_3 : List Int) (r1 : List Int) (r2 : Int) (w : World) (hr0_1 : Kd.C (Kd.int .i64) w A0_1 l0_1.length l0_1) (hc0_1 : l0_1.length ≤ c0_1) (hr0_3 : Kd.C (Kd.int .u8) w A0_3 m l0_3) (hl : l0_3.length = m) (hc0_3 : m ≤ c0_3) (h : token_Encode_c.f a0_0 l0_1 a0_2 l0_3 = some (r1, r2)) :
 Calls Try.prog 19 #[.agg #[.int .u64 a0_0, .slice A0_1 l0_1.length c0_1, .int .u32 a0_2, .slice A0_3 m c0_3]] w fun e w' => ∃ v0_ : Value, e = .returned (.tuple #[v0_, .int .u16 r2]) ∧ Kd.R (Kd.int .u8) 5 w' w.heap.size (fun _ => True) v0_ r1 ∧ Below w.heap.size w w' := by
 subst hl
 exact token_Encode_c.calls a0_0 A0_1 c0_1 l0_1 a0_2 A0_3 c0_3 l0_3 r1 r2 w hr0_1 hc0_1 hr0_3 hc0_3 h
theorem token_Right_cut (a0_0 : Int) (A0_1 : Option Addr) (c0_1 : Nat) (l0_1 : List Int) (a0_2 : Int) (A0_3 : Option Addr) (c0_3 m : Nat) (l0_3 : List Int) (r : Bool) (w : World) (hr0_1 : Kd.C (Kd.int .i64) w A0_1 l0_1.length l0_1) (hc0_1 : l0_1.length ≤ c0_1) (hr0_3 : Kd.C (Kd.int .u8) w A0_3 m l0_3) (hl : l0_3.length = m) (hc0_3 : m ≤ c0_3) (h : token_Right.f a0_0 l0_1 a0_2 l0_3 = some r) :
 Calls Try.prog 24 #[.agg #[.int .u64 a0_0, .slice A0_1 l0_1.length c0_1, .int .u32 a0_2, .slice A0_3 m c0_3]] w fun e w' => e = .returned (.bool r) ∧ Below w.heap.size w w' := by
 subst hl
 exact token_Right.calls a0_0 A0_1 c0_1 l0_1 a0_2 A0_3 c0_3 l0_3 r w hr0_1 hc0_1 hr0_3 hc0_3 h
set_option maxHeartbeats 8000000 in
set_option maxRecDepth 100000 in
theorem TokenBits_0 (a0 : Int) (A1 : Option Addr) (c1 : Nat) (l1 : List Int) (a2 a3 a4 : Int) (w : World) (HR1 : Aside0 (Kd.C (Kd.int .u8) w A1 l1.length l1)) (HC1 : Aside0 (l1.length ≤ c1)) (s : Int) (sizes : List Int) (sum : Int) (known : List Int) (HT : Aside0 (scullerlaw14_Token_c.f a0 l1 a2 a3 = some (s, sizes, sum, known)))
 (hm : 0 ≤ sum ∧ sum < 4294967296) (hright : rightT sizes known = true) (hkb : bytesB known = true) (hkl : (known.length : Int) = ((wordsM sizes + 7) / 8 + 7) / 8) (hk1 : 1 ≤ known.length) (hk64 : known.length ≤ 64) (h4 : 0 ≤ a4 ∧ a4 ≤ 255) (hw : a4 % 3 = 0) :
 Calls Try.prog 5 #[.int .u64 a0, .slice A1 l1.length c1, .int .u8 a2, .int .u8 a3, .int .u8 a4] w fun e w' => e = .returned (.bool true) ∧ Below w.heap.size w w' := by
 have huT := Try.underlying29
 have huM := Try.underlying26
 have hwr := wordsM_range sizes
 have HCH := Aside0.mk (chunks12_is s sizes sum)
 have q0 : (a4 % 3 == 0) = true := by rw [hw]; decide
 have q1 : (a4 % 3 == 1) = false := by rw [hw]; decide
 have q2 : (a4 % 3 == 2) = false := by rw [hw]; decide
 clear hw
 obtain ⟨n, hn⟩ : ∃ n, (wordsM sizes + 7) / 8 = n := ⟨_, rfl⟩
 rw [hn] at HCH hkl
 have hn1 : 0 ≤ n ∧ n ≤ 512 := by omega
 have HN := Aside0.mk hn
 have HRT := Aside0.mk (show token_Right.f s sizes sum known = some true by rw [token_Right.is _ _ _ _ hkb, hright])
 obtain ⟨kk, hkk⟩ : ∃ kk, zerosB (8 * (known.length : Int) + 8) = kk := ⟨_, rfl⟩
 have HMK := Aside0.mk (show scullerref03_Make.f (8 * (known.length : Int) + 8) = some kk by rw [make03_is _ (by omega) (by omega), hkk])
 have hub : bytesB kk = true := by rw [← hkk]; exact zerosB_byte _
 have hul0 : (kk.length : Int) = known.length + 1 := by rw [← hkk]; unfold zerosB; rw [List.length_replicate]; omega
 have hul : kk.length ≤ 1000000 := by omega
 have hwrong : rightT sizes kk = false := wrong_bits (by rw [hn]; omega)
 have HRU := Aside0.mk (show token_Right.f s sizes sum kk = some false by rw [token_Right.is _ _ _ _ hub, hwrong])
 have HEU := Aside0.mk (show token_Encode_c.f s sizes sum kk = some ([], 1) from enc_wrong hm hub hul hwrong)
 have HKL := Aside0.mk hkl
 have HK1 := Aside0.mk hk1
 have HK64 := Aside0.mk hk64
 clear hn hright hkb hkl hwr hm hkk hub hul0 hul hwrong
 go_enter Try.func5, Try.ntmps5
 go_upto_region 2 with (first
  | (go_at_call 12; refine (scullerlaw14_Token_c.calls a0 A1 c1 l1 a2 a3 s sizes sum known _ HR1.out HC1.out HT.out).mono ?_; rintro e w1 ⟨v5, v6, rfl, h5, h6, hb⟩; obtain ⟨A2, c3, e_⟩ := Kd.R_slice h5; subst e_; obtain ⟨A4, c5, e_⟩ := Kd.R_slice h6; subst e_; have sz_ := (Nat.le_refl w.heap.size); have B6 := Aside0.mk hb; have R7 := Aside0.mk (Kd.R_lower (Kd.R_mono (ok' := fun _ => True) h5 (fun _ _ => trivial)) sz_); clear h5; have R8 := Aside0.mk (Kd.R_lower (Kd.R_mono (ok' := fun _ => True) h6 (fun _ _ => trivial)) sz_); clear h6; clear hb sz_)
  | ((with_reducible refine gate_dst (N := 11) rfl ?_); (try (refine gate_guard (by rfl) ?_; dsimp only)); refine box_event ?hg (N := 11) ?hd (cs := #[.int .u64 0, .slice none 0 0, .int .u32 0, .slice none 0 0]) (t := 29) ?hr ?_; (case hd => rfl); (case hg => rfl); (case hr => first | (go_simp; done) | (go_simp; rfl)); intro g9 hg w10 hbox hb; have G11 := Aside0.mk (show w.heap.size ≤ g9 by rw [hg]; exact B6.out.size); have R12 := Aside0.mk (Kd.R_below R7.out hb); have R13 := Aside0.mk (Kd.R_below R8.out hb); have B14 := Aside0.mk (below_then B6.out B6.out.size hb); clear R7 R8 B6; have K15 := Aside0.mk hbox; clear hb hbox hg; have zg9_0 : w10.cell? ⟨g9, 0, none⟩ = _ := (blk_cell K15.out 0).trans rfl; have zfg9_0 := blk_frozen K15.out 0; have zg9_1 : w10.cell? ⟨g9, 1, none⟩ = _ := (blk_cell K15.out 1).trans rfl; have zfg9_1 := blk_frozen K15.out 1; have zg9_2 : w10.cell? ⟨g9, 2, none⟩ = _ := (blk_cell K15.out 2).trans rfl; have zfg9_2 := blk_frozen K15.out 2; have zg9_3 : w10.cell? ⟨g9, 3, none⟩ = _ := (blk_cell K15.out 3).trans rfl; have zfg9_3 := blk_frozen K15.out 3))
 have h16 := Kd.R_set R12.out K15.out (by decide) 0 (.int .u64 s)
 have h17 := Kd.R_set R13.out K15.out (by decide) 0 (.int .u64 s)
 have h18 := below_set (g := g9) (j := 0) (v := (.int .u64 s)) B14.out G11.out
 have h19 := blk_put (cs := #[.int .u64 0, .slice none 0 0, .int .u32 0, .slice none 0 0]) K15.out 0 (.int .u64 s) rfl
 have h20 := Kd.R_set h16 h19 (by decide) 1 (.slice A2 sizes.length c3)
 have h21 := Kd.R_set h17 h19 (by decide) 1 (.slice A2 sizes.length c3)
 have h22 := below_set (g := g9) (j := 1) (v := (.slice A2 sizes.length c3)) h18 G11.out
 have h23 := blk_put (cs := #[.int .u64 s, .slice none 0 0, .int .u32 0, .slice none 0 0]) h19 1 (.slice A2 sizes.length c3) rfl
 have h24 := Kd.R_set h20 h23 (by decide) 2 (.int .u32 sum)
 have h25 := Kd.R_set h21 h23 (by decide) 2 (.int .u32 sum)
 have h26 := below_set (g := g9) (j := 2) (v := (.int .u32 sum)) h22 G11.out
 have h27 := blk_put (cs := #[.int .u64 s, .slice A2 sizes.length c3, .int .u32 0, .slice none 0 0]) h23 2 (.int .u32 sum) rfl
 have h28 := Kd.R_set h24 h27 (by decide) 3 (.slice A4 known.length c5)
 have h29 := Kd.R_set h25 h27 (by decide) 3 (.slice A4 known.length c5)
 have h30 := below_set (g := g9) (j := 3) (v := (.slice A4 known.length c5)) h26 G11.out
 have h31 := blk_put (cs := #[.int .u64 s, .slice A2 sizes.length c3, .int .u32 sum, .slice none 0 0]) h27 3 (.slice A4 known.length c5) rfl
 generalize (World.setCell (World.setCell (World.setCell (World.setCell w10 ⟨g9, 0, none⟩ (.int .u64 s)) ⟨g9, 1, none⟩ (.slice A2 sizes.length c3)) ⟨g9, 2, none⟩ (.int .u32 sum)) ⟨g9, 3, none⟩ (.slice A4 known.length c5)) = w32 at h31 h30 h28 h29 ⊢
 have K33 := Aside0.mk h31
 have B34 := Aside0.mk h30
 have R35 := Aside0.mk h28
 have R36 := Aside0.mk h29
 clear h16 h17 h18 h19 h20 h21 h22 h23 h24 h25 h26 h27 h28 h29 h30 h31
 clear K15 B14 R12 R13
 clear zg9_0 zfg9_0 zg9_1 zfg9_1 zg9_2 zfg9_2 zg9_3 zfg9_3
 have y0 : w32.cell? ⟨g9, 0, none⟩ = some (.int .u64 s) := (blk_cell K33.out 0).trans rfl
 have y1 : w32.cell? ⟨g9, 1, none⟩ = some (.slice A2 sizes.length c3) := (blk_cell K33.out 1).trans rfl
 have y2 : w32.cell? ⟨g9, 2, none⟩ = some (.int .u32 sum) := (blk_cell K33.out 2).trans rfl
 have y3 : w32.cell? ⟨g9, 3, none⟩ = some (.slice A4 known.length c5) := (blk_cell K33.out 3).trans rfl
 go_upto_region 3 with (first
  | ((with_reducible refine gate_dst (N := 12) rfl ?_); (try (refine gate_guard (by rfl) ?_; dsimp only)); refine box_event ?hg (N := 12) ?hd (cs := #[.int .u64 0, .slice none 0 0, .int .u32 0, .slice none 0 0]) (t := 29) ?hr ?_; (case hd => rfl); (case hg => rfl); (case hr => first | (go_simp; done) | (go_simp; rfl)); intro g37 hg w38 hbox hb; have G39 := Aside0.mk (show w.heap.size ≤ g37 by rw [hg]; exact B34.out.size); have N40 := Aside0.mk (show g9 ≠ g37 by have h_ := blk_lt K33.out; omega); have R41 := Aside0.mk (Kd.R_below R35.out hb); have R42 := Aside0.mk (Kd.R_below R36.out hb); have K43 := Aside0.mk (blk_below K33.out hb); have B44 := Aside0.mk (below_then B34.out B34.out.size hb); clear R35 R36 K33 B34; have K45 := Aside0.mk hbox; clear hb hbox hg; have zg37_0 : w38.cell? ⟨g37, 0, none⟩ = _ := (blk_cell K45.out 0).trans rfl; have zfg37_0 := blk_frozen K45.out 0; have zg37_1 : w38.cell? ⟨g37, 1, none⟩ = _ := (blk_cell K45.out 1).trans rfl; have zfg37_1 := blk_frozen K45.out 1; have zg37_2 : w38.cell? ⟨g37, 2, none⟩ = _ := (blk_cell K45.out 2).trans rfl; have zfg37_2 := blk_frozen K45.out 2; have zg37_3 : w38.cell? ⟨g37, 3, none⟩ = _ := (blk_cell K45.out 3).trans rfl; have zfg37_3 := blk_frozen K45.out 3; clear y0 y1 y2 y3; have y0 : w38.cell? ⟨g9, 0, none⟩ = some (.int .u64 s) := (blk_cell K43.out 0).trans rfl; have y1 : w38.cell? ⟨g9, 1, none⟩ = some (.slice A2 sizes.length c3) := (blk_cell K43.out 1).trans rfl; have y2 : w38.cell? ⟨g9, 2, none⟩ = some (.int .u32 sum) := (blk_cell K43.out 2).trans rfl; have y3 : w38.cell? ⟨g9, 3, none⟩ = some (.slice A4 known.length c5) := (blk_cell K43.out 3).trans rfl))
 have h46 := Kd.R_set R41.out K45.out (by decide) 0 (.int .u64 s)
 have h47 := Kd.R_set R42.out K45.out (by decide) 0 (.int .u64 s)
 have h48 := blk_far (p := ⟨g37, 0, none⟩) K43.out N40.out (.int .u64 s)
 have h49 := below_set (g := g37) (j := 0) (v := (.int .u64 s)) B44.out G39.out
 have h50 := blk_put (cs := #[.int .u64 0, .slice none 0 0, .int .u32 0, .slice none 0 0]) K45.out 0 (.int .u64 s) rfl
 have h51 := Kd.R_set h46 h50 (by decide) 1 (.slice A2 sizes.length c3)
 have h52 := Kd.R_set h47 h50 (by decide) 1 (.slice A2 sizes.length c3)
 have h53 := blk_far (p := ⟨g37, 1, none⟩) h48 N40.out (.slice A2 sizes.length c3)
 have h54 := below_set (g := g37) (j := 1) (v := (.slice A2 sizes.length c3)) h49 G39.out
 have h55 := blk_put (cs := #[.int .u64 s, .slice none 0 0, .int .u32 0, .slice none 0 0]) h50 1 (.slice A2 sizes.length c3) rfl
 have h56 := Kd.R_set h51 h55 (by decide) 2 (.int .u32 sum)
 have h57 := Kd.R_set h52 h55 (by decide) 2 (.int .u32 sum)
 have h58 := blk_far (p := ⟨g37, 2, none⟩) h53 N40.out (.int .u32 sum)
 have h59 := below_set (g := g37) (j := 2) (v := (.int .u32 sum)) h54 G39.out
 have h60 := blk_put (cs := #[.int .u64 s, .slice A2 sizes.length c3, .int .u32 0, .slice none 0 0]) h55 2 (.int .u32 sum) rfl
 have h61 := Kd.R_set h56 h60 (by decide) 3 (.slice A4 known.length c5)
 have h62 := Kd.R_set h57 h60 (by decide) 3 (.slice A4 known.length c5)
 have h63 := blk_far (p := ⟨g37, 3, none⟩) h58 N40.out (.slice A4 known.length c5)
 have h64 := below_set (g := g37) (j := 3) (v := (.slice A4 known.length c5)) h59 G39.out
 have h65 := blk_put (cs := #[.int .u64 s, .slice A2 sizes.length c3, .int .u32 sum, .slice none 0 0]) h60 3 (.slice A4 known.length c5) rfl
 generalize (World.setCell (World.setCell (World.setCell (World.setCell w38 ⟨g37, 0, none⟩ (.int .u64 s)) ⟨g37, 1, none⟩ (.slice A2 sizes.length c3)) ⟨g37, 2, none⟩ (.int .u32 sum)) ⟨g37, 3, none⟩ (.slice A4 known.length c5)) = w66 at h65 h64 h61 h62 h63 ⊢
 have K67 := Aside0.mk h65
 have B68 := Aside0.mk h64
 have R69 := Aside0.mk h61
 have R70 := Aside0.mk h62
 have K71 := Aside0.mk h63
 clear h46 h47 h48 h49 h50 h51 h52 h53 h54 h55 h56 h57 h58 h59 h60 h61 h62 h63 h64 h65
 clear K45 B44 R41 R42 K43
 clear zg37_0 zfg37_0 zg37_1 zfg37_1 zg37_2 zfg37_2 zg37_3 zfg37_3
 clear y0 y1 y2 y3
 have y0 : w66.cell? ⟨g9, 0, none⟩ = some (.int .u64 s) := (blk_cell K71.out 0).trans rfl
 have y1 : w66.cell? ⟨g9, 1, none⟩ = some (.slice A2 sizes.length c3) := (blk_cell K71.out 1).trans rfl
 have y2 : w66.cell? ⟨g9, 2, none⟩ = some (.int .u32 sum) := (blk_cell K71.out 2).trans rfl
 have y3 : w66.cell? ⟨g9, 3, none⟩ = some (.slice A4 known.length c5) := (blk_cell K71.out 3).trans rfl
 have x0 : w66.cell? ⟨g37, 0, none⟩ = some (.int .u64 s) := (blk_cell K67.out 0).trans rfl
 have x1 : w66.cell? ⟨g37, 1, none⟩ = some (.slice A2 sizes.length c3) := (blk_cell K67.out 1).trans rfl
 have x2 : w66.cell? ⟨g37, 2, none⟩ = some (.int .u32 sum) := (blk_cell K67.out 2).trans rfl
 have x3 : w66.cell? ⟨g37, 3, none⟩ = some (.slice A4 known.length c5) := (blk_cell K67.out 3).trans rfl
 have xf3 := blk_frozen K67.out 3
 go_upto_region 4 with (first
  | (go_at_call 21; refine (scullerref12_Chunks.calls s A2 c3 sizes sum n _ (Kd.R_reads' R69.out).2.2 (Kd.R_reads' R69.out).2.1 HCH.out).mono ?_; rintro e w72 ⟨rfl, hb⟩; have sz_ := (B68.out.size); have R73 := Aside0.mk (Kd.R_below R69.out hb); have R74 := Aside0.mk (Kd.R_below R70.out hb); have K75 := Aside0.mk (blk_below K71.out hb); have K76 := Aside0.mk (blk_below K67.out hb); have B77 := Aside0.mk (below_then B68.out B68.out.size hb); clear R69 R70 K71 K67 B68; clear hb sz_; clear y0 y1 y2 y3 x0 x1 x2 x3 xf3))
 have y0 : w72.cell? ⟨g9, 0, none⟩ = some (.int .u64 s) := (blk_cell K75.out 0).trans rfl
 have y1 : w72.cell? ⟨g9, 1, none⟩ = some (.slice A2 sizes.length c3) := (blk_cell K75.out 1).trans rfl
 have y2 : w72.cell? ⟨g9, 2, none⟩ = some (.int .u32 sum) := (blk_cell K75.out 2).trans rfl
 have y3 : w72.cell? ⟨g9, 3, none⟩ = some (.slice A4 known.length c5) := (blk_cell K75.out 3).trans rfl
 have x0 : w72.cell? ⟨g37, 0, none⟩ = some (.int .u64 s) := (blk_cell K76.out 0).trans rfl
 have x1 : w72.cell? ⟨g37, 1, none⟩ = some (.slice A2 sizes.length c3) := (blk_cell K76.out 1).trans rfl
 have x2 : w72.cell? ⟨g37, 2, none⟩ = some (.int .u32 sum) := (blk_cell K76.out 2).trans rfl
 have x3 : w72.cell? ⟨g37, 3, none⟩ = some (.slice A4 known.length c5) := (blk_cell K76.out 3).trans rfl
 have xf3 := blk_frozen K76.out 3
 go_upto_region 9 with (fail)
 go_upto_region 12 with (first
  | (go_at_call 22; refine (scullerref03_Make.calls (8 * (known.length : Int) + 8) kk _ HMK.out).mono ?_; rintro e w78 ⟨v5, rfl, h5, hb⟩; obtain ⟨A79, c80, e_⟩ := Kd.R_slice h5; subst e_; have sz_ := (B77.out.size); have R81 := Aside0.mk (Kd.R_below R73.out hb); have R82 := Aside0.mk (Kd.R_below R74.out hb); have K83 := Aside0.mk (blk_below K75.out hb); have K84 := Aside0.mk (blk_below K76.out hb); have B85 := Aside0.mk (below_then B77.out B77.out.size hb); clear R73 R74 K75 K76 B77; have R86 := Aside0.mk (Kd.R_lower (Kd.R_mono (ok' := fun _ => True) h5 (fun _ _ => trivial)) sz_); clear h5; clear hb sz_; clear y0 y1 y2 y3 x0 x1 x2 x3 xf3; have x0 : w78.cell? ⟨g37, 0, none⟩ = some (.int .u64 s) := (blk_cell K84.out 0).trans rfl; have x1 : w78.cell? ⟨g37, 1, none⟩ = some (.slice A2 sizes.length c3) := (blk_cell K84.out 1).trans rfl; have x2 : w78.cell? ⟨g37, 2, none⟩ = some (.int .u32 sum) := (blk_cell K84.out 2).trans rfl; have x3 : w78.cell? ⟨g37, 3, none⟩ = some (.slice A4 known.length c5) := (blk_cell K84.out 3).trans rfl; have xf3 := blk_frozen K84.out 3))
 have h87 := Kd.R_set R81.out K84.out (by decide) 3 (.slice A79 kk.length c80)
 have h88 := Kd.R_set R82.out K84.out (by decide) 3 (.slice A79 kk.length c80)
 have h89 := Kd.R_set R86.out K84.out (by decide) 3 (.slice A79 kk.length c80)
 have h90 := blk_far (p := ⟨g37, 3, none⟩) K83.out N40.out (.slice A79 kk.length c80)
 have h91 := below_set (g := g37) (j := 3) (v := (.slice A79 kk.length c80)) B85.out G39.out
 have h92 := blk_put (cs := #[.int .u64 s, .slice A2 sizes.length c3, .int .u32 sum, .slice A4 known.length c5]) K84.out 3 (.slice A79 kk.length c80) rfl
 generalize (World.setCell w78 ⟨g37, 3, none⟩ (.slice A79 kk.length c80)) = w93 at h92 h91 h87 h88 h89 h90 ⊢
 have K94 := Aside0.mk h92
 have B95 := Aside0.mk h91
 have R96 := Aside0.mk h87
 have R97 := Aside0.mk h88
 have R98 := Aside0.mk h89
 have K99 := Aside0.mk h90
 clear h87 h88 h89 h90 h91 h92
 clear K84 B85 R81 R82 R86 K83
 clear x0 x1 x2 x3 xf3
 have y0 : w93.cell? ⟨g9, 0, none⟩ = some (.int .u64 s) := (blk_cell K99.out 0).trans rfl
 have y1 : w93.cell? ⟨g9, 1, none⟩ = some (.slice A2 sizes.length c3) := (blk_cell K99.out 1).trans rfl
 have y2 : w93.cell? ⟨g9, 2, none⟩ = some (.int .u32 sum) := (blk_cell K99.out 2).trans rfl
 have y3 : w93.cell? ⟨g9, 3, none⟩ = some (.slice A4 known.length c5) := (blk_cell K99.out 3).trans rfl
 have x0 : w93.cell? ⟨g37, 0, none⟩ = some (.int .u64 s) := (blk_cell K94.out 0).trans rfl
 have x1 : w93.cell? ⟨g37, 1, none⟩ = some (.slice A2 sizes.length c3) := (blk_cell K94.out 1).trans rfl
 have x2 : w93.cell? ⟨g37, 2, none⟩ = some (.int .u32 sum) := (blk_cell K94.out 2).trans rfl
 have x3 : w93.cell? ⟨g37, 3, none⟩ = some (.slice A79 kk.length c80) := (blk_cell K94.out 3).trans rfl
 go_wp2_with (first
  | (go_at_call 19; refine (token_Encode_cut s A2 c3 sizes sum A79 c80 kk.length kk [] 1 _ (Kd.R_reads' R96.out).2.2 (Kd.R_reads' R96.out).2.1 (Kd.R_reads' R98.out).2.2 rfl (Kd.R_reads' R98.out).2.1 HEU.out).mono ?_; rintro e w100 ⟨v7, rfl, h7, hb⟩; obtain ⟨A101, n103, c102, e_⟩ : ∃ A_ n_ c_, v7 = Value.slice A_ n_ c_ := (by obtain ⟨A_, c_, e_⟩ := Kd.R_slice h7; exact ⟨A_, _, c_, e_⟩); subst e_; clear h7; have sz_ := (B95.out.size); have R104 := Aside0.mk (Kd.R_below R96.out hb); have R105 := Aside0.mk (Kd.R_below R97.out hb); have R106 := Aside0.mk (Kd.R_below R98.out hb); have K107 := Aside0.mk (blk_below K99.out hb); have K108 := Aside0.mk (blk_below K94.out hb); have B109 := Aside0.mk (below_then B95.out B95.out.size hb); clear R96 R97 R98 K99 K94 B95; clear hb sz_; clear y0 y1 y2 y3 x0 x1 x2 x3; have y0 : w100.cell? ⟨g9, 0, none⟩ = some (.int .u64 s) := (blk_cell K107.out 0).trans rfl; have y1 : w100.cell? ⟨g9, 1, none⟩ = some (.slice A2 sizes.length c3) := (blk_cell K107.out 1).trans rfl; have y2 : w100.cell? ⟨g9, 2, none⟩ = some (.int .u32 sum) := (blk_cell K107.out 2).trans rfl; have y3 : w100.cell? ⟨g9, 3, none⟩ = some (.slice A4 known.length c5) := (blk_cell K107.out 3).trans rfl; have x0 : w100.cell? ⟨g37, 0, none⟩ = some (.int .u64 s) := (blk_cell K108.out 0).trans rfl; have x1 : w100.cell? ⟨g37, 1, none⟩ = some (.slice A2 sizes.length c3) := (blk_cell K108.out 1).trans rfl; have x2 : w100.cell? ⟨g37, 2, none⟩ = some (.int .u32 sum) := (blk_cell K108.out 2).trans rfl; have x3 : w100.cell? ⟨g37, 3, none⟩ = some (.slice A79 kk.length c80) := (blk_cell K108.out 3).trans rfl)
  | (go_at_call 11; refine (scullerlaw14_known_c.calls true _ rfl).mono ?_; rintro e w110 ⟨rfl, hb⟩; have sz_ := (B109.out.size); have R111 := Aside0.mk (Kd.R_below R104.out hb); have R112 := Aside0.mk (Kd.R_below R105.out hb); have R113 := Aside0.mk (Kd.R_below R106.out hb); have K114 := Aside0.mk (blk_below K107.out hb); have K115 := Aside0.mk (blk_below K108.out hb); have B116 := Aside0.mk (below_then B109.out B109.out.size hb); clear R104 R105 R106 K107 K108 B109; clear hb sz_; clear y0 y1 y2 y3 x0 x1 x2 x3; have y0 : w110.cell? ⟨g9, 0, none⟩ = some (.int .u64 s) := (blk_cell K114.out 0).trans rfl; have y1 : w110.cell? ⟨g9, 1, none⟩ = some (.slice A2 sizes.length c3) := (blk_cell K114.out 1).trans rfl; have y2 : w110.cell? ⟨g9, 2, none⟩ = some (.int .u32 sum) := (blk_cell K114.out 2).trans rfl; have y3 : w110.cell? ⟨g9, 3, none⟩ = some (.slice A4 known.length c5) := (blk_cell K114.out 3).trans rfl; have x0 : w110.cell? ⟨g37, 0, none⟩ = some (.int .u64 s) := (blk_cell K115.out 0).trans rfl; have x1 : w110.cell? ⟨g37, 1, none⟩ = some (.slice A2 sizes.length c3) := (blk_cell K115.out 1).trans rfl; have x2 : w110.cell? ⟨g37, 2, none⟩ = some (.int .u32 sum) := (blk_cell K115.out 2).trans rfl; have x3 : w110.cell? ⟨g37, 3, none⟩ = some (.slice A79 kk.length c80) := (blk_cell K115.out 3).trans rfl)
  | (go_at_call 24; refine (token_Right.calls s A2 c3 sizes sum A4 c5 known true _ (Kd.R_reads' R111.out).2.2 (Kd.R_reads' R111.out).2.1 (Kd.R_reads' R112.out).2.2 (Kd.R_reads' R112.out).2.1 HRT.out).mono ?_; rintro e w117 ⟨rfl, hb⟩; have sz_ := (B116.out.size); have R118 := Aside0.mk (Kd.R_below R111.out hb); have R119 := Aside0.mk (Kd.R_below R112.out hb); have R120 := Aside0.mk (Kd.R_below R113.out hb); have K121 := Aside0.mk (blk_below K114.out hb); have K122 := Aside0.mk (blk_below K115.out hb); have B123 := Aside0.mk (below_then B116.out B116.out.size hb); clear R111 R112 R113 K114 K115 B116; clear hb sz_; clear y0 y1 y2 y3 x0 x1 x2 x3; have y0 : w117.cell? ⟨g9, 0, none⟩ = some (.int .u64 s) := (blk_cell K121.out 0).trans rfl; have y1 : w117.cell? ⟨g9, 1, none⟩ = some (.slice A2 sizes.length c3) := (blk_cell K121.out 1).trans rfl; have y2 : w117.cell? ⟨g9, 2, none⟩ = some (.int .u32 sum) := (blk_cell K121.out 2).trans rfl; have y3 : w117.cell? ⟨g9, 3, none⟩ = some (.slice A4 known.length c5) := (blk_cell K121.out 3).trans rfl; have x0 : w117.cell? ⟨g37, 0, none⟩ = some (.int .u64 s) := (blk_cell K122.out 0).trans rfl; have x1 : w117.cell? ⟨g37, 1, none⟩ = some (.slice A2 sizes.length c3) := (blk_cell K122.out 1).trans rfl; have x2 : w117.cell? ⟨g37, 2, none⟩ = some (.int .u32 sum) := (blk_cell K122.out 2).trans rfl; have x3 : w117.cell? ⟨g37, 3, none⟩ = some (.slice A79 kk.length c80) := (blk_cell K122.out 3).trans rfl)
  | (go_at_call 24; refine (token_Right_cut s A2 c3 sizes sum A79 c80 kk.length kk false _ (Kd.R_reads' R118.out).2.2 (Kd.R_reads' R118.out).2.1 (Kd.R_reads' R120.out).2.2 rfl (Kd.R_reads' R120.out).2.1 HRU.out).mono ?_; rintro e w124 ⟨rfl, hb⟩; have sz_ := (B123.out.size); have R125 := Aside0.mk (Kd.R_below R118.out hb); have R126 := Aside0.mk (Kd.R_below R119.out hb); have R127 := Aside0.mk (Kd.R_below R120.out hb); have K128 := Aside0.mk (blk_below K121.out hb); have K129 := Aside0.mk (blk_below K122.out hb); have B130 := Aside0.mk (below_then B123.out B123.out.size hb); clear R118 R119 R120 K121 K122 B123; clear hb sz_))
 go_ret
 exact ⟨by first | rfl | simp, B130.out⟩
set_option maxHeartbeats 8000000 in
set_option maxRecDepth 100000 in
theorem TokenBits_1 (a0 : Int) (A1 : Option Addr) (c1 : Nat) (l1 : List Int) (a2 a3 a4 : Int) (w : World) (HR1 : Aside0 (Kd.C (Kd.int .u8) w A1 l1.length l1)) (HC1 : Aside0 (l1.length ≤ c1)) (s : Int) (sizes : List Int) (sum : Int) (known : List Int) (HT : Aside0 (scullerlaw14_Token_c.f a0 l1 a2 a3 = some (s, sizes, sum, known)))
 (hm : 0 ≤ sum ∧ sum < 4294967296) (hright : rightT sizes known = true) (hkb : bytesB known = true) (hkl : (known.length : Int) = ((wordsM sizes + 7) / 8 + 7) / 8) (hk1 : 1 ≤ known.length) (hk64 : known.length ≤ 64) (h4 : 0 ≤ a4 ∧ a4 ≤ 255) (hw : a4 % 3 = 1) :
 Calls Try.prog 5 #[.int .u64 a0, .slice A1 l1.length c1, .int .u8 a2, .int .u8 a3, .int .u8 a4] w fun e w' => e = .returned (.bool true) ∧ Below w.heap.size w w' := by
 have huT := Try.underlying29
 have huM := Try.underlying26
 have hwr := wordsM_range sizes
 have HCH := Aside0.mk (chunks12_is s sizes sum)
 have q0 : (a4 % 3 == 0) = false := by rw [hw]; decide
 have q1 : (a4 % 3 == 1) = true := by rw [hw]; decide
 have q2 : (a4 % 3 == 2) = false := by rw [hw]; decide
 clear hw
 obtain ⟨n, hn⟩ : ∃ n, (wordsM sizes + 7) / 8 = n := ⟨_, rfl⟩
 rw [hn] at HCH hkl
 have hn1 : 0 ≤ n ∧ n ≤ 512 := by omega
 have HN := Aside0.mk hn
 have HRT := Aside0.mk (show token_Right.f s sizes sum known = some true by rw [token_Right.is _ _ _ _ hkb, hright])
 obtain ⟨m, hmq⟩ : ∃ m, known.length - 1 = m := ⟨_, rfl⟩
 have hub : bytesB (known.take m) = true := bytesB_take hkb m
 have htl : (known.take m).length = m := by rw [List.length_take]; omega
 have hul : (known.take m).length ≤ 1000000 := by omega
 have hwrong : rightT sizes (known.take m) = false := wrong_bits (by rw [hn]; omega)
 have HTL := Aside0.mk htl
 have HML := Aside0.mk (show m ≤ known.length by omega)
 have HMQ := Aside0.mk (show (known.length : Int) = (m : Int) + 1 by omega)
 have HRU := Aside0.mk (show token_Right.f s sizes sum (known.take m) = some false by rw [token_Right.is _ _ _ _ hub, hwrong])
 have HEU := Aside0.mk (show token_Encode_c.f s sizes sum (known.take m) = some ([], 1) from enc_wrong hm hub hul hwrong)
 have HKL := Aside0.mk hkl
 have HK1 := Aside0.mk hk1
 have HK64 := Aside0.mk hk64
 clear hn hright hkb hkl hwr hm hmq hub htl hul hwrong
 go_enter Try.func5, Try.ntmps5
 go_upto_region 2 with (first
  | (go_at_call 12; refine (scullerlaw14_Token_c.calls a0 A1 c1 l1 a2 a3 s sizes sum known _ HR1.out HC1.out HT.out).mono ?_; rintro e w1 ⟨v5, v6, rfl, h5, h6, hb⟩; obtain ⟨A2, c3, e_⟩ := Kd.R_slice h5; subst e_; obtain ⟨A4, c5, e_⟩ := Kd.R_slice h6; subst e_; have sz_ := (Nat.le_refl w.heap.size); have B6 := Aside0.mk hb; have R7 := Aside0.mk (Kd.R_lower (Kd.R_mono (ok' := fun _ => True) h5 (fun _ _ => trivial)) sz_); clear h5; have R8 := Aside0.mk (Kd.R_lower (Kd.R_mono (ok' := fun _ => True) h6 (fun _ _ => trivial)) sz_); clear h6; clear hb sz_)
  | ((with_reducible refine gate_dst (N := 11) rfl ?_); (try (refine gate_guard (by rfl) ?_; dsimp only)); refine box_event ?hg (N := 11) ?hd (cs := #[.int .u64 0, .slice none 0 0, .int .u32 0, .slice none 0 0]) (t := 29) ?hr ?_; (case hd => rfl); (case hg => rfl); (case hr => first | (go_simp; done) | (go_simp; rfl)); intro g9 hg w10 hbox hb; have G11 := Aside0.mk (show w.heap.size ≤ g9 by rw [hg]; exact B6.out.size); have R12 := Aside0.mk (Kd.R_below R7.out hb); have R13 := Aside0.mk (Kd.R_below R8.out hb); have B14 := Aside0.mk (below_then B6.out B6.out.size hb); clear R7 R8 B6; have K15 := Aside0.mk hbox; clear hb hbox hg; have zg9_0 : w10.cell? ⟨g9, 0, none⟩ = _ := (blk_cell K15.out 0).trans rfl; have zfg9_0 := blk_frozen K15.out 0; have zg9_1 : w10.cell? ⟨g9, 1, none⟩ = _ := (blk_cell K15.out 1).trans rfl; have zfg9_1 := blk_frozen K15.out 1; have zg9_2 : w10.cell? ⟨g9, 2, none⟩ = _ := (blk_cell K15.out 2).trans rfl; have zfg9_2 := blk_frozen K15.out 2; have zg9_3 : w10.cell? ⟨g9, 3, none⟩ = _ := (blk_cell K15.out 3).trans rfl; have zfg9_3 := blk_frozen K15.out 3))
 have h16 := Kd.R_set R12.out K15.out (by decide) 0 (.int .u64 s)
 have h17 := Kd.R_set R13.out K15.out (by decide) 0 (.int .u64 s)
 have h18 := below_set (g := g9) (j := 0) (v := (.int .u64 s)) B14.out G11.out
 have h19 := blk_put (cs := #[.int .u64 0, .slice none 0 0, .int .u32 0, .slice none 0 0]) K15.out 0 (.int .u64 s) rfl
 have h20 := Kd.R_set h16 h19 (by decide) 1 (.slice A2 sizes.length c3)
 have h21 := Kd.R_set h17 h19 (by decide) 1 (.slice A2 sizes.length c3)
 have h22 := below_set (g := g9) (j := 1) (v := (.slice A2 sizes.length c3)) h18 G11.out
 have h23 := blk_put (cs := #[.int .u64 s, .slice none 0 0, .int .u32 0, .slice none 0 0]) h19 1 (.slice A2 sizes.length c3) rfl
 have h24 := Kd.R_set h20 h23 (by decide) 2 (.int .u32 sum)
 have h25 := Kd.R_set h21 h23 (by decide) 2 (.int .u32 sum)
 have h26 := below_set (g := g9) (j := 2) (v := (.int .u32 sum)) h22 G11.out
 have h27 := blk_put (cs := #[.int .u64 s, .slice A2 sizes.length c3, .int .u32 0, .slice none 0 0]) h23 2 (.int .u32 sum) rfl
 have h28 := Kd.R_set h24 h27 (by decide) 3 (.slice A4 known.length c5)
 have h29 := Kd.R_set h25 h27 (by decide) 3 (.slice A4 known.length c5)
 have h30 := below_set (g := g9) (j := 3) (v := (.slice A4 known.length c5)) h26 G11.out
 have h31 := blk_put (cs := #[.int .u64 s, .slice A2 sizes.length c3, .int .u32 sum, .slice none 0 0]) h27 3 (.slice A4 known.length c5) rfl
 generalize (World.setCell (World.setCell (World.setCell (World.setCell w10 ⟨g9, 0, none⟩ (.int .u64 s)) ⟨g9, 1, none⟩ (.slice A2 sizes.length c3)) ⟨g9, 2, none⟩ (.int .u32 sum)) ⟨g9, 3, none⟩ (.slice A4 known.length c5)) = w32 at h31 h30 h28 h29 ⊢
 have K33 := Aside0.mk h31
 have B34 := Aside0.mk h30
 have R35 := Aside0.mk h28
 have R36 := Aside0.mk h29
 clear h16 h17 h18 h19 h20 h21 h22 h23 h24 h25 h26 h27 h28 h29 h30 h31
 clear K15 B14 R12 R13
 clear zg9_0 zfg9_0 zg9_1 zfg9_1 zg9_2 zfg9_2 zg9_3 zfg9_3
 have y0 : w32.cell? ⟨g9, 0, none⟩ = some (.int .u64 s) := (blk_cell K33.out 0).trans rfl
 have y1 : w32.cell? ⟨g9, 1, none⟩ = some (.slice A2 sizes.length c3) := (blk_cell K33.out 1).trans rfl
 have y2 : w32.cell? ⟨g9, 2, none⟩ = some (.int .u32 sum) := (blk_cell K33.out 2).trans rfl
 have y3 : w32.cell? ⟨g9, 3, none⟩ = some (.slice A4 known.length c5) := (blk_cell K33.out 3).trans rfl
 go_upto_region 3 with (first
  | ((with_reducible refine gate_dst (N := 12) rfl ?_); (try (refine gate_guard (by rfl) ?_; dsimp only)); refine box_event ?hg (N := 12) ?hd (cs := #[.int .u64 0, .slice none 0 0, .int .u32 0, .slice none 0 0]) (t := 29) ?hr ?_; (case hd => rfl); (case hg => rfl); (case hr => first | (go_simp; done) | (go_simp; rfl)); intro g37 hg w38 hbox hb; have G39 := Aside0.mk (show w.heap.size ≤ g37 by rw [hg]; exact B34.out.size); have N40 := Aside0.mk (show g9 ≠ g37 by have h_ := blk_lt K33.out; omega); have R41 := Aside0.mk (Kd.R_below R35.out hb); have R42 := Aside0.mk (Kd.R_below R36.out hb); have K43 := Aside0.mk (blk_below K33.out hb); have B44 := Aside0.mk (below_then B34.out B34.out.size hb); clear R35 R36 K33 B34; have K45 := Aside0.mk hbox; clear hb hbox hg; have zg37_0 : w38.cell? ⟨g37, 0, none⟩ = _ := (blk_cell K45.out 0).trans rfl; have zfg37_0 := blk_frozen K45.out 0; have zg37_1 : w38.cell? ⟨g37, 1, none⟩ = _ := (blk_cell K45.out 1).trans rfl; have zfg37_1 := blk_frozen K45.out 1; have zg37_2 : w38.cell? ⟨g37, 2, none⟩ = _ := (blk_cell K45.out 2).trans rfl; have zfg37_2 := blk_frozen K45.out 2; have zg37_3 : w38.cell? ⟨g37, 3, none⟩ = _ := (blk_cell K45.out 3).trans rfl; have zfg37_3 := blk_frozen K45.out 3; clear y0 y1 y2 y3; have y0 : w38.cell? ⟨g9, 0, none⟩ = some (.int .u64 s) := (blk_cell K43.out 0).trans rfl; have y1 : w38.cell? ⟨g9, 1, none⟩ = some (.slice A2 sizes.length c3) := (blk_cell K43.out 1).trans rfl; have y2 : w38.cell? ⟨g9, 2, none⟩ = some (.int .u32 sum) := (blk_cell K43.out 2).trans rfl; have y3 : w38.cell? ⟨g9, 3, none⟩ = some (.slice A4 known.length c5) := (blk_cell K43.out 3).trans rfl))
 have h46 := Kd.R_set R41.out K45.out (by decide) 0 (.int .u64 s)
 have h47 := Kd.R_set R42.out K45.out (by decide) 0 (.int .u64 s)
 have h48 := blk_far (p := ⟨g37, 0, none⟩) K43.out N40.out (.int .u64 s)
 have h49 := below_set (g := g37) (j := 0) (v := (.int .u64 s)) B44.out G39.out
 have h50 := blk_put (cs := #[.int .u64 0, .slice none 0 0, .int .u32 0, .slice none 0 0]) K45.out 0 (.int .u64 s) rfl
 have h51 := Kd.R_set h46 h50 (by decide) 1 (.slice A2 sizes.length c3)
 have h52 := Kd.R_set h47 h50 (by decide) 1 (.slice A2 sizes.length c3)
 have h53 := blk_far (p := ⟨g37, 1, none⟩) h48 N40.out (.slice A2 sizes.length c3)
 have h54 := below_set (g := g37) (j := 1) (v := (.slice A2 sizes.length c3)) h49 G39.out
 have h55 := blk_put (cs := #[.int .u64 s, .slice none 0 0, .int .u32 0, .slice none 0 0]) h50 1 (.slice A2 sizes.length c3) rfl
 have h56 := Kd.R_set h51 h55 (by decide) 2 (.int .u32 sum)
 have h57 := Kd.R_set h52 h55 (by decide) 2 (.int .u32 sum)
 have h58 := blk_far (p := ⟨g37, 2, none⟩) h53 N40.out (.int .u32 sum)
 have h59 := below_set (g := g37) (j := 2) (v := (.int .u32 sum)) h54 G39.out
 have h60 := blk_put (cs := #[.int .u64 s, .slice A2 sizes.length c3, .int .u32 0, .slice none 0 0]) h55 2 (.int .u32 sum) rfl
 have h61 := Kd.R_set h56 h60 (by decide) 3 (.slice A4 known.length c5)
 have h62 := Kd.R_set h57 h60 (by decide) 3 (.slice A4 known.length c5)
 have h63 := blk_far (p := ⟨g37, 3, none⟩) h58 N40.out (.slice A4 known.length c5)
 have h64 := below_set (g := g37) (j := 3) (v := (.slice A4 known.length c5)) h59 G39.out
 have h65 := blk_put (cs := #[.int .u64 s, .slice A2 sizes.length c3, .int .u32 sum, .slice none 0 0]) h60 3 (.slice A4 known.length c5) rfl
 generalize (World.setCell (World.setCell (World.setCell (World.setCell w38 ⟨g37, 0, none⟩ (.int .u64 s)) ⟨g37, 1, none⟩ (.slice A2 sizes.length c3)) ⟨g37, 2, none⟩ (.int .u32 sum)) ⟨g37, 3, none⟩ (.slice A4 known.length c5)) = w66 at h65 h64 h61 h62 h63 ⊢
 have K67 := Aside0.mk h65
 have B68 := Aside0.mk h64
 have R69 := Aside0.mk h61
 have R70 := Aside0.mk h62
 have K71 := Aside0.mk h63
 clear h46 h47 h48 h49 h50 h51 h52 h53 h54 h55 h56 h57 h58 h59 h60 h61 h62 h63 h64 h65
 clear K45 B44 R41 R42 K43
 clear zg37_0 zfg37_0 zg37_1 zfg37_1 zg37_2 zfg37_2 zg37_3 zfg37_3
 clear y0 y1 y2 y3
 have y0 : w66.cell? ⟨g9, 0, none⟩ = some (.int .u64 s) := (blk_cell K71.out 0).trans rfl
 have y1 : w66.cell? ⟨g9, 1, none⟩ = some (.slice A2 sizes.length c3) := (blk_cell K71.out 1).trans rfl
 have y2 : w66.cell? ⟨g9, 2, none⟩ = some (.int .u32 sum) := (blk_cell K71.out 2).trans rfl
 have y3 : w66.cell? ⟨g9, 3, none⟩ = some (.slice A4 known.length c5) := (blk_cell K71.out 3).trans rfl
 have x0 : w66.cell? ⟨g37, 0, none⟩ = some (.int .u64 s) := (blk_cell K67.out 0).trans rfl
 have x1 : w66.cell? ⟨g37, 1, none⟩ = some (.slice A2 sizes.length c3) := (blk_cell K67.out 1).trans rfl
 have x2 : w66.cell? ⟨g37, 2, none⟩ = some (.int .u32 sum) := (blk_cell K67.out 2).trans rfl
 have x3 : w66.cell? ⟨g37, 3, none⟩ = some (.slice A4 known.length c5) := (blk_cell K67.out 3).trans rfl
 have xf3 := blk_frozen K67.out 3
 go_upto_region 4 with (first
  | (go_at_call 21; refine (scullerref12_Chunks.calls s A2 c3 sizes sum n _ (Kd.R_reads' R69.out).2.2 (Kd.R_reads' R69.out).2.1 HCH.out).mono ?_; rintro e w72 ⟨rfl, hb⟩; have sz_ := (B68.out.size); have R73 := Aside0.mk (Kd.R_below R69.out hb); have R74 := Aside0.mk (Kd.R_below R70.out hb); have K75 := Aside0.mk (blk_below K71.out hb); have K76 := Aside0.mk (blk_below K67.out hb); have B77 := Aside0.mk (below_then B68.out B68.out.size hb); clear R69 R70 K71 K67 B68; clear hb sz_; clear y0 y1 y2 y3 x0 x1 x2 x3 xf3))
 have y0 : w72.cell? ⟨g9, 0, none⟩ = some (.int .u64 s) := (blk_cell K75.out 0).trans rfl
 have y1 : w72.cell? ⟨g9, 1, none⟩ = some (.slice A2 sizes.length c3) := (blk_cell K75.out 1).trans rfl
 have y2 : w72.cell? ⟨g9, 2, none⟩ = some (.int .u32 sum) := (blk_cell K75.out 2).trans rfl
 have y3 : w72.cell? ⟨g9, 3, none⟩ = some (.slice A4 known.length c5) := (blk_cell K75.out 3).trans rfl
 have x0 : w72.cell? ⟨g37, 0, none⟩ = some (.int .u64 s) := (blk_cell K76.out 0).trans rfl
 have x1 : w72.cell? ⟨g37, 1, none⟩ = some (.slice A2 sizes.length c3) := (blk_cell K76.out 1).trans rfl
 have x2 : w72.cell? ⟨g37, 2, none⟩ = some (.int .u32 sum) := (blk_cell K76.out 2).trans rfl
 have x3 : w72.cell? ⟨g37, 3, none⟩ = some (.slice A4 known.length c5) := (blk_cell K76.out 3).trans rfl
 have xf3 := blk_frozen K76.out 3
 go_upto_region 11 with (fail)
 have hcm : m ≤ c5 := by have h_ := (Kd.R_reads' R74.out).2.1; have := HML.out; omega
 have hmi : (known.length : Int) - 1 = (m : Int) := by have := HMQ.out; omega
 go_upto_region 12 with (fail)
 have HCM := Aside0.mk hcm
 clear hcm hmi
 have h78 := Kd.R_set R73.out K76.out (by decide) 3 (.slice A4 m c5)
 have h79 := Kd.R_set R74.out K76.out (by decide) 3 (.slice A4 m c5)
 have h80 := blk_far (p := ⟨g37, 3, none⟩) K75.out N40.out (.slice A4 m c5)
 have h81 := below_set (g := g37) (j := 3) (v := (.slice A4 m c5)) B77.out G39.out
 have h82 := blk_put (cs := #[.int .u64 s, .slice A2 sizes.length c3, .int .u32 sum, .slice A4 known.length c5]) K76.out 3 (.slice A4 m c5) rfl
 generalize (World.setCell w72 ⟨g37, 3, none⟩ (.slice A4 m c5)) = w83 at h82 h81 h78 h79 h80 ⊢
 have K84 := Aside0.mk h82
 have B85 := Aside0.mk h81
 have R86 := Aside0.mk h78
 have R87 := Aside0.mk h79
 have K88 := Aside0.mk h80
 clear h78 h79 h80 h81 h82
 clear K76 B77 R73 R74 K75
 clear y0 y1 y2 y3 x0 x1 x2 x3 xf3
 have y0 : w83.cell? ⟨g9, 0, none⟩ = some (.int .u64 s) := (blk_cell K88.out 0).trans rfl
 have y1 : w83.cell? ⟨g9, 1, none⟩ = some (.slice A2 sizes.length c3) := (blk_cell K88.out 1).trans rfl
 have y2 : w83.cell? ⟨g9, 2, none⟩ = some (.int .u32 sum) := (blk_cell K88.out 2).trans rfl
 have y3 : w83.cell? ⟨g9, 3, none⟩ = some (.slice A4 known.length c5) := (blk_cell K88.out 3).trans rfl
 have x0 : w83.cell? ⟨g37, 0, none⟩ = some (.int .u64 s) := (blk_cell K84.out 0).trans rfl
 have x1 : w83.cell? ⟨g37, 1, none⟩ = some (.slice A2 sizes.length c3) := (blk_cell K84.out 1).trans rfl
 have x2 : w83.cell? ⟨g37, 2, none⟩ = some (.int .u32 sum) := (blk_cell K84.out 2).trans rfl
 have x3 : w83.cell? ⟨g37, 3, none⟩ = some (.slice A4 m c5) := (blk_cell K84.out 3).trans rfl
 go_wp2_with (first
  | (go_at_call 19; refine (token_Encode_cut s A2 c3 sizes sum A4 c5 m (known.take m) [] 1 _ (Kd.R_reads' R86.out).2.2 (Kd.R_reads' R86.out).2.1 (Kd.C_of_reads (d := (0 : Int)) (h1 := fun _ => rfl) (ReadsInt.take_ (Kd.reads_of_C (d := (0 : Int)) (Kd.R_reads' R87.out).2.2) m HML.out)) HTL.out HCM.out HEU.out).mono ?_; rintro e w89 ⟨v7, rfl, h7, hb⟩; obtain ⟨A90, n92, c91, e_⟩ : ∃ A_ n_ c_, v7 = Value.slice A_ n_ c_ := (by obtain ⟨A_, c_, e_⟩ := Kd.R_slice h7; exact ⟨A_, _, c_, e_⟩); subst e_; clear h7; have sz_ := (B85.out.size); have R93 := Aside0.mk (Kd.R_below R86.out hb); have R94 := Aside0.mk (Kd.R_below R87.out hb); have K95 := Aside0.mk (blk_below K88.out hb); have K96 := Aside0.mk (blk_below K84.out hb); have B97 := Aside0.mk (below_then B85.out B85.out.size hb); clear R86 R87 K88 K84 B85; clear hb sz_; clear y0 y1 y2 y3 x0 x1 x2 x3; have y0 : w89.cell? ⟨g9, 0, none⟩ = some (.int .u64 s) := (blk_cell K95.out 0).trans rfl; have y1 : w89.cell? ⟨g9, 1, none⟩ = some (.slice A2 sizes.length c3) := (blk_cell K95.out 1).trans rfl; have y2 : w89.cell? ⟨g9, 2, none⟩ = some (.int .u32 sum) := (blk_cell K95.out 2).trans rfl; have y3 : w89.cell? ⟨g9, 3, none⟩ = some (.slice A4 known.length c5) := (blk_cell K95.out 3).trans rfl; have x0 : w89.cell? ⟨g37, 0, none⟩ = some (.int .u64 s) := (blk_cell K96.out 0).trans rfl; have x1 : w89.cell? ⟨g37, 1, none⟩ = some (.slice A2 sizes.length c3) := (blk_cell K96.out 1).trans rfl; have x2 : w89.cell? ⟨g37, 2, none⟩ = some (.int .u32 sum) := (blk_cell K96.out 2).trans rfl; have x3 : w89.cell? ⟨g37, 3, none⟩ = some (.slice A4 m c5) := (blk_cell K96.out 3).trans rfl)
  | (go_at_call 11; refine (scullerlaw14_known_c.calls true _ rfl).mono ?_; rintro e w98 ⟨rfl, hb⟩; have sz_ := (B97.out.size); have R99 := Aside0.mk (Kd.R_below R93.out hb); have R100 := Aside0.mk (Kd.R_below R94.out hb); have K101 := Aside0.mk (blk_below K95.out hb); have K102 := Aside0.mk (blk_below K96.out hb); have B103 := Aside0.mk (below_then B97.out B97.out.size hb); clear R93 R94 K95 K96 B97; clear hb sz_; clear y0 y1 y2 y3 x0 x1 x2 x3; have y0 : w98.cell? ⟨g9, 0, none⟩ = some (.int .u64 s) := (blk_cell K101.out 0).trans rfl; have y1 : w98.cell? ⟨g9, 1, none⟩ = some (.slice A2 sizes.length c3) := (blk_cell K101.out 1).trans rfl; have y2 : w98.cell? ⟨g9, 2, none⟩ = some (.int .u32 sum) := (blk_cell K101.out 2).trans rfl; have y3 : w98.cell? ⟨g9, 3, none⟩ = some (.slice A4 known.length c5) := (blk_cell K101.out 3).trans rfl; have x0 : w98.cell? ⟨g37, 0, none⟩ = some (.int .u64 s) := (blk_cell K102.out 0).trans rfl; have x1 : w98.cell? ⟨g37, 1, none⟩ = some (.slice A2 sizes.length c3) := (blk_cell K102.out 1).trans rfl; have x2 : w98.cell? ⟨g37, 2, none⟩ = some (.int .u32 sum) := (blk_cell K102.out 2).trans rfl; have x3 : w98.cell? ⟨g37, 3, none⟩ = some (.slice A4 m c5) := (blk_cell K102.out 3).trans rfl)
  | (go_at_call 24; refine (token_Right.calls s A2 c3 sizes sum A4 c5 known true _ (Kd.R_reads' R99.out).2.2 (Kd.R_reads' R99.out).2.1 (Kd.R_reads' R100.out).2.2 (Kd.R_reads' R100.out).2.1 HRT.out).mono ?_; rintro e w104 ⟨rfl, hb⟩; have sz_ := (B103.out.size); have R105 := Aside0.mk (Kd.R_below R99.out hb); have R106 := Aside0.mk (Kd.R_below R100.out hb); have K107 := Aside0.mk (blk_below K101.out hb); have K108 := Aside0.mk (blk_below K102.out hb); have B109 := Aside0.mk (below_then B103.out B103.out.size hb); clear R99 R100 K101 K102 B103; clear hb sz_; clear y0 y1 y2 y3 x0 x1 x2 x3; have y0 : w104.cell? ⟨g9, 0, none⟩ = some (.int .u64 s) := (blk_cell K107.out 0).trans rfl; have y1 : w104.cell? ⟨g9, 1, none⟩ = some (.slice A2 sizes.length c3) := (blk_cell K107.out 1).trans rfl; have y2 : w104.cell? ⟨g9, 2, none⟩ = some (.int .u32 sum) := (blk_cell K107.out 2).trans rfl; have y3 : w104.cell? ⟨g9, 3, none⟩ = some (.slice A4 known.length c5) := (blk_cell K107.out 3).trans rfl; have x0 : w104.cell? ⟨g37, 0, none⟩ = some (.int .u64 s) := (blk_cell K108.out 0).trans rfl; have x1 : w104.cell? ⟨g37, 1, none⟩ = some (.slice A2 sizes.length c3) := (blk_cell K108.out 1).trans rfl; have x2 : w104.cell? ⟨g37, 2, none⟩ = some (.int .u32 sum) := (blk_cell K108.out 2).trans rfl; have x3 : w104.cell? ⟨g37, 3, none⟩ = some (.slice A4 m c5) := (blk_cell K108.out 3).trans rfl)
  | (go_at_call 24; refine (token_Right_cut s A2 c3 sizes sum A4 c5 m (known.take m) false _ (Kd.R_reads' R105.out).2.2 (Kd.R_reads' R105.out).2.1 (Kd.C_of_reads (d := (0 : Int)) (h1 := fun _ => rfl) (ReadsInt.take_ (Kd.reads_of_C (d := (0 : Int)) (Kd.R_reads' R106.out).2.2) m HML.out)) HTL.out HCM.out HRU.out).mono ?_; rintro e w110 ⟨rfl, hb⟩; have sz_ := (B109.out.size); have R111 := Aside0.mk (Kd.R_below R105.out hb); have R112 := Aside0.mk (Kd.R_below R106.out hb); have K113 := Aside0.mk (blk_below K107.out hb); have K114 := Aside0.mk (blk_below K108.out hb); have B115 := Aside0.mk (below_then B109.out B109.out.size hb); clear R105 R106 K107 K108 B109; clear hb sz_))
 go_ret
 exact ⟨by first | rfl | simp, B115.out⟩
set_option maxHeartbeats 8000000 in
set_option maxRecDepth 100000 in
theorem TokenBits_2 (a0 : Int) (A1 : Option Addr) (c1 : Nat) (l1 : List Int) (a2 a3 a4 : Int) (w : World) (HR1 : Aside0 (Kd.C (Kd.int .u8) w A1 l1.length l1)) (HC1 : Aside0 (l1.length ≤ c1)) (s : Int) (sizes : List Int) (sum : Int) (known : List Int) (HT : Aside0 (scullerlaw14_Token_c.f a0 l1 a2 a3 = some (s, sizes, sum, known)))
 (hm : 0 ≤ sum ∧ sum < 4294967296) (hright : rightT sizes known = true) (hkb : bytesB known = true) (hkl : (known.length : Int) = ((wordsM sizes + 7) / 8 + 7) / 8) (hk1 : 1 ≤ known.length) (hk64 : known.length ≤ 64) (h4 : 0 ≤ a4 ∧ a4 ≤ 255) (hw : a4 % 3 = 2) (h8 : ((wordsM sizes + 7) / 8) % 8 ≠ 0) :
 Calls Try.prog 5 #[.int .u64 a0, .slice A1 l1.length c1, .int .u8 a2, .int .u8 a3, .int .u8 a4] w fun e w' => e = .returned (.bool true) ∧ Below w.heap.size w w' := by
 have huT := Try.underlying29
 have huM := Try.underlying26
 have hwr := wordsM_range sizes
 have HCH := Aside0.mk (chunks12_is s sizes sum)
 have q0 : (a4 % 3 == 0) = false := by rw [hw]; decide
 have q1 : (a4 % 3 == 1) = false := by rw [hw]; decide
 clear hw
 obtain ⟨n, hn⟩ : ∃ n, (wordsM sizes + 7) / 8 = n := ⟨_, rfl⟩
 rw [hn] at HCH hkl h8
 have hn1 : 0 ≤ n ∧ n ≤ 512 := by omega
 have HN := Aside0.mk hn
 have HRT := Aside0.mk (show token_Right.f s sizes sum known = some true by rw [token_Right.is _ _ _ _ hkb, hright])
 obtain ⟨kk, hkk⟩ : ∃ kk, setB known n = kk := ⟨_, rfl⟩
 have HSET := Aside0.mk (show scullerref03_Set_c.f known n = some kk by rw [scullerref03_Set_c.f, if_pos ⟨hkb, by omega, by omega⟩, hkk])
 have hub : bytesB kk = true := by rw [← hkk]; exact setB_byte hkb _
 have hul : kk.length ≤ 1000000 := by rw [← hkk, setB_length]; omega
 have hwrong : rightT sizes kk = false := by rw [← hkk, ← hn]; exact set_wrongT hkb (by rw [hn]; exact h8) hright
 have HRU := Aside0.mk (show token_Right.f s sizes sum kk = some false by rw [token_Right.is _ _ _ _ hub, hwrong])
 have HEU := Aside0.mk (show token_Encode_c.f s sizes sum kk = some ([], 1) from enc_wrong hm hub hul hwrong)
 have HKL := Aside0.mk hkl
 have HK1 := Aside0.mk hk1
 have HK64 := Aside0.mk hk64
 clear hn hright hkb hkl hwr hm hkk hub hul hwrong
 go_enter Try.func5, Try.ntmps5
 go_upto_region 2 with (first
  | (go_at_call 12; refine (scullerlaw14_Token_c.calls a0 A1 c1 l1 a2 a3 s sizes sum known _ HR1.out HC1.out HT.out).mono ?_; rintro e w1 ⟨v5, v6, rfl, h5, h6, hb⟩; obtain ⟨A2, c3, e_⟩ := Kd.R_slice h5; subst e_; obtain ⟨A4, c5, e_⟩ := Kd.R_slice h6; subst e_; have sz_ := (Nat.le_refl w.heap.size); have B6 := Aside0.mk hb; have R7 := Aside0.mk (Kd.R_lower (Kd.R_mono (ok' := fun _ => True) h5 (fun _ _ => trivial)) sz_); clear h5; have R8 := Aside0.mk (Kd.R_lower (Kd.R_mono (ok' := fun _ => True) h6 (fun _ _ => trivial)) sz_); clear h6; clear hb sz_)
  | ((with_reducible refine gate_dst (N := 11) rfl ?_); (try (refine gate_guard (by rfl) ?_; dsimp only)); refine box_event ?hg (N := 11) ?hd (cs := #[.int .u64 0, .slice none 0 0, .int .u32 0, .slice none 0 0]) (t := 29) ?hr ?_; (case hd => rfl); (case hg => rfl); (case hr => first | (go_simp; done) | (go_simp; rfl)); intro g9 hg w10 hbox hb; have G11 := Aside0.mk (show w.heap.size ≤ g9 by rw [hg]; exact B6.out.size); have R12 := Aside0.mk (Kd.R_below R7.out hb); have R13 := Aside0.mk (Kd.R_below R8.out hb); have B14 := Aside0.mk (below_then B6.out B6.out.size hb); clear R7 R8 B6; have K15 := Aside0.mk hbox; clear hb hbox hg; have zg9_0 : w10.cell? ⟨g9, 0, none⟩ = _ := (blk_cell K15.out 0).trans rfl; have zfg9_0 := blk_frozen K15.out 0; have zg9_1 : w10.cell? ⟨g9, 1, none⟩ = _ := (blk_cell K15.out 1).trans rfl; have zfg9_1 := blk_frozen K15.out 1; have zg9_2 : w10.cell? ⟨g9, 2, none⟩ = _ := (blk_cell K15.out 2).trans rfl; have zfg9_2 := blk_frozen K15.out 2; have zg9_3 : w10.cell? ⟨g9, 3, none⟩ = _ := (blk_cell K15.out 3).trans rfl; have zfg9_3 := blk_frozen K15.out 3))
 have h16 := Kd.R_set R12.out K15.out (by decide) 0 (.int .u64 s)
 have h17 := Kd.R_set R13.out K15.out (by decide) 0 (.int .u64 s)
 have h18 := below_set (g := g9) (j := 0) (v := (.int .u64 s)) B14.out G11.out
 have h19 := blk_put (cs := #[.int .u64 0, .slice none 0 0, .int .u32 0, .slice none 0 0]) K15.out 0 (.int .u64 s) rfl
 have h20 := Kd.R_set h16 h19 (by decide) 1 (.slice A2 sizes.length c3)
 have h21 := Kd.R_set h17 h19 (by decide) 1 (.slice A2 sizes.length c3)
 have h22 := below_set (g := g9) (j := 1) (v := (.slice A2 sizes.length c3)) h18 G11.out
 have h23 := blk_put (cs := #[.int .u64 s, .slice none 0 0, .int .u32 0, .slice none 0 0]) h19 1 (.slice A2 sizes.length c3) rfl
 have h24 := Kd.R_set h20 h23 (by decide) 2 (.int .u32 sum)
 have h25 := Kd.R_set h21 h23 (by decide) 2 (.int .u32 sum)
 have h26 := below_set (g := g9) (j := 2) (v := (.int .u32 sum)) h22 G11.out
 have h27 := blk_put (cs := #[.int .u64 s, .slice A2 sizes.length c3, .int .u32 0, .slice none 0 0]) h23 2 (.int .u32 sum) rfl
 have h28 := Kd.R_set h24 h27 (by decide) 3 (.slice A4 known.length c5)
 have h29 := Kd.R_set h25 h27 (by decide) 3 (.slice A4 known.length c5)
 have h30 := below_set (g := g9) (j := 3) (v := (.slice A4 known.length c5)) h26 G11.out
 have h31 := blk_put (cs := #[.int .u64 s, .slice A2 sizes.length c3, .int .u32 sum, .slice none 0 0]) h27 3 (.slice A4 known.length c5) rfl
 generalize (World.setCell (World.setCell (World.setCell (World.setCell w10 ⟨g9, 0, none⟩ (.int .u64 s)) ⟨g9, 1, none⟩ (.slice A2 sizes.length c3)) ⟨g9, 2, none⟩ (.int .u32 sum)) ⟨g9, 3, none⟩ (.slice A4 known.length c5)) = w32 at h31 h30 h28 h29 ⊢
 have K33 := Aside0.mk h31
 have B34 := Aside0.mk h30
 have R35 := Aside0.mk h28
 have R36 := Aside0.mk h29
 clear h16 h17 h18 h19 h20 h21 h22 h23 h24 h25 h26 h27 h28 h29 h30 h31
 clear K15 B14 R12 R13
 clear zg9_0 zfg9_0 zg9_1 zfg9_1 zg9_2 zfg9_2 zg9_3 zfg9_3
 have y0 : w32.cell? ⟨g9, 0, none⟩ = some (.int .u64 s) := (blk_cell K33.out 0).trans rfl
 have y1 : w32.cell? ⟨g9, 1, none⟩ = some (.slice A2 sizes.length c3) := (blk_cell K33.out 1).trans rfl
 have y2 : w32.cell? ⟨g9, 2, none⟩ = some (.int .u32 sum) := (blk_cell K33.out 2).trans rfl
 have y3 : w32.cell? ⟨g9, 3, none⟩ = some (.slice A4 known.length c5) := (blk_cell K33.out 3).trans rfl
 go_upto_region 3 with (first
  | ((with_reducible refine gate_dst (N := 12) rfl ?_); (try (refine gate_guard (by rfl) ?_; dsimp only)); refine box_event ?hg (N := 12) ?hd (cs := #[.int .u64 0, .slice none 0 0, .int .u32 0, .slice none 0 0]) (t := 29) ?hr ?_; (case hd => rfl); (case hg => rfl); (case hr => first | (go_simp; done) | (go_simp; rfl)); intro g37 hg w38 hbox hb; have G39 := Aside0.mk (show w.heap.size ≤ g37 by rw [hg]; exact B34.out.size); have N40 := Aside0.mk (show g9 ≠ g37 by have h_ := blk_lt K33.out; omega); have R41 := Aside0.mk (Kd.R_below R35.out hb); have R42 := Aside0.mk (Kd.R_below R36.out hb); have K43 := Aside0.mk (blk_below K33.out hb); have B44 := Aside0.mk (below_then B34.out B34.out.size hb); clear R35 R36 K33 B34; have K45 := Aside0.mk hbox; clear hb hbox hg; have zg37_0 : w38.cell? ⟨g37, 0, none⟩ = _ := (blk_cell K45.out 0).trans rfl; have zfg37_0 := blk_frozen K45.out 0; have zg37_1 : w38.cell? ⟨g37, 1, none⟩ = _ := (blk_cell K45.out 1).trans rfl; have zfg37_1 := blk_frozen K45.out 1; have zg37_2 : w38.cell? ⟨g37, 2, none⟩ = _ := (blk_cell K45.out 2).trans rfl; have zfg37_2 := blk_frozen K45.out 2; have zg37_3 : w38.cell? ⟨g37, 3, none⟩ = _ := (blk_cell K45.out 3).trans rfl; have zfg37_3 := blk_frozen K45.out 3; clear y0 y1 y2 y3; have y0 : w38.cell? ⟨g9, 0, none⟩ = some (.int .u64 s) := (blk_cell K43.out 0).trans rfl; have y1 : w38.cell? ⟨g9, 1, none⟩ = some (.slice A2 sizes.length c3) := (blk_cell K43.out 1).trans rfl; have y2 : w38.cell? ⟨g9, 2, none⟩ = some (.int .u32 sum) := (blk_cell K43.out 2).trans rfl; have y3 : w38.cell? ⟨g9, 3, none⟩ = some (.slice A4 known.length c5) := (blk_cell K43.out 3).trans rfl))
 have h46 := Kd.R_set R41.out K45.out (by decide) 0 (.int .u64 s)
 have h47 := Kd.R_set R42.out K45.out (by decide) 0 (.int .u64 s)
 have h48 := blk_far (p := ⟨g37, 0, none⟩) K43.out N40.out (.int .u64 s)
 have h49 := below_set (g := g37) (j := 0) (v := (.int .u64 s)) B44.out G39.out
 have h50 := blk_put (cs := #[.int .u64 0, .slice none 0 0, .int .u32 0, .slice none 0 0]) K45.out 0 (.int .u64 s) rfl
 have h51 := Kd.R_set h46 h50 (by decide) 1 (.slice A2 sizes.length c3)
 have h52 := Kd.R_set h47 h50 (by decide) 1 (.slice A2 sizes.length c3)
 have h53 := blk_far (p := ⟨g37, 1, none⟩) h48 N40.out (.slice A2 sizes.length c3)
 have h54 := below_set (g := g37) (j := 1) (v := (.slice A2 sizes.length c3)) h49 G39.out
 have h55 := blk_put (cs := #[.int .u64 s, .slice none 0 0, .int .u32 0, .slice none 0 0]) h50 1 (.slice A2 sizes.length c3) rfl
 have h56 := Kd.R_set h51 h55 (by decide) 2 (.int .u32 sum)
 have h57 := Kd.R_set h52 h55 (by decide) 2 (.int .u32 sum)
 have h58 := blk_far (p := ⟨g37, 2, none⟩) h53 N40.out (.int .u32 sum)
 have h59 := below_set (g := g37) (j := 2) (v := (.int .u32 sum)) h54 G39.out
 have h60 := blk_put (cs := #[.int .u64 s, .slice A2 sizes.length c3, .int .u32 0, .slice none 0 0]) h55 2 (.int .u32 sum) rfl
 have h61 := Kd.R_set h56 h60 (by decide) 3 (.slice A4 known.length c5)
 have h62 := Kd.R_set h57 h60 (by decide) 3 (.slice A4 known.length c5)
 have h63 := blk_far (p := ⟨g37, 3, none⟩) h58 N40.out (.slice A4 known.length c5)
 have h64 := below_set (g := g37) (j := 3) (v := (.slice A4 known.length c5)) h59 G39.out
 have h65 := blk_put (cs := #[.int .u64 s, .slice A2 sizes.length c3, .int .u32 sum, .slice none 0 0]) h60 3 (.slice A4 known.length c5) rfl
 generalize (World.setCell (World.setCell (World.setCell (World.setCell w38 ⟨g37, 0, none⟩ (.int .u64 s)) ⟨g37, 1, none⟩ (.slice A2 sizes.length c3)) ⟨g37, 2, none⟩ (.int .u32 sum)) ⟨g37, 3, none⟩ (.slice A4 known.length c5)) = w66 at h65 h64 h61 h62 h63 ⊢
 have K67 := Aside0.mk h65
 have B68 := Aside0.mk h64
 have R69 := Aside0.mk h61
 have R70 := Aside0.mk h62
 have K71 := Aside0.mk h63
 clear h46 h47 h48 h49 h50 h51 h52 h53 h54 h55 h56 h57 h58 h59 h60 h61 h62 h63 h64 h65
 clear K45 B44 R41 R42 K43
 clear zg37_0 zfg37_0 zg37_1 zfg37_1 zg37_2 zfg37_2 zg37_3 zfg37_3
 clear y0 y1 y2 y3
 have y0 : w66.cell? ⟨g9, 0, none⟩ = some (.int .u64 s) := (blk_cell K71.out 0).trans rfl
 have y1 : w66.cell? ⟨g9, 1, none⟩ = some (.slice A2 sizes.length c3) := (blk_cell K71.out 1).trans rfl
 have y2 : w66.cell? ⟨g9, 2, none⟩ = some (.int .u32 sum) := (blk_cell K71.out 2).trans rfl
 have y3 : w66.cell? ⟨g9, 3, none⟩ = some (.slice A4 known.length c5) := (blk_cell K71.out 3).trans rfl
 have x0 : w66.cell? ⟨g37, 0, none⟩ = some (.int .u64 s) := (blk_cell K67.out 0).trans rfl
 have x1 : w66.cell? ⟨g37, 1, none⟩ = some (.slice A2 sizes.length c3) := (blk_cell K67.out 1).trans rfl
 have x2 : w66.cell? ⟨g37, 2, none⟩ = some (.int .u32 sum) := (blk_cell K67.out 2).trans rfl
 have x3 : w66.cell? ⟨g37, 3, none⟩ = some (.slice A4 known.length c5) := (blk_cell K67.out 3).trans rfl
 have xf3 := blk_frozen K67.out 3
 go_upto_region 4 with (first
  | (go_at_call 21; refine (scullerref12_Chunks.calls s A2 c3 sizes sum n _ (Kd.R_reads' R69.out).2.2 (Kd.R_reads' R69.out).2.1 HCH.out).mono ?_; rintro e w72 ⟨rfl, hb⟩; have sz_ := (B68.out.size); have R73 := Aside0.mk (Kd.R_below R69.out hb); have R74 := Aside0.mk (Kd.R_below R70.out hb); have K75 := Aside0.mk (blk_below K71.out hb); have K76 := Aside0.mk (blk_below K67.out hb); have B77 := Aside0.mk (below_then B68.out B68.out.size hb); clear R69 R70 K71 K67 B68; clear hb sz_; clear y0 y1 y2 y3 x0 x1 x2 x3 xf3))
 have y0 : w72.cell? ⟨g9, 0, none⟩ = some (.int .u64 s) := (blk_cell K75.out 0).trans rfl
 have y1 : w72.cell? ⟨g9, 1, none⟩ = some (.slice A2 sizes.length c3) := (blk_cell K75.out 1).trans rfl
 have y2 : w72.cell? ⟨g9, 2, none⟩ = some (.int .u32 sum) := (blk_cell K75.out 2).trans rfl
 have y3 : w72.cell? ⟨g9, 3, none⟩ = some (.slice A4 known.length c5) := (blk_cell K75.out 3).trans rfl
 have x0 : w72.cell? ⟨g37, 0, none⟩ = some (.int .u64 s) := (blk_cell K76.out 0).trans rfl
 have x1 : w72.cell? ⟨g37, 1, none⟩ = some (.slice A2 sizes.length c3) := (blk_cell K76.out 1).trans rfl
 have x2 : w72.cell? ⟨g37, 2, none⟩ = some (.int .u32 sum) := (blk_cell K76.out 2).trans rfl
 have x3 : w72.cell? ⟨g37, 3, none⟩ = some (.slice A4 known.length c5) := (blk_cell K76.out 3).trans rfl
 have xf3 := blk_frozen K76.out 3
 have hz8 : (n % 8 == 0) = false := by simpa using h8
 go_upto_region 7 with (fail)
 clear hz8
 go_upto_region 12 with (first
  | (go_at_call 23; refine (scullerref03_Set_c.calls A4 c5 known n kk _ (Kd.R_reads' R74.out).2.2 (Kd.R_reads' R74.out).2.1 HSET.out).mono ?_; rintro e w78 ⟨v5, rfl, h5, hb⟩; obtain ⟨A79, c80, e_⟩ := Kd.R_slice h5; subst e_; have sz_ := (B77.out.size); have R81 := Aside0.mk (Kd.R_below R73.out hb); have R82 := Aside0.mk (Kd.R_below R74.out hb); have K83 := Aside0.mk (blk_below K75.out hb); have K84 := Aside0.mk (blk_below K76.out hb); have B85 := Aside0.mk (below_then B77.out B77.out.size hb); clear R73 R74 K75 K76 B77; have R86 := Aside0.mk (Kd.R_lower (Kd.R_mono (ok' := fun _ => True) h5 (fun _ _ => trivial)) sz_); clear h5; clear hb sz_; clear y0 y1 y2 y3 x0 x1 x2 x3 xf3; have x0 : w78.cell? ⟨g37, 0, none⟩ = some (.int .u64 s) := (blk_cell K84.out 0).trans rfl; have x1 : w78.cell? ⟨g37, 1, none⟩ = some (.slice A2 sizes.length c3) := (blk_cell K84.out 1).trans rfl; have x2 : w78.cell? ⟨g37, 2, none⟩ = some (.int .u32 sum) := (blk_cell K84.out 2).trans rfl; have x3 : w78.cell? ⟨g37, 3, none⟩ = some (.slice A4 known.length c5) := (blk_cell K84.out 3).trans rfl; have xf3 := blk_frozen K84.out 3))
 have h87 := Kd.R_set R81.out K84.out (by decide) 3 (.slice A79 kk.length c80)
 have h88 := Kd.R_set R82.out K84.out (by decide) 3 (.slice A79 kk.length c80)
 have h89 := Kd.R_set R86.out K84.out (by decide) 3 (.slice A79 kk.length c80)
 have h90 := blk_far (p := ⟨g37, 3, none⟩) K83.out N40.out (.slice A79 kk.length c80)
 have h91 := below_set (g := g37) (j := 3) (v := (.slice A79 kk.length c80)) B85.out G39.out
 have h92 := blk_put (cs := #[.int .u64 s, .slice A2 sizes.length c3, .int .u32 sum, .slice A4 known.length c5]) K84.out 3 (.slice A79 kk.length c80) rfl
 generalize (World.setCell w78 ⟨g37, 3, none⟩ (.slice A79 kk.length c80)) = w93 at h92 h91 h87 h88 h89 h90 ⊢
 have K94 := Aside0.mk h92
 have B95 := Aside0.mk h91
 have R96 := Aside0.mk h87
 have R97 := Aside0.mk h88
 have R98 := Aside0.mk h89
 have K99 := Aside0.mk h90
 clear h87 h88 h89 h90 h91 h92
 clear K84 B85 R81 R82 R86 K83
 clear x0 x1 x2 x3 xf3
 have y0 : w93.cell? ⟨g9, 0, none⟩ = some (.int .u64 s) := (blk_cell K99.out 0).trans rfl
 have y1 : w93.cell? ⟨g9, 1, none⟩ = some (.slice A2 sizes.length c3) := (blk_cell K99.out 1).trans rfl
 have y2 : w93.cell? ⟨g9, 2, none⟩ = some (.int .u32 sum) := (blk_cell K99.out 2).trans rfl
 have y3 : w93.cell? ⟨g9, 3, none⟩ = some (.slice A4 known.length c5) := (blk_cell K99.out 3).trans rfl
 have x0 : w93.cell? ⟨g37, 0, none⟩ = some (.int .u64 s) := (blk_cell K94.out 0).trans rfl
 have x1 : w93.cell? ⟨g37, 1, none⟩ = some (.slice A2 sizes.length c3) := (blk_cell K94.out 1).trans rfl
 have x2 : w93.cell? ⟨g37, 2, none⟩ = some (.int .u32 sum) := (blk_cell K94.out 2).trans rfl
 have x3 : w93.cell? ⟨g37, 3, none⟩ = some (.slice A79 kk.length c80) := (blk_cell K94.out 3).trans rfl
 go_wp2_with (first
  | (go_at_call 19; refine (token_Encode_cut s A2 c3 sizes sum A79 c80 kk.length kk [] 1 _ (Kd.R_reads' R96.out).2.2 (Kd.R_reads' R96.out).2.1 (Kd.R_reads' R98.out).2.2 rfl (Kd.R_reads' R98.out).2.1 HEU.out).mono ?_; rintro e w100 ⟨v7, rfl, h7, hb⟩; obtain ⟨A101, n103, c102, e_⟩ : ∃ A_ n_ c_, v7 = Value.slice A_ n_ c_ := (by obtain ⟨A_, c_, e_⟩ := Kd.R_slice h7; exact ⟨A_, _, c_, e_⟩); subst e_; clear h7; have sz_ := (B95.out.size); have R104 := Aside0.mk (Kd.R_below R96.out hb); have R105 := Aside0.mk (Kd.R_below R97.out hb); have R106 := Aside0.mk (Kd.R_below R98.out hb); have K107 := Aside0.mk (blk_below K99.out hb); have K108 := Aside0.mk (blk_below K94.out hb); have B109 := Aside0.mk (below_then B95.out B95.out.size hb); clear R96 R97 R98 K99 K94 B95; clear hb sz_; clear y0 y1 y2 y3 x0 x1 x2 x3; have y0 : w100.cell? ⟨g9, 0, none⟩ = some (.int .u64 s) := (blk_cell K107.out 0).trans rfl; have y1 : w100.cell? ⟨g9, 1, none⟩ = some (.slice A2 sizes.length c3) := (blk_cell K107.out 1).trans rfl; have y2 : w100.cell? ⟨g9, 2, none⟩ = some (.int .u32 sum) := (blk_cell K107.out 2).trans rfl; have y3 : w100.cell? ⟨g9, 3, none⟩ = some (.slice A4 known.length c5) := (blk_cell K107.out 3).trans rfl; have x0 : w100.cell? ⟨g37, 0, none⟩ = some (.int .u64 s) := (blk_cell K108.out 0).trans rfl; have x1 : w100.cell? ⟨g37, 1, none⟩ = some (.slice A2 sizes.length c3) := (blk_cell K108.out 1).trans rfl; have x2 : w100.cell? ⟨g37, 2, none⟩ = some (.int .u32 sum) := (blk_cell K108.out 2).trans rfl; have x3 : w100.cell? ⟨g37, 3, none⟩ = some (.slice A79 kk.length c80) := (blk_cell K108.out 3).trans rfl)
  | (go_at_call 11; refine (scullerlaw14_known_c.calls true _ rfl).mono ?_; rintro e w110 ⟨rfl, hb⟩; have sz_ := (B109.out.size); have R111 := Aside0.mk (Kd.R_below R104.out hb); have R112 := Aside0.mk (Kd.R_below R105.out hb); have R113 := Aside0.mk (Kd.R_below R106.out hb); have K114 := Aside0.mk (blk_below K107.out hb); have K115 := Aside0.mk (blk_below K108.out hb); have B116 := Aside0.mk (below_then B109.out B109.out.size hb); clear R104 R105 R106 K107 K108 B109; clear hb sz_; clear y0 y1 y2 y3 x0 x1 x2 x3; have y0 : w110.cell? ⟨g9, 0, none⟩ = some (.int .u64 s) := (blk_cell K114.out 0).trans rfl; have y1 : w110.cell? ⟨g9, 1, none⟩ = some (.slice A2 sizes.length c3) := (blk_cell K114.out 1).trans rfl; have y2 : w110.cell? ⟨g9, 2, none⟩ = some (.int .u32 sum) := (blk_cell K114.out 2).trans rfl; have y3 : w110.cell? ⟨g9, 3, none⟩ = some (.slice A4 known.length c5) := (blk_cell K114.out 3).trans rfl; have x0 : w110.cell? ⟨g37, 0, none⟩ = some (.int .u64 s) := (blk_cell K115.out 0).trans rfl; have x1 : w110.cell? ⟨g37, 1, none⟩ = some (.slice A2 sizes.length c3) := (blk_cell K115.out 1).trans rfl; have x2 : w110.cell? ⟨g37, 2, none⟩ = some (.int .u32 sum) := (blk_cell K115.out 2).trans rfl; have x3 : w110.cell? ⟨g37, 3, none⟩ = some (.slice A79 kk.length c80) := (blk_cell K115.out 3).trans rfl)
  | (go_at_call 24; refine (token_Right.calls s A2 c3 sizes sum A4 c5 known true _ (Kd.R_reads' R111.out).2.2 (Kd.R_reads' R111.out).2.1 (Kd.R_reads' R112.out).2.2 (Kd.R_reads' R112.out).2.1 HRT.out).mono ?_; rintro e w117 ⟨rfl, hb⟩; have sz_ := (B116.out.size); have R118 := Aside0.mk (Kd.R_below R111.out hb); have R119 := Aside0.mk (Kd.R_below R112.out hb); have R120 := Aside0.mk (Kd.R_below R113.out hb); have K121 := Aside0.mk (blk_below K114.out hb); have K122 := Aside0.mk (blk_below K115.out hb); have B123 := Aside0.mk (below_then B116.out B116.out.size hb); clear R111 R112 R113 K114 K115 B116; clear hb sz_; clear y0 y1 y2 y3 x0 x1 x2 x3; have y0 : w117.cell? ⟨g9, 0, none⟩ = some (.int .u64 s) := (blk_cell K121.out 0).trans rfl; have y1 : w117.cell? ⟨g9, 1, none⟩ = some (.slice A2 sizes.length c3) := (blk_cell K121.out 1).trans rfl; have y2 : w117.cell? ⟨g9, 2, none⟩ = some (.int .u32 sum) := (blk_cell K121.out 2).trans rfl; have y3 : w117.cell? ⟨g9, 3, none⟩ = some (.slice A4 known.length c5) := (blk_cell K121.out 3).trans rfl; have x0 : w117.cell? ⟨g37, 0, none⟩ = some (.int .u64 s) := (blk_cell K122.out 0).trans rfl; have x1 : w117.cell? ⟨g37, 1, none⟩ = some (.slice A2 sizes.length c3) := (blk_cell K122.out 1).trans rfl; have x2 : w117.cell? ⟨g37, 2, none⟩ = some (.int .u32 sum) := (blk_cell K122.out 2).trans rfl; have x3 : w117.cell? ⟨g37, 3, none⟩ = some (.slice A79 kk.length c80) := (blk_cell K122.out 3).trans rfl)
  | (go_at_call 24; refine (token_Right_cut s A2 c3 sizes sum A79 c80 kk.length kk false _ (Kd.R_reads' R118.out).2.2 (Kd.R_reads' R118.out).2.1 (Kd.R_reads' R120.out).2.2 rfl (Kd.R_reads' R120.out).2.1 HRU.out).mono ?_; rintro e w124 ⟨rfl, hb⟩; have sz_ := (B123.out.size); have R125 := Aside0.mk (Kd.R_below R118.out hb); have R126 := Aside0.mk (Kd.R_below R119.out hb); have R127 := Aside0.mk (Kd.R_below R120.out hb); have K128 := Aside0.mk (blk_below K121.out hb); have K129 := Aside0.mk (blk_below K122.out hb); have B130 := Aside0.mk (below_then B123.out B123.out.size hb); clear R118 R119 R120 K121 K122 B123; clear hb sz_))
 go_ret
 exact ⟨by first | rfl | simp, B130.out⟩
set_option maxHeartbeats 8000000 in
set_option maxRecDepth 100000 in
theorem TokenBits_3 (a0 : Int) (A1 : Option Addr) (c1 : Nat) (l1 : List Int) (a2 a3 a4 : Int) (w : World) (HR1 : Aside0 (Kd.C (Kd.int .u8) w A1 l1.length l1)) (HC1 : Aside0 (l1.length ≤ c1)) (s : Int) (sizes : List Int) (sum : Int) (known : List Int) (HT : Aside0 (scullerlaw14_Token_c.f a0 l1 a2 a3 = some (s, sizes, sum, known)))
 (hm : 0 ≤ sum ∧ sum < 4294967296) (hright : rightT sizes known = true) (hkb : bytesB known = true) (hkl : (known.length : Int) = ((wordsM sizes + 7) / 8 + 7) / 8) (hk1 : 1 ≤ known.length) (hk64 : known.length ≤ 64) (h4 : 0 ≤ a4 ∧ a4 ≤ 255) (hw : a4 % 3 = 2) (h8 : ((wordsM sizes + 7) / 8) % 8 = 0) :
 Calls Try.prog 5 #[.int .u64 a0, .slice A1 l1.length c1, .int .u8 a2, .int .u8 a3, .int .u8 a4] w fun e w' => e = .returned (.bool true) ∧ Below w.heap.size w w' := by
 have huT := Try.underlying29
 have huM := Try.underlying26
 have hwr := wordsM_range sizes
 have HCH := Aside0.mk (chunks12_is s sizes sum)
 have q0 : (a4 % 3 == 0) = false := by rw [hw]; decide
 have q1 : (a4 % 3 == 1) = false := by rw [hw]; decide
 clear hw
 obtain ⟨n, hn⟩ : ∃ n, (wordsM sizes + 7) / 8 = n := ⟨_, rfl⟩
 rw [hn] at HCH hkl h8
 have hn1 : 0 ≤ n ∧ n ≤ 512 := by omega
 have HN := Aside0.mk hn
 have HRT := Aside0.mk (show token_Right.f s sizes sum known = some true by rw [token_Right.is _ _ _ _ hkb, hright])
 have HKL := Aside0.mk hkl
 have HK1 := Aside0.mk hk1
 have HK64 := Aside0.mk hk64
 clear hn hright hkb hkl hwr hm
 go_enter Try.func5, Try.ntmps5
 go_upto_region 2 with (first
  | (go_at_call 12; refine (scullerlaw14_Token_c.calls a0 A1 c1 l1 a2 a3 s sizes sum known _ HR1.out HC1.out HT.out).mono ?_; rintro e w1 ⟨v5, v6, rfl, h5, h6, hb⟩; obtain ⟨A2, c3, e_⟩ := Kd.R_slice h5; subst e_; obtain ⟨A4, c5, e_⟩ := Kd.R_slice h6; subst e_; have sz_ := (Nat.le_refl w.heap.size); have B6 := Aside0.mk hb; have R7 := Aside0.mk (Kd.R_lower (Kd.R_mono (ok' := fun _ => True) h5 (fun _ _ => trivial)) sz_); clear h5; have R8 := Aside0.mk (Kd.R_lower (Kd.R_mono (ok' := fun _ => True) h6 (fun _ _ => trivial)) sz_); clear h6; clear hb sz_)
  | ((with_reducible refine gate_dst (N := 11) rfl ?_); (try (refine gate_guard (by rfl) ?_; dsimp only)); refine box_event ?hg (N := 11) ?hd (cs := #[.int .u64 0, .slice none 0 0, .int .u32 0, .slice none 0 0]) (t := 29) ?hr ?_; (case hd => rfl); (case hg => rfl); (case hr => first | (go_simp; done) | (go_simp; rfl)); intro g9 hg w10 hbox hb; have G11 := Aside0.mk (show w.heap.size ≤ g9 by rw [hg]; exact B6.out.size); have R12 := Aside0.mk (Kd.R_below R7.out hb); have R13 := Aside0.mk (Kd.R_below R8.out hb); have B14 := Aside0.mk (below_then B6.out B6.out.size hb); clear R7 R8 B6; have K15 := Aside0.mk hbox; clear hb hbox hg; have zg9_0 : w10.cell? ⟨g9, 0, none⟩ = _ := (blk_cell K15.out 0).trans rfl; have zfg9_0 := blk_frozen K15.out 0; have zg9_1 : w10.cell? ⟨g9, 1, none⟩ = _ := (blk_cell K15.out 1).trans rfl; have zfg9_1 := blk_frozen K15.out 1; have zg9_2 : w10.cell? ⟨g9, 2, none⟩ = _ := (blk_cell K15.out 2).trans rfl; have zfg9_2 := blk_frozen K15.out 2; have zg9_3 : w10.cell? ⟨g9, 3, none⟩ = _ := (blk_cell K15.out 3).trans rfl; have zfg9_3 := blk_frozen K15.out 3))
 have h16 := Kd.R_set R12.out K15.out (by decide) 0 (.int .u64 s)
 have h17 := Kd.R_set R13.out K15.out (by decide) 0 (.int .u64 s)
 have h18 := below_set (g := g9) (j := 0) (v := (.int .u64 s)) B14.out G11.out
 have h19 := blk_put (cs := #[.int .u64 0, .slice none 0 0, .int .u32 0, .slice none 0 0]) K15.out 0 (.int .u64 s) rfl
 have h20 := Kd.R_set h16 h19 (by decide) 1 (.slice A2 sizes.length c3)
 have h21 := Kd.R_set h17 h19 (by decide) 1 (.slice A2 sizes.length c3)
 have h22 := below_set (g := g9) (j := 1) (v := (.slice A2 sizes.length c3)) h18 G11.out
 have h23 := blk_put (cs := #[.int .u64 s, .slice none 0 0, .int .u32 0, .slice none 0 0]) h19 1 (.slice A2 sizes.length c3) rfl
 have h24 := Kd.R_set h20 h23 (by decide) 2 (.int .u32 sum)
 have h25 := Kd.R_set h21 h23 (by decide) 2 (.int .u32 sum)
 have h26 := below_set (g := g9) (j := 2) (v := (.int .u32 sum)) h22 G11.out
 have h27 := blk_put (cs := #[.int .u64 s, .slice A2 sizes.length c3, .int .u32 0, .slice none 0 0]) h23 2 (.int .u32 sum) rfl
 have h28 := Kd.R_set h24 h27 (by decide) 3 (.slice A4 known.length c5)
 have h29 := Kd.R_set h25 h27 (by decide) 3 (.slice A4 known.length c5)
 have h30 := below_set (g := g9) (j := 3) (v := (.slice A4 known.length c5)) h26 G11.out
 have h31 := blk_put (cs := #[.int .u64 s, .slice A2 sizes.length c3, .int .u32 sum, .slice none 0 0]) h27 3 (.slice A4 known.length c5) rfl
 generalize (World.setCell (World.setCell (World.setCell (World.setCell w10 ⟨g9, 0, none⟩ (.int .u64 s)) ⟨g9, 1, none⟩ (.slice A2 sizes.length c3)) ⟨g9, 2, none⟩ (.int .u32 sum)) ⟨g9, 3, none⟩ (.slice A4 known.length c5)) = w32 at h31 h30 h28 h29 ⊢
 have K33 := Aside0.mk h31
 have B34 := Aside0.mk h30
 have R35 := Aside0.mk h28
 have R36 := Aside0.mk h29
 clear h16 h17 h18 h19 h20 h21 h22 h23 h24 h25 h26 h27 h28 h29 h30 h31
 clear K15 B14 R12 R13
 clear zg9_0 zfg9_0 zg9_1 zfg9_1 zg9_2 zfg9_2 zg9_3 zfg9_3
 have y0 : w32.cell? ⟨g9, 0, none⟩ = some (.int .u64 s) := (blk_cell K33.out 0).trans rfl
 have y1 : w32.cell? ⟨g9, 1, none⟩ = some (.slice A2 sizes.length c3) := (blk_cell K33.out 1).trans rfl
 have y2 : w32.cell? ⟨g9, 2, none⟩ = some (.int .u32 sum) := (blk_cell K33.out 2).trans rfl
 have y3 : w32.cell? ⟨g9, 3, none⟩ = some (.slice A4 known.length c5) := (blk_cell K33.out 3).trans rfl
 go_upto_region 3 with (first
  | ((with_reducible refine gate_dst (N := 12) rfl ?_); (try (refine gate_guard (by rfl) ?_; dsimp only)); refine box_event ?hg (N := 12) ?hd (cs := #[.int .u64 0, .slice none 0 0, .int .u32 0, .slice none 0 0]) (t := 29) ?hr ?_; (case hd => rfl); (case hg => rfl); (case hr => first | (go_simp; done) | (go_simp; rfl)); intro g37 hg w38 hbox hb; have G39 := Aside0.mk (show w.heap.size ≤ g37 by rw [hg]; exact B34.out.size); have N40 := Aside0.mk (show g9 ≠ g37 by have h_ := blk_lt K33.out; omega); have R41 := Aside0.mk (Kd.R_below R35.out hb); have R42 := Aside0.mk (Kd.R_below R36.out hb); have K43 := Aside0.mk (blk_below K33.out hb); have B44 := Aside0.mk (below_then B34.out B34.out.size hb); clear R35 R36 K33 B34; have K45 := Aside0.mk hbox; clear hb hbox hg; have zg37_0 : w38.cell? ⟨g37, 0, none⟩ = _ := (blk_cell K45.out 0).trans rfl; have zfg37_0 := blk_frozen K45.out 0; have zg37_1 : w38.cell? ⟨g37, 1, none⟩ = _ := (blk_cell K45.out 1).trans rfl; have zfg37_1 := blk_frozen K45.out 1; have zg37_2 : w38.cell? ⟨g37, 2, none⟩ = _ := (blk_cell K45.out 2).trans rfl; have zfg37_2 := blk_frozen K45.out 2; have zg37_3 : w38.cell? ⟨g37, 3, none⟩ = _ := (blk_cell K45.out 3).trans rfl; have zfg37_3 := blk_frozen K45.out 3; clear y0 y1 y2 y3; have y0 : w38.cell? ⟨g9, 0, none⟩ = some (.int .u64 s) := (blk_cell K43.out 0).trans rfl; have y1 : w38.cell? ⟨g9, 1, none⟩ = some (.slice A2 sizes.length c3) := (blk_cell K43.out 1).trans rfl; have y2 : w38.cell? ⟨g9, 2, none⟩ = some (.int .u32 sum) := (blk_cell K43.out 2).trans rfl; have y3 : w38.cell? ⟨g9, 3, none⟩ = some (.slice A4 known.length c5) := (blk_cell K43.out 3).trans rfl))
 have h46 := Kd.R_set R41.out K45.out (by decide) 0 (.int .u64 s)
 have h47 := Kd.R_set R42.out K45.out (by decide) 0 (.int .u64 s)
 have h48 := blk_far (p := ⟨g37, 0, none⟩) K43.out N40.out (.int .u64 s)
 have h49 := below_set (g := g37) (j := 0) (v := (.int .u64 s)) B44.out G39.out
 have h50 := blk_put (cs := #[.int .u64 0, .slice none 0 0, .int .u32 0, .slice none 0 0]) K45.out 0 (.int .u64 s) rfl
 have h51 := Kd.R_set h46 h50 (by decide) 1 (.slice A2 sizes.length c3)
 have h52 := Kd.R_set h47 h50 (by decide) 1 (.slice A2 sizes.length c3)
 have h53 := blk_far (p := ⟨g37, 1, none⟩) h48 N40.out (.slice A2 sizes.length c3)
 have h54 := below_set (g := g37) (j := 1) (v := (.slice A2 sizes.length c3)) h49 G39.out
 have h55 := blk_put (cs := #[.int .u64 s, .slice none 0 0, .int .u32 0, .slice none 0 0]) h50 1 (.slice A2 sizes.length c3) rfl
 have h56 := Kd.R_set h51 h55 (by decide) 2 (.int .u32 sum)
 have h57 := Kd.R_set h52 h55 (by decide) 2 (.int .u32 sum)
 have h58 := blk_far (p := ⟨g37, 2, none⟩) h53 N40.out (.int .u32 sum)
 have h59 := below_set (g := g37) (j := 2) (v := (.int .u32 sum)) h54 G39.out
 have h60 := blk_put (cs := #[.int .u64 s, .slice A2 sizes.length c3, .int .u32 0, .slice none 0 0]) h55 2 (.int .u32 sum) rfl
 have h61 := Kd.R_set h56 h60 (by decide) 3 (.slice A4 known.length c5)
 have h62 := Kd.R_set h57 h60 (by decide) 3 (.slice A4 known.length c5)
 have h63 := blk_far (p := ⟨g37, 3, none⟩) h58 N40.out (.slice A4 known.length c5)
 have h64 := below_set (g := g37) (j := 3) (v := (.slice A4 known.length c5)) h59 G39.out
 have h65 := blk_put (cs := #[.int .u64 s, .slice A2 sizes.length c3, .int .u32 sum, .slice none 0 0]) h60 3 (.slice A4 known.length c5) rfl
 generalize (World.setCell (World.setCell (World.setCell (World.setCell w38 ⟨g37, 0, none⟩ (.int .u64 s)) ⟨g37, 1, none⟩ (.slice A2 sizes.length c3)) ⟨g37, 2, none⟩ (.int .u32 sum)) ⟨g37, 3, none⟩ (.slice A4 known.length c5)) = w66 at h65 h64 h61 h62 h63 ⊢
 have K67 := Aside0.mk h65
 have B68 := Aside0.mk h64
 have R69 := Aside0.mk h61
 have R70 := Aside0.mk h62
 have K71 := Aside0.mk h63
 clear h46 h47 h48 h49 h50 h51 h52 h53 h54 h55 h56 h57 h58 h59 h60 h61 h62 h63 h64 h65
 clear K45 B44 R41 R42 K43
 clear zg37_0 zfg37_0 zg37_1 zfg37_1 zg37_2 zfg37_2 zg37_3 zfg37_3
 clear y0 y1 y2 y3
 have y0 : w66.cell? ⟨g9, 0, none⟩ = some (.int .u64 s) := (blk_cell K71.out 0).trans rfl
 have y1 : w66.cell? ⟨g9, 1, none⟩ = some (.slice A2 sizes.length c3) := (blk_cell K71.out 1).trans rfl
 have y2 : w66.cell? ⟨g9, 2, none⟩ = some (.int .u32 sum) := (blk_cell K71.out 2).trans rfl
 have y3 : w66.cell? ⟨g9, 3, none⟩ = some (.slice A4 known.length c5) := (blk_cell K71.out 3).trans rfl
 have x0 : w66.cell? ⟨g37, 0, none⟩ = some (.int .u64 s) := (blk_cell K67.out 0).trans rfl
 have x1 : w66.cell? ⟨g37, 1, none⟩ = some (.slice A2 sizes.length c3) := (blk_cell K67.out 1).trans rfl
 have x2 : w66.cell? ⟨g37, 2, none⟩ = some (.int .u32 sum) := (blk_cell K67.out 2).trans rfl
 have x3 : w66.cell? ⟨g37, 3, none⟩ = some (.slice A4 known.length c5) := (blk_cell K67.out 3).trans rfl
 have xf3 := blk_frozen K67.out 3
 go_upto_region 4 with (first
  | (go_at_call 21; refine (scullerref12_Chunks.calls s A2 c3 sizes sum n _ (Kd.R_reads' R69.out).2.2 (Kd.R_reads' R69.out).2.1 HCH.out).mono ?_; rintro e w72 ⟨rfl, hb⟩; have sz_ := (B68.out.size); have R73 := Aside0.mk (Kd.R_below R69.out hb); have R74 := Aside0.mk (Kd.R_below R70.out hb); have K75 := Aside0.mk (blk_below K71.out hb); have K76 := Aside0.mk (blk_below K67.out hb); have B77 := Aside0.mk (below_then B68.out B68.out.size hb); clear R69 R70 K71 K67 B68; clear hb sz_; clear y0 y1 y2 y3 x0 x1 x2 x3 xf3))
 have y0 : w72.cell? ⟨g9, 0, none⟩ = some (.int .u64 s) := (blk_cell K75.out 0).trans rfl
 have y1 : w72.cell? ⟨g9, 1, none⟩ = some (.slice A2 sizes.length c3) := (blk_cell K75.out 1).trans rfl
 have y2 : w72.cell? ⟨g9, 2, none⟩ = some (.int .u32 sum) := (blk_cell K75.out 2).trans rfl
 have y3 : w72.cell? ⟨g9, 3, none⟩ = some (.slice A4 known.length c5) := (blk_cell K75.out 3).trans rfl
 have x0 : w72.cell? ⟨g37, 0, none⟩ = some (.int .u64 s) := (blk_cell K76.out 0).trans rfl
 have x1 : w72.cell? ⟨g37, 1, none⟩ = some (.slice A2 sizes.length c3) := (blk_cell K76.out 1).trans rfl
 have x2 : w72.cell? ⟨g37, 2, none⟩ = some (.int .u32 sum) := (blk_cell K76.out 2).trans rfl
 have x3 : w72.cell? ⟨g37, 3, none⟩ = some (.slice A4 known.length c5) := (blk_cell K76.out 3).trans rfl
 have xf3 := blk_frozen K76.out 3
 have hz8 : (n % 8 == 0) = true := by simpa using h8
 go_wp2_with (first
  | (go_at_call 11; refine (scullerlaw14_known_c.calls true _ rfl).mono ?_; rintro e w78 ⟨rfl, hb⟩; have sz_ := (B77.out.size); have R79 := Aside0.mk (Kd.R_below R73.out hb); have R80 := Aside0.mk (Kd.R_below R74.out hb); have K81 := Aside0.mk (blk_below K75.out hb); have K82 := Aside0.mk (blk_below K76.out hb); have B83 := Aside0.mk (below_then B77.out B77.out.size hb); clear R73 R74 K75 K76 B77; clear hb sz_))
 go_ret
 exact ⟨rfl, B83.out⟩
theorem scullerlaw14_TokenBits.calls (a0 : Int) (A1 : Option Addr) (c1 : Nat) (l1 : List Int) (a2 a3 a4 : Int) (r : Bool) (w : World) (hr1 : Kd.C (Kd.int .u8) w A1 l1.length l1) (hc1 : l1.length ≤ c1) (h : scullerlaw14_TokenBits.f a0 l1 a2 a3 a4 = some r) :
 Calls Try.prog 5 #[.int .u64 a0, .slice A1 l1.length c1, .int .u8 a2, .int .u8 a3, .int .u8 a4] w fun e w' => e = .returned (.bool r) ∧ Below w.heap.size w w' := by
 unfold scullerlaw14_TokenBits.f at h
 split at h
 case isFalse => cases h
 case isTrue hb =>
 obtain ⟨hs, hbb, hl, h2, h3, h4⟩ := hb
 obtain rfl := Option.some.inj h
 have hok := tokenC_ok hs hbb h2.1 h3.1
 have htk := token_is hs hbb hl h2.1 h2.2 h3.1 h3.2
 generalize tokenC a0 l1 a2 a3 = t at hok htk
 obtain ⟨s, sizes, sum, known⟩ := t
 dsimp only at hok
 have hkl := hok.len
 have hfit := hok.fits
 obtain ⟨hf1, hf2, hf3, hf4, hf5⟩ := fitsB_at hfit
 have hw1 : 1 ≤ wordsM sizes := by
  rw [wordsM, if_pos hfit]
  have h9 := mem_le_sum hf4 0 (by omega)
  have e : sizes.getD 0 0 = sizes[0] := by rw [List.getD_eq_getElem?_getD, List.getElem?_eq_getElem (by omega)]; rfl
  omega
 have hk1 : 1 ≤ known.length := by omega
 rcases (show a4 % 3 = 0 ∨ a4 % 3 = 1 ∨ a4 % 3 = 2 by omega) with hw | hw | hw
 · exact TokenBits_0 a0 A1 c1 l1 a2 a3 a4 w ⟨hr1⟩ ⟨hc1⟩ s sizes sum known ⟨htk⟩ hok.m hok.r hok.k hkl hk1 hok.l h4 hw
 · exact TokenBits_1 a0 A1 c1 l1 a2 a3 a4 w ⟨hr1⟩ ⟨hc1⟩ s sizes sum known ⟨htk⟩ hok.m hok.r hok.k hkl hk1 hok.l h4 hw
 · by_cases h8 : ((wordsM sizes + 7) / 8) % 8 = 0
   · exact TokenBits_3 a0 A1 c1 l1 a2 a3 a4 w ⟨hr1⟩ ⟨hc1⟩ s sizes sum known ⟨htk⟩ hok.m hok.r hok.k hkl hk1 hok.l h4 hw h8
   · exact TokenBits_2 a0 A1 c1 l1 a2 a3 a4 w ⟨hr1⟩ ⟨hc1⟩ s sizes sum known ⟨htk⟩ hok.m hok.r hok.k hkl hk1 hok.l h4 hw h8


/-- THE ONE PURE STATEMENT of scullerlaw14_TokenBits: yours. -/
def scullerlaw14_TokenBits.Pure : Prop := ∀ (a0 : Int) (l1 : List Int) (a2 : Int) (a3 : Int) (a4 : Int), (Lit.int .u64 a0).wf = true → l1.length ≤ maxLen → l1.length * 1 ≤ 140737488351232 → (∀ x ∈ l1, (Lit.int .u8 x).wf = true) → (Lit.int .u8 a2).wf = true → (Lit.int .u8 a3).wf = true → (Lit.int .u8 a4).wf = true → scullerlaw14_TokenBits.f a0 l1 a2 a3 a4 = some true
theorem scullerlaw14_TokenBits.walk (P : scullerlaw14_TokenBits.Pure) (a0 : Int) (a1 : Option Addr) (len1 cap1 : Nat) (z1 : List Int) (a2 : Int) (a3 : Int) (a4 : Int) (w : World) (w0 : (Lit.int .u64 a0).wf = true) (w1 : (a1 = none ∧ len1 = 0 ∧ cap1 = 0 ∧ z1 = []) ∨ ∃ x, a1 = some x ∧ len1 ≤ cap1 ∧ cap1 ≤ maxLen ∧ z1.length = cap1 ∧ (∀ i, i < z1.length → w.cell? (x.add i) = some (.int .u8 (z1.getD i 0))) ∧ ∀ n ∈ z1, (Lit.int .u8 n).wf = true) (y1 : len1 * 1 ≤ 140737488351232) (w2 : (Lit.int .u8 a2).wf = true) (w3 : (Lit.int .u8 a3).wf = true) (w4 : (Lit.int .u8 a4).wf = true) :
 Calls Try.prog 5 #[.int .u64 a0, .slice a1 len1 cap1, .int .u8 a2, .int .u8 a3, .int .u8 a4] w fun e w' => e = .returned (.bool true) ∧ Below w.heap.size w w' := by
 obtain ⟨l1, rfl, hr1, hm1, hw1, hc1⟩ := ReadsInt.ofRowC w1
 have h := P a0 l1 a2 a3 a4 w0 hm1 y1 hw1 w2 w3 w4
 refine (scullerlaw14_TokenBits.calls a0 _ _ l1 a2 a3 a4 true w (Kd.C_of_reads (d := (0 : Int)) (h1 := fun _ => rfl) hr1) hc1 h).mono ?_
 rintro e w' ⟨rfl, hd⟩
 exact ⟨rfl, hd⟩

end Go.Proofs.Ytbijnfhcbanhdaa.F
end

section
/- A token with bits of more, or fewer, chunks than there are is none. -/
namespace Go.Proofs.Ytbijnfhcbanhdaa.Pure
open Go.RowKit Go.Proofs.Ytbijnfhcbanhdaa.F Go.Proofs.Ytbijnfhcbanhdaa.H Go.Proofs.YtbijnfhcbanhdaaW.PrintWords Go.Proofs.YtbijnfhcbanhdaaW.PrintLast Go.Proofs.YtbijnfhcbanhdaaW.PrintMore
theorem TokenBits : scullerlaw14_TokenBits.Pure := by
 intro a0 l1 a2 a3 a4 h0 hl hl' h1 h2 h3 h4
 exact if_pos ⟨u64_wf h0, bytes_wf h1, by omega, byte_wf h2, byte_wf h3, byte_wf h4⟩
end Go.Proofs.Ytbijnfhcbanhdaa.Pure
end
