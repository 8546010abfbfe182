/- Proved: at every input in bounds the statement ManiTells of the manifest layer answers yes: a manifest is told apart by its session, by any one byte of the arena, and by where its segments end.
Text 4 of 5; functions told as plain ones, with the contracts of their calls. -/
import Derived.Test.YthlhnodedofibaaQManiTells1
import Derived.Test.YthlhnodedofibaaQManiTells3
import Derived.StillTailTactics
section
namespace Go.Proofs.Ythlhnodedofibaa.F
open Go.RowKit Go.Proofs.YthlhnodedofibaaW.PrintWords Go.Proofs.YthlhnodedofibaaW.PrintLast Go.Proofs.YthlhnodedofibaaW.PrintMore
attribute [local go_sem] max2_int min2_int max_two min_two max_three min_three max_four min_four   -- for this text's walks alone
set_option linter.unusedVariables false
set_option linter.unusedSimpArgs false

/-! ### scullerlaw07_Arena: function 13 -/
mutual
def scullerlaw07_Arena.l0 : Nat → List Int → Int → List (List Int) → Int → Int → Option ((List (List Int)))
  | 0, _, _, _, _, _ => none
  | k + 1, x0, x1, x5, x6, x7 => if x7 < (wrap64 (1 + (wrap64 (Int.tmod x1 5)))) then (if x7 < (x0.length : Int) then (if 0 ≤ x7 then (scullerlaw07_Arena.j1 k x0 x1 x5 x6 x7 ([] : List Int) (wrap64 (Int.tmod (rd x0 x7) 12))) else (none)) else (scullerlaw07_Arena.j1 k x0 x1 x5 x6 x7 ([] : List Int) 1)) else (some x5)
def scullerlaw07_Arena.j1 : Nat → List Int → Int → List (List Int) → Int → Int → List Int → Int → Option ((List (List Int)))
  | 0, _, _, _, _, _, _, _ => none
  | k + 1, x0, x1, x5, x6, x7, x8, x9 => if x7 = 0 then (scullerlaw07_Arena.j2 k x0 x1 x5 x6 x7 x8 (wrap64 (x9 + 1))) else (scullerlaw07_Arena.j2 k x0 x1 x5 x6 x7 x8 x9)
def scullerlaw07_Arena.j2 : Nat → List Int → Int → List (List Int) → Int → Int → List Int → Int → Option ((List (List Int)))
  | 0, _, _, _, _, _, _, _ => none
  | k + 1, x0, x1, x5, x6, x7, x8, x9 => scullerlaw07_Arena.l1 k x0 x1 x5 x6 x7 x8 x9 0
def scullerlaw07_Arena.l1 : Nat → List Int → Int → List (List Int) → Int → Int → List Int → Int → Int → Option ((List (List Int)))
  | 0, _, _, _, _, _, _, _, _ => none
  | k + 1, x0, x1, x5, x6, x7, x8, x9, x10 => if x10 < x9 then (if (x0.length : Int) > 0 then (if (x0.length : Int) = 0 then (none) else (if 0 ≤ (Int.tmod x6 (x0.length : Int)) then (if (Int.tmod x6 (x0.length : Int)) < (x0.length : Int) then (if x8.length < 17592186044416 then (scullerlaw07_Arena.l1 k x0 x1 x5 (wrap64 (x6 + 1)) x7 (x8 ++ [IntKind.u64.wrap ((IntKind.u64.wrap ((IntKind.u64.wrap (rd x0 (Int.tmod x6 (x0.length : Int)))) * 4311810305)) + (IntKind.u64.wrap (x6)))]) x9 (wrap64 (x10 + 1))) else (none)) else (none)) else (none))) else (if x8.length < 17592186044416 then (scullerlaw07_Arena.l1 k x0 x1 x5 (wrap64 (x6 + 1)) x7 (x8 ++ [IntKind.u64.wrap (x6)]) x9 (wrap64 (x10 + 1))) else (none))) else (if x5.length < 5864062014805 then (scullerlaw07_Arena.l0 k x0 x1 (x5 ++ [x8]) x6 (wrap64 (x7 + 1))) else (none))
end
def scullerlaw07_Arena.f (k : Nat) (l0 : List Int) (a1 : Int) : Option ((List (List Int))) := scullerlaw07_Arena.l0 k l0 a1 ([] : List (List Int)) 0 0
theorem scullerlaw07_Arena.mono_l : ∀ k, (∀ y0 y1 y2 y3 y4, LeO (scullerlaw07_Arena.l0 k y0 y1 y2 y3 y4) (scullerlaw07_Arena.l0 (k + 1) y0 y1 y2 y3 y4)) ∧ (∀ y0 y1 y2 y3 y4 y5 y6, LeO (scullerlaw07_Arena.j1 k y0 y1 y2 y3 y4 y5 y6) (scullerlaw07_Arena.j1 (k + 1) y0 y1 y2 y3 y4 y5 y6)) ∧ (∀ y0 y1 y2 y3 y4 y5 y6, LeO (scullerlaw07_Arena.j2 k y0 y1 y2 y3 y4 y5 y6) (scullerlaw07_Arena.j2 (k + 1) y0 y1 y2 y3 y4 y5 y6)) ∧ (∀ y0 y1 y2 y3 y4 y5 y6 y7, LeO (scullerlaw07_Arena.l1 k y0 y1 y2 y3 y4 y5 y6 y7) (scullerlaw07_Arena.l1 (k + 1) y0 y1 y2 y3 y4 y5 y6 y7))
  | 0 => ⟨fun _ _ _ _ _ r h => by simp [scullerlaw07_Arena.l0] at h, fun _ _ _ _ _ _ _ r h => by simp [scullerlaw07_Arena.j1] at h, fun _ _ _ _ _ _ _ r h => by simp [scullerlaw07_Arena.j2] at h, fun _ _ _ _ _ _ _ _ r h => by simp [scullerlaw07_Arena.l1] at h⟩
  | k + 1 => by
    obtain ⟨ih0, ih1, ih2, ih3⟩ := scullerlaw07_Arena.mono_l k
    refine ⟨?_, ?_, ?_, ?_⟩
    · intro y0 y1 y2 y3 y4
      unfold scullerlaw07_Arena.l0
      repeat' first
      | (with_reducible exact ih0 _ _ _ _ _)
      | (with_reducible exact ih1 _ _ _ _ _ _ _)
      | (with_reducible exact ih2 _ _ _ _ _ _ _)
      | (with_reducible exact ih3 _ _ _ _ _ _ _ _)
      | (with_reducible exact LeO.refl _)
      | (with_reducible exact LeO.none _)
      | (with_reducible refine LeO.ite ?_ ?_)
      | (with_reducible refine LeO.bind ?_ (fun _ => ?_))
      | exact ih0 _ _ _ _ _
      | exact ih1 _ _ _ _ _ _ _
      | exact ih2 _ _ _ _ _ _ _
      | exact ih3 _ _ _ _ _ _ _ _
      | exact LeO.none _
      | refine LeO.ite ?_ ?_
      | refine LeO.bind ?_ (fun _ => ?_)
    · intro y0 y1 y2 y3 y4 y5 y6
      unfold scullerlaw07_Arena.j1
      repeat' first
      | (with_reducible exact ih0 _ _ _ _ _)
      | (with_reducible exact ih1 _ _ _ _ _ _ _)
      | (with_reducible exact ih2 _ _ _ _ _ _ _)
      | (with_reducible exact ih3 _ _ _ _ _ _ _ _)
      | (with_reducible exact LeO.refl _)
      | (with_reducible exact LeO.none _)
      | (with_reducible refine LeO.ite ?_ ?_)
      | (with_reducible refine LeO.bind ?_ (fun _ => ?_))
      | exact ih0 _ _ _ _ _
      | exact ih1 _ _ _ _ _ _ _
      | exact ih2 _ _ _ _ _ _ _
      | exact ih3 _ _ _ _ _ _ _ _
      | exact LeO.none _
      | refine LeO.ite ?_ ?_
      | refine LeO.bind ?_ (fun _ => ?_)
    · intro y0 y1 y2 y3 y4 y5 y6
      unfold scullerlaw07_Arena.j2
      repeat' first
      | (with_reducible exact ih0 _ _ _ _ _)
      | (with_reducible exact ih1 _ _ _ _ _ _ _)
      | (with_reducible exact ih2 _ _ _ _ _ _ _)
      | (with_reducible exact ih3 _ _ _ _ _ _ _ _)
      | (with_reducible exact LeO.refl _)
      | (with_reducible exact LeO.none _)
      | (with_reducible refine LeO.ite ?_ ?_)
      | (with_reducible refine LeO.bind ?_ (fun _ => ?_))
      | exact ih0 _ _ _ _ _
      | exact ih1 _ _ _ _ _ _ _
      | exact ih2 _ _ _ _ _ _ _
      | exact ih3 _ _ _ _ _ _ _ _
      | exact LeO.none _
      | refine LeO.ite ?_ ?_
      | refine LeO.bind ?_ (fun _ => ?_)
    · intro y0 y1 y2 y3 y4 y5 y6 y7
      unfold scullerlaw07_Arena.l1
      repeat' first
      | (with_reducible exact ih0 _ _ _ _ _)
      | (with_reducible exact ih1 _ _ _ _ _ _ _)
      | (with_reducible exact ih2 _ _ _ _ _ _ _)
      | (with_reducible exact ih3 _ _ _ _ _ _ _ _)
      | (with_reducible exact LeO.refl _)
      | (with_reducible exact LeO.none _)
      | (with_reducible refine LeO.ite ?_ ?_)
      | (with_reducible refine LeO.bind ?_ (fun _ => ?_))
      | exact ih0 _ _ _ _ _
      | exact ih1 _ _ _ _ _ _ _
      | exact ih2 _ _ _ _ _ _ _
      | exact ih3 _ _ _ _ _ _ _ _
      | exact LeO.none _
      | refine LeO.ite ?_ ?_
      | refine LeO.bind ?_ (fun _ => ?_)
theorem scullerlaw07_Arena.mono : ∀ a0 a1 k, LeO (scullerlaw07_Arena.f k a0 a1) (scullerlaw07_Arena.f (k + 1) a0 a1) := by
  intro a0 a1 k
  obtain ⟨ih0, ih1, ih2, ih3⟩ := scullerlaw07_Arena.mono_l k
  unfold scullerlaw07_Arena.f
  repeat' first
      | (with_reducible exact ih0 _ _ _ _ _)
      | (with_reducible exact ih1 _ _ _ _ _ _ _)
      | (with_reducible exact ih2 _ _ _ _ _ _ _)
      | (with_reducible exact ih3 _ _ _ _ _ _ _ _)
      | (with_reducible exact LeO.refl _)
      | (with_reducible exact LeO.none _)
      | (with_reducible refine LeO.ite ?_ ?_)
      | (with_reducible refine LeO.bind ?_ (fun _ => ?_))
      | exact ih0 _ _ _ _ _
      | exact ih1 _ _ _ _ _ _ _
      | exact ih2 _ _ _ _ _ _ _
      | exact ih3 _ _ _ _ _ _ _ _
      | exact LeO.none _
      | refine LeO.ite ?_ ?_
      | refine LeO.bind ?_ (fun _ => ?_)
set_option maxHeartbeats 8000000 in
set_option maxRecDepth 100000 in
theorem scullerlaw07_Arena.calls (k : Nat) (A0 : Option Addr) (c0 : Nat) (l0 : List Int) (a1 : Int) (r : List (List Int)) (w : World) (hr0 : Kd.C (Kd.int .u8) w A0 l0.length l0) (hc0 : l0.length ≤ c0) (h : scullerlaw07_Arena.f k l0 a1 = some r) :
    Calls Try.prog 13 #[.slice A0 l0.length c0, .int .u8 a1] w fun e w' => ∃ v0_ : Value, e = .returned (v0_) ∧ Kd.S (Kd.slice 42 (Kd.int .u64)) 37 w' w.heap.size (fun _ => True) v0_ r ∧ Below w.heap.size w w' := by
  have HR0 := Aside0.mk hr0
  have HC0 := Aside0.mk hc0
  clear hr0 hc0
  have HB := Aside0.mk (Below.refl w.heap.size w)
  have H : (scullerlaw07_Arena.l0 k l0 a1 ([] : List (List Int)) 0 0) = some r := h
  clear h
  have H' := Aside0.mk H
  clear H
  go_enter Try.func13, Try.ntmps13
  go_wp2
  go_loopg [5, 6, 7] k (fun kq v5 v6 v7 w' => ∃ (x5_1 : List (List Int)) (x6_1 : Int) (x7_1 : Int), v6 = .int .i64 x6_1 ∧ v7 = .int .i64 x7_1 ∧ Aside0 (scullerlaw07_Arena.l0 kq l0 a1 x5_1 x6_1 x7_1 = some r) ∧ Aside0 (kq ≤ k) ∧ Aside0 (Kd.S (Kd.slice 42 (Kd.int .u64)) 37 w' w.heap.size (fun _ => True) v5 x5_1) ∧ Aside0 (Below w.heap.size w w'))
  case atStart => exact ⟨(([] : List (List Int))), (0), (0), (by first | rfl | (simp; done) | (simp [*]; done)), (by first | rfl | (simp; done) | (simp [*]; done)), H', ⟨Nat.le_refl _⟩, ⟨by first | exact Kd.S_nil _ _ _ _ _ | exact Kd.N_nil _ _ _ _ _ | exact Kd.V_nil _ _ _ _ _ | exact Kd.Q_nil _ _ _ _ _ | exact Kd.R_nil _ _ _ _ _⟩, ⟨by repeat (first | (with_reducible first | exact HB.out | apply below_alloc | apply pw_below_drewN | apply below_drew1) | exact HB.out)⟩⟩
  case round =>
    clear H'
    try clear c1
    try clear p2
    obtain ⟨x5_1, x6_1, x7_1, rfl, rfl, HA, HK1, HO_5, HB⟩ := hrel
    cases gk with
    | zero => exact absurd HA.out (by simp [scullerlaw07_Arena.l0])
    | succ k1 =>
      have H := HA.out
      clear HA
      simp only [scullerlaw07_Arena.l0] at H
      by_cases c3 : x7_1 < (wrap64 (1 + (wrap64 (Int.tmod a1 5))))
      · rw [if_pos c3] at H
        have c3b0 : decide (x7_1 < (wrap64 (1 + (wrap64 (Int.tmod a1 5))))) = true := decide_eq_true c3
        clear c3
        have HC4 := Aside0.mk H
        clear H
        go_upto_if 23 with (fail)
        go_cut [9] (fun v9 wc => ∃ (kq : Nat) (x9_3 : Int), v9 = .int .i64 x9_3 ∧ Aside0 (scullerlaw07_Arena.j1 kq l0 a1 x5_1 x6_1 x7_1 ([] : List Int) x9_3 = some r) ∧ Aside0 (kq ≤ k1) ∧ Aside0 (Kd.S (Kd.slice 42 (Kd.int .u64)) 37 wc w.heap.size (fun k_ => some k_ ≠ ((.slice none 0 0) : Value).ownBlock) u5 x5_1) ∧ Aside0 (Kd.R (Kd.int .u64) 42 wc w.heap.size (fun _ => True) (.slice none 0 0) ([] : List Int)) ∧ Aside0 (Below w.heap.size w wc))
        case first =>
          have H := HC4.out
          clear HC4
          by_cases c5 : x7_1 < (l0.length : Int)
          · rw [if_pos c5] at H
            have c5b0 : decide (x7_1 < (l0.length : Int)) = true := decide_eq_true c5
            clear c5
            (first | rw [c5b0] | (simp only [i64_w, i32_w]; rw [c5b0]) | skip)
            by_cases c6 : 0 ≤ x7_1
            · rw [if_pos c6] at H
              have c6b0 : decide (0 ≤ x7_1) = true := decide_eq_true c6
              clear c6
              have H' := Aside0.mk H
              clear H
              have p101 : 0 ≤ (x7_1 : Int) := of_decide_eq_true (by first | (with_reducible assumption) | assumption)
              have q101 : x7_1 < (l0.length : Int) := of_decide_eq_true (by first | (with_reducible assumption) | assumption)
              obtain ⟨ad101, e101, hx101_0⟩ := Kd.at_int HR0.out x7_1 p101 q101
              cases e101
              replace hx101_0 := (HB.out.cell (World.block_lt_of_cell? w _ hx101_0)).trans hx101_0
              replace p101 := eq_true p101
              replace q101 := eq_true q101
              go_wp2
              go_meet
              case rel => exact ⟨_, (wrap64 (Int.tmod (rd l0 x7_1) 12)), (by first | rfl | (simp; done) | (simp [*]; done)), H', ⟨by have := HK1.out; first | omega | exact Nat.le_refl _⟩, ⟨by (with_reducible repeat (first | apply Kd.S_alloc | apply Kd.S_drewN | apply Kd.S_drew)); exact Kd.S_mono HO_5.out (fun _ hk => (by simp [Value.ownBlock]))⟩, ⟨by first | exact Kd.R_nil _ _ _ _ _ | exact Kd.N_nil _ _ _ _ _ | exact Kd.V_nil _ _ _ _ _ | exact Kd.Q_nil _ _ _ _ _ | exact Kd.S_nil _ _ _ _ _⟩, ⟨by repeat (first | (with_reducible first | exact HB.out | apply below_alloc | apply pw_below_drewN | apply below_drew1) | exact HB.out)⟩⟩
            · rw [if_neg c6] at H
              exact absurd H (by simp)
          · rw [if_neg c5] at H
            have c5b0 : decide (x7_1 < (l0.length : Int)) = false := decide_eq_false c5
            clear c5
            (first | rw [c5b0] | (simp only [i64_w, i32_w]; rw [c5b0]) | skip)
            have H' := Aside0.mk H
            clear H
            go_wp2
            go_meet
            case rel => exact ⟨_, (1), (by first | rfl | (simp; done) | (simp [*]; done)), H', ⟨by have := HK1.out; first | omega | exact Nat.le_refl _⟩, ⟨by (with_reducible repeat (first | apply Kd.S_alloc | apply Kd.S_drewN | apply Kd.S_drew)); exact Kd.S_mono HO_5.out (fun _ hk => (by simp [Value.ownBlock]))⟩, ⟨by first | exact Kd.R_nil _ _ _ _ _ | exact Kd.N_nil _ _ _ _ _ | exact Kd.V_nil _ _ _ _ _ | exact Kd.Q_nil _ _ _ _ _ | exact Kd.S_nil _ _ _ _ _⟩, ⟨by repeat (first | (with_reducible first | exact HB.out | apply below_alloc | apply pw_below_drewN | apply below_drew1) | exact HB.out)⟩⟩
        case rest =>
          clear HC4
          try clear c1
          try clear p1
          try clear q1
          try clear hx1
          try clear p2
          try clear c3
          try clear c3b0
          try clear c5
          try clear c5b0
          try clear c6
          try clear c6b0
          try clear p6
          try clear hx101_0
          try clear p101
          try clear p2
          try clear q101
          obtain ⟨kq, x9_3, rfl, HA, HJ3, HO_5, HO_8, HB⟩ := hcut
          cases kq with
          | zero => exact absurd HA.out (by simp [scullerlaw07_Arena.j1])
          | succ kj3 =>
            have H := HA.out
            clear HA
            simp only [scullerlaw07_Arena.j1] at H
            have HC7 := Aside0.mk H
            clear H
            go_upto_if 31 with (fail)
            go_cut [9] (fun v9 wc => ∃ (kq : Nat) (x9_6 : Int), v9 = .int .i64 x9_6 ∧ Aside0 (scullerlaw07_Arena.j2 kq l0 a1 x5_1 x6_1 x7_1 ([] : List Int) x9_6 = some r) ∧ Aside0 (kq ≤ kj3) ∧ Aside0 (Kd.S (Kd.slice 42 (Kd.int .u64)) 37 wc w.heap.size (fun k_ => some k_ ≠ ((.slice none 0 0) : Value).ownBlock) u5 x5_1) ∧ Aside0 (Kd.R (Kd.int .u64) 42 wc w.heap.size (fun _ => True) (.slice none 0 0) ([] : List Int)) ∧ Aside0 (Below w.heap.size w wc))
            case first =>
              have H := HC7.out
              clear HC7
              by_cases c8 : x7_1 = 0
              · rw [if_pos c8] at H
                have c8b0 : (x7_1 == 0) = true := beq_iff_eq.mpr c8
                have c8b1 : (x7_1 != 0) = false := bne_eq_false_iff_eq.mpr c8
                clear c8
                (first | rw [c8b0] | (simp only [i64_w, i32_w]; rw [c8b0]) | skip)
                have H' := Aside0.mk H
                clear H
                go_wp2
                go_meet
                case rel => exact ⟨_, (wrap64 (x9_3 + 1)), (by first | rfl | (simp; done) | (simp [*]; done)), H', ⟨by have := HK1.out; have := HJ3.out; first | omega | exact Nat.le_refl _⟩, ⟨by (with_reducible repeat (first | apply Kd.S_alloc | apply Kd.S_drewN | apply Kd.S_drew)); exact HO_5.out⟩, ⟨by (with_reducible repeat (first | apply Kd.R_alloc | apply Kd.R_drewN | apply Kd.R_drew)); exact HO_8.out⟩, ⟨by repeat (first | (with_reducible first | exact HB.out | apply below_alloc | apply pw_below_drewN | apply below_drew1) | exact HB.out)⟩⟩
              · rw [if_neg c8] at H
                have c8b0 : (x7_1 == 0) = false := beq_eq_false_iff_ne.mpr c8
                have c8b1 : (x7_1 != 0) = true := bne_iff_ne.mpr c8
                (first | rw [c8b0] | (simp only [i64_w, i32_w]; rw [c8b0]) | skip)
                have H' := Aside0.mk H
                clear H
                go_wp2
                go_meet
                case rel => exact ⟨_, (x9_3), (by first | rfl | (simp; done) | (simp [*]; done)), H', ⟨by have := HK1.out; have := HJ3.out; first | omega | exact Nat.le_refl _⟩, ⟨by (with_reducible repeat (first | apply Kd.S_alloc | apply Kd.S_drewN | apply Kd.S_drew)); exact HO_5.out⟩, ⟨by (with_reducible repeat (first | apply Kd.R_alloc | apply Kd.R_drewN | apply Kd.R_drew)); exact HO_8.out⟩, ⟨by repeat (first | (with_reducible first | exact HB.out | apply below_alloc | apply pw_below_drewN | apply below_drew1) | exact HB.out)⟩⟩
            case rest =>
              clear HC7
              try clear c1
              try clear p1
              try clear q1
              try clear hx1
              try clear p2
              try clear c3
              try clear c3b0
              try clear c5
              try clear c5b0
              try clear c6
              try clear c6b0
              try clear p6
              try clear c8
              try clear c8b0
              try clear c8b1
              try clear hx101_0
              try clear p1
              try clear p101
              try clear p2
              try clear p6
              try clear q1
              try clear q101
              obtain ⟨kq, x9_6, rfl, HA, HJ6, HO_5, HO_8, HB⟩ := hcut
              cases kq with
              | zero => exact absurd HA.out (by simp [scullerlaw07_Arena.j2])
              | succ kj6 =>
                have H := HA.out
                clear HA
                simp only [scullerlaw07_Arena.j2] at H
                have H' := Aside0.mk H
                clear H
                go_wp2
                go_loopg [6, 8, 10] kj6 (fun kq v6 v8 v10 w' => ∃ (x6_4 : Int) (x8_4 : List Int) (x10_4 : Int), v6 = .int .i64 x6_4 ∧ v10 = .int .i64 x10_4 ∧ Aside0 (scullerlaw07_Arena.l1 kq l0 a1 x5_1 x6_4 x7_1 x8_4 x9_6 x10_4 = some r) ∧ Aside0 (kq ≤ kj6) ∧ Aside0 (Kd.S (Kd.slice 42 (Kd.int .u64)) 37 w' w.heap.size (fun k_ => some k_ ≠ (v8 : Value).ownBlock) u5 x5_1) ∧ Aside0 (Kd.R (Kd.int .u64) 42 w' w.heap.size (fun _ => True) v8 x8_4) ∧ Aside0 (Below w.heap.size w w'))
                case atStart => exact ⟨(x6_1), (([] : List Int)), (0), (by first | rfl | (simp; done) | (simp [*]; done)), (by first | rfl | (simp; done) | (simp [*]; done)), H', ⟨Nat.le_refl _⟩, ⟨by (with_reducible repeat (first | apply Kd.S_alloc | apply Kd.S_drewN | apply Kd.S_drew)); exact HO_5.out⟩, ⟨by (with_reducible repeat (first | apply Kd.R_alloc | apply Kd.R_drewN | apply Kd.R_drew)); exact HO_8.out⟩, ⟨by repeat (first | (with_reducible first | exact HB.out | apply below_alloc | apply pw_below_drewN | apply below_drew1) | exact HB.out)⟩⟩
                case round =>
                  clear H'
                  try clear c1
                  try clear p1
                  try clear q1
                  try clear hx1
                  try clear p2
                  try clear c3
                  try clear c3b0
                  try clear c5
                  try clear c5b0
                  try clear c6
                  try clear c6b0
                  try clear p6
                  try clear c8
                  try clear c8b0
                  try clear c8b1
                  try clear hx101_0
                  try clear p1
                  try clear p101
                  try clear p2
                  try clear p6
                  try clear q1
                  try clear q101
                  obtain ⟨x6_4, x8_4, x10_4, rfl, rfl, HA, HK4, HO_5, HO_8, HB⟩ := hrel
                  cases gk with
                  | zero => exact absurd HA.out (by simp [scullerlaw07_Arena.l1])
                  | succ k4 =>
                    have H := HA.out
                    clear HA
                    simp only [scullerlaw07_Arena.l1] at H
                    by_cases c9 : x10_4 < x9_6
                    · rw [if_pos c9] at H
                      have c9b0 : decide (x10_4 < x9_6) = true := decide_eq_true c9
                      clear c9
                      by_cases c10 : (l0.length : Int) > 0
                      · rw [if_pos c10] at H
                        have c10b0 : decide (0 < (l0.length : Int)) = true := decide_eq_true c10
                        have c10b1 : decide (0 < l0.length) = true := decide_eq_true (by omega)
                        clear c10
                        by_cases c11 : (l0.length : Int) = 0
                        · rw [if_pos c11] at H
                          exact absurd H (by simp)
                        · rw [if_neg c11] at H
                          have c11b0 : ((l0.length : Int) == 0) = false := beq_eq_false_iff_ne.mpr c11
                          have c11b1 : ((l0.length : Int) != 0) = true := bne_iff_ne.mpr c11
                          have c11b2 : ¬ (l0 = []) := fun h_ => c11 (by rw [h_]; rfl)
                          obtain ⟨ji12, hji12⟩ : ∃ j_ : Int, (Int.tmod x6_4 (l0.length : Int)) = j_ := ⟨_, rfl⟩
                          replace H : (if 0 ≤ (ji12) then (if (ji12) < (l0.length : Int) then (if x8_4.length < 17592186044416 then (scullerlaw07_Arena.l1 k4 l0 a1 x5_1 (wrap64 (x6_4 + 1)) x7_1 (x8_4 ++ [IntKind.u64.wrap ((IntKind.u64.wrap ((IntKind.u64.wrap (rd l0 (ji12))) * 4311810305)) + (IntKind.u64.wrap (x6_4)))]) x9_6 (wrap64 (x10_4 + 1))) else (none)) else (none)) else (none)) = some r := by first | (rw [hji12] at H; exact H) | (simp only [hji12] at H ⊢; exact H)
                          by_cases c13 : 0 ≤ (ji12)
                          · rw [if_pos c13] at H
                            have c13b0 : decide (0 ≤ (ji12)) = true := decide_eq_true c13
                            clear c13
                            by_cases c14 : (ji12) < (l0.length : Int)
                            · rw [if_pos c14] at H
                              have c14b0 : decide ((ji12) < (l0.length : Int)) = true := decide_eq_true c14
                              clear c14
                              by_cases c15 : x8_4.length < 17592186044416
                              · rw [if_pos c15] at H
                                have LMc15 := Aside0.mk c15
                                clear c15
                                obtain ⟨y103, hy103⟩ : ∃ y_ : List Int, y_ = (x8_4 ++ [IntKind.u64.wrap ((IntKind.u64.wrap ((IntKind.u64.wrap (rd l0 (ji12))) * 4311810305)) + (IntKind.u64.wrap (x6_4)))]) := ⟨_, rfl⟩
                                replace H : (scullerlaw07_Arena.l1 k4 l0 a1 x5_1 (wrap64 (x6_4 + 1)) x7_1 y103 x9_6 (wrap64 (x10_4 + 1))) = some r := by first | (rw [hy103]; with_reducible exact H) | (have H2_ := (Option.bind_some _ _).symm.trans H; rw [hy103]; with_reducible exact H2_) | (have H2_ := (Option.bind_some _ _).symm.trans H; with_reducible exact H2_) | with_reducible exact H | (rw [hy103]; exact H) | exact H
                                have Ny103 := Aside0.mk hy103
                                clear hy103
                                have H' := Aside0.mk H
                                clear H
                                have p102 : 0 ≤ ((ji12) : Int) := of_decide_eq_true (by first | (with_reducible assumption) | assumption)
                                have q102 : (ji12) < (l0.length : Int) := of_decide_eq_true (by first | (with_reducible assumption) | assumption)
                                obtain ⟨ad102, e102, hx102_0⟩ := Kd.at_int HR0.out (ji12) p102 q102
                                cases e102
                                replace hx102_0 := (HB.out.cell (World.block_lt_of_cell? w _ hx102_0)).trans hx102_0
                                replace p102 := eq_true p102
                                replace q102 := eq_true q102
                                go_wp2_with (first | ((with_reducible refine gate_builtin (b := .append) (xs := #[.tmp 56, .tmp 58]) rfl ?_); at_builtin; refine Kd.R_append (Kd.int .u64) (w0 := w) w.heap.size rfl (.tmp 56) (.tmp 58) 37 42 (.int .u64 0) 8 rfl Try.underlying37 info42 rfl (by decide) (by omega) u8 x8_4 (IntKind.u64.wrap ((IntKind.u64.wrap ((IntKind.u64.wrap (rd l0 (ji12))) * 4311810305)) + (IntKind.u64.wrap (x6_4)))) [.int .u64 (IntKind.u64.wrap ((IntKind.u64.wrap ((IntKind.u64.wrap (rd l0 (ji12))) * 4311810305)) + (IntKind.u64.wrap (x6_4))))] (fun _ => True) (fun _ => False) rfl rfl ?aP (fun _ hk => hk.elim) ?aF ?aO ?aB ?aS ?aL ?_; (case aP => exact rfl); (case aB => exact (by repeat (first | (with_reducible first | exact HB.out | apply below_alloc | apply pw_below_drewN | apply below_drew1) | exact HB.out))); (case aF => exact (fun _ _ => trivial)); (case aO => exact (by (with_reducible repeat (first | apply Kd.R_alloc | apply Kd.R_drewN | apply Kd.R_drew)); exact HO_8.out)); (case aS => exact (below_size (by repeat (first | (with_reducible first | exact HB.out | apply below_alloc | apply pw_below_drewN | apply below_drew1) | exact HB.out)))); (case aL => have := LMc15.out; omega); intro v104 w16 ho hb hg hat; rw [← Ny103.out] at ho; have n0_ := Aside0.mk (Kd.S_after (ok := (fun _ => True)) (by (with_reducible repeat (first | apply Kd.S_alloc | apply Kd.S_drewN | apply Kd.S_drew)); exact Kd.S_mono HO_5.out (fun _ hk => ⟨trivial, hk⟩)) hg hat); have n1_ := Aside0.mk (hb); have n2_ := Aside0.mk (ho); clear HO_5; clear HB; clear HO_8; have HO_5 := n0_; have HB := n1_; have HO105 := n2_; clear n0_ n1_ n2_; clear ho hb hg hat))
                                go_roundg k4
                                case measure => have := HK1.out; have := HJ3.out; have := HJ6.out; have := HK4.out; omega
                                case rel => exact ⟨(wrap64 (x6_4 + 1)), (y103), (wrap64 (x10_4 + 1)), (by first | rfl | (simp; done) | (simp [*]; done)), (by first | rfl | (simp; done) | (simp [*]; done)), H', ⟨by have := HK1.out; have := HJ3.out; have := HJ6.out; have := HK4.out; omega⟩, ⟨by (with_reducible repeat (first | apply Kd.S_alloc | apply Kd.S_drewN | apply Kd.S_drew)); exact Kd.S_mono HO_5.out (fun _ hk => hk.2)⟩, ⟨by (with_reducible repeat (first | apply Kd.R_alloc | apply Kd.R_drewN | apply Kd.R_drew)); exact HO105.out⟩, ⟨by repeat (first | (with_reducible first | exact HB.out | apply below_alloc | apply pw_below_drewN | apply below_drew1) | exact HB.out)⟩⟩
                              · rw [if_neg c15] at H
                                exact absurd H (by simp)
                            · rw [if_neg c14] at H
                              exact absurd H (by simp)
                          · rw [if_neg c13] at H
                            exact absurd H (by simp)
                      · rw [if_neg c10] at H
                        have c10b0 : decide (0 < (l0.length : Int)) = false := decide_eq_false c10
                        have c10b1 : decide (0 < l0.length) = false := decide_eq_false (by omega)
                        clear c10
                        by_cases c17 : x8_4.length < 17592186044416
                        · rw [if_pos c17] at H
                          have LMc17 := Aside0.mk c17
                          clear c17
                          obtain ⟨y106, hy106⟩ : ∃ y_ : List Int, y_ = (x8_4 ++ [IntKind.u64.wrap (x6_4)]) := ⟨_, rfl⟩
                          replace H : (scullerlaw07_Arena.l1 k4 l0 a1 x5_1 (wrap64 (x6_4 + 1)) x7_1 y106 x9_6 (wrap64 (x10_4 + 1))) = some r := by first | (rw [hy106]; with_reducible exact H) | (have H2_ := (Option.bind_some _ _).symm.trans H; rw [hy106]; with_reducible exact H2_) | (have H2_ := (Option.bind_some _ _).symm.trans H; with_reducible exact H2_) | with_reducible exact H | (rw [hy106]; exact H) | exact H
                          have Ny106 := Aside0.mk hy106
                          clear hy106
                          have H' := Aside0.mk H
                          clear H
                          go_wp2_with (first | ((with_reducible refine gate_builtin (b := .append) (xs := #[.tmp 56, .tmp 58]) rfl ?_); at_builtin; refine Kd.R_append (Kd.int .u64) (w0 := w) w.heap.size rfl (.tmp 56) (.tmp 58) 37 42 (.int .u64 0) 8 rfl Try.underlying37 info42 rfl (by decide) (by omega) u8 x8_4 (IntKind.u64.wrap (x6_4)) [.int .u64 (IntKind.u64.wrap (x6_4))] (fun _ => True) (fun _ => False) rfl rfl ?aP (fun _ hk => hk.elim) ?aF ?aO ?aB ?aS ?aL ?_; (case aP => exact rfl); (case aB => exact (by repeat (first | (with_reducible first | exact HB.out | apply below_alloc | apply pw_below_drewN | apply below_drew1) | exact HB.out))); (case aF => exact (fun _ _ => trivial)); (case aO => exact (by (with_reducible repeat (first | apply Kd.R_alloc | apply Kd.R_drewN | apply Kd.R_drew)); exact HO_8.out)); (case aS => exact (below_size (by repeat (first | (with_reducible first | exact HB.out | apply below_alloc | apply pw_below_drewN | apply below_drew1) | exact HB.out)))); (case aL => have := LMc17.out; omega); intro v107 w18 ho hb hg hat; rw [← Ny106.out] at ho; have n0_ := Aside0.mk (Kd.S_after (ok := (fun _ => True)) (by (with_reducible repeat (first | apply Kd.S_alloc | apply Kd.S_drewN | apply Kd.S_drew)); exact Kd.S_mono HO_5.out (fun _ hk => ⟨trivial, hk⟩)) hg hat); have n1_ := Aside0.mk (hb); have n2_ := Aside0.mk (ho); clear HO_5; clear HB; clear HO_8; have HO_5 := n0_; have HB := n1_; have HO108 := n2_; clear n0_ n1_ n2_; clear ho hb hg hat))
                          go_roundg k4
                          case measure => have := HK1.out; have := HJ3.out; have := HJ6.out; have := HK4.out; omega
                          case rel => exact ⟨(wrap64 (x6_4 + 1)), (y106), (wrap64 (x10_4 + 1)), (by first | rfl | (simp; done) | (simp [*]; done)), (by first | rfl | (simp; done) | (simp [*]; done)), H', ⟨by have := HK1.out; have := HJ3.out; have := HJ6.out; have := HK4.out; omega⟩, ⟨by (with_reducible repeat (first | apply Kd.S_alloc | apply Kd.S_drewN | apply Kd.S_drew)); exact Kd.S_mono HO_5.out (fun _ hk => hk.2)⟩, ⟨by (with_reducible repeat (first | apply Kd.R_alloc | apply Kd.R_drewN | apply Kd.R_drew)); exact HO108.out⟩, ⟨by repeat (first | (with_reducible first | exact HB.out | apply below_alloc | apply pw_below_drewN | apply below_drew1) | exact HB.out)⟩⟩
                        · rw [if_neg c17] at H
                          exact absurd H (by simp)
                    · rw [if_neg c9] at H
                      have c9b0 : decide (x10_4 < x9_6) = false := decide_eq_false c9
                      clear c9
                      by_cases c19 : x5_1.length < 5864062014805
                      · rw [if_pos c19] at H
                        have LMc19 := Aside0.mk c19
                        clear c19
                        obtain ⟨y109, hy109⟩ : ∃ y_ : List (List Int), y_ = (x5_1 ++ [x8_4]) := ⟨_, rfl⟩
                        replace H : (scullerlaw07_Arena.l0 k4 l0 a1 y109 x6_4 (wrap64 (x7_1 + 1))) = some r := by first | (rw [hy109]; with_reducible exact H) | (have H2_ := (Option.bind_some _ _).symm.trans H; rw [hy109]; with_reducible exact H2_) | (have H2_ := (Option.bind_some _ _).symm.trans H; with_reducible exact H2_) | with_reducible exact H | (rw [hy109]; exact H) | exact H
                        have Ny109 := Aside0.mk hy109
                        clear hy109
                        have H' := Aside0.mk H
                        clear H
                        obtain ⟨Ao21, co21, eo21⟩ := Kd.R_slice HO_8.out
                        subst eo21
                        go_wp2_with (first | ((with_reducible refine gate_builtin (b := .append) (xs := #[.tmp 62, .tmp 64]) rfl ?_); at_builtin; refine Kd.S_append (Kd.slice 42 (Kd.int .u64)) (w0 := w) w.heap.size rfl (.tmp 62) (.tmp 64) 26 37 (.slice none 0 0) 24 rfl Try.underlying26 info37 rfl (by decide) (by omega) u5 x5_1 x8_4 [.slice Ao21 x8_4.length co21] (fun _ => True) (fun k_ => some k_ = (.slice Ao21 x8_4.length co21 : Value).ownBlock) rfl rfl ?aP (fun k_ hk_ => ((Kd.R_mono (ok' := fun k_ => ((fun _ => True)) k_ ∧ some k_ ≠ (u5 : Value).ownBlock) (Kd.R_apart' (HO_8.out) (Kd.S_typed HO_5.out) (by decide)) (fun k_ hk => ⟨trivial, hk.2⟩))).1 k_ hk_.symm) ?aF ?aO ?aB ?aS ?aL ?_; (case aP => exact Kd.M_row (Kd.R_mono (Kd.R_tight rfl (Kd.R_mono (ok' := fun k_ => ((fun _ => True)) k_ ∧ some k_ ≠ (u5 : Value).ownBlock) (Kd.R_apart' (HO_8.out) (Kd.S_typed HO_5.out) (by decide)) (fun k_ hk => ⟨trivial, hk.2⟩))) (fun _ h_ => h_))); (case aB => exact (by repeat (first | (with_reducible first | exact HB.out | apply below_alloc | apply pw_below_drewN | apply below_drew1) | exact HB.out))); (case aF => exact (fun _ _ => trivial)); (case aO => exact (by (with_reducible repeat (first | apply Kd.S_alloc | apply Kd.S_drewN | apply Kd.S_drew)); exact Kd.S_mono HO_5.out (fun k_ hk => ⟨trivial, fun e_ => hk e_⟩))); (case aS => exact (below_size (by repeat (first | (with_reducible first | exact HB.out | apply below_alloc | apply pw_below_drewN | apply below_drew1) | exact HB.out)))); (case aL => have := LMc19.out; omega); intro v110 w20 ho hb hg hat; rw [← Ny109.out] at ho; have n0_ := Aside0.mk (hb); have n1_ := Aside0.mk (ho); clear HB; clear HO_5; clear HO_8; have HB := n0_; have HO111 := n1_; clear n0_ n1_; clear ho hb hg hat))
                        go_roundg k4
                        case measure => have := HK1.out; have := HJ3.out; have := HJ6.out; have := HK4.out; omega
                        case rel => exact ⟨(y109), (x6_4), (wrap64 (x7_1 + 1)), (by first | rfl | (simp; done) | (simp [*]; done)), (by first | rfl | (simp; done) | (simp [*]; done)), H', ⟨by have := HK1.out; have := HJ3.out; have := HJ6.out; have := HK4.out; omega⟩, ⟨by (with_reducible repeat (first | apply Kd.S_alloc | apply Kd.S_drewN | apply Kd.S_drew)); exact HO111.out⟩, ⟨by repeat (first | (with_reducible first | exact HB.out | apply below_alloc | apply pw_below_drewN | apply below_drew1) | exact HB.out)⟩⟩
                      · rw [if_neg c19] at H
                        exact absurd H (by simp)
      · rw [if_neg c3] at H
        have c3b0 : decide (x7_1 < (wrap64 (1 + (wrap64 (Int.tmod a1 5))))) = false := decide_eq_false c3
        clear c3
        obtain rfl := Option.some.inj H
        go_wp2
        go_ret
        exact ⟨_, by first | rfl | (simp [errW_none, errW_some] <;> rfl) | (simp [*, errW_none, errW_some] <;> rfl), by (with_reducible repeat (first | apply Kd.S_alloc | apply Kd.S_drewN | apply Kd.S_drew)); exact HO_5.out, by repeat (first | (with_reducible first | exact HB.out | apply below_alloc | apply pw_below_drewN | apply below_drew1) | exact HB.out)⟩

end Go.Proofs.Ythlhnodedofibaa.F
end

section
namespace Go.Proofs.Ythlhnodedofibaa.F
open Go.RowKit Go.Proofs.YthlhnodedofibaaW.PrintWords Go.Proofs.YthlhnodedofibaaW.PrintLast Go.Proofs.YthlhnodedofibaaW.PrintMore
attribute [local go_sem] max2_int min2_int max_two min_two max_three min_three max_four min_four   -- for this text's walks alone
set_option linter.unusedVariables false
set_option linter.unusedSimpArgs false

open Go.Proofs.Ythlhnodedofibaa.H
def scullerlaw07_Arena_c.f (l0 : List Int) (a1 : Int) : Option (List (List Int)) := if bytesB l0 = true ∧ l0.length ≤ 140737488351232 ∧ 0 ≤ a1 ∧ a1 ≤ 255 then some (arenaL l0 a1) else none
theorem wrapu {z : Int} (hz : 0 ≤ z) (hz2 : z < 18446744073709551616) : IntKind.u64.wrap z = z := by
  simp [IntKind.wrap, IntKind.signed, IntKind.bits]
  omega
theorem scullerlaw07_Arena.l1_to (c : List Int) (hc : ∀ x ∈ c, 0 ≤ x ∧ x ≤ 255) (hcl : c.length ≤ 140737488351232) (n : Int) (acc : List (List Int)) (hacc : acc.length ≤ 100) (i k0 size : Nat) (hi : i ≤ 100) (hk0 : k0 ≤ 1000) (hsz : size ≤ 13) (R : Option (List (List Int)))
    (K : ∃ k, scullerlaw07_Arena.l0 k c n (acc ++ [segC c k0 size]) ((k0 + size : Nat) : Int) ((i + 1 : Nat) : Int) = R) :
    ∀ (d j : Nat), size - j = d → j ≤ size → ∃ k, scullerlaw07_Arena.l1 k c n acc ((k0 + j : Nat) : Int) (i : Int) (segC c k0 j) (size : Int) (j : Int) = R
  | 0, j, hd, hj => by
    obtain rfl : j = size := by omega
    obtain ⟨k, hk⟩ := K
    refine ⟨k + 1, ?_⟩
    simp only [scullerlaw07_Arena.l1]
    rw [if_neg (by omega), if_pos (by omega), show wrap64 ((i : Int) + 1) = ((i + 1 : Nat) : Int) from by unfold wrap64; omega, hk]
  | d + 1, j, hd, hj => by
    obtain ⟨k, hk⟩ := scullerlaw07_Arena.l1_to c hc hcl n acc hacc i k0 size hi hk0 hsz R K d (j + 1) (by omega) (by omega)
    refine ⟨k + 1, ?_⟩
    simp only [scullerlaw07_Arena.l1]
    have e1 : wrap64 (((k0 + j : Nat) : Int) + 1) = ((k0 + (j + 1) : Nat) : Int) := by unfold wrap64; omega
    have e2 : wrap64 ((j : Int) + 1) = ((j + 1 : Nat) : Int) := by unfold wrap64; omega
    rw [if_pos (by omega)]
    by_cases hc0 : (c.length : Int) > 0
    · have ht : Int.tmod ((k0 + j : Nat) : Int) (c.length : Int) = (((k0 + j) % c.length : Nat) : Int) := by
        rw [Int.tmod_eq_emod_of_nonneg (by omega)]; omega
      have hm : (k0 + j) % c.length < c.length := Nat.mod_lt _ (by omega)
      have hr : rd c (((k0 + j) % c.length : Nat) : Int) = c.getD ((k0 + j) % c.length) 0 := rfl
      have hx : 0 ≤ c.getD ((k0 + j) % c.length) 0 ∧ c.getD ((k0 + j) % c.length) 0 ≤ 255 := by
        rw [List.getD_eq_getElem?_getD, List.getElem?_eq_getElem hm]; exact hc _ (List.getElem_mem hm)
      rw [if_pos hc0, if_neg (by omega), ht, if_pos (by omega), if_pos (by omega), if_pos (by rw [segC_length]; omega), hr, wrapu hx.1 (by omega), wrapu (z := ((k0 + j : Nat) : Int)) (by omega) (by omega), wrapu (z := c.getD ((k0 + j) % c.length) 0 * 4311810305) (by omega) (by omega), wrapu (by omega) (by omega), e1, e2]
      rw [segC_succ] at hk
      exact hk
    · have hnil : c = [] := List.eq_nil_of_length_eq_zero (by omega)
      rw [if_neg hc0, if_pos (by rw [segC_length]; omega), wrapu (z := ((k0 + j : Nat) : Int)) (by omega) (by omega), e1, e2]
      rw [segC_succ] at hk
      have : wordC c (k0 + j) = ((k0 + j : Nat) : Int) := by simp [wordC, hnil]
      rw [this] at hk
      exact hk
theorem scullerlaw07_Arena.l0_to (c : List Int) (hc : ∀ x ∈ c, 0 ≤ x ∧ x ≤ 255) (hcl : c.length ≤ 140737488351232) (n : Int) (hn0 : 0 ≤ n) (hn : n ≤ 255) : ∀ (m i k0 : Nat) (acc : List (List Int)), i + m = (1 + n % 5).toNat → acc.length = i → k0 ≤ 13 * i →
    ∃ k, scullerlaw07_Arena.l0 k c n acc (k0 : Int) (i : Int) = some (acc ++ arenaC c m i k0)
  | 0, i, k0, acc, hm, ha, hk0 => ⟨1, by
    simp only [scullerlaw07_Arena.l0, arenaC, List.append_nil]
    rw [if_neg (by rw [Int.tmod_eq_emod_of_nonneg hn0]; unfold wrap64; omega)]⟩
  | m + 1, i, k0, acc, hm, ha, hk0 => by
    have hs := sizeC_le c i
    obtain ⟨k, hk⟩ := scullerlaw07_Arena.l0_to c hc hcl n hn0 hn m (i + 1) (k0 + sizeC c i) (acc ++ [segC c k0 (sizeC c i)]) (by omega) (by simp [ha]) (by omega)
    obtain ⟨k1, hk1⟩ := scullerlaw07_Arena.l1_to c hc hcl n acc (by omega) i k0 (sizeC c i) (by omega) (by omega) (by omega) _ ⟨k, hk⟩ (sizeC c i) 0 (by omega) (by omega)
    have hfin : ∃ q, scullerlaw07_Arena.j1 q c n acc (k0 : Int) (i : Int) [] (if i < c.length then c.getD i 0 % 12 else 1) = some (acc ++ arenaC c (m + 1) i k0) := by
      refine ⟨k1 + 1 + 1, ?_⟩
      have hnn : 0 ≤ (if i < c.length then c.getD i 0 % 12 else 1) ∧ (if i < c.length then c.getD i 0 % 12 else 1) < 12 := by split <;> omega
      have hsz : (sizeC c i : Int) = (if i < c.length then c.getD i 0 % 12 else 1) + (if i = 0 then 1 else 0) := by
        unfold sizeC; split <;> split <;> omega
      have hsz0 : i = 0 → (sizeC c i : Int) = (if i < c.length then c.getD i 0 % 12 else 1) + 1 := fun e => by rw [hsz, if_pos e]
      have hsz1 : ¬ i = 0 → (sizeC c i : Int) = (if i < c.length then c.getD i 0 % 12 else 1) := fun e => by rw [hsz, if_neg e]; omega
      clear hsz
      generalize (if i < c.length then c.getD i 0 % 12 else 1) = q0 at *
      simp only [scullerlaw07_Arena.j1, scullerlaw07_Arena.j2]
      rw [show segC c k0 0 = [] from rfl, List.append_assoc] at hk1
      by_cases e : (i : Int) = 0
      · rw [if_pos e, show wrap64 (q0 + 1) = (sizeC c i : Int) from by rw [hsz0 (by omega)]; unfold wrap64; omega]
        exact hk1
      · rw [if_neg e, show q0 = (sizeC c i : Int) from (hsz1 (by omega)).symm]
        exact hk1
    obtain ⟨q, hq⟩ := hfin
    refine ⟨q + 1, ?_⟩
    simp only [scullerlaw07_Arena.l0]
    rw [if_pos (by rw [Int.tmod_eq_emod_of_nonneg hn0]; unfold wrap64; omega)]
    by_cases hlt : (i : Int) < (c.length : Int)
    · have hr : rd c i = c.getD i 0 := rfl
      have hx : 0 ≤ c.getD i 0 ∧ c.getD i 0 ≤ 255 := by
        rw [List.getD_eq_getElem?_getD, List.getElem?_eq_getElem (show i < c.length by omega)]; exact hc _ (List.getElem_mem _)
      rw [if_pos hlt, if_pos (by omega), hr, Int.tmod_eq_emod_of_nonneg hx.1, show wrap64 (c.getD i 0 % 12) = c.getD i 0 % 12 from by unfold wrap64; omega]
      rw [if_pos (by omega)] at hq
      exact hq
    · rw [if_neg hlt]
      rw [if_neg (by omega)] at hq
      exact hq
theorem scullerlaw07_Arena_c.to {l0 : List Int} {a1 : Int} {r : List (List Int)} (h : scullerlaw07_Arena_c.f l0 a1 = some r) : ∃ k, scullerlaw07_Arena.f k l0 a1 = some r := by
  unfold scullerlaw07_Arena_c.f at h
  split at h
  case isFalse => cases h
  case isTrue hl =>
  obtain rfl := Option.some.inj h
  obtain ⟨hb, hl, h0, h1⟩ := hl
  obtain ⟨k, hk⟩ := scullerlaw07_Arena.l0_to l0 (bytesB_at hb) hl a1 h0 h1 (1 + (a1 % 5)).toNat 0 0 [] (by omega) rfl (by omega)
  exact ⟨k, by unfold scullerlaw07_Arena.f; simpa [arenaL] using hk⟩

theorem scullerlaw07_Arena_c.calls (A0 : Option Addr) (c0 : Nat) (l0 : List Int) (a1 : Int) (r : List (List Int)) (w : World) (hr0 : Kd.C (Kd.int .u8) w A0 l0.length l0) (hc0 : l0.length ≤ c0) (h : scullerlaw07_Arena_c.f l0 a1 = some r) :
    Calls Try.prog 13 #[.slice A0 l0.length c0, .int .u8 a1] w fun e w' => ∃ v0_ : Value, e = .returned (v0_) ∧ Kd.S (Kd.slice 42 (Kd.int .u64)) 37 w' w.heap.size (fun _ => True) v0_ r ∧ Below w.heap.size w w' := by
  obtain ⟨k_, hk_⟩ := scullerlaw07_Arena_c.to h
  exact scullerlaw07_Arena.calls k_ A0 c0 l0 a1 r w hr0 hc0 hk_

end Go.Proofs.Ythlhnodedofibaa.F
end

section
namespace Go.Proofs.Ythlhnodedofibaa.F
open Go.RowKit Go.Proofs.YthlhnodedofibaaW.PrintWords Go.Proofs.YthlhnodedofibaaW.PrintLast Go.Proofs.YthlhnodedofibaaW.PrintMore
attribute [local go_sem] max2_int min2_int max_two min_two max_three min_three max_four min_four   -- for this text's walks alone
set_option linter.unusedVariables false
set_option linter.unusedSimpArgs false

/-! ### scullerlaw12_Arena: function 23 -/
mutual
def scullerlaw12_Arena.l0 : Nat → Int → Int → List (List Int) → Int → Option ((List (List Int)))
  | 0, _, _, _, _ => none
  | k + 1, x1, x2, x7, x8 => if x8 < (wrap64 (Int.tmod x2 40)) then (if 0 ≤ (wrap64 ((x7.length : Int) - 1)) then (if (wrap64 ((x7.length : Int) - 1)) < (x7.length : Int) then (if (rd_L3 x7 (wrap64 ((x7.length : Int) - 1))).length < 17592186044416 then (scullerlaw12_Arena.l0 k x1 x2 (x7.set ((wrap64 ((x7.length : Int) - 1)) : Int).toNat ((rd_L3 x7 (wrap64 ((x7.length : Int) - 1))) ++ [IntKind.u64.wrap ((IntKind.u64.wrap (x8)) * (IntKind.u64.wrap (x1)))])) (wrap64 (x8 + 1))) else (none)) else (none)) else (none)) else (scullerlaw12_Arena.l1 k x2 x7 0)
def scullerlaw12_Arena.l1 : Nat → Int → List (List Int) → Int → Option ((List (List Int)))
  | 0, _, _, _ => none
  | k + 1, x2, x7, x9 => if x9 < (wrap64 (Int.tmod x2 7)) then (if 0 ≤ x9 then (if (x9 : Int).toNat ≤ 35184372088832 then (if x7.length < 5864062014805 then (scullerlaw12_Arena.l1 k x2 (x7 ++ [(List.replicate (x9 : Int).toNat 0)]) (wrap64 (x9 + 1))) else (none)) else (none)) else (none)) else (some x7)
end
def scullerlaw12_Arena.f (k : Nat) (l0 : List Int) (a1 : Int) (a2 : Int) : Option ((List (List Int))) := (scullerlaw07_Arena_c.f l0 a1).bind fun t101 => (scullerlaw12_Arena.l0 k a1 a2 t101 0)
theorem scullerlaw12_Arena.mono_l : ∀ k, (∀ y0 y1 y2 y3, LeO (scullerlaw12_Arena.l0 k y0 y1 y2 y3) (scullerlaw12_Arena.l0 (k + 1) y0 y1 y2 y3)) ∧ (∀ y0 y1 y2, LeO (scullerlaw12_Arena.l1 k y0 y1 y2) (scullerlaw12_Arena.l1 (k + 1) y0 y1 y2))
  | 0 => ⟨fun _ _ _ _ r h => by simp [scullerlaw12_Arena.l0] at h, fun _ _ _ r h => by simp [scullerlaw12_Arena.l1] at h⟩
  | k + 1 => by
    obtain ⟨ih0, ih1⟩ := scullerlaw12_Arena.mono_l k
    refine ⟨?_, ?_⟩
    · intro y0 y1 y2 y3
      unfold scullerlaw12_Arena.l0
      repeat' first
      | (with_reducible exact ih0 _ _ _ _)
      | (with_reducible exact ih1 _ _ _)
      | (with_reducible exact LeO.refl _)
      | (with_reducible exact LeO.none _)
      | (with_reducible refine LeO.ite ?_ ?_)
      | (with_reducible refine LeO.bind ?_ (fun _ => ?_))
      | exact ih0 _ _ _ _
      | exact ih1 _ _ _
      | exact LeO.none _
      | refine LeO.ite ?_ ?_
      | refine LeO.bind ?_ (fun _ => ?_)
    · intro y0 y1 y2
      unfold scullerlaw12_Arena.l1
      repeat' first
      | (with_reducible exact ih0 _ _ _ _)
      | (with_reducible exact ih1 _ _ _)
      | (with_reducible exact LeO.refl _)
      | (with_reducible exact LeO.none _)
      | (with_reducible refine LeO.ite ?_ ?_)
      | (with_reducible refine LeO.bind ?_ (fun _ => ?_))
      | exact ih0 _ _ _ _
      | exact ih1 _ _ _
      | exact LeO.none _
      | refine LeO.ite ?_ ?_
      | refine LeO.bind ?_ (fun _ => ?_)
theorem scullerlaw12_Arena.mono : ∀ a0 a1 a2 k, LeO (scullerlaw12_Arena.f k a0 a1 a2) (scullerlaw12_Arena.f (k + 1) a0 a1 a2) := by
  intro a0 a1 a2 k
  obtain ⟨ih0, ih1⟩ := scullerlaw12_Arena.mono_l k
  unfold scullerlaw12_Arena.f
  repeat' first
      | (with_reducible exact ih0 _ _ _ _)
      | (with_reducible exact ih1 _ _ _)
      | (with_reducible exact LeO.refl _)
      | (with_reducible exact LeO.none _)
      | (with_reducible refine LeO.ite ?_ ?_)
      | (with_reducible refine LeO.bind ?_ (fun _ => ?_))
      | exact ih0 _ _ _ _
      | exact ih1 _ _ _
      | exact LeO.none _
      | refine LeO.ite ?_ ?_
      | refine LeO.bind ?_ (fun _ => ?_)
set_option maxHeartbeats 8000000 in
set_option maxRecDepth 100000 in
theorem scullerlaw12_Arena.calls (k : Nat) (A0 : Option Addr) (c0 : Nat) (l0 : List Int) (a1 : Int) (a2 : Int) (r : List (List Int)) (w : World) (hr0 : Kd.C (Kd.int .u8) w A0 l0.length l0) (hc0 : l0.length ≤ c0) (h : scullerlaw12_Arena.f k l0 a1 a2 = some r) :
    Calls Try.prog 23 #[.slice A0 l0.length c0, .int .u8 a1, .int .u8 a2] w fun e w' => ∃ v0_ : Value, e = .returned (v0_) ∧ Kd.S (Kd.slice 42 (Kd.int .u64)) 37 w' w.heap.size (fun _ => True) v0_ r ∧ Below w.heap.size w w' := by
  have HR0 := Aside0.mk hr0
  have HC0 := Aside0.mk hc0
  clear hr0 hc0
  have HB := Aside0.mk (Below.refl w.heap.size w)
  have H : ((scullerlaw07_Arena_c.f l0 a1).bind fun t101 => (scullerlaw12_Arena.l0 k a1 a2 t101 0)) = some r := h
  clear h
  replace H := Option.bind_eq_some_iff.mp H
  obtain ⟨t101, A40, H⟩ := H
  replace H : (scullerlaw12_Arena.l0 k a1 a2 t101 0) = some r := H
  have A4 := Aside0.mk A40
  clear A40
  have H' := Aside0.mk H
  clear H
  go_enter Try.func23, Try.ntmps23
  go_wp2_with (first | ((with_reducible refine gate_callee (f := 13) rfl ?_); refine goesL_ (some 12) rfl rfl Try.func13 (by kernel_rfl) rfl #[.slice A0 l0.length c0, .int .u8 a1] rfl (by (try simp only [List.map_toArray, List.map_cons, List.map_nil]); first | done | rfl | (simp only [List.length_drop, List.length_take]; rfl)) ?_; (with_reducible refine (scullerlaw07_Arena_c.calls _ _ l0 a1 t101 _ ?side1 ?side2 A4.out).mono ?_); (case side1 => repeat (first | exact HR0.out | (with_reducible refine Kd.C_alloc ?_ _) | (with_reducible refine Kd.C_drewN ?_ _) | (with_reducible refine Kd.C_drew ?_))); (case side2 => exact HC0.out); rintro e w5 ⟨v102, rfl, ho0, hb⟩; refine ⟨_, rfl, ?_⟩; have n0_ := Aside0.mk (Kd.S_lower ho0 (below_size (by repeat (first | (with_reducible first | exact HB.out | apply below_alloc | apply pw_below_drewN | apply below_drew1) | exact HB.out)))); have n1_ := Aside0.mk (below_step (by repeat (first | (with_reducible first | exact HB.out | apply below_alloc | apply pw_below_drewN | apply below_drew1) | exact HB.out)) hb); clear HB; have HO103 := n0_; have HB := n1_; clear n0_ n1_; (try clear hb); (try clear hb2); (try clear hk); (try clear hi); (try clear ho0)))
  go_loopg [8] k (fun kq v8 w' => ∃ (x7_1 : List (List Int)) (x8_1 : Int), v8 = .int .i64 x8_1 ∧ Aside0 (scullerlaw12_Arena.l0 kq a1 a2 x7_1 x8_1 = some r) ∧ Aside0 (kq ≤ k) ∧ Aside0 (Kd.S (Kd.slice 42 (Kd.int .u64)) 37 w' w.heap.size (fun _ => True) v102 x7_1) ∧ Aside0 (Below w.heap.size w w'))
  case atStart => exact ⟨(t101), (0), (by first | rfl | (simp; done) | (simp [*]; done)), H', ⟨Nat.le_refl _⟩, ⟨by (with_reducible repeat (first | apply Kd.S_alloc | apply Kd.S_drewN | apply Kd.S_drew)); exact HO103.out⟩, ⟨by repeat (first | (with_reducible first | exact HB.out | apply below_alloc | apply pw_below_drewN | apply below_drew1) | exact HB.out)⟩⟩
  case round =>
    clear H'
    try clear c1
    try clear c2
    try clear p2
    obtain ⟨x7_1, x8_1, rfl, HA, HK1, HO_7, HB⟩ := hrel
    cases gk with
    | zero => exact absurd HA.out (by simp [scullerlaw12_Arena.l0])
    | succ k1 =>
      have H := HA.out
      clear HA
      simp only [scullerlaw12_Arena.l0] at H
      by_cases c6 : x8_1 < (wrap64 (Int.tmod a2 40))
      · rw [if_pos c6] at H
        have c6b0 : decide (x8_1 < (wrap64 (Int.tmod a2 40))) = true := decide_eq_true c6
        clear c6
        obtain ⟨ji7, hji7⟩ : ∃ j_ : Int, (wrap64 ((x7_1.length : Int) - 1)) = j_ := ⟨_, rfl⟩
        replace H : (if 0 ≤ (ji7) then (if (ji7) < (x7_1.length : Int) then (if (rd_L3 x7_1 (ji7)).length < 17592186044416 then (scullerlaw12_Arena.l0 k1 a1 a2 (x7_1.set ((ji7) : Int).toNat ((rd_L3 x7_1 (ji7)) ++ [IntKind.u64.wrap ((IntKind.u64.wrap (x8_1)) * (IntKind.u64.wrap (a1)))])) (wrap64 (x8_1 + 1))) else (none)) else (none)) else (none)) = some r := by first | (rw [hji7] at H; exact H) | (simp only [hji7] at H ⊢; exact H)
        have hji7w : (IntKind.i64.wrap ((x7_1.length : Int) - 1)) = ji7 := (i64_w _).trans hji7
        by_cases c8 : 0 ≤ (ji7)
        · rw [if_pos c8] at H
          have c8b0 : decide (0 ≤ (ji7)) = true := decide_eq_true c8
          clear c8
          by_cases c9 : (ji7) < (x7_1.length : Int)
          · rw [if_pos c9] at H
            have c9b0 : decide ((ji7) < (x7_1.length : Int)) = true := decide_eq_true c9
            clear c9
            by_cases c10 : (rd_L3 x7_1 (ji7)).length < 17592186044416
            · rw [if_pos c10] at H
              have LMc10 := Aside0.mk c10
              clear c10
              obtain ⟨y105, hy105⟩ : ∃ y_ : List Int, y_ = ((rd_L3 x7_1 (ji7)) ++ [IntKind.u64.wrap ((IntKind.u64.wrap (x8_1)) * (IntKind.u64.wrap (a1)))]) := ⟨_, rfl⟩
              replace H : (scullerlaw12_Arena.l0 k1 a1 a2 (x7_1.set ((ji7) : Int).toNat y105) (wrap64 (x8_1 + 1))) = some r := by first | (rw [hy105]; with_reducible exact H) | (have H2_ := (Option.bind_some _ _).symm.trans H; rw [hy105]; with_reducible exact H2_) | (have H2_ := (Option.bind_some _ _).symm.trans H; with_reducible exact H2_) | with_reducible exact H | (rw [hy105]; exact H) | exact H
              have Ny105 := Aside0.mk hy105
              clear hy105
              obtain ⟨y108, hy108⟩ : ∃ y_ : List (List Int), y_ = (x7_1.set ((ji7) : Int).toNat y105) := ⟨_, rfl⟩
              replace H : (scullerlaw12_Arena.l0 k1 a1 a2 y108 (wrap64 (x8_1 + 1))) = some r := by first | (rw [hy108]; with_reducible exact H) | (have H2_ := (Option.bind_some _ _).symm.trans H; rw [hy108]; with_reducible exact H2_) | (have H2_ := (Option.bind_some _ _).symm.trans H; with_reducible exact H2_) | with_reducible exact H | (rw [hy108]; exact H) | exact H
              have Ny108 := Aside0.mk hy108
              clear hy108
              have H' := Aside0.mk H
              clear H
              obtain ⟨Ao12, co12, eo12⟩ := Kd.S_slice HO_7.out
              subst eo12
              have p104 : 0 ≤ ((ji7) : Int) := of_decide_eq_true (by first | (with_reducible assumption) | assumption)
              have q104 : (ji7) < (x7_1.length : Int) := of_decide_eq_true (by first | (with_reducible assumption) | assumption)
              obtain ⟨ad104, A104_0, c104_0, e104, hx104_0, hl104_0, hi104_0⟩ := at_L3 (Kd.S_reads' HO_7.out).2.2 (ji7) p104 q104
              cases e104
              obtain ⟨ce104, hce104, hMe104, hcc104⟩ := Kd.S_get HO_7.out [] (ji7) p104 (by first | exact q104 | exact of_decide_eq_true (by first | (with_reducible assumption) | assumption) | (have e_ := (Kd.S_reads' HO_7.out).1; omega))
              obtain ⟨ve104_0, rfl, ge104_0⟩ := hMe104
              have hv104_0 := hcc104 0 _ rfl
              rw [Nat.add_zero, show ((Kd.slice 42 (Kd.int .u64))).sz = 1 from rfl, Nat.mul_one] at hv104_0
              replace hv104_0 := Option.some.inj (hv104_0.symm.trans hx104_0)
              rw [hv104_0] at ge104_0
              have HL104_0 := Aside0.mk (show Kd.R (Kd.int .u64) 42 _ _ _ _ (rd_L3 x7_1 (ji7)) from ge104_0)
              clear hv104_0 ge104_0
              have HX104_0 := Aside0.mk hx104_0
              clear hcc104 hce104
              have HR104_0 := Aside0.mk hi104_0
              have HC104_0 := Aside0.mk hl104_0
              clear hi104_0 hl104_0
              replace p104 := eq_true p104
              replace q104 := eq_true q104
              obtain ⟨go13, co13, eo13, gb13, gl13, cl13, HG13⟩ := Kd.S_form HO_7.out (by have h_ : ((ji7) : Int) < ((x7_1.length : Int) : Int) := of_decide_eq_true (by first | (with_reducible assumption) | assumption); have h2_ : 0 ≤ ((ji7) : Int) := (of_decide_eq_true (by first | (with_reducible assumption) | assumption)); omega)
              (first | cases eo13 | (injection eo13 with ea_ en_ ec_; (first | subst ea_ | (injection ea_ with ea_; subst ea_)); subst ec_; clear en_))
              have GB13 := Aside0.mk gb13
              have GG13 := Aside0.mk HG13
              clear gb13 gl13 HG13
              (first | simp only [add_plain] at hx104_0 | skip)
              obtain ⟨oki13, ce13, hcl13, hM13, hcc13, _, _, hH13⟩ := Kd.S_elem HO_7.out [] ((ji7) : Int) (of_decide_eq_true (by first | (with_reducible assumption) | assumption)) (by have h_ : ((ji7) : Int) < ((x7_1.length : Int) : Int) := of_decide_eq_true (by first | (with_reducible assumption) | assumption); first | exact h_ | (have e_ := (Kd.S_reads' HO_7.out).1; omega) | simpa using h_)
              obtain ⟨ve13_0, rfl, ge13_0⟩ := hM13
              have hv13 := hcc13 0 _ rfl
              have hX13 := HX104_0.out
              (try simp only [add_plain] at hX13)
              (try simp only [Nat.add_zero] at hv13)
              (try rw [show ((Kd.slice 42 (Kd.int .u64))).sz = 1 from rfl, Nat.mul_one] at hv13)
              replace hv13 := Option.some.inj (hv13.symm.trans hX13)
              subst hv13
              clear hX13 hcc13 hcl13
              have UU13 := Aside0.mk (show Kd.R (Kd.int .u64) 42 _ w.heap.size oki13 (.slice A104_0 (rd_L3 x7_1 (ji7)).length c104_0) (rd_L3 x7_1 (ji7)) from ge13_0)
              have HH13 := Aside0.mk hH13
              have HN13 := Aside0.mk (Kd.S_reads' HO_7.out).1
              clear hH13 ge13_0
              go_wp2_with (first | ((with_reducible refine gate_builtin (b := .append) (xs := #[.tmp 29, .tmp 35]) rfl ?_); at_builtin; refine Kd.R_append (Kd.int .u64) (w0 := w) w.heap.size rfl (.tmp 29) (.tmp 35) 37 42 (.int .u64 0) 8 rfl Try.underlying37 info42 rfl (by decide) (by omega) (.slice A104_0 (rd_L3 x7_1 (ji7)).length c104_0) (rd_L3 x7_1 (ji7)) (IntKind.u64.wrap ((IntKind.u64.wrap (x8_1)) * (IntKind.u64.wrap (a1)))) [.int .u64 (IntKind.u64.wrap ((IntKind.u64.wrap (x8_1)) * (IntKind.u64.wrap (a1))))] (fun k_ => oki13 k_ ∨ ((fun _ => True)) k_ ∧ wr.heap.size ≤ k_) (fun _ => False) rfl rfl ?aP (fun _ hk => hk.elim) ?aF ?aO ?aB ?aS ?aL ?_; (case aP => exact rfl); (case aB => exact (by repeat (first | (with_reducible first | exact HB.out | apply below_alloc | apply pw_below_drewN | apply below_drew1) | exact HB.out))); (case aF => exact (fun k_ hk => .inr ⟨trivial, hk⟩)); (case aO => exact (by (with_reducible repeat (first | apply Kd.R_alloc | apply Kd.R_drewN | apply Kd.R_drew)); exact Kd.R_mono UU13.out (fun _ hk => .inl hk))); (case aS => exact (below_size (by repeat (first | (with_reducible first | exact HB.out | apply below_alloc | apply pw_below_drewN | apply below_drew1) | exact HB.out)))); (case aL => have := LMc10.out; omega); intro v106 w14 ho hb hg hat; rw [← Ny105.out] at ho; have n0_ := Aside0.mk (hb); have n1_ := Aside0.mk (Kd.H_grown (Kd.H_widen (by repeat (first | exact HH13.out | refine Kd.H_alloc ?_ _ | refine Kd.H_drewN ?_ _ | refine Kd.H_drew ?_))) hg (fun k_ e_ => .inl (UU13.out.1 k_ e_))); have n2_ := Aside0.mk (ho); clear HB; clear HH13; clear HO_7; clear UU13; clear HL104_0; have HB := n0_; have HH13 := n1_; have HO107 := n2_; clear n0_ n1_ n2_; clear ho hb hg hat; have p11 : 0 ≤ ((ji7) : Int) := of_decide_eq_true (by first | (with_reducible assumption) | assumption); have q11 : ((ji7) : Int) < ((x7_1.length : Int) : Int) := of_decide_eq_true (by first | (with_reducible assumption) | assumption); replace p11 := eq_true p11; replace q11 := eq_true q11; obtain ⟨Ao17, co17, eo17⟩ := Kd.R_slice HO107.out; subst eo17; obtain ⟨_, _, hraw15, _, _, hcc15, _⟩ := Kd.H_raw HH13.out (of_decide_eq_true (by first | (with_reducible assumption) | assumption)) (by have h_ : ((ji7) : Int) < ((x7_1.length : Int) : Int) := of_decide_eq_true (by first | (with_reducible assumption) | assumption); first | exact h_ | (have e_ := (HN13.out); omega) | simpa using h_); obtain ⟨_, hfr15⟩ := Kd.H_at HH13.out (of_decide_eq_true (by first | (with_reducible assumption) | assumption)) (by have h_ : ((ji7) : Int) < ((x7_1.length : Int) : Int) := of_decide_eq_true (by first | (with_reducible assumption) | assumption); first | exact h_ | (have e_ := (HN13.out); omega) | simpa using h_); have hx15_0 := hcc15 0 _ rfl; have hf15_0 := hfr15 0; (try simp only [Nat.add_zero] at hx15_0 hf15_0); (try rw [show ((Kd.slice 42 (Kd.int .u64))).sz = 1 from rfl, Nat.mul_one] at hx15_0); (try rw [show ((Kd.slice 42 (Kd.int .u64))).sz = 1 from rfl, Nat.mul_one] at hf15_0); have HP15 := Kd.S_seg0 HH13.out (of_decide_eq_true (by first | (with_reducible assumption) | assumption)) (by have h_ : ((ji7) : Int) < ((x7_1.length : Int) : Int) := of_decide_eq_true (by first | (with_reducible assumption) | assumption); first | exact h_ | (have e_ := (HN13.out); omega) | simpa using h_) (seg := [.slice Ao17 y105.length co17]) (j := 0) (show 1 ≤ 1 from by decide) (x' := y105) (Kd.M_row HO107.out) (fun _ hk => hk); (try simp only [show ((Kd.slice 42 (Kd.int .u64))).sz = 1 from rfl, Nat.mul_one, Nat.add_zero] at HP15); clear hcc15 hfr15) | ((with_reducible refine gate_store (t := 37) (p := 37) rfl ?_); refine store_event (t := 37) (p := 37) (v := ?vo_w16) (w1 := (w14.setCell ⟨go13, ((ji7) : Int).toNat, none⟩ (.slice Ao17 y105.length co17))) ?hg ?ho ?hn ?hr ?_; (case ho => rfl); (case hg => rfl); (case hn => rfl); (case hr => first | (go_simp; done) | (go_simp; rfl)); intro w16 hw; have hg : w14.grownBy w16 (some go13) := (by rw [hw]; exact HP15.2); have hp_ : Kd.S (Kd.slice 42 (Kd.int .u64)) 37 w16 w.heap.size (fun _ => True) (.slice (some ⟨go13, 0, none⟩) x7_1.length co12) y108 := (by rw [hw, Ny108.out]; exact HP15.1); clear HP15; have n0_ := Aside0.mk ((by rw [hw]; exact below_set HB.out GB13.out : Below w.heap.size w w16)); have n1_ := Aside0.mk (hp_); clear HB; clear HO107; clear HH13; have HB := n0_; have HO_7 := n1_; clear n0_ n1_; clear hg hw hp_ hraw15))
              go_roundg k1
              case measure => have := HK1.out; omega
              case rel => exact ⟨(y108), (wrap64 (x8_1 + 1)), (by first | rfl | (simp; done) | (simp [*]; done)), H', ⟨by have := HK1.out; omega⟩, ⟨by (with_reducible repeat (first | apply Kd.S_alloc | apply Kd.S_drewN | apply Kd.S_drew)); exact HO_7.out⟩, ⟨by repeat (first | (with_reducible first | exact HB.out | apply below_alloc | apply pw_below_drewN | apply below_drew1) | exact HB.out)⟩⟩
            · rw [if_neg c10] at H
              exact absurd H (by simp)
          · rw [if_neg c9] at H
            exact absurd H (by simp)
        · rw [if_neg c8] at H
          exact absurd H (by simp)
      · rw [if_neg c6] at H
        have c6b0 : decide (x8_1 < (wrap64 (Int.tmod a2 40))) = false := decide_eq_false c6
        clear c6
        have H' := Aside0.mk H
        clear H
        go_wp2
        go_loopg [7, 9] k1 (fun kq v7 v9 w' => ∃ (x7_2 : List (List Int)) (x9_2 : Int), v9 = .int .i64 x9_2 ∧ Aside0 (scullerlaw12_Arena.l1 kq a2 x7_2 x9_2 = some r) ∧ Aside0 (kq ≤ k1) ∧ Aside0 (Kd.S (Kd.slice 42 (Kd.int .u64)) 37 w' w.heap.size (fun _ => True) v7 x7_2) ∧ Aside0 (Below w.heap.size w w'))
        case atStart => exact ⟨(x7_1), (0), (by first | rfl | (simp; done) | (simp [*]; done)), H', ⟨Nat.le_refl _⟩, ⟨by (with_reducible repeat (first | apply Kd.S_alloc | apply Kd.S_drewN | apply Kd.S_drew)); exact HO_7.out⟩, ⟨by repeat (first | (with_reducible first | exact HB.out | apply below_alloc | apply pw_below_drewN | apply below_drew1) | exact HB.out)⟩⟩
        case round =>
          clear H'
          try clear c1
          try clear p1
          try clear q1
          try clear hx1
          try clear c2
          try clear p2
          try clear c6
          try clear c6b0
          try clear p6
          try clear c8
          try clear c8b0
          try clear c9
          try clear c9b0
          try clear c10
          try clear p10
          try clear q10
          try clear hx10
          try clear p11
          try clear q11
          try clear c13
          try clear c15
          try clear hx15
          try clear hf15
          try clear hx104_0
          try clear hx15_0
          try clear p104
          try clear p11
          try clear p2
          try clear q104
          try clear q11
          obtain ⟨x7_2, x9_2, rfl, HA, HK2, HO_7, HB⟩ := hrel
          cases gk with
          | zero => exact absurd HA.out (by simp [scullerlaw12_Arena.l1])
          | succ k2 =>
            have H := HA.out
            clear HA
            simp only [scullerlaw12_Arena.l1] at H
            by_cases c18 : x9_2 < (wrap64 (Int.tmod a2 7))
            · rw [if_pos c18] at H
              have c18b0 : decide (x9_2 < (wrap64 (Int.tmod a2 7))) = true := decide_eq_true c18
              clear c18
              by_cases c19 : 0 ≤ x9_2
              · rw [if_pos c19] at H
                have c19b0 := eq_true c19
                have c19b1 : decide (0 ≤ x9_2) = true := decide_eq_true c19
                clear c19
                by_cases c20 : (x9_2 : Int).toNat ≤ 35184372088832
                · rw [if_pos c20] at H
                  have c20b0 := eq_true c20
                  have c20b1 : decide ((x9_2 : Int).toNat ≤ 35184372088832) = true := decide_eq_true c20
                  clear c20
                  obtain ⟨y109, hy109⟩ : ∃ y_ : List Int, y_ = (List.replicate (x9_2 : Int).toNat 0) := ⟨_, rfl⟩
                  replace H : (if x7_2.length < 5864062014805 then (scullerlaw12_Arena.l1 k2 a2 (x7_2 ++ [y109]) (wrap64 (x9_2 + 1))) else (none)) = some r := by first | (rw [hy109]; with_reducible exact H) | (have H2_ := (Option.bind_some _ _).symm.trans H; rw [hy109]; with_reducible exact H2_) | (have H2_ := (Option.bind_some _ _).symm.trans H; with_reducible exact H2_) | with_reducible exact H | (rw [hy109]; exact H) | exact H
                  have Ny109 := Aside0.mk hy109
                  clear hy109
                  by_cases c21 : x7_2.length < 5864062014805
                  · rw [if_pos c21] at H
                    have LMc21 := Aside0.mk c21
                    clear c21
                    obtain ⟨y112, hy112⟩ : ∃ y_ : List (List Int), y_ = (x7_2 ++ [y109]) := ⟨_, rfl⟩
                    replace H : (scullerlaw12_Arena.l1 k2 a2 y112 (wrap64 (x9_2 + 1))) = some r := by first | (rw [hy112]; with_reducible exact H) | (have H2_ := (Option.bind_some _ _).symm.trans H; rw [hy112]; with_reducible exact H2_) | (have H2_ := (Option.bind_some _ _).symm.trans H; with_reducible exact H2_) | with_reducible exact H | (rw [hy112]; exact H) | exact H
                    have Ny112 := Aside0.mk hy112
                    clear hy112
                    have H' := Aside0.mk H
                    clear H
                    go_wp2_with (first | ((with_reducible refine gate_dst (N := 47) rfl ?_); refine Kd.R_make (Kd.int .u64) _ 42 rfl (N := 47) rfl 37 _ _ rfl x9_2 rfl rfl Try.underlying37 (.int .u64 0) 8 info42 rfl (by decide) (by omega) 0 (ok := fun _ => True) (okp := fun _ => True) rfl (fun _ hk => hk) trivial (of_decide_eq_true (by first | (with_reducible assumption) | assumption)) (Nat.le_trans (Nat.mul_le_mul_right _ (of_decide_eq_true (by first | (with_reducible assumption) | assumption) : x9_2.toNat ≤ 35184372088832)) (by omega)) (Below.refl _ _) (Nat.le_refl _) ?_; intro v110 w22 ho23 hb hg_ hnew_; clear hg_ hnew_; (first | rw [← Ny109.out] at ho23 | (simp only [Int.reduceToNat] at ho23; rw [← Ny109.out] at ho23)); have n0_ := Aside0.mk (Kd.S_elder' (by (with_reducible repeat (first | apply Kd.S_alloc | apply Kd.S_drewN | apply Kd.S_drew)); exact HO_7.out) (Kd.R_base ho23) hb); have n1_ := Aside0.mk (Kd.R_lower ho23 (below_size (by repeat (first | (with_reducible first | exact HB.out | apply below_alloc | apply pw_below_drewN | apply below_drew1) | exact HB.out)))); have n2_ := Aside0.mk (below_step (by repeat (first | (with_reducible first | exact HB.out | apply below_alloc | apply pw_below_drewN | apply below_drew1) | exact HB.out)) hb); clear HO_7; clear HB; have HO_7 := n0_; have HO111 := n1_; have HB := n2_; clear n0_ n1_ n2_; clear hb ho23; obtain ⟨Ao25, co25, eo25⟩ := Kd.R_slice HO111.out; subst eo25) | ((with_reducible refine gate_builtin (b := .append) (xs := #[.tmp 45, .tmp 48]) rfl ?_); at_builtin; refine Kd.S_append (Kd.slice 42 (Kd.int .u64)) (w0 := w) w.heap.size rfl (.tmp 45) (.tmp 48) 26 37 (.slice none 0 0) 24 rfl Try.underlying26 info37 rfl (by decide) (by omega) u7 x7_2 y109 [.slice Ao25 y109.length co25] (fun _ => True) (fun k_ => some k_ = (.slice Ao25 y109.length co25 : Value).ownBlock) rfl rfl ?aP (fun k_ hk_ => ((Kd.R_mono (ok' := fun k_ => ((fun _ => True)) k_ ∧ some k_ ≠ (u7 : Value).ownBlock) (Kd.R_apart' (HO111.out) (Kd.S_typed HO_7.out) (by decide)) (fun k_ hk => ⟨trivial, hk.2⟩))).1 k_ hk_.symm) ?aF ?aO ?aB ?aS ?aL ?_; (case aP => exact Kd.M_row (Kd.R_mono (Kd.R_tight rfl (Kd.R_mono (ok' := fun k_ => ((fun _ => True)) k_ ∧ some k_ ≠ (u7 : Value).ownBlock) (Kd.R_apart' (HO111.out) (Kd.S_typed HO_7.out) (by decide)) (fun k_ hk => ⟨trivial, hk.2⟩))) (fun _ h_ => h_))); (case aB => exact (by repeat (first | (with_reducible first | exact HB.out | apply below_alloc | apply pw_below_drewN | apply below_drew1) | exact HB.out))); (case aF => exact (fun _ _ => trivial)); (case aO => exact (by (with_reducible repeat (first | apply Kd.S_alloc | apply Kd.S_drewN | apply Kd.S_drew)); exact Kd.S_mono HO_7.out (fun k_ hk => ⟨trivial, fun e_ => hk.2 e_⟩))); (case aS => exact (below_size (by repeat (first | (with_reducible first | exact HB.out | apply below_alloc | apply pw_below_drewN | apply below_drew1) | exact HB.out)))); (case aL => have := LMc21.out; omega); intro v113 w24 ho hb hg hat; rw [← Ny112.out] at ho; have n0_ := Aside0.mk (hb); have n1_ := Aside0.mk (ho); clear HB; clear HO_7; clear HO111; have HB := n0_; have HO114 := n1_; clear n0_ n1_; clear ho hb hg hat))
                    go_roundg k2
                    case measure => have := HK1.out; have := HK2.out; omega
                    case rel => exact ⟨(y112), (wrap64 (x9_2 + 1)), (by first | rfl | (simp; done) | (simp [*]; done)), H', ⟨by have := HK1.out; have := HK2.out; omega⟩, ⟨by (with_reducible repeat (first | apply Kd.S_alloc | apply Kd.S_drewN | apply Kd.S_drew)); exact HO114.out⟩, ⟨by repeat (first | (with_reducible first | exact HB.out | apply below_alloc | apply pw_below_drewN | apply below_drew1) | exact HB.out)⟩⟩
                  · rw [if_neg c21] at H
                    exact absurd H (by simp)
                · rw [if_neg c20] at H
                  exact absurd H (by simp)
              · rw [if_neg c19] at H
                exact absurd H (by simp)
            · rw [if_neg c18] at H
              have c18b0 : decide (x9_2 < (wrap64 (Int.tmod a2 7))) = false := decide_eq_false c18
              clear c18
              obtain rfl := Option.some.inj H
              go_wp2
              go_ret
              exact ⟨_, by first | rfl | (simp [errW_none, errW_some] <;> rfl) | (simp [*, errW_none, errW_some] <;> rfl), by (with_reducible repeat (first | apply Kd.S_alloc | apply Kd.S_drewN | apply Kd.S_drew)); exact HO_7.out, by repeat (first | (with_reducible first | exact HB.out | apply below_alloc | apply pw_below_drewN | apply below_drew1) | exact HB.out)⟩

end Go.Proofs.Ythlhnodedofibaa.F
end

section
/- The statements' own arenas of chapter 12: they fit. No program in sight. -/
namespace Go.Proofs.Ythlhnodedofibaa.H
set_option linter.unusedVariables false
set_option linter.unusedSimpArgs false
def addC (n : Int) (k : Nat) : List Int := (List.range k).map fun (i : Nat) => (i : Int) * n
def zerosC (k : Nat) : List (List Int) := (List.range k).map fun i => List.replicate i (0 : Int)
def arena12L (c : List Int) (n m : Int) : List (List Int) :=
  (arenaL c n).dropLast ++ [(arenaL c n).getLastD [] ++ addC n (m % 40).toNat] ++ zerosC (m % 7).toNat
theorem addC_succ (n : Int) (k : Nat) : addC n (k + 1) = addC n k ++ [(k : Int) * n] := by simp [addC, List.range_succ]
theorem addC_length (n : Int) (k : Nat) : (addC n k).length = k := by simp [addC]
theorem zerosC_succ (k : Nat) : zerosC (k + 1) = zerosC k ++ [List.replicate k 0] := by simp [zerosC, List.range_succ]
theorem zerosC_length (k : Nat) : (zerosC k).length = k := by simp [zerosC]
theorem wordsL_append (a b : List (List Int)) : wordsL (a ++ b) = wordsL a + wordsL b := by simp [wordsL]
theorem wordsL_one (s : List Int) : wordsL [s] = s.length := by simp [wordsL]
theorem wordsL_zeros : ∀ k, k ≤ 7 → wordsL (zerosC k) ≤ 6 * k
  | 0, _ => by simp [zerosC, wordsL]
  | k + 1, h => by
    have := wordsL_zeros k (by omega)
    rw [zerosC_succ, wordsL_append, wordsL_one, List.length_replicate]; omega
theorem arenaL_last (c : List Int) {n : Int} (h0 : 0 ≤ n) : (arenaL c n).dropLast ++ [(arenaL c n).getLastD []] = arenaL c n := by
  have h := arenaL_length c h0
  generalize arenaL c n = a at *
  have hne : a ≠ [] := by rintro rfl; simp at h
  rw [List.getLastD_eq_getLast?, List.getLast?_eq_some_getLast hne]
  simpa using List.dropLast_concat_getLast hne
theorem arena12L_length (c : List Int) {n m : Int} (h0 : 0 ≤ n) (hm : 0 ≤ m) : 1 ≤ (arena12L c n m).length ∧ (arena12L c n m).length ≤ 11 := by
  have h := arenaL_length c h0
  unfold arena12L
  simp only [List.length_append, List.length_dropLast, List.length_singleton, zerosC_length]
  omega
theorem arena12L_words (c : List Int) {n m : Int} (h0 : 0 ≤ n) (hm : 0 ≤ m) : wordsL (arena12L c n m) ≤ 141 := by
  have h := arenaL_words c h0
  have hz := wordsL_zeros (m % 7).toNat (by omega)
  rw [← arenaL_last c h0, wordsL_append, wordsL_one] at h
  unfold arena12L
  rw [wordsL_append, wordsL_append, wordsL_one, List.length_append, addC_length]
  omega
theorem u64B_mk {x : Int} (h0 : 0 ≤ x) (h1 : x < 18446744073709551616) : u64B x = true := by
  have e : u64B x = (decide (0 ≤ x) && decide (x < 18446744073709551616)) := rfl
  rw [e, decide_eq_true h0, decide_eq_true h1]
  rfl
theorem arena12L_u64 {c : List Int} (hc : bytesB c = true) {n m : Int} (h0 : 0 ≤ n) (h1 : n ≤ 255) (hm : 0 ≤ m) : ∀ s ∈ arena12L c n m, ∀ x ∈ s, u64B x = true := by
  have hu := arenaL_u64 hc h0
  rw [← arenaL_last c h0] at hu
  intro s hs x hx
  simp only [arena12L, List.mem_append, List.mem_singleton] at hs
  rcases hs with (hs | rfl) | hs
  · exact hu s (by simp [hs]) x hx
  · rcases List.mem_append.1 hx with hx | hx
    · exact hu _ (by simp) x hx
    · simp only [addC, List.mem_map, List.mem_range] at hx
      obtain ⟨i, hi, rfl⟩ := hx
      have h2 : (i : Int) * n ≤ 40 * 255 := Int.mul_le_mul (by omega) (by omega) (by omega) (by omega)
      have h3 : 0 ≤ (i : Int) * n := Int.mul_nonneg (by omega) (by omega)
      exact u64B_mk h3 (by omega)
  · simp only [zerosC, List.mem_map, List.mem_range] at hs
    obtain ⟨i, hi, rfl⟩ := hs
    rw [(List.mem_replicate.1 hx).2]
    rfl
theorem arena12L_first (c : List Int) {n m : Int} (h0 : 0 ≤ n) (hm : 0 ≤ m) : 1 ≤ (sizesL (arena12L c n m)).getD 0 0 := by
  have h := arenaL_first c h0
  have hlen := arenaL_length c h0
  rw [← arenaL_last c h0] at h
  unfold arena12L
  generalize (arenaL c n).dropLast = d at *
  generalize (arenaL c n).getLastD [] = e at *
  match d with
  | [] => simp [sizesL] at h ⊢; omega
  | s :: d => simpa [sizesL] using h
theorem arena12L_fits (c : List Int) {n m : Int} (h0 : 0 ≤ n) (hm : 0 ≤ m) : fitsB (sizesL (arena12L c n m)) = true := by
  have h1 := arena12L_length c h0 hm
  have h2 := arena12L_words c h0 hm
  exact fitsB_of (by rw [sizesL_length]; omega) (by rw [sizesL_length]; omega) (arena12L_first c h0 hm) (sizesL_nonneg _) (by rw [sizesL_sum]; omega)
theorem arena12L_ok {c : List Int} (hc : bytesB c = true) {n m : Int} (h0 : 0 ≤ n) (h1 : n ≤ 255) (hm : 0 ≤ m) : okA (arena12L c n m) = true :=
  okA_of (by have := arena12L_length c h0 hm; omega) (by have := arena12L_words c h0 hm; omega) (arena12L_u64 hc h0 h1 hm)
theorem arena12L_small (c : List Int) {n m : Int} (h0 : 0 ≤ n) (hm : 0 ≤ m) : smallA (arena12L c n m) = true := by
  have h1 := arena12L_length c h0 hm
  have h2 := arena12L_words c h0 hm
  simp only [smallA, Bool.and_eq_true, decide_eq_true_eq, List.all_eq_true]
  exact ⟨by omega, fun s hs => by have := mem_wordsL hs; omega⟩
end Go.Proofs.Ythlhnodedofibaa.H
end

section
namespace Go.Proofs.Ythlhnodedofibaa.F
open Go.RowKit Go.Proofs.YthlhnodedofibaaW.PrintWords Go.Proofs.YthlhnodedofibaaW.PrintLast Go.Proofs.YthlhnodedofibaaW.PrintMore
attribute [local go_sem] max2_int min2_int max_two min_two max_three min_three max_four min_four   -- for this text's walks alone
set_option linter.unusedVariables false
set_option linter.unusedSimpArgs false

open Go.Proofs.Ythlhnodedofibaa.H
def scullerlaw12_Arena_c.f (l0 : List Int) (a1 : Int) (a2 : Int) : Option (List (List Int)) := if bytesB l0 = true ∧ l0.length ≤ 140737488351232 ∧ 0 ≤ a1 ∧ a1 ≤ 255 ∧ 0 ≤ a2 ∧ a2 ≤ 255 then some (arena12L l0 a1 a2) else none
theorem scullerlaw12_Arena.l1_to (m : Int) (hm0 : 0 ≤ m) (hm : m ≤ 255) (x : List (List Int)) (hx : x.length ≤ 100) : ∀ (d i : Nat), (m % 7).toNat - i = d → i ≤ (m % 7).toNat → ∃ k, scullerlaw12_Arena.l1 k m (x ++ zerosC i) (i : Int) = some (x ++ zerosC (m % 7).toNat)
  | 0, i, hd, hi => ⟨1, by
    obtain rfl : i = (m % 7).toNat := by omega
    rw [scullerlaw12_Arena.l1, Int.tmod_eq_emod_of_nonneg hm0, if_neg (by unfold wrap64; omega)]⟩
  | d + 1, i, hd, hi => by
    obtain ⟨k, hk⟩ := scullerlaw12_Arena.l1_to m hm0 hm x hx d (i + 1) (by omega) (by omega)
    refine ⟨k + 1, ?_⟩
    rw [zerosC_succ] at hk
    rw [scullerlaw12_Arena.l1, Int.tmod_eq_emod_of_nonneg hm0, if_pos (by unfold wrap64; omega), if_pos (by omega), if_pos (by omega), if_pos (by rw [List.length_append, zerosC_length]; omega), List.append_assoc, Int.toNat_natCast, show wrap64 ((i : Int) + 1) = ((i + 1 : Nat) : Int) from by unfold wrap64; omega]
    exact hk
theorem scullerlaw12_Arena.l0_to (n m : Int) (hn0 : 0 ≤ n) (hn : n ≤ 255) (hm0 : 0 ≤ m) (hm : m ≤ 255) (x : List (List Int)) (e : List Int) (hx : x.length ≤ 50) (he : e.length ≤ 1000) : ∀ (d i : Nat), (m % 40).toNat - i = d → i ≤ (m % 40).toNat →
    ∃ k, scullerlaw12_Arena.l0 k n m (x ++ [e ++ addC n i]) (i : Int) = some (x ++ [e ++ addC n (m % 40).toNat] ++ zerosC (m % 7).toNat)
  | 0, i, hd, hi => by
    obtain rfl : i = (m % 40).toNat := by omega
    obtain ⟨k, hk⟩ := scullerlaw12_Arena.l1_to m hm0 hm (x ++ [e ++ addC n (m % 40).toNat]) (by simp; omega) (m % 7).toNat 0 (by omega) (by omega)
    refine ⟨k + 1, ?_⟩
    rw [scullerlaw12_Arena.l0, Int.tmod_eq_emod_of_nonneg hm0, if_neg (by unfold wrap64; omega)]
    rw [show zerosC 0 = [] from rfl, List.append_nil] at hk
    exact hk
  | d + 1, i, hd, hi => by
    obtain ⟨k, hk⟩ := scullerlaw12_Arena.l0_to n m hn0 hn hm0 hm x e hx he d (i + 1) (by omega) (by omega)
    refine ⟨k + 1, ?_⟩
    have hl : (x ++ [e ++ addC n i]).length = x.length + 1 := by simp
    have e1 : wrap64 (((x ++ [e ++ addC n i]).length : Int) - 1) = (x.length : Int) := by rw [hl]; unfold wrap64; omega
    have hr : rd_L3 (x ++ [e ++ addC n i]) (x.length : Int) = e ++ addC n i := by
      unfold rd_L3
      rw [getD_toNat _ _ x.length (by simp)]
      simp
    have h2 : (i : Int) * n ≤ 40 * 255 := Int.mul_le_mul (by omega) (by omega) (by omega) (by omega)
    have h3 : 0 ≤ (i : Int) * n := Int.mul_nonneg (by omega) (by omega)
    have wu : ∀ z : Int, 0 ≤ z → z < 18446744073709551616 → IntKind.u64.wrap z = z := fun z hz hz2 => wrapu hz hz2
    rw [addC_succ] at hk
    rw [scullerlaw12_Arena.l0, Int.tmod_eq_emod_of_nonneg hm0, if_pos (by unfold wrap64; omega), e1, if_pos (by omega), if_pos (by rw [hl]; omega), hr, if_pos (by rw [List.length_append, addC_length]; omega), wu (i : Int) (by omega) (by omega), wu n hn0 (by omega), wu _ h3 (by omega), Int.toNat_natCast,
      List.set_append_right _ _ (Nat.le_refl _), Nat.sub_self, List.set_cons_zero, List.append_assoc, show wrap64 ((i : Int) + 1) = ((i + 1 : Nat) : Int) from by unfold wrap64; omega]
    exact hk
theorem scullerlaw12_Arena_c.to {l0 : List Int} {a1 a2 : Int} {r : List (List Int)} (h : scullerlaw12_Arena_c.f l0 a1 a2 = some r) : ∃ k, scullerlaw12_Arena.f k l0 a1 a2 = some r := by
  unfold scullerlaw12_Arena_c.f at h
  split at h
  case isFalse => cases h
  case isTrue hb =>
  obtain rfl := Option.some.inj h
  obtain ⟨h0, h1, h2, h3, h4, h5⟩ := hb
  have hl := arenaL_length l0 h2
  have hw := arenaL_words l0 h2
  have hlast := arenaL_last l0 h2
  have he : ((arenaL l0 a1).getLastD []).length ≤ 1000 := by
    rw [← hlast, wordsL_append, wordsL_one] at hw
    omega
  obtain ⟨k, hk⟩ := scullerlaw12_Arena.l0_to a1 a2 h2 h3 h4 h5 (arenaL l0 a1).dropLast ((arenaL l0 a1).getLastD []) (by simp; omega) he (a2 % 40).toNat 0 (by omega) (by omega)
  refine ⟨k, ?_⟩
  rw [show addC a1 0 = [] from rfl, List.append_nil, hlast] at hk
  rw [scullerlaw12_Arena.f, scullerlaw07_Arena_c.f, if_pos ⟨h0, h1, h2, h3⟩, Option.bind_some]
  exact hk

theorem scullerlaw12_Arena_c.calls (A0 : Option Addr) (c0 : Nat) (l0 : List Int) (a1 : Int) (a2 : Int) (r : List (List Int)) (w : World) (hr0 : Kd.C (Kd.int .u8) w A0 l0.length l0) (hc0 : l0.length ≤ c0) (h : scullerlaw12_Arena_c.f l0 a1 a2 = some r) :
    Calls Try.prog 23 #[.slice A0 l0.length c0, .int .u8 a1, .int .u8 a2] w fun e w' => ∃ v0_ : Value, e = .returned (v0_) ∧ Kd.S (Kd.slice 42 (Kd.int .u64)) 37 w' w.heap.size (fun _ => True) v0_ r ∧ Below w.heap.size w w' := by
  obtain ⟨k_, hk_⟩ := scullerlaw12_Arena_c.to h
  exact scullerlaw12_Arena.calls k_ A0 c0 l0 a1 a2 r w hr0 hc0 hk_

end Go.Proofs.Ythlhnodedofibaa.F
end

section
/- One byte another one: the checksum is another one. No program in sight. -/
namespace Go.Proofs.Ythlhnodedofibaa.H
set_option linter.unusedVariables false
theorem xor_zero_eq {a b : Nat} (h : a ^^^ b = 0) : a = b := by
  have h2 := congrArg (· ^^^ b) h
  simpa [Nat.xor_assoc] using h2
theorem stepN_inj {a b : Nat} (ha : a < 4294967296) (hb : b < 4294967296) (h : stepN a = stepN b) : a = b := by
  have hx : stepN (a ^^^ b) = 0 := by rw [stepN_xor, h, Nat.xor_self]
  have hlt : a ^^^ b < 2 ^ 32 := Nat.xor_lt_two_pow (by omega) (by omega)
  have h0 : a ^^^ b = 0 := by
    generalize a ^^^ b = d at hx hlt
    unfold stepN at hx
    split at hx
    · have := xor_zero_eq hx
      omega
    · rw [Nat.xor_zero] at hx; omega
  exact xor_zero_eq h0
theorem stepsN_inj : ∀ (k : Nat) {a b : Nat}, a < 4294967296 → b < 4294967296 → stepsN k a = stepsN k b → a = b
  | 0, _, _, _, _, h => h
  | k + 1, a, b, ha, hb, h => stepN_inj ha hb (stepsN_inj k (stepN_lt ha) (stepN_lt hb) h)
theorem xor_right_inj {a b c : Nat} (h : a ^^^ c = b ^^^ c) : a = b := by
  have := congrArg (· ^^^ c) h
  simpa [Nat.xor_assoc] using this
theorem xor_left_inj {a b c : Nat} (h : c ^^^ a = c ^^^ b) : a = b := by
  rw [Nat.xor_comm c a, Nat.xor_comm c b] at h
  exact xor_right_inj h
theorem xor_byte_lt {n : Nat} {c : Int} (hn : n < 4294967296) (hc : 0 ≤ c ∧ c ≤ 255) : n ^^^ c.toNat < 4294967296 := by
  have : n ^^^ c.toNat < 2 ^ 32 := Nat.xor_lt_two_pow (by omega) (by omega)
  omega
theorem crcN_inj : ∀ (l : List Int) {a b : Nat}, a < 4294967296 → b < 4294967296 → bytesB l = true → crcN a l = crcN b l → a = b
  | [], _, _, _, _, _, h => h
  | c :: l, a, b, ha, hb, hl, h => by
    have hc := bytesB_at hl c (by simp)
    have hl2 : bytesB l = true := bytesB_of fun x hx => bytesB_at hl x (by simp [hx])
    have h1 := crcN_inj l (stepsN_lt 8 (xor_byte_lt ha hc)) (stepsN_lt 8 (xor_byte_lt hb hc)) hl2 h
    exact xor_right_inj (stepsN_inj 8 (xor_byte_lt ha hc) (xor_byte_lt hb hc) h1)
theorem crcN_one {n : Nat} (hn : n < 4294967296) (p q : List Int) (c d : Int) (hp : bytesB p = true) (hq : bytesB q = true) (hc : 0 ≤ c ∧ c ≤ 255) (hd : 0 ≤ d ∧ d ≤ 255) (h : crcN n (p ++ c :: q) = crcN n (p ++ d :: q)) : c = d := by
  rw [crcN_append, crcN_append, crcN, crcN] at h
  have hm := crcN_lt p hn hp
  have h1 := crcN_inj q (stepsN_lt 8 (xor_byte_lt hm hc)) (stepsN_lt 8 (xor_byte_lt hm hd)) hq h
  have h2 := xor_left_inj (stepsN_inj 8 (xor_byte_lt hm hc) (xor_byte_lt hm hd) h1)
  omega
/-- Two rows of bytes that differ in one place have two checksums. -/
theorem moreL_one {n : Int} (h0 : 0 ≤ n) (hn : n < 4294967296) (p q : List Int) (c d : Int) (hp : bytesB p = true) (hq : bytesB q = true) (hc : 0 ≤ c ∧ c ≤ 255) (hd : 0 ≤ d ∧ d ≤ 255) (h : moreL n (p ++ c :: q) = moreL n (p ++ d :: q)) : c = d := by
  unfold moreL at h
  have h1 := xor_right_inj (Int.ofNat.inj h)
  refine crcN_one ?_ p q c d hp hq hc hd h1
  have : n.toNat ^^^ 4294967295 < 2 ^ 32 := Nat.xor_lt_two_pow (by omega) (by omega)
  omega
/-- A word with one of its bytes another one. -/
def flipW (x v : Int) (j : Nat) : Int := ((x.toNat ^^^ (v.toNat <<< (8 * j)) : Nat) : Int)
theorem putL_at (n : Int) (m j : Nat) (h : j < m) : (putL n m)[j]? = some (n / 2 ^ (8 * j) % 256) := by
  unfold putL
  rw [List.getElem?_map, List.getElem?_range h]
  rfl
theorem byte_of (a j : Nat) : (a : Int) / 2 ^ (8 * j) % 256 = ((a >>> (8 * j)) % 2 ^ 8 : Nat) := by
  rw [Nat.shiftRight_eq_div_pow]
  simp
theorem flip_byte (a v j i : Nat) (hv : v < 256) : (a ^^^ (v <<< (8 * j))) >>> (8 * i) % 2 ^ 8 = if i = j then (a >>> (8 * i) % 2 ^ 8) ^^^ v else a >>> (8 * i) % 2 ^ 8 := by
  rw [Nat.shiftRight_xor_distrib, Nat.xor_mod_two_pow]
  split
  · rename_i h
    subst h
    rw [Nat.shiftLeft_shiftRight, Nat.mod_eq_of_lt hv]
  · rename_i h
    have : v <<< (8 * j) >>> (8 * i) % 2 ^ 8 = 0 := by
      rcases Nat.lt_or_ge i j with hlt | hge
      · rw [Nat.shiftLeft_eq, Nat.shiftRight_eq_div_pow, show 8 * j = 8 * (j - i - 1) + 8 + 8 * i from by omega, Nat.pow_add, ← Nat.mul_assoc, Nat.mul_div_cancel _ (Nat.pow_pos (by omega)), Nat.pow_add, ← Nat.mul_assoc, Nat.mul_mod_left]
      · have hlt : j < i := by omega
        rw [Nat.shiftLeft_eq, Nat.shiftRight_eq_div_pow, show 8 * i = 8 * (i - j - 1) + 8 + 8 * j from by omega, Nat.pow_add, Nat.mul_div_mul_right _ _ (Nat.pow_pos (by omega)), Nat.div_eq_of_lt, Nat.zero_mod]
        have : 1 ≤ 2 ^ (8 * (i - j - 1)) := Nat.pow_pos (by omega)
        rw [Nat.pow_add]
        have : 1 * 2 ^ 8 ≤ 2 ^ (8 * (i - j - 1)) * 2 ^ 8 := Nat.mul_le_mul_right _ this
        omega
    rw [this, Nat.xor_zero]
/-- Its bytes: one of them is another one, if v is not 0. -/
theorem putL_flip (x v : Int) (hx : 0 ≤ x) (hv : 0 ≤ v ∧ v ≤ 255) (j : Nat) (hj : j < 8) :
    ∃ p q c d, putL x 8 = p ++ c :: q ∧ putL (flipW x v j) 8 = p ++ d :: q ∧ bytesB p = true ∧ bytesB q = true ∧ (0 ≤ c ∧ c ≤ 255) ∧ (0 ≤ d ∧ d ≤ 255) ∧ (c = d ↔ v = 0) := by
  obtain ⟨a, rfl⟩ := Int.eq_ofNat_of_zero_le hx
  obtain ⟨b, rfl⟩ := Int.eq_ofNat_of_zero_le hv.1
  have hl : (putL (a : Int) 8).length = 8 := putL_length _ _
  have hl2 : (putL (flipW a b j) 8).length = 8 := putL_length _ _
  have hb := putL_byte (a : Int) 8
  have hb2 := putL_byte (flipW a b j) 8
  have key : ∀ i, i < 8 → (putL (flipW a b j) 8)[i]? = some (((if i = j then (a >>> (8 * i) % 2 ^ 8) ^^^ b else a >>> (8 * i) % 2 ^ 8 : Nat) : Nat) : Int) := by
    intro i hi
    rw [putL_at _ _ _ hi, flipW, Int.toNat_natCast, Int.toNat_natCast, byte_of, flip_byte _ _ _ _ (by omega)]
  have key0 : ∀ i, i < 8 → (putL (a : Int) 8)[i]? = some ((a >>> (8 * i) % 2 ^ 8 : Nat) : Int) := by
    intro i hi
    rw [putL_at _ _ _ hi, byte_of]
  refine ⟨(putL (a : Int) 8).take j, (putL (a : Int) 8).drop (j + 1), (putL (a : Int) 8)[j]'(by omega), (putL (flipW a b j) 8)[j]'(by omega), ?_, ?_, bytesB_of fun c hc => hb c (List.mem_of_mem_take hc), bytesB_of fun c hc => hb c (List.mem_of_mem_drop hc), hb _ (List.getElem_mem _), hb2 _ (List.getElem_mem _), ?_⟩
  · rw [← List.drop_eq_getElem_cons, List.take_append_drop]
  · have e1 : (putL (a : Int) 8).take j = (putL (flipW a b j) 8).take j := by
      apply List.ext_getElem?
      intro i
      rw [List.getElem?_take, List.getElem?_take]
      split
      · rw [key i (by omega), key0 i (by omega), if_neg (by omega)]
      · rfl
    have e2 : (putL (a : Int) 8).drop (j + 1) = (putL (flipW a b j) 8).drop (j + 1) := by
      apply List.ext_getElem?
      intro i
      rw [List.getElem?_drop, List.getElem?_drop]
      by_cases hi : j + 1 + i < 8
      · rw [key _ hi, key0 _ hi, if_neg (by omega)]
      · rw [List.getElem?_eq_none (by omega), List.getElem?_eq_none (by omega)]
    rw [e1, e2, ← List.drop_eq_getElem_cons, List.take_append_drop]
  · have h1 := key j hj
    have h0 := key0 j hj
    rw [List.getElem?_eq_getElem (by omega)] at h1 h0
    rw [Option.some.inj h1, Option.some.inj h0, if_pos rfl]
    constructor
    · intro h
      have h2 := Int.ofNat.inj h
      have h3 : a >>> (8 * j) % 2 ^ 8 ^^^ 0 = a >>> (8 * j) % 2 ^ 8 ^^^ b := by rw [Nat.xor_zero]; exact h2
      have := xor_left_inj h3
      omega
    · intro h
      have : b = 0 := by omega
      rw [this, Nat.xor_zero]
/-- A sealed row with one byte another one is none. -/
theorem putL4_inj {a b : Int} (ha : 0 ≤ a ∧ a < 4294967296) (hb : 0 ≤ b ∧ b < 4294967296) (h : putL a 4 = putL b 4) : a = b := by
  have h1 := getL_putL 4 a ha.1 (by omega)
  have h2 := getL_putL 4 b hb.1 (by omega)
  rw [h] at h1
  omega
theorem sealL_length (l : List Int) : (sealL l).length = l.length + 4 := by rw [sealL, List.length_append, putL_length]
theorem rightC_seal (l : List Int) : rightC (sealL l) = true := by
  have e : (sealL l).take ((sealL l).length - 4) = l := by rw [sealL_length, Nat.add_sub_cancel, sealL, List.take_left]
  unfold rightC
  rw [e, decide_eq_true (show 4 ≤ (sealL l).length by rw [sealL_length]; omega)]
  simp
theorem rightC_at {l : List Int} (h : rightC l = true) : 4 ≤ l.length ∧ l = sealL (l.take (l.length - 4)) := by
  unfold rightC at h
  rw [Bool.and_eq_true, decide_eq_true_eq, decide_eq_true_eq] at h
  exact ⟨h.1, h.2.symm⟩
theorem set_split (l : List Int) (i : Nat) (v : Int) (h : i < l.length) : l.set i v = l.take i ++ v :: l.drop (i + 1) := List.set_eq_take_append_cons_drop.trans (if_pos h)
theorem split_at (l : List Int) (i : Nat) (h : i < l.length) : l = l.take i ++ l[i] :: l.drop (i + 1) := by rw [← List.drop_eq_getElem_cons, List.take_append_drop]
theorem bytesB_set {l : List Int} (hb : bytesB l = true) (i : Nat) (v : Int) (hv : 0 ≤ v ∧ v ≤ 255) : bytesB (l.set i v) = true := bytesB_of fun c hc => by
  rcases List.mem_or_eq_of_mem_set hc with h | rfl
  · exact bytesB_at hb c h
  · exact hv
theorem sumL_set {x : List Int} (hb : bytesB x = true) (i : Nat) (hi : i < x.length) (v : Int) (hv : 0 ≤ v ∧ v ≤ 255) (h : sumL x = sumL (x.set i v)) : x[i] = v := by
  rw [set_split x i v hi] at h
  have e0 := split_at x i hi
  have h2 : moreL 0 (x.take i ++ x[i] :: x.drop (i + 1)) = moreL 0 (x.take i ++ v :: x.drop (i + 1)) := by rw [← e0]; exact h
  exact moreL_one (by omega) (by omega) _ _ _ _ (bytesB_take hb _) (bytesB_drop hb _) (bytesB_at hb _ (List.getElem_mem hi)) hv h2
/-- A sealed row with one byte another one is none. -/
theorem rightC_set {l : List Int} (hb : bytesB l = true) (h : rightC l = true) (i : Nat) (hi : i < l.length) (v : Int) (hv : 0 ≤ v ∧ v ≤ 255) (hne : v ≠ l.getD i 0) : rightC (l.set i v) = false := by
  rw [Bool.eq_false_iff]
  intro h2
  obtain ⟨h4, e⟩ := rightC_at h
  obtain ⟨_, e2⟩ := rightC_at h2
  rw [List.length_set] at e2
  obtain ⟨n, hn⟩ : ∃ n, l.length - 4 = n := ⟨_, rfl⟩
  rw [hn] at e e2
  obtain ⟨x, hx⟩ : ∃ x, l.take n = x := ⟨_, rfl⟩
  rw [hx] at e
  have hxl : x.length = n := by rw [← hx, List.length_take]; omega
  have hxb : bytesB x = true := by rw [← hx]; exact bytesB_take hb n
  subst e
  rw [sealL_length] at hi
  unfold sealL at hne e2
  rcases Nat.lt_or_ge i x.length with hlt | hge
  · rw [List.getD_eq_getElem?_getD, List.getElem?_append_left hlt, List.getElem?_eq_getElem hlt, Option.getD_some] at hne
    rw [List.set_append_left _ _ hlt, List.take_append_of_le_length (by rw [List.length_set]; omega), List.take_of_length_le (by rw [List.length_set]; omega)] at e2
    have h5 := List.append_cancel_left e2
    have h6 := putL4_inj (moreL_range 0 x (by omega) hxb) (moreL_range 0 _ (by omega) (bytesB_set hxb i v hv)) h5
    exact hne (sumL_set hxb i hlt v hv h6).symm
  · have h6 : i - x.length < (putL (sumL x) 4).length := by rw [putL_length]; omega
    rw [List.getD_eq_getElem?_getD, List.getElem?_append_right hge, List.getElem?_eq_getElem h6, Option.getD_some] at hne
    rw [List.set_append_right _ _ hge, List.take_append_of_le_length (by omega), List.take_of_length_le (by omega)] at e2
    have h5 := List.append_cancel_left e2
    have h7 := congrArg (fun z => z[i - x.length]?) h5
    simp only [List.getElem?_set_self h6, List.getElem?_eq_getElem h6, Option.some.injEq] at h7
    exact hne h7
end Go.Proofs.Ythlhnodedofibaa.H
end

section
/- What tells manifests apart. No program in sight. -/
namespace Go.Proofs.Ythlhnodedofibaa.H
set_option linter.unusedVariables false
theorem flipW_zero (x : Int) (hx : 0 ≤ x) (j : Nat) : flipW x 0 j = x := by
  unfold flipW
  rw [show (0 : Int).toNat = 0 from rfl, Nat.zero_shiftLeft, Nat.xor_zero]
  omega
theorem flipW_u64 (x v : Int) (hx : u64B x = true) (hv : 0 ≤ v ∧ v ≤ 255) (j : Nat) (hj : j < 8) : u64B (flipW x v j) = true := by
  simp only [u64B, Bool.and_eq_true, decide_eq_true_eq] at hx
  have h1 : v.toNat <<< (8 * j) < 2 ^ 64 := by
    rw [Nat.shiftLeft_eq]
    have : 2 ^ (8 * j) ≤ 2 ^ 56 := Nat.pow_le_pow_right (by omega) (by omega)
    have h2 : v.toNat * 2 ^ (8 * j) ≤ 255 * 2 ^ 56 := Nat.mul_le_mul (by omega) this
    omega
  have h3 : x.toNat ^^^ (v.toNat <<< (8 * j)) < 2 ^ 64 := Nat.xor_lt_two_pow (by omega) h1
  exact u64B_mk (by unfold flipW; omega) (by unfold flipW; omega)
theorem bytesL_append (a b : List (List Int)) : bytesL (a ++ b) = bytesL a ++ bytesL b := by simp [bytesL]
theorem split_at' {α : Type} (l : List α) (i : Nat) (h : i < l.length) : l = l.take i ++ l[i] :: l.drop (i + 1) := by rw [← List.drop_eq_getElem_cons, List.take_append_drop]
theorem set_split' {α : Type} (l : List α) (i : Nat) (v : α) (h : i < l.length) : l.set i v = l.take i ++ v :: l.drop (i + 1) := List.set_eq_take_append_cons_drop.trans (if_pos h)
theorem sizesL_set (a : List (List Int)) (i : Nat) (h : i < a.length) (s : List Int) (hs : s.length = (a[i]'h).length) : sizesL (a.set i s) = sizesL a := by
  unfold sizesL
  rw [List.map_set]
  apply List.ext_getElem?
  intro m
  rw [List.getElem?_set]
  split
  · rename_i hm
    subst hm
    rw [if_pos (by rw [List.length_map]; exact h), List.getElem?_map, List.getElem?_eq_getElem h, hs]
    rfl
  · rfl
theorem flat8_byte (s : List Int) : bytesB (s.flatMap fun w => putL w 8) = true := by
  refine bytesB_of fun c hc => ?_
  simp only [List.mem_flatMap] at hc
  obtain ⟨w, _, hw⟩ := hc
  exact putL_byte _ _ c hw
/-- One byte of an arena another one (if v is not 0): the sizes are the same, the checksum is not. -/
theorem tells_byte (s : Int) (a : List (List Int)) (i k : Nat) (seg : List Int) (x : Int) (hi : i < a.length) (hseg : a[i]'hi = seg) (hk : k < seg.length) (hxx : seg[k]'hk = x) (hx : 0 ≤ x) (v : Int) (hv : 0 ≤ v ∧ v ≤ 255) (j : Nat) (hj : j < 8) (b : List (List Int)) (hb : b = a.set i (seg.set k (flipW x v j))) :
    sizesL b = sizesL a ∧ (moreL 0 (ofBytes s b b.length ++ bytesL b) = moreL 0 (ofBytes s a a.length ++ bytesL a) ↔ v = 0) := by
  have hsz : sizesL b = sizesL a := by rw [hb]; exact sizesL_set a i hi _ (by rw [List.length_set, hseg])
  refine ⟨hsz, ?_⟩
  have hob : ofBytes s b b.length = ofBytes s a a.length := by
    have : b.length = a.length := by rw [hb, List.length_set]
    unfold ofBytes
    rw [hsz, this]
  rw [hob]
  have ea := split_at' a i hi
  have eb := set_split' a i (seg.set k (flipW x v j)) hi
  rw [hseg] at ea
  have es := split_at' seg k hk
  have es2 := set_split' seg k (flipW x v j) hk
  rw [hxx] at es
  rw [es2] at eb hb
  obtain ⟨p8, q8, c, d, e1, e2, hp8, hq8, hc, hd, hcd⟩ := putL_flip x v hx hv j hj
  have fa : ofBytes s a a.length ++ bytesL a = (ofBytes s a a.length ++ bytesL (a.take i) ++ ((seg.take k).flatMap fun w => putL w 8) ++ p8) ++ c :: (q8 ++ ((seg.drop (k + 1)).flatMap fun w => putL w 8) ++ bytesL (a.drop (i + 1))) := by
    have : bytesL a = bytesL (a.take i ++ seg :: a.drop (i + 1)) := by rw [← ea]
    rw [this, bytesL_append, bytesL_cons]
    have h2 : (seg.flatMap fun w => putL w 8) = (seg.take k ++ x :: seg.drop (k + 1)).flatMap fun w => putL w 8 := by rw [← es]
    rw [h2, List.flatMap_append, List.flatMap_cons, e1]
    simp only [List.append_assoc, List.cons_append]
  have fb : ofBytes s a a.length ++ bytesL b = (ofBytes s a a.length ++ bytesL (a.take i) ++ ((seg.take k).flatMap fun w => putL w 8) ++ p8) ++ d :: (q8 ++ ((seg.drop (k + 1)).flatMap fun w => putL w 8) ++ bytesL (a.drop (i + 1))) := by
    rw [hb, eb, bytesL_append, bytesL_cons, List.flatMap_append, List.flatMap_cons, e2]
    simp only [List.append_assoc, List.cons_append]
  rw [fa, fb]
  have hpp : bytesB (ofBytes s a a.length ++ bytesL (a.take i) ++ ((seg.take k).flatMap fun w => putL w 8) ++ p8) = true := by
    rw [bytesB_append, bytesB_append, bytesB_append, ofBytes_byte, bytesB_of (bytesL_byte _), flat8_byte, hp8]; rfl
  have hqq : bytesB (q8 ++ ((seg.drop (k + 1)).flatMap fun w => putL w 8) ++ bytesL (a.drop (i + 1))) = true := by
    rw [bytesB_append, bytesB_append, bytesB_of (bytesL_byte _), flat8_byte, hq8]; rfl
  constructor
  · intro h
    exact hcd.1 (moreL_one (by omega) (by omega) _ _ _ _ hpp hqq hd hc h).symm
  · intro h
    rw [hcd.2 h]
/-- A further segment without words. -/
theorem tells_more (a : List (List Int)) : sizesL (a ++ [[]]) = sizesL a ++ [0] := by simp [sizesL]
theorem fits_more {l : List Int} (h : fitsB l = true) (h16 : l.length < 16) : fitsB (l ++ [0]) = true := by
  obtain ⟨h1, h2, h3, h4, h5⟩ := fitsB_at h
  refine fitsB_of (by simp) (by simp; omega) ?_ ?_ (by rw [List.sum_append]; simp; omega)
  · match l with
    | [] => simp at h1
    | x :: l => simpa using h3
  · intro x hx
    rcases List.mem_append.1 hx with hx | hx
    · exact h4 x hx
    · simp at hx; omega
end Go.Proofs.Ythlhnodedofibaa.H
end

section
namespace Go.Proofs.Ythlhnodedofibaa.F
open Go.RowKit Go.Proofs.YthlhnodedofibaaW.PrintWords Go.Proofs.YthlhnodedofibaaW.PrintLast Go.Proofs.YthlhnodedofibaaW.PrintMore
attribute [local go_sem] max2_int min2_int max_two min_two max_three min_three max_four min_four   -- for this text's walks alone
set_option linter.unusedVariables false
set_option linter.unusedSimpArgs false

open Go.Proofs.Ythlhnodedofibaa.H
/-! ### scullerlaw12_ManiTells: given -/
def scullerlaw12_ManiTells.f (a0 : Int) (l1 : List Int) (a2 a3 a4 a5 a6 a7 : Int) : Option Bool :=
  if u64B a0 = true ∧ bytesB l1 = true ∧ l1.length ≤ 140737488351232 ∧ (0 ≤ a2 ∧ a2 ≤ 255) ∧ (0 ≤ a3 ∧ a3 ≤ 255) ∧ (0 ≤ a4 ∧ a4 ≤ 255) ∧ (0 ≤ a5 ∧ a5 ≤ 255) ∧ (0 ≤ a6 ∧ a6 ≤ 255) ∧ (0 ≤ a7 ∧ a7 ≤ 255) then some true else none
theorem known12_ : scullerlaw12_known.f = some true := by decide +kernel
def sumM (s : Int) (a : List (List Int)) : Int := moreL 0 (ofBytes s a a.length ++ bytesL a)
theorem of_right (s : Int) (a : List (List Int)) (hl : a.length ≤ 1000000) (hs : u64B s = true) (hf : rightB a = true) : mani_Of.f s a = some (s, sizesL a, sumM s a, 0) := by
  rw [mani_Of.f, if_pos ⟨hl, hs⟩, ofL, if_pos hf, sumM]
theorem same_of (s t : Int) (l m : List Int) (x y : Int) (hl : l.length ≤ 1000000) : mani_Same.f s l x t m y = some (decide (s = t) && decide (x = y) && decide (l = m)) := by
  rw [mani_Same.f, slices_Equal_int_int_c.f, if_pos hl]
  by_cases h1 : s = t <;> by_cases h2 : x = y <;> simp [h1, h2]
theorem matches_of (s x : Int) (l : List Int) (a : List (List Int)) (hl : l.length ≤ 1000000) (hla : a.length ≤ 1000000) (hs : u64B s = true) (hf : rightB a = true) : mani_Matches.f s l x a = some (decide (x = sumM s a) && decide (l = sizesL a)) := by
  rw [mani_Matches.f, of_right s a hla hs hf, Option.bind_some, if_pos rfl, same_of s s l _ x _ hl]
  simp
theorem wrapu_ {z : Int} (h0 : 0 ≤ z) (h1 : z < 18446744073709551616) : IntKind.u64.wrap z = z := by simp only [IntKind.wrap, IntKind.signed, IntKind.bits]; simp; omega
theorem flip_is (x v c : Int) (hx : u64B x = true) (hv : 0 ≤ v ∧ v ≤ 255) (hc : 0 ≤ c) : Go.bits .xor .u64 x (IntKind.u64.wrap (v * 2 ^ min (c % 8 * 8).toNat 64)) = flipW x v (c % 8).toNat := by
  simp only [u64B, Bool.and_eq_true, decide_eq_true_eq] at hx
  obtain ⟨n, rfl⟩ := Int.eq_ofNat_of_zero_le hx.1
  obtain ⟨m, rfl⟩ := Int.eq_ofNat_of_zero_le hv.1
  obtain ⟨j, hj⟩ : ∃ j : Nat, c % 8 = j := ⟨(c % 8).toNat, by omega⟩
  have hj8 : j < 8 := by omega
  rw [hj, show min ((j : Int) * 8).toNat 64 = 8 * j from by omega, Int.toNat_natCast]
  have h1 : m * 2 ^ (8 * j) < 2 ^ 64 := by
    have : 2 ^ (8 * j) ≤ 2 ^ 56 := Nat.pow_le_pow_right (by omega) (by omega)
    have h2 : m * 2 ^ (8 * j) ≤ 255 * 2 ^ 56 := Nat.mul_le_mul (by omega) this
    omega
  have e : (m : Int) * 2 ^ (8 * j) = ((m * 2 ^ (8 * j) : Nat) : Int) := by simp
  have e2 : IntKind.u64.wrap ((m * 2 ^ (8 * j) : Nat) : Int) = ((m * 2 ^ (8 * j) : Nat) : Int) := wrapu_ (by omega) (by omega)
  rw [e, e2, Go.u64_xor_nat n _ (by omega) (by omega), flipW, Int.toNat_natCast, Int.toNat_natCast, Nat.shiftLeft_eq]
theorem bchain {a b c : World} (h1 : Below a.heap.size a b) (h2 : Below b.heap.size b c) : Below a.heap.size a c := below_then h1 h1.size h2
theorem R_at_ {α : Type} {d : Kd α} {e : Nat} {w : World} {base : Nat} {ok : Nat → Prop} {A : Option Addr} {n cap : Nat} {xs : List α} (h : d.R e w base ok (.slice A n cap) xs) (h0 : 0 < xs.length) (z : α) : ∃ g, A = some ⟨g, 0, none⟩ := by
  obtain ⟨hn, _, hC⟩ := Kd.R_reads' h
  obtain ⟨ad, c, rfl, _⟩ := Kd.C_get hC z 0 (by omega) (by omega)
  obtain ⟨g, rfl⟩ := Kd.R_head h
  exact ⟨g, rfl⟩
set_option maxHeartbeats 4000000 in
set_option maxRecDepth 100000 in
theorem scullerlaw12_ManiTells.calls (a0 : Int) (A1 : Option Addr) (c1 : Nat) (l1 : List Int) (a2 a3 a4 a5 a6 a7 : Int) (r : Bool) (w : World) (hr1 : Kd.C (Kd.int .u8) w A1 l1.length l1) (hc1 : l1.length ≤ c1) (h : scullerlaw12_ManiTells.f a0 l1 a2 a3 a4 a5 a6 a7 = some r) :
    Calls Try.prog 6 #[.int .u64 a0, .slice A1 l1.length c1, .int .u8 a2, .int .u8 a3, .int .u8 a4, .int .u8 a5, .int .u8 a6, .int .u8 a7] w fun e w' => e = .returned (.bool r) ∧ Below w.heap.size w w' := by
  have hu46 := Try.underlying46
  unfold scullerlaw12_ManiTells.f at h
  split at h
  case isFalse => cases h
  case isTrue hb =>
  obtain ⟨hs, hbb, hl, h2, h3, h4, h5, h6, h7⟩ := hb
  obtain rfl := Option.some.inj h
  clear h
  have hlen := arena12L_length l1 h2.1 h3.1
  have hfit : rightB (arena12L l1 a2 a3) = true := arena12L_fits l1 h2.1 h3.1
  have harena : scullerlaw12_Arena_c.f l1 a2 a3 = some (arena12L l1 a2 a3) := if_pos ⟨hbb, hl, h2.1, h2.2, h3.1, h3.2⟩
  obtain ⟨a, ha⟩ : ∃ a, arena12L l1 a2 a3 = a := ⟨_, rfl⟩
  rw [ha] at hlen hfit harena
  have HR1 := Aside0.mk hr1
  have HC1 := Aside0.mk hc1
  clear hr1 hc1
  rcases (show a7 % 3 = 0 ∨ a7 % 3 = 1 ∨ a7 % 3 = 2 by omega) with hw | hw | hw
  · have hla : a.length ≤ 1000000 := by omega
    have hlS : (sizesL a).length ≤ 1000000 := by rw [sizesL_length]; omega
    obtain ⟨s1, hs1⟩ : ∃ s1, IntKind.u64.wrap (a0 + 1) = s1 := ⟨_, rfl⟩
    have hs1b : u64B s1 = true ∧ a0 ≠ s1 := by
      simp only [u64B, Bool.and_eq_true, decide_eq_true_eq] at hs ⊢
      simp only [IntKind.wrap, IntKind.signed, IntKind.bits] at hs1
      simp at hs1
      omega
    have HOF := of_right a0 a hla hs hfit
    have HOB := of_right s1 a hla hs1b.1 hfit
    have HSM := same_of a0 s1 (sizesL a) (sizesL a) (sumM a0 a) (sumM s1 a) hlS
    have HM1 := matches_of a0 (sumM a0 a) (sizesL a) a hlS hla hs hfit
    rw [decide_eq_false hs1b.2, Bool.false_and, Bool.false_and] at HSM
    rw [decide_eq_true rfl, decide_eq_true rfl, Bool.true_and] at HM1
    obtain ⟨sm2, hsm2⟩ : ∃ sm2, sumM s1 a = sm2 := ⟨_, rfl⟩
    rw [hsm2] at HOB HSM
    obtain ⟨S, hSd⟩ : ∃ S, sizesL a = S := ⟨_, rfl⟩
    obtain ⟨sm, hsm⟩ : ∃ sm, sumM a0 a = sm := ⟨_, rfl⟩
    rw [hSd, hsm] at HOF HSM HM1
    rw [hSd] at HOB
    replace HOF := Aside0.mk HOF
    replace HOB := Aside0.mk HOB
    replace HSM := Aside0.mk HSM
    replace HM1 := Aside0.mk HM1
    have HM2 := HM1
    have HLN := Aside0.mk hlen
    have HW := Aside0.mk hw
    have HAA := Aside0.mk harena
    have HS1 := Aside0.mk hs1
    clear hlen hfit harena hw hla hlS hsm2 hSd hsm ha hs1 hs1b
    go_enter Try.func6, Try.ntmps6
    go_wp2_with (first
      | (go_at_call 23; ((with_reducible refine (scullerlaw12_Arena_c.calls A1 c1 l1 a2 a3 a _ HR1.out HC1.out HAA.out).mono ?_); rintro e w1 ⟨v1, rfl, ho, hb⟩; have HB1 := Aside0.mk hb; have HO1 := Aside0.mk ho; clear hb ho; obtain ⟨Aa, ca, eo⟩ := Kd.S_slice HO1.out; subst eo; have HCa := Aside0.mk (Kd.S_reads' HO1.out)))
      | (go_at_call 24; ((with_reducible refine (mani_Of.calls a0 Aa ca a _ _ _ _ _ HCa.out.2.2 HCa.out.2.1 HOF.out).mono ?_); rintro e w2 ⟨v2, rfl, ho, hb⟩; have HB2 := Aside0.mk hb; have HO2 := Aside0.mk ho; clear hb ho; obtain ⟨Am, cm, eo⟩ := Kd.R_slice HO2.out; subst eo; have HCm := Aside0.mk (Kd.R_reads' HO2.out)))
      | ((with_reducible refine gate_dst (N := 18) rfl ?_); refine box_event ?hg (N := 18) ?hd (cs := #[.int .u64 0, .slice none 0 0, .int .u32 0]) (t := 46) ?hr ?_; (case hd => rfl); (case hg => rfl); (case hr => first | (go_simp; done) | (go_simp; rfl)); intro g0 hg w3 hbox hb; have HBw3 := Aside0.mk hb; have BKg0 := Aside0.mk hbox; have GEg0 := Aside0.mk (Nat.le_of_eq hg.symm); have hz0 := (blk_cell hbox 0).trans rfl; have hz1 := (blk_cell hbox 1).trans rfl; have hz2 := (blk_cell hbox 2).trans rfl; have hzf0 := blk_frozen hbox 0; have hzf1 := blk_frozen hbox 1; have hzf2 := blk_frozen hbox 2; clear hb hbox hg)
      | (go_at_call 23; ((with_reducible refine (scullerlaw12_Arena_c.calls A1 c1 l1 a2 a3 a _ (Kd.C_below HR1.out (below_set (below_set (below_set (below_then (below_then HB1.out HB1.out.size HB2.out) (Nat.le_trans HB1.out.size HB2.out.size) HBw3.out) (Nat.le_trans (Nat.le_trans HB1.out.size HB2.out.size) GEg0.out)) (Nat.le_trans (Nat.le_trans HB1.out.size HB2.out.size) GEg0.out)) (Nat.le_trans (Nat.le_trans HB1.out.size HB2.out.size) GEg0.out))) HC1.out HAA.out).mono ?_); rintro e w4 ⟨v4, rfl, ho, hb⟩; have HB4 := Aside0.mk hb; have HO4 := Aside0.mk ho; clear hb ho hz0 hz1 hz2 hzf0 hzf1 hzf2; obtain ⟨Ab, cb, eo⟩ := Kd.S_slice HO4.out; subst eo; have hLW3 : w2.heap.size ≤ (((w3.setCell ⟨g0, 0, none⟩ (.int .u64 a0)).setCell ⟨g0, 1, none⟩ (.slice Am S.length cm)).setCell ⟨g0, 2, none⟩ (.int .u32 sm)).heap.size := (below_set (below_set (below_set HBw3.out GEg0.out) GEg0.out) GEg0.out).size; have K0 := Aside0.mk (blk_below (blk_put (cs := #[.int .u64 a0, .slice Am S.length cm, .int .u32 0]) (blk_put (cs := #[.int .u64 a0, .slice none 0 0, .int .u32 0]) (blk_put BKg0.out 0 _ rfl) 1 _ rfl) 2 _ rfl) HB4.out); have B3 := Aside0.mk (show Below w2.heap.size w2 (((w3.setCell ⟨g0, 0, none⟩ (.int .u64 a0)).setCell ⟨g0, 1, none⟩ (.slice Am S.length cm)).setCell ⟨g0, 2, none⟩ (.int .u32 sm)) from (below_set (below_set (below_set HBw3.out GEg0.out) GEg0.out) GEg0.out)); have HLW3 := Aside0.mk hLW3; clear hLW3 BKg0 HBw3; generalize ((w3.setCell ⟨g0, 0, none⟩ (.int .u64 a0)).setCell ⟨g0, 1, none⟩ (.slice Am S.length cm)).setCell ⟨g0, 2, none⟩ (.int .u32 sm) = w3' at HB4 HO4 HLW3 B3; have HCb := Aside0.mk (Kd.S_reads' HO4.out); have hw := HW.out; have hs1 := HS1.out; have HCb5 := HCb; have K5 := K0; have B5 := Aside0.mk (below_then B3.out HLW3.out HB4.out)))
      | (go_at_call 24; ((with_reducible refine (mani_Of.calls s1 Ab cb a _ _ _ _ _ HCb5.out.2.2 HCb5.out.2.1 HOB.out).mono ?_); rintro e w6 ⟨v6, rfl, ho, hb⟩; have HB6 := Aside0.mk hb; have HO6 := Aside0.mk ho; have P6 := Aside0.mk (blk_below K5.out hb); clear hb ho; obtain ⟨An, cn, eo⟩ := Kd.R_slice HO6.out; subst eo; have HCn := Aside0.mk (Kd.R_reads' HO6.out)))
      | ((with_reducible refine gate_dst (N := 25) rfl ?_); refine box_event ?hg (N := 25) ?hd (cs := #[.int .u64 0, .slice none 0 0, .int .u32 0]) (t := 46) ?hr ?_; (case hd => rfl); (case hg => rfl); (case hr => first | (go_simp; done) | (go_simp; rfl)); intro g1 hg w7 hbox hb; have HBw7 := Aside0.mk hb; have BKg1 := Aside0.mk hbox; have GEg1 := Aside0.mk (Nat.le_of_eq hg.symm); have hz0 := (blk_cell hbox 0).trans rfl; have hz1 := (blk_cell hbox 1).trans rfl; have hz2 := (blk_cell hbox 2).trans rfl; have hzf0 := blk_frozen hbox 0; have hzf1 := blk_frozen hbox 1; have hzf2 := blk_frozen hbox 2; clear hb hbox hg)
      | (go_at_call 25; ((with_reducible refine (scullerlaw12_known.calls true _ known12_).mono ?_); rintro e w8 ⟨rfl, hb⟩; have hne : g0 ≠ g1 := (by have h1 := blk_lt P6.out; have h2 := GEg1.out; omega); have X7 := Aside0.mk (show Below w6.heap.size w6 (((w7.setCell ⟨g1, 0, none⟩ (.int .u64 s1)).setCell ⟨g1, 1, none⟩ (.slice An S.length cn)).setCell ⟨g1, 2, none⟩ (.int .u32 sm2)) from (below_set (below_set (below_set HBw7.out GEg1.out) GEg1.out) GEg1.out)); have X8 := Aside0.mk (below_then X7.out X7.out.size hb); have P8 := Aside0.mk (blk_below (blk_far (p := ⟨g1, 2, none⟩) (blk_far (p := ⟨g1, 1, none⟩) (blk_far (p := ⟨g1, 0, none⟩) (blk_below P6.out HBw7.out) hne _) hne _) hne _) hb); have Q8 := Aside0.mk (blk_below (blk_put (cs := #[.int .u64 s1, .slice An S.length cn, .int .u32 0]) (blk_put (cs := #[.int .u64 s1, .slice none 0 0, .int .u32 0]) (blk_put BKg1.out 0 _ rfl) 1 _ rfl) 2 _ rfl) hb); clear hb hne hz0 hz1 hz2 hzf0 hzf1 hzf2 X7 BKg1 HBw7; have c0 : w8.cell? ⟨g0, 0, none⟩ = _ := (blk_cell P8.out 0).trans rfl; have c1 : w8.cell? ⟨g0, 1, none⟩ = _ := (blk_cell P8.out 1).trans rfl; have c2 : w8.cell? ⟨g0, 2, none⟩ = _ := (blk_cell P8.out 2).trans rfl; have d0 : w8.cell? ⟨g1, 0, none⟩ = _ := (blk_cell Q8.out 0).trans rfl; have d1 : w8.cell? ⟨g1, 1, none⟩ = _ := (blk_cell Q8.out 1).trans rfl; have d2 : w8.cell? ⟨g1, 2, none⟩ = _ := (blk_cell Q8.out 2).trans rfl))
      | (go_at_call 26; ((with_reducible refine (mani_Same.calls a0 Am cm S sm s1 An cn S sm2 false _ (Kd.C_below HCm.out.2.2 (below_then B5.out B5.out.size (below_then HB6.out HB6.out.size X8.out))) HCm.out.2.1 (Kd.C_below HCn.out.2.2 X8.out) HCn.out.2.1 HSM.out).mono ?_); rintro e w9 ⟨rfl, hb⟩; have X9 := Aside0.mk (below_then X8.out X8.out.size hb); have P9 := Aside0.mk (blk_below P8.out hb); have Q9 := Aside0.mk (blk_below Q8.out hb); clear hb c0 c1 c2 d0 d1 d2; have c0 : w9.cell? ⟨g0, 0, none⟩ = _ := (blk_cell P9.out 0).trans rfl; have c1 : w9.cell? ⟨g0, 1, none⟩ = _ := (blk_cell P9.out 1).trans rfl; have c2 : w9.cell? ⟨g0, 2, none⟩ = _ := (blk_cell P9.out 2).trans rfl; have d0 : w9.cell? ⟨g1, 0, none⟩ = _ := (blk_cell Q9.out 0).trans rfl; have d1 : w9.cell? ⟨g1, 1, none⟩ = _ := (blk_cell Q9.out 1).trans rfl; have d2 : w9.cell? ⟨g1, 2, none⟩ = _ := (blk_cell Q9.out 2).trans rfl))
      | (go_at_call 27; ((with_reducible refine (mani_Matches.calls a0 Am cm S sm Aa ca a true _ (Kd.C_below HCm.out.2.2 (below_then B5.out B5.out.size (below_then HB6.out HB6.out.size X9.out))) HCm.out.2.1 (Kd.C_below HCa.out.2.2 (below_then HB2.out HB2.out.size (below_then B5.out B5.out.size (below_then HB6.out HB6.out.size X9.out)))) HCa.out.2.1 HM1.out).mono ?_); rintro e w10 ⟨rfl, hb⟩; have X10 := Aside0.mk (below_then X9.out X9.out.size hb); have P10 := Aside0.mk (blk_below P9.out hb); have Q10 := Aside0.mk (blk_below Q9.out hb); clear hb c0 c1 c2 d0 d1 d2; have c0 : w10.cell? ⟨g0, 0, none⟩ = _ := (blk_cell P10.out 0).trans rfl; have c1 : w10.cell? ⟨g0, 1, none⟩ = _ := (blk_cell P10.out 1).trans rfl; have c2 : w10.cell? ⟨g0, 2, none⟩ = _ := (blk_cell P10.out 2).trans rfl; have d0 : w10.cell? ⟨g1, 0, none⟩ = _ := (blk_cell Q10.out 0).trans rfl; have d1 : w10.cell? ⟨g1, 1, none⟩ = _ := (blk_cell Q10.out 1).trans rfl; have d2 : w10.cell? ⟨g1, 2, none⟩ = _ := (blk_cell Q10.out 2).trans rfl))
      | (go_at_call 27; ((with_reducible refine (mani_Matches.calls a0 Am cm S sm Ab cb a true _ (Kd.C_below HCm.out.2.2 (below_then B5.out B5.out.size (below_then HB6.out HB6.out.size X10.out))) HCm.out.2.1 (Kd.C_below HCb5.out.2.2 (below_then HB6.out HB6.out.size X10.out)) HCb5.out.2.1 HM2.out).mono ?_); rintro e w11 ⟨rfl, hb⟩; have X11 := Aside0.mk (below_then X10.out X10.out.size hb); have P11 := Aside0.mk (blk_below P10.out hb); have Q11 := Aside0.mk (blk_below Q10.out hb); clear hb c0 c1 c2 d0 d1 d2; have c0 : w11.cell? ⟨g0, 0, none⟩ = _ := (blk_cell P11.out 0).trans rfl; have c1 : w11.cell? ⟨g0, 1, none⟩ = _ := (blk_cell P11.out 1).trans rfl; have c2 : w11.cell? ⟨g0, 2, none⟩ = _ := (blk_cell P11.out 2).trans rfl; have d0 : w11.cell? ⟨g1, 0, none⟩ = _ := (blk_cell Q11.out 0).trans rfl; have d1 : w11.cell? ⟨g1, 1, none⟩ = _ := (blk_cell Q11.out 1).trans rfl; have d2 : w11.cell? ⟨g1, 2, none⟩ = _ := (blk_cell Q11.out 2).trans rfl)))
    go_ret
    exact ⟨rfl, below_then HB1.out HB1.out.size (below_then HB2.out HB2.out.size (below_then B5.out B5.out.size (below_then HB6.out HB6.out.size X11.out)))⟩

  · have hnp : (0 : Int) < (a.length : Int) := by omega
    obtain ⟨i, hi⟩ : ∃ i : Nat, a4 % (a.length : Int) = i := ⟨(a4 % (a.length : Int)).toNat, by have := Int.emod_nonneg a4 (show (a.length : Int) ≠ 0 by omega); omega⟩
    have hil : i < a.length := by have := Int.emod_lt_of_pos a4 hnp; omega
    obtain ⟨seg, hseg⟩ : ∃ seg, a[i]'hil = seg := ⟨_, rfl⟩
    have HGI := Aside0.mk (show a.getD ((i : Int)).toNat [] = seg by rw [getD_toNat a [] i hil]; exact hseg)
    have HN1 := Aside0.mk (show 0 < a.length by omega)
    have HI := Aside0.mk hi
    have HIL := Aside0.mk hil
    have HLN := Aside0.mk hlen
    have HW := Aside0.mk hw
    have HAA := Aside0.mk harena
    have hla : a.length ≤ 1000000 := by omega
    have hlS : (sizesL a).length ≤ 1000000 := by rw [sizesL_length]; omega
    have HOF := of_right a0 a hla hs hfit
    by_cases hse : seg.length = 0
    · replace HOF := Aside0.mk HOF
      have HSE := Aside0.mk hse
      clear hlen hfit harena hw hla hlS ha hi hil hse hnp hseg
      go_enter Try.func6, Try.ntmps6
      go_wp2_with (first
        | (go_at_call 23; ((with_reducible refine (scullerlaw12_Arena_c.calls A1 c1 l1 a2 a3 a _ HR1.out HC1.out HAA.out).mono ?_); rintro e w1 ⟨v1, rfl, ho, hb⟩; have HB1 := Aside0.mk hb; have HO1 := Aside0.mk ho; clear hb ho; obtain ⟨Aa, ca, eo⟩ := Kd.S_slice HO1.out; subst eo; have HCa := Aside0.mk (Kd.S_reads' HO1.out)))
        | (go_at_call 24; ((with_reducible refine (mani_Of.calls a0 Aa ca a _ _ _ _ _ HCa.out.2.2 HCa.out.2.1 HOF.out).mono ?_); rintro e w2 ⟨v2, rfl, ho, hb⟩; have HB2 := Aside0.mk hb; have HO2 := Aside0.mk ho; clear hb ho; obtain ⟨Am, cm, eo⟩ := Kd.R_slice HO2.out; subst eo; have HCm := Aside0.mk (Kd.R_reads' HO2.out)))
        | ((with_reducible refine gate_dst (N := 18) rfl ?_); refine box_event ?hg (N := 18) ?hd (cs := #[.int .u64 0, .slice none 0 0, .int .u32 0]) (t := 46) ?hr ?_; (case hd => rfl); (case hg => rfl); (case hr => first | (go_simp; done) | (go_simp; rfl)); intro g0 hg w3 hbox hb; have HBw3 := Aside0.mk hb; have BKg0 := Aside0.mk hbox; have GEg0 := Aside0.mk (Nat.le_of_eq hg.symm); have hz0 := (blk_cell hbox 0).trans rfl; have hz1 := (blk_cell hbox 1).trans rfl; have hz2 := (blk_cell hbox 2).trans rfl; have hzf0 := blk_frozen hbox 0; have hzf1 := blk_frozen hbox 1; have hzf2 := blk_frozen hbox 2; clear hb hbox hg)
        | (go_at_call 23; ((with_reducible refine (scullerlaw12_Arena_c.calls A1 c1 l1 a2 a3 a _ (Kd.C_below HR1.out (below_set (below_set (below_set (below_then (below_then HB1.out HB1.out.size HB2.out) (Nat.le_trans HB1.out.size HB2.out.size) HBw3.out) (Nat.le_trans (Nat.le_trans HB1.out.size HB2.out.size) GEg0.out)) (Nat.le_trans (Nat.le_trans HB1.out.size HB2.out.size) GEg0.out)) (Nat.le_trans (Nat.le_trans HB1.out.size HB2.out.size) GEg0.out))) HC1.out HAA.out).mono ?_); rintro e w4 ⟨v4, rfl, ho, hb⟩; have HB4 := Aside0.mk hb; have HO4 := Aside0.mk ho; clear hb ho hz0 hz1 hz2 hzf0 hzf1 hzf2; obtain ⟨Ab, cb, eo⟩ := Kd.S_slice HO4.out; subst eo; have hLW3 : w2.heap.size ≤ (((w3.setCell ⟨g0, 0, none⟩ (.int .u64 a0)).setCell ⟨g0, 1, none⟩ (.slice Am (sizesL a).length cm)).setCell ⟨g0, 2, none⟩ (.int .u32 (sumM a0 a))).heap.size := (below_set (below_set (below_set HBw3.out GEg0.out) GEg0.out) GEg0.out).size; have K0 := Aside0.mk (blk_below (blk_put (cs := #[.int .u64 a0, .slice Am (sizesL a).length cm, .int .u32 0]) (blk_put (cs := #[.int .u64 a0, .slice none 0 0, .int .u32 0]) (blk_put BKg0.out 0 _ rfl) 1 _ rfl) 2 _ rfl) HB4.out); have B3 := Aside0.mk (show Below w2.heap.size w2 (((w3.setCell ⟨g0, 0, none⟩ (.int .u64 a0)).setCell ⟨g0, 1, none⟩ (.slice Am (sizesL a).length cm)).setCell ⟨g0, 2, none⟩ (.int .u32 (sumM a0 a))) from (below_set (below_set (below_set HBw3.out GEg0.out) GEg0.out) GEg0.out)); have HLW3 := Aside0.mk hLW3; clear hLW3 BKg0 HBw3; generalize ((w3.setCell ⟨g0, 0, none⟩ (.int .u64 a0)).setCell ⟨g0, 1, none⟩ (.slice Am (sizesL a).length cm)).setCell ⟨g0, 2, none⟩ (.int .u32 (sumM a0 a)) = w3' at HB4 HO4 HLW3 B3; have HCb := Aside0.mk (Kd.S_reads' HO4.out); have hw := HW.out; have hi := HI.out; have hn1 := HLN.out.1; have hi2 : (i : Int) < (a.length : Int) := (by have := HIL.out; omega); have hi1 : (0 : Int) ≤ (i : Int) := (by omega); obtain ⟨gb, rfl⟩ := R_at_ (Kd.S_R HO4.out) HN1.out []; obtain ⟨oki, ce, hcl, hM, hcc, hfr, hoki, hH⟩ := Kd.S_elem HO4.out [] (i : Int) (by omega) (by have := HIL.out; omega); rw [HGI.out] at hM; obtain ⟨vi, rfl, hri⟩ := hM; have hcell : w4.cell? ⟨gb, i, none⟩ = some vi := (by have h9 := hcc 0 vi rfl; rw [Int.toNat_natCast] at h9; exact (by simpa [Kd.slice, Kd.scalar] using h9)); obtain ⟨Ai, ci, ei⟩ := Kd.R_slice hri; subst ei; have HRI := Aside0.mk hri; have HHH := Aside0.mk hH; have HOKI := Aside0.mk hoki; clear hcl hcc hfr hoki hH hri; rw [HSE.out] at hcell))
        | (go_at_call 25; ((with_reducible refine (scullerlaw12_known.calls true _ known12_).mono ?_); rintro e w5 ⟨rfl, hb⟩)))
      go_ret
      exact ⟨rfl, bchain (bchain (bchain (bchain HB1.out HB2.out) B3.out) HB4.out) hb⟩
    · have hnq : (0 : Int) < (seg.length : Int) := by omega
      obtain ⟨k, hk⟩ : ∃ k : Nat, a5 % (seg.length : Int) = k := ⟨(a5 % (seg.length : Int)).toNat, by have := Int.emod_nonneg a5 (show (seg.length : Int) ≠ 0 by omega); omega⟩
      have hkl : k < seg.length := by have := Int.emod_lt_of_pos a5 hnq; omega
      obtain ⟨x, hx⟩ : ∃ x, seg[k]'hkl = x := ⟨_, rfl⟩
      have HGK := Aside0.mk (show seg.getD ((k : Int)).toNat 0 = x by rw [getD_toNat seg 0 k hkl]; exact hx)
      have HK1 := Aside0.mk (show 0 < seg.length by omega)
      have HK := Aside0.mk hk
      have HKL := Aside0.mk hkl
      have hu := arena12L_u64 hbb h2.1 h2.2 h3.1 (c := l1) (n := a2) (m := a3)
      rw [ha] at hu
      have hxu : u64B x = true := by
        have := hu (a[i]'hil) (List.getElem_mem hil)
        rw [hseg] at this
        rw [← hx]
        exact this _ (List.getElem_mem hkl)
      obtain ⟨y, hy⟩ : ∃ y, flipW x a6 (a5 % 8).toNat = y := ⟨_, rfl⟩
      have hfl : Go.bits .xor .u64 x (IntKind.u64.wrap (a6 * 2 ^ min (a5 % 8 * 8).toNat 64)) = y := by rw [flip_is x a6 a5 hxu h6 h5.1, hy]
      have hx0 : 0 ≤ x := by simp only [u64B, Bool.and_eq_true, decide_eq_true_eq] at hxu; exact hxu.1
      obtain ⟨b, hbd⟩ : ∃ b, a.set i (seg.set k y) = b := ⟨_, rfl⟩
      have htb := tells_byte a0 a i k seg x hil hseg hkl hx hx0 a6 h6 (a5 % 8).toNat (by omega) b (by rw [hy]; exact hbd.symm)
      have hlb : b.length ≤ 1000000 := by rw [← hbd, List.length_set]; exact hla
      have hfb : rightB b = true := by unfold rightB; rw [htb.1]; exact hfit
      have HOB := of_right a0 b hlb hs hfb
      have HSM := same_of a0 a0 (sizesL a) (sizesL a) (sumM a0 a) (sumM a0 b) hlS
      have HM1 := matches_of a0 (sumM a0 a) (sizesL a) a hlS hla hs hfit
      have HM2 := matches_of a0 (sumM a0 a) (sizesL a) b hlS hlb hs hfb
      rw [htb.1] at HOB HM2
      have hcmp : decide (sumM a0 a = sumM a0 b) = (a6 == 0) := by
        have h9 : (sumM a0 b = sumM a0 a ↔ a6 = 0) := htb.2
        by_cases hz : a6 = 0
        · rw [decide_eq_true (h9.2 hz).symm, hz]; rfl
        · rw [decide_eq_false (fun e => hz (h9.1 e.symm))]
          symm
          simpa using hz
      rw [hcmp] at HSM HM2
      rw [decide_eq_true rfl, decide_eq_true rfl, Bool.true_and, Bool.and_true] at HSM
      rw [decide_eq_true rfl, Bool.and_true] at HM2
      rw [decide_eq_true rfl, decide_eq_true rfl, Bool.true_and] at HM1
      obtain ⟨same, hsame⟩ : ∃ b, (a6 == 0) = b := ⟨_, rfl⟩
      rw [hsame] at HSM HM2
      obtain ⟨sm2, hsm2⟩ : ∃ sm2, sumM a0 b = sm2 := ⟨_, rfl⟩
      rw [hsm2] at HOB
      obtain ⟨S, hSd⟩ : ∃ S, sizesL a = S := ⟨_, rfl⟩
      obtain ⟨sm, hsm⟩ : ∃ sm, sumM a0 a = sm := ⟨_, rfl⟩
      rw [hSd, hsm] at HOF HM1 HM2
      rw [hSd] at HOB
      have HSM2 := same_of a0 a0 S S sm sm2 (by rw [← hSd]; exact hlS)
      rw [decide_eq_true rfl, decide_eq_true rfl, Bool.true_and, Bool.and_true, ← hsm, ← hsm2, hcmp, hsame, hsm, hsm2] at HSM2
      clear HSM
      have HSM := HSM2
      clear HSM2
      replace HOF := Aside0.mk HOF
      replace HOB := Aside0.mk HOB
      replace HSM := Aside0.mk HSM
      replace HM1 := Aside0.mk HM1
      replace HM2 := Aside0.mk HM2
      have HSA := Aside0.mk hsame
      have HFL := Aside0.mk hfl
      have HBD := Aside0.mk hbd
      clear hlen hfit harena hw hla hlS ha hi hil hse hnp hseg hnq hk hkl hx hu hxu hsame hfl hy hx0 hbd htb hlb hfb hcmp hsm2 hSd hsm
      go_enter Try.func6, Try.ntmps6
      go_wp2_with (first
        | (go_at_call 23; ((with_reducible refine (scullerlaw12_Arena_c.calls A1 c1 l1 a2 a3 a _ HR1.out HC1.out HAA.out).mono ?_); rintro e w1 ⟨v1, rfl, ho, hb⟩; have HB1 := Aside0.mk hb; have HO1 := Aside0.mk ho; clear hb ho; obtain ⟨Aa, ca, eo⟩ := Kd.S_slice HO1.out; subst eo; have HCa := Aside0.mk (Kd.S_reads' HO1.out)))
        | (go_at_call 24; ((with_reducible refine (mani_Of.calls a0 Aa ca a _ _ _ _ _ HCa.out.2.2 HCa.out.2.1 HOF.out).mono ?_); rintro e w2 ⟨v2, rfl, ho, hb⟩; have HB2 := Aside0.mk hb; have HO2 := Aside0.mk ho; clear hb ho; obtain ⟨Am, cm, eo⟩ := Kd.R_slice HO2.out; subst eo; have HCm := Aside0.mk (Kd.R_reads' HO2.out)))
        | ((with_reducible refine gate_dst (N := 18) rfl ?_); refine box_event ?hg (N := 18) ?hd (cs := #[.int .u64 0, .slice none 0 0, .int .u32 0]) (t := 46) ?hr ?_; (case hd => rfl); (case hg => rfl); (case hr => first | (go_simp; done) | (go_simp; rfl)); intro g0 hg w3 hbox hb; have HBw3 := Aside0.mk hb; have BKg0 := Aside0.mk hbox; have GEg0 := Aside0.mk (Nat.le_of_eq hg.symm); have hz0 := (blk_cell hbox 0).trans rfl; have hz1 := (blk_cell hbox 1).trans rfl; have hz2 := (blk_cell hbox 2).trans rfl; have hzf0 := blk_frozen hbox 0; have hzf1 := blk_frozen hbox 1; have hzf2 := blk_frozen hbox 2; clear hb hbox hg)
        | (go_at_call 23; ((with_reducible refine (scullerlaw12_Arena_c.calls A1 c1 l1 a2 a3 a _ (Kd.C_below HR1.out (below_set (below_set (below_set (below_then (below_then HB1.out HB1.out.size HB2.out) (Nat.le_trans HB1.out.size HB2.out.size) HBw3.out) (Nat.le_trans (Nat.le_trans HB1.out.size HB2.out.size) GEg0.out)) (Nat.le_trans (Nat.le_trans HB1.out.size HB2.out.size) GEg0.out)) (Nat.le_trans (Nat.le_trans HB1.out.size HB2.out.size) GEg0.out))) HC1.out HAA.out).mono ?_); rintro e w4 ⟨v4, rfl, ho, hb⟩; have HB4 := Aside0.mk hb; have HO4 := Aside0.mk ho; clear hb ho hz0 hz1 hz2 hzf0 hzf1 hzf2; obtain ⟨Ab, cb, eo⟩ := Kd.S_slice HO4.out; subst eo; have hLW3 : w2.heap.size ≤ (((w3.setCell ⟨g0, 0, none⟩ (.int .u64 a0)).setCell ⟨g0, 1, none⟩ (.slice Am S.length cm)).setCell ⟨g0, 2, none⟩ (.int .u32 sm)).heap.size := (below_set (below_set (below_set HBw3.out GEg0.out) GEg0.out) GEg0.out).size; have K0 := Aside0.mk (blk_below (blk_put (cs := #[.int .u64 a0, .slice Am S.length cm, .int .u32 0]) (blk_put (cs := #[.int .u64 a0, .slice none 0 0, .int .u32 0]) (blk_put BKg0.out 0 _ rfl) 1 _ rfl) 2 _ rfl) HB4.out); have B3 := Aside0.mk (show Below w2.heap.size w2 (((w3.setCell ⟨g0, 0, none⟩ (.int .u64 a0)).setCell ⟨g0, 1, none⟩ (.slice Am S.length cm)).setCell ⟨g0, 2, none⟩ (.int .u32 sm)) from (below_set (below_set (below_set HBw3.out GEg0.out) GEg0.out) GEg0.out)); have HLW3 := Aside0.mk hLW3; clear hLW3 BKg0 HBw3; generalize ((w3.setCell ⟨g0, 0, none⟩ (.int .u64 a0)).setCell ⟨g0, 1, none⟩ (.slice Am S.length cm)).setCell ⟨g0, 2, none⟩ (.int .u32 sm) = w3' at HB4 HO4 HLW3 B3; have HCb := Aside0.mk (Kd.S_reads' HO4.out); have hw := HW.out; have hi := HI.out; have hk := HK.out; have hsame := HSA.out; have hn1 := HLN.out.1; have hi2 : (i : Int) < (a.length : Int) := (by have := HIL.out; omega); have hi1 : (0 : Int) ≤ (i : Int) := (by omega); have hk2 : (k : Int) < (seg.length : Int) := (by have := HKL.out; omega); have hk1 : (0 : Int) ≤ (k : Int) := (by omega); have hn9 : 1 ≤ seg.length := HK1.out; obtain ⟨gb, rfl⟩ := R_at_ (Kd.S_R HO4.out) HN1.out []; obtain ⟨oki, ce, hcl, hM, hcc, hfr, hoki, hH⟩ := Kd.S_elem HO4.out [] (i : Int) (by omega) (by have := HIL.out; omega); rw [HGI.out] at hM; obtain ⟨vi, rfl, hri⟩ := hM; have hcell : w4.cell? ⟨gb, i, none⟩ = some vi := (by have h9 := hcc 0 vi rfl; rw [Int.toNat_natCast] at h9; exact (by simpa [Kd.slice, Kd.scalar] using h9)); obtain ⟨Ai, ci, ei⟩ := Kd.R_slice hri; subst ei; have HRI := Aside0.mk hri; have HHH := Aside0.mk hH; have HOKI := Aside0.mk hoki; clear hcl hcc hfr hoki hH hri; obtain ⟨g2, rfl⟩ := R_at_ HRI.out HK1.out 0; obtain ⟨ce2, hcl2, hM2, hcc2, hfr2⟩ := Kd.R_elem HRI.out 0 (k : Int) hk1 hk2; rw [HGK.out] at hM2; have hM3 : ce2 = [.int .u64 x] := hM2; subst hM3; have hcell2 : w4.cell? ⟨g2, k, none⟩ = some (.int .u64 x) := (by have h9 := hcc2 0 _ rfl; rw [Int.toNat_natCast] at h9; exact (by simpa [Kd.int, Kd.scalar] using h9)); have hfr3 : w4.frozen? ⟨g2, k, none⟩ = false := (by have h9 := hfr2 0; rw [Int.toNat_natCast] at h9; exact (by simpa [Kd.int, Kd.scalar] using h9)); have HFR2 := Aside0.mk hcc2; clear hcl2 hM2 hcc2 hfr2)))
      go_still_tail 20, (by kernel_rfl)
      change wpList _ _ _ _ _ w4.drew
      have hfl := HFL.out
      go_wp2_with fail
      have hcc9 : ∀ j u, ([Value.int .u64 x] : List Value)[j]? = some u → w4.cell? ⟨g2, (k : Int).toNat * (Kd.int .u64).sz + j, none⟩ = some u := by
        intro j u hu
        rw [Int.toNat_natCast]
        rcases j with _ | j
        · obtain rfl := Option.some.inj hu
          simpa [Kd.int, Kd.scalar] using hcell2
        · simp at hu
      obtain ⟨hS9, hg9⟩ := Kd.R_seg HRI.out (k : Int) hk1 hk2 (c := [.int .u64 x]) (seg := [.int .u64 y]) (j := 0) (x' := y) (okp := fun _ => False) rfl hcc9 (by simp [Kd.int, Kd.scalar]) rfl (fun _ h => h.elim)
      rw [show ((k : Int).toNat * (Kd.int .u64).sz + 0) = k from by rw [Int.toNat_natCast]; simp [Kd.int, Kd.scalar], Int.toNat_natCast] at hS9
      rw [show ((k : Int).toNat * (Kd.int .u64).sz + 0) = k from by rw [Int.toNat_natCast]; simp [Kd.int, Kd.scalar]] at hg9
      have hg8 : w4.grownBy (w4.setCell ⟨g2, k, none⟩ (.int .u64 y)).drew (some g2) := ⟨hg9.os, hg9.tape, hg9.output, hg9.size, hg9.block⟩
      have hS8 : (Kd.int .u64).R 42 (w4.setCell ⟨g2, k, none⟩ (.int .u64 y)).drew w3'.heap.size oki (.slice (some ⟨g2, 0, none⟩) seg.length ci) (seg.set k y) := Kd.R_drew hS9
      have hb0 : w3'.heap.size ≤ g2 := Kd.R_base HRI.out g2 rfl
      have B5 := Aside0.mk (show Below w2.heap.size w2 (w4.setCell ⟨g2, k, none⟩ (.int .u64 y)).drew from below_drew (below_set (below_then B3.out HLW3.out HB4.out) (Nat.le_trans HLW3.out hb0)))
      have hS5 := Kd.H_back (Kd.H_grown HHH.out hg8 (fun q e => HRI.out.1 q e)) (x' := seg.set k y) (okp := oki) ⟨_, rfl, hS8⟩ (fun _ h => h)
      have K5 := Aside0.mk (blk_grown K0.out hg8 (fun e => Kd.R_ne HRI.out K0.out (by decide) e))
      generalize (w4.setCell ⟨g2, k, none⟩ (.int .u64 y)).drew = w5 at hS5 B5 K5 ⊢
      rw [Int.toNat_natCast, HBD.out] at hS5
      have hCb := Kd.S_reads' hS5
      rw [hCb.1] at hCb
      have hlab : a.length = b.length := (Kd.S_reads' hS5).1
      rw [show Value.slice (some ⟨gb, 0, none⟩) a.length cb = .slice (some ⟨gb, 0, none⟩) b.length cb from by rw [hlab]]
      have HCb5 := Aside0.mk hCb
      clear hcc9 hcell hcell2 hfr3 hS9 hg9 hg8 hS8 hb0 hS5 hCb hlab hi hk hfl hn1 hi2 hi1 hk2 hk1 hn9
      cases same
      · go_wp2_with (first
          | (go_at_call 24; ((with_reducible refine (mani_Of.calls a0 (some ⟨gb, 0, none⟩) cb b _ _ _ _ _ HCb5.out.2.2 HCb5.out.2.1 HOB.out).mono ?_); rintro e w6 ⟨v6, rfl, ho, hb⟩; have HB6 := Aside0.mk hb; have HO6 := Aside0.mk ho; have P6 := Aside0.mk (blk_below K5.out hb); clear hb ho; obtain ⟨An, cn, eo⟩ := Kd.R_slice HO6.out; subst eo; have HCn := Aside0.mk (Kd.R_reads' HO6.out)))
          | ((with_reducible refine gate_dst (N := 25) rfl ?_); refine box_event ?hg (N := 25) ?hd (cs := #[.int .u64 0, .slice none 0 0, .int .u32 0]) (t := 46) ?hr ?_; (case hd => rfl); (case hg => rfl); (case hr => first | (go_simp; done) | (go_simp; rfl)); intro g1 hg w7 hbox hb; have HBw7 := Aside0.mk hb; have BKg1 := Aside0.mk hbox; have GEg1 := Aside0.mk (Nat.le_of_eq hg.symm); have hz0 := (blk_cell hbox 0).trans rfl; have hz1 := (blk_cell hbox 1).trans rfl; have hz2 := (blk_cell hbox 2).trans rfl; have hzf0 := blk_frozen hbox 0; have hzf1 := blk_frozen hbox 1; have hzf2 := blk_frozen hbox 2; clear hb hbox hg)
          | (go_at_call 25; ((with_reducible refine (scullerlaw12_known.calls true _ known12_).mono ?_); rintro e w8 ⟨rfl, hb⟩; have hne : g0 ≠ g1 := (by have h1 := blk_lt P6.out; have h2 := GEg1.out; omega); have X7 := Aside0.mk (show Below w6.heap.size w6 (((w7.setCell ⟨g1, 0, none⟩ (.int .u64 a0)).setCell ⟨g1, 1, none⟩ (.slice An S.length cn)).setCell ⟨g1, 2, none⟩ (.int .u32 sm2)) from (below_set (below_set (below_set HBw7.out GEg1.out) GEg1.out) GEg1.out)); have X8 := Aside0.mk (below_then X7.out X7.out.size hb); have P8 := Aside0.mk (blk_below (blk_far (p := ⟨g1, 2, none⟩) (blk_far (p := ⟨g1, 1, none⟩) (blk_far (p := ⟨g1, 0, none⟩) (blk_below P6.out HBw7.out) hne _) hne _) hne _) hb); have Q8 := Aside0.mk (blk_below (blk_put (cs := #[.int .u64 a0, .slice An S.length cn, .int .u32 0]) (blk_put (cs := #[.int .u64 a0, .slice none 0 0, .int .u32 0]) (blk_put BKg1.out 0 _ rfl) 1 _ rfl) 2 _ rfl) hb); clear hb hne hz0 hz1 hz2 hzf0 hzf1 hzf2 X7 BKg1 HBw7; have c0 : w8.cell? ⟨g0, 0, none⟩ = _ := (blk_cell P8.out 0).trans rfl; have c1 : w8.cell? ⟨g0, 1, none⟩ = _ := (blk_cell P8.out 1).trans rfl; have c2 : w8.cell? ⟨g0, 2, none⟩ = _ := (blk_cell P8.out 2).trans rfl; have d0 : w8.cell? ⟨g1, 0, none⟩ = _ := (blk_cell Q8.out 0).trans rfl; have d1 : w8.cell? ⟨g1, 1, none⟩ = _ := (blk_cell Q8.out 1).trans rfl; have d2 : w8.cell? ⟨g1, 2, none⟩ = _ := (blk_cell Q8.out 2).trans rfl))
          | (go_at_call 26; ((with_reducible refine (mani_Same.calls a0 Am cm S sm a0 An cn S sm2 false _ (Kd.C_below HCm.out.2.2 (below_then B5.out B5.out.size (below_then HB6.out HB6.out.size X8.out))) HCm.out.2.1 (Kd.C_below HCn.out.2.2 X8.out) HCn.out.2.1 HSM.out).mono ?_); rintro e w9 ⟨rfl, hb⟩; have X9 := Aside0.mk (below_then X8.out X8.out.size hb); have P9 := Aside0.mk (blk_below P8.out hb); have Q9 := Aside0.mk (blk_below Q8.out hb); clear hb c0 c1 c2 d0 d1 d2; have c0 : w9.cell? ⟨g0, 0, none⟩ = _ := (blk_cell P9.out 0).trans rfl; have c1 : w9.cell? ⟨g0, 1, none⟩ = _ := (blk_cell P9.out 1).trans rfl; have c2 : w9.cell? ⟨g0, 2, none⟩ = _ := (blk_cell P9.out 2).trans rfl; have d0 : w9.cell? ⟨g1, 0, none⟩ = _ := (blk_cell Q9.out 0).trans rfl; have d1 : w9.cell? ⟨g1, 1, none⟩ = _ := (blk_cell Q9.out 1).trans rfl; have d2 : w9.cell? ⟨g1, 2, none⟩ = _ := (blk_cell Q9.out 2).trans rfl))
          | (go_at_call 27; ((with_reducible refine (mani_Matches.calls a0 Am cm S sm Aa ca a true _ (Kd.C_below HCm.out.2.2 (below_then B5.out B5.out.size (below_then HB6.out HB6.out.size X9.out))) HCm.out.2.1 (Kd.C_below HCa.out.2.2 (below_then HB2.out HB2.out.size (below_then B5.out B5.out.size (below_then HB6.out HB6.out.size X9.out)))) HCa.out.2.1 HM1.out).mono ?_); rintro e w10 ⟨rfl, hb⟩; have X10 := Aside0.mk (below_then X9.out X9.out.size hb); have P10 := Aside0.mk (blk_below P9.out hb); have Q10 := Aside0.mk (blk_below Q9.out hb); clear hb c0 c1 c2 d0 d1 d2; have c0 : w10.cell? ⟨g0, 0, none⟩ = _ := (blk_cell P10.out 0).trans rfl; have c1 : w10.cell? ⟨g0, 1, none⟩ = _ := (blk_cell P10.out 1).trans rfl; have c2 : w10.cell? ⟨g0, 2, none⟩ = _ := (blk_cell P10.out 2).trans rfl; have d0 : w10.cell? ⟨g1, 0, none⟩ = _ := (blk_cell Q10.out 0).trans rfl; have d1 : w10.cell? ⟨g1, 1, none⟩ = _ := (blk_cell Q10.out 1).trans rfl; have d2 : w10.cell? ⟨g1, 2, none⟩ = _ := (blk_cell Q10.out 2).trans rfl))
          | (go_at_call 27; ((with_reducible refine (mani_Matches.calls a0 Am cm S sm (some ⟨gb, 0, none⟩) cb b false _ (Kd.C_below HCm.out.2.2 (below_then B5.out B5.out.size (below_then HB6.out HB6.out.size X10.out))) HCm.out.2.1 (Kd.C_below HCb5.out.2.2 (below_then HB6.out HB6.out.size X10.out)) HCb5.out.2.1 HM2.out).mono ?_); rintro e w11 ⟨rfl, hb⟩; have X11 := Aside0.mk (below_then X10.out X10.out.size hb); have P11 := Aside0.mk (blk_below P10.out hb); have Q11 := Aside0.mk (blk_below Q10.out hb); clear hb c0 c1 c2 d0 d1 d2; have c0 : w11.cell? ⟨g0, 0, none⟩ = _ := (blk_cell P11.out 0).trans rfl; have c1 : w11.cell? ⟨g0, 1, none⟩ = _ := (blk_cell P11.out 1).trans rfl; have c2 : w11.cell? ⟨g0, 2, none⟩ = _ := (blk_cell P11.out 2).trans rfl; have d0 : w11.cell? ⟨g1, 0, none⟩ = _ := (blk_cell Q11.out 0).trans rfl; have d1 : w11.cell? ⟨g1, 1, none⟩ = _ := (blk_cell Q11.out 1).trans rfl; have d2 : w11.cell? ⟨g1, 2, none⟩ = _ := (blk_cell Q11.out 2).trans rfl)))
        go_ret
        exact ⟨rfl, below_then HB1.out HB1.out.size (below_then HB2.out HB2.out.size (below_then B5.out B5.out.size (below_then HB6.out HB6.out.size X11.out)))⟩
      · go_wp2_with (first
          | (go_at_call 24; ((with_reducible refine (mani_Of.calls a0 (some ⟨gb, 0, none⟩) cb b _ _ _ _ _ HCb5.out.2.2 HCb5.out.2.1 HOB.out).mono ?_); rintro e w6 ⟨v6, rfl, ho, hb⟩; have HB6 := Aside0.mk hb; have HO6 := Aside0.mk ho; have P6 := Aside0.mk (blk_below K5.out hb); clear hb ho; obtain ⟨An, cn, eo⟩ := Kd.R_slice HO6.out; subst eo; have HCn := Aside0.mk (Kd.R_reads' HO6.out)))
          | ((with_reducible refine gate_dst (N := 25) rfl ?_); refine box_event ?hg (N := 25) ?hd (cs := #[.int .u64 0, .slice none 0 0, .int .u32 0]) (t := 46) ?hr ?_; (case hd => rfl); (case hg => rfl); (case hr => first | (go_simp; done) | (go_simp; rfl)); intro g1 hg w7 hbox hb; have HBw7 := Aside0.mk hb; have BKg1 := Aside0.mk hbox; have GEg1 := Aside0.mk (Nat.le_of_eq hg.symm); have hz0 := (blk_cell hbox 0).trans rfl; have hz1 := (blk_cell hbox 1).trans rfl; have hz2 := (blk_cell hbox 2).trans rfl; have hzf0 := blk_frozen hbox 0; have hzf1 := blk_frozen hbox 1; have hzf2 := blk_frozen hbox 2; clear hb hbox hg)
          | (go_at_call 25; ((with_reducible refine (scullerlaw12_known.calls true _ known12_).mono ?_); rintro e w8 ⟨rfl, hb⟩; have hne : g0 ≠ g1 := (by have h1 := blk_lt P6.out; have h2 := GEg1.out; omega); have X7 := Aside0.mk (show Below w6.heap.size w6 (((w7.setCell ⟨g1, 0, none⟩ (.int .u64 a0)).setCell ⟨g1, 1, none⟩ (.slice An S.length cn)).setCell ⟨g1, 2, none⟩ (.int .u32 sm2)) from (below_set (below_set (below_set HBw7.out GEg1.out) GEg1.out) GEg1.out)); have X8 := Aside0.mk (below_then X7.out X7.out.size hb); have P8 := Aside0.mk (blk_below (blk_far (p := ⟨g1, 2, none⟩) (blk_far (p := ⟨g1, 1, none⟩) (blk_far (p := ⟨g1, 0, none⟩) (blk_below P6.out HBw7.out) hne _) hne _) hne _) hb); have Q8 := Aside0.mk (blk_below (blk_put (cs := #[.int .u64 a0, .slice An S.length cn, .int .u32 0]) (blk_put (cs := #[.int .u64 a0, .slice none 0 0, .int .u32 0]) (blk_put BKg1.out 0 _ rfl) 1 _ rfl) 2 _ rfl) hb); clear hb hne hz0 hz1 hz2 hzf0 hzf1 hzf2 X7 BKg1 HBw7; have c0 : w8.cell? ⟨g0, 0, none⟩ = _ := (blk_cell P8.out 0).trans rfl; have c1 : w8.cell? ⟨g0, 1, none⟩ = _ := (blk_cell P8.out 1).trans rfl; have c2 : w8.cell? ⟨g0, 2, none⟩ = _ := (blk_cell P8.out 2).trans rfl; have d0 : w8.cell? ⟨g1, 0, none⟩ = _ := (blk_cell Q8.out 0).trans rfl; have d1 : w8.cell? ⟨g1, 1, none⟩ = _ := (blk_cell Q8.out 1).trans rfl; have d2 : w8.cell? ⟨g1, 2, none⟩ = _ := (blk_cell Q8.out 2).trans rfl))
          | (go_at_call 26; ((with_reducible refine (mani_Same.calls a0 Am cm S sm a0 An cn S sm2 true _ (Kd.C_below HCm.out.2.2 (below_then B5.out B5.out.size (below_then HB6.out HB6.out.size X8.out))) HCm.out.2.1 (Kd.C_below HCn.out.2.2 X8.out) HCn.out.2.1 HSM.out).mono ?_); rintro e w9 ⟨rfl, hb⟩; have X9 := Aside0.mk (below_then X8.out X8.out.size hb); have P9 := Aside0.mk (blk_below P8.out hb); have Q9 := Aside0.mk (blk_below Q8.out hb); clear hb c0 c1 c2 d0 d1 d2; have c0 : w9.cell? ⟨g0, 0, none⟩ = _ := (blk_cell P9.out 0).trans rfl; have c1 : w9.cell? ⟨g0, 1, none⟩ = _ := (blk_cell P9.out 1).trans rfl; have c2 : w9.cell? ⟨g0, 2, none⟩ = _ := (blk_cell P9.out 2).trans rfl; have d0 : w9.cell? ⟨g1, 0, none⟩ = _ := (blk_cell Q9.out 0).trans rfl; have d1 : w9.cell? ⟨g1, 1, none⟩ = _ := (blk_cell Q9.out 1).trans rfl; have d2 : w9.cell? ⟨g1, 2, none⟩ = _ := (blk_cell Q9.out 2).trans rfl))
          | (go_at_call 27; ((with_reducible refine (mani_Matches.calls a0 Am cm S sm Aa ca a true _ (Kd.C_below HCm.out.2.2 (below_then B5.out B5.out.size (below_then HB6.out HB6.out.size X9.out))) HCm.out.2.1 (Kd.C_below HCa.out.2.2 (below_then HB2.out HB2.out.size (below_then B5.out B5.out.size (below_then HB6.out HB6.out.size X9.out)))) HCa.out.2.1 HM1.out).mono ?_); rintro e w10 ⟨rfl, hb⟩; have X10 := Aside0.mk (below_then X9.out X9.out.size hb); have P10 := Aside0.mk (blk_below P9.out hb); have Q10 := Aside0.mk (blk_below Q9.out hb); clear hb c0 c1 c2 d0 d1 d2; have c0 : w10.cell? ⟨g0, 0, none⟩ = _ := (blk_cell P10.out 0).trans rfl; have c1 : w10.cell? ⟨g0, 1, none⟩ = _ := (blk_cell P10.out 1).trans rfl; have c2 : w10.cell? ⟨g0, 2, none⟩ = _ := (blk_cell P10.out 2).trans rfl; have d0 : w10.cell? ⟨g1, 0, none⟩ = _ := (blk_cell Q10.out 0).trans rfl; have d1 : w10.cell? ⟨g1, 1, none⟩ = _ := (blk_cell Q10.out 1).trans rfl; have d2 : w10.cell? ⟨g1, 2, none⟩ = _ := (blk_cell Q10.out 2).trans rfl))
          | (go_at_call 27; ((with_reducible refine (mani_Matches.calls a0 Am cm S sm (some ⟨gb, 0, none⟩) cb b true _ (Kd.C_below HCm.out.2.2 (below_then B5.out B5.out.size (below_then HB6.out HB6.out.size X10.out))) HCm.out.2.1 (Kd.C_below HCb5.out.2.2 (below_then HB6.out HB6.out.size X10.out)) HCb5.out.2.1 HM2.out).mono ?_); rintro e w11 ⟨rfl, hb⟩; have X11 := Aside0.mk (below_then X10.out X10.out.size hb); have P11 := Aside0.mk (blk_below P10.out hb); have Q11 := Aside0.mk (blk_below Q10.out hb); clear hb c0 c1 c2 d0 d1 d2; have c0 : w11.cell? ⟨g0, 0, none⟩ = _ := (blk_cell P11.out 0).trans rfl; have c1 : w11.cell? ⟨g0, 1, none⟩ = _ := (blk_cell P11.out 1).trans rfl; have c2 : w11.cell? ⟨g0, 2, none⟩ = _ := (blk_cell P11.out 2).trans rfl; have d0 : w11.cell? ⟨g1, 0, none⟩ = _ := (blk_cell Q11.out 0).trans rfl; have d1 : w11.cell? ⟨g1, 1, none⟩ = _ := (blk_cell Q11.out 1).trans rfl; have d2 : w11.cell? ⟨g1, 2, none⟩ = _ := (blk_cell Q11.out 2).trans rfl)))
        go_ret
        exact ⟨rfl, below_then HB1.out HB1.out.size (below_then HB2.out HB2.out.size (below_then B5.out B5.out.size (below_then HB6.out HB6.out.size X11.out)))⟩
  · have hS2 : (sizesL a ++ [0]).length = (sizesL a).length + 1 := by simp
    have hne : sizesL a ≠ sizesL a ++ [0] := fun e => by have := congrArg List.length e; omega
    have hfb : rightB (a ++ [[]]) = true := by
      have h9 := fits_more (l := sizesL a) hfit (by rw [sizesL_length]; omega)
      unfold rightB
      rw [tells_more]
      exact h9
    have hlb : (a ++ [[]]).length ≤ 1000000 := by simp; omega
    have hla : a.length ≤ 1000000 := by omega
    have hlS : (sizesL a).length ≤ 1000000 := by rw [sizesL_length]; omega
    have HOF := of_right a0 a hla hs hfit
    have HOB := of_right a0 (a ++ [[]]) hlb hs hfb
    have HSM := same_of a0 a0 (sizesL a) (sizesL a ++ [0]) (sumM a0 a) (sumM a0 (a ++ [[]])) hlS
    have HM1 := matches_of a0 (sumM a0 a) (sizesL a) a hlS hla hs hfit
    have HM2 := matches_of a0 (sumM a0 a) (sizesL a) (a ++ [[]]) hlS hlb hs hfb
    rw [tells_more] at HOB HM2
    rw [decide_eq_false hne, Bool.and_false] at HSM HM2
    rw [decide_eq_true rfl, decide_eq_true rfl, Bool.true_and] at HM1
    obtain ⟨b, hbd⟩ : ∃ b, a ++ [[]] = b := ⟨_, rfl⟩
    obtain ⟨S2, hS2d⟩ : ∃ S2, sizesL a ++ [0] = S2 := ⟨_, rfl⟩
    rw [hbd] at HOB HSM HM2
    rw [hS2d] at HOB HSM
    obtain ⟨sm2, hsm2⟩ : ∃ sm2, sumM a0 b = sm2 := ⟨_, rfl⟩
    rw [hsm2] at HOB HSM
    obtain ⟨S, hSd⟩ : ∃ S, sizesL a = S := ⟨_, rfl⟩
    obtain ⟨sm, hsm⟩ : ∃ sm, sumM a0 a = sm := ⟨_, rfl⟩
    rw [hSd, hsm] at HOF HSM HM1 HM2
    replace HOF := Aside0.mk HOF
    replace HOB := Aside0.mk HOB
    replace HSM := Aside0.mk HSM
    replace HM1 := Aside0.mk HM1
    replace HM2 := Aside0.mk HM2
    have HBD := Aside0.mk hbd
    have HLN := Aside0.mk hlen
    have HW := Aside0.mk hw
    have HAA := Aside0.mk harena
    clear hlen hfit harena hw hS2 hne hfb hlb hla hlS hbd hS2d hsm2 hSd hsm ha
    go_enter Try.func6, Try.ntmps6
    go_wp2_with (first
      | (go_at_call 23; ((with_reducible refine (scullerlaw12_Arena_c.calls A1 c1 l1 a2 a3 a _ HR1.out HC1.out HAA.out).mono ?_); rintro e w1 ⟨v1, rfl, ho, hb⟩; have HB1 := Aside0.mk hb; have HO1 := Aside0.mk ho; clear hb ho; obtain ⟨Aa, ca, eo⟩ := Kd.S_slice HO1.out; subst eo; have HCa := Aside0.mk (Kd.S_reads' HO1.out)))
      | (go_at_call 24; ((with_reducible refine (mani_Of.calls a0 Aa ca a _ _ _ _ _ HCa.out.2.2 HCa.out.2.1 HOF.out).mono ?_); rintro e w2 ⟨v2, rfl, ho, hb⟩; have HB2 := Aside0.mk hb; have HO2 := Aside0.mk ho; clear hb ho; obtain ⟨Am, cm, eo⟩ := Kd.R_slice HO2.out; subst eo; have HCm := Aside0.mk (Kd.R_reads' HO2.out)))
      | ((with_reducible refine gate_dst (N := 18) rfl ?_); refine box_event ?hg (N := 18) ?hd (cs := #[.int .u64 0, .slice none 0 0, .int .u32 0]) (t := 46) ?hr ?_; (case hd => rfl); (case hg => rfl); (case hr => first | (go_simp; done) | (go_simp; rfl)); intro g0 hg w3 hbox hb; have HBw3 := Aside0.mk hb; have BKg0 := Aside0.mk hbox; have GEg0 := Aside0.mk (Nat.le_of_eq hg.symm); have hz0 := (blk_cell hbox 0).trans rfl; have hz1 := (blk_cell hbox 1).trans rfl; have hz2 := (blk_cell hbox 2).trans rfl; have hzf0 := blk_frozen hbox 0; have hzf1 := blk_frozen hbox 1; have hzf2 := blk_frozen hbox 2; clear hb hbox hg)
      | (go_at_call 23; ((with_reducible refine (scullerlaw12_Arena_c.calls A1 c1 l1 a2 a3 a _ (Kd.C_below HR1.out (below_set (below_set (below_set (below_then (below_then HB1.out HB1.out.size HB2.out) (Nat.le_trans HB1.out.size HB2.out.size) HBw3.out) (Nat.le_trans (Nat.le_trans HB1.out.size HB2.out.size) GEg0.out)) (Nat.le_trans (Nat.le_trans HB1.out.size HB2.out.size) GEg0.out)) (Nat.le_trans (Nat.le_trans HB1.out.size HB2.out.size) GEg0.out))) HC1.out HAA.out).mono ?_); rintro e w4 ⟨v4, rfl, ho, hb⟩; have HB4 := Aside0.mk hb; have HO4 := Aside0.mk ho; clear hb ho hz0 hz1 hz2 hzf0 hzf1 hzf2; obtain ⟨Ab, cb, eo⟩ := Kd.S_slice HO4.out; subst eo; have hLW3 : w2.heap.size ≤ (((w3.setCell ⟨g0, 0, none⟩ (.int .u64 a0)).setCell ⟨g0, 1, none⟩ (.slice Am S.length cm)).setCell ⟨g0, 2, none⟩ (.int .u32 sm)).heap.size := (below_set (below_set (below_set HBw3.out GEg0.out) GEg0.out) GEg0.out).size; have K0 := Aside0.mk (blk_below (blk_put (cs := #[.int .u64 a0, .slice Am S.length cm, .int .u32 0]) (blk_put (cs := #[.int .u64 a0, .slice none 0 0, .int .u32 0]) (blk_put BKg0.out 0 _ rfl) 1 _ rfl) 2 _ rfl) HB4.out); have B3 := Aside0.mk (show Below w2.heap.size w2 (((w3.setCell ⟨g0, 0, none⟩ (.int .u64 a0)).setCell ⟨g0, 1, none⟩ (.slice Am S.length cm)).setCell ⟨g0, 2, none⟩ (.int .u32 sm)) from (below_set (below_set (below_set HBw3.out GEg0.out) GEg0.out) GEg0.out)); have HLW3 := Aside0.mk hLW3; clear hLW3 BKg0 HBw3; generalize ((w3.setCell ⟨g0, 0, none⟩ (.int .u64 a0)).setCell ⟨g0, 1, none⟩ (.slice Am S.length cm)).setCell ⟨g0, 2, none⟩ (.int .u32 sm) = w3' at HB4 HO4 HLW3 B3; have HCb := Aside0.mk (Kd.S_reads' HO4.out); have hw := HW.out; have hn1 := HLN.out.1; have hn2 := HLN.out.2))
      | ((with_reducible refine gate_builtin (b := .append) (xs := #[.tmp 48, .tmp 49]) rfl ?_); at_builtin; refine Kd.R_append (Kd.slice 42 (Kd.int .u64)) (w0 := w3') w3'.heap.size rfl (.tmp 48) (.tmp 49) 26 37 (.slice none 0 0) 24 rfl Try.underlying26 info37 rfl (by decide) (by omega) (.slice Ab a.length cb) a [] [.slice none 0 0] (fun _ => True) (fun _ => False) rfl rfl ?aP (fun _ hk => hk.elim) (fun _ _ => trivial) (Kd.S_R HO4.out) HB4.out HB4.out.size (by have := HLN.out; omega) ?_; (case aP => exact ⟨_, rfl, Kd.R_nil _ _ _ _ _⟩); intro v5 w5 ho hb hg hat; rw [HBD.out] at ho; have B5 := Aside0.mk (below_then B3.out HLW3.out hb); have K5 := Aside0.mk (blk_grown K0.out hg (fun e => Kd.R_ne (Kd.S_R HO4.out) K0.out (by decide) e)); have HCb5 := Aside0.mk (Kd.R_reads ho); clear ho hb hg hat hn1 hn2; obtain ⟨Ab5, cb5, eo, hcb5⟩ := HCb5.out; subst eo; clear HCb5; have HCb5 := Aside0.mk (And.intro trivial hcb5); clear hcb5)
      | (go_at_call 24; ((with_reducible refine (mani_Of.calls a0 Ab5 cb5 b _ _ _ _ _ HCb5.out.2.2 HCb5.out.2.1 HOB.out).mono ?_); rintro e w6 ⟨v6, rfl, ho, hb⟩; have HB6 := Aside0.mk hb; have HO6 := Aside0.mk ho; have P6 := Aside0.mk (blk_below K5.out hb); clear hb ho; obtain ⟨An, cn, eo⟩ := Kd.R_slice HO6.out; subst eo; have HCn := Aside0.mk (Kd.R_reads' HO6.out)))
      | ((with_reducible refine gate_dst (N := 25) rfl ?_); refine box_event ?hg (N := 25) ?hd (cs := #[.int .u64 0, .slice none 0 0, .int .u32 0]) (t := 46) ?hr ?_; (case hd => rfl); (case hg => rfl); (case hr => first | (go_simp; done) | (go_simp; rfl)); intro g1 hg w7 hbox hb; have HBw7 := Aside0.mk hb; have BKg1 := Aside0.mk hbox; have GEg1 := Aside0.mk (Nat.le_of_eq hg.symm); have hz0 := (blk_cell hbox 0).trans rfl; have hz1 := (blk_cell hbox 1).trans rfl; have hz2 := (blk_cell hbox 2).trans rfl; have hzf0 := blk_frozen hbox 0; have hzf1 := blk_frozen hbox 1; have hzf2 := blk_frozen hbox 2; clear hb hbox hg)
      | (go_at_call 25; ((with_reducible refine (scullerlaw12_known.calls true _ known12_).mono ?_); rintro e w8 ⟨rfl, hb⟩; have hne : g0 ≠ g1 := (by have h1 := blk_lt P6.out; have h2 := GEg1.out; omega); have X7 := Aside0.mk (show Below w6.heap.size w6 (((w7.setCell ⟨g1, 0, none⟩ (.int .u64 a0)).setCell ⟨g1, 1, none⟩ (.slice An S2.length cn)).setCell ⟨g1, 2, none⟩ (.int .u32 sm2)) from (below_set (below_set (below_set HBw7.out GEg1.out) GEg1.out) GEg1.out)); have X8 := Aside0.mk (below_then X7.out X7.out.size hb); have P8 := Aside0.mk (blk_below (blk_far (p := ⟨g1, 2, none⟩) (blk_far (p := ⟨g1, 1, none⟩) (blk_far (p := ⟨g1, 0, none⟩) (blk_below P6.out HBw7.out) hne _) hne _) hne _) hb); have Q8 := Aside0.mk (blk_below (blk_put (cs := #[.int .u64 a0, .slice An S2.length cn, .int .u32 0]) (blk_put (cs := #[.int .u64 a0, .slice none 0 0, .int .u32 0]) (blk_put BKg1.out 0 _ rfl) 1 _ rfl) 2 _ rfl) hb); clear hb hne hz0 hz1 hz2 hzf0 hzf1 hzf2 X7 BKg1 HBw7; have c0 : w8.cell? ⟨g0, 0, none⟩ = _ := (blk_cell P8.out 0).trans rfl; have c1 : w8.cell? ⟨g0, 1, none⟩ = _ := (blk_cell P8.out 1).trans rfl; have c2 : w8.cell? ⟨g0, 2, none⟩ = _ := (blk_cell P8.out 2).trans rfl; have d0 : w8.cell? ⟨g1, 0, none⟩ = _ := (blk_cell Q8.out 0).trans rfl; have d1 : w8.cell? ⟨g1, 1, none⟩ = _ := (blk_cell Q8.out 1).trans rfl; have d2 : w8.cell? ⟨g1, 2, none⟩ = _ := (blk_cell Q8.out 2).trans rfl))
      | (go_at_call 26; ((with_reducible refine (mani_Same.calls a0 Am cm S sm a0 An cn S2 sm2 false _ (Kd.C_below HCm.out.2.2 (below_then B5.out B5.out.size (below_then HB6.out HB6.out.size X8.out))) HCm.out.2.1 (Kd.C_below HCn.out.2.2 X8.out) HCn.out.2.1 HSM.out).mono ?_); rintro e w9 ⟨rfl, hb⟩; have X9 := Aside0.mk (below_then X8.out X8.out.size hb); have P9 := Aside0.mk (blk_below P8.out hb); have Q9 := Aside0.mk (blk_below Q8.out hb); clear hb c0 c1 c2 d0 d1 d2; have c0 : w9.cell? ⟨g0, 0, none⟩ = _ := (blk_cell P9.out 0).trans rfl; have c1 : w9.cell? ⟨g0, 1, none⟩ = _ := (blk_cell P9.out 1).trans rfl; have c2 : w9.cell? ⟨g0, 2, none⟩ = _ := (blk_cell P9.out 2).trans rfl; have d0 : w9.cell? ⟨g1, 0, none⟩ = _ := (blk_cell Q9.out 0).trans rfl; have d1 : w9.cell? ⟨g1, 1, none⟩ = _ := (blk_cell Q9.out 1).trans rfl; have d2 : w9.cell? ⟨g1, 2, none⟩ = _ := (blk_cell Q9.out 2).trans rfl))
      | (go_at_call 27; ((with_reducible refine (mani_Matches.calls a0 Am cm S sm Aa ca a true _ (Kd.C_below HCm.out.2.2 (below_then B5.out B5.out.size (below_then HB6.out HB6.out.size X9.out))) HCm.out.2.1 (Kd.C_below HCa.out.2.2 (below_then HB2.out HB2.out.size (below_then B5.out B5.out.size (below_then HB6.out HB6.out.size X9.out)))) HCa.out.2.1 HM1.out).mono ?_); rintro e w10 ⟨rfl, hb⟩; have X10 := Aside0.mk (below_then X9.out X9.out.size hb); have P10 := Aside0.mk (blk_below P9.out hb); have Q10 := Aside0.mk (blk_below Q9.out hb); clear hb c0 c1 c2 d0 d1 d2; have c0 : w10.cell? ⟨g0, 0, none⟩ = _ := (blk_cell P10.out 0).trans rfl; have c1 : w10.cell? ⟨g0, 1, none⟩ = _ := (blk_cell P10.out 1).trans rfl; have c2 : w10.cell? ⟨g0, 2, none⟩ = _ := (blk_cell P10.out 2).trans rfl; have d0 : w10.cell? ⟨g1, 0, none⟩ = _ := (blk_cell Q10.out 0).trans rfl; have d1 : w10.cell? ⟨g1, 1, none⟩ = _ := (blk_cell Q10.out 1).trans rfl; have d2 : w10.cell? ⟨g1, 2, none⟩ = _ := (blk_cell Q10.out 2).trans rfl))
      | (go_at_call 27; ((with_reducible refine (mani_Matches.calls a0 Am cm S sm Ab5 cb5 b false _ (Kd.C_below HCm.out.2.2 (below_then B5.out B5.out.size (below_then HB6.out HB6.out.size X10.out))) HCm.out.2.1 (Kd.C_below HCb5.out.2.2 (below_then HB6.out HB6.out.size X10.out)) HCb5.out.2.1 HM2.out).mono ?_); rintro e w11 ⟨rfl, hb⟩; have X11 := Aside0.mk (below_then X10.out X10.out.size hb); have P11 := Aside0.mk (blk_below P10.out hb); have Q11 := Aside0.mk (blk_below Q10.out hb); clear hb c0 c1 c2 d0 d1 d2; have c0 : w11.cell? ⟨g0, 0, none⟩ = _ := (blk_cell P11.out 0).trans rfl; have c1 : w11.cell? ⟨g0, 1, none⟩ = _ := (blk_cell P11.out 1).trans rfl; have c2 : w11.cell? ⟨g0, 2, none⟩ = _ := (blk_cell P11.out 2).trans rfl; have d0 : w11.cell? ⟨g1, 0, none⟩ = _ := (blk_cell Q11.out 0).trans rfl; have d1 : w11.cell? ⟨g1, 1, none⟩ = _ := (blk_cell Q11.out 1).trans rfl; have d2 : w11.cell? ⟨g1, 2, none⟩ = _ := (blk_cell Q11.out 2).trans rfl)))
    go_ret
    exact ⟨rfl, below_then HB1.out HB1.out.size (below_then HB2.out HB2.out.size (below_then B5.out B5.out.size (below_then HB6.out HB6.out.size X11.out)))⟩



/-- THE ONE PURE STATEMENT of scullerlaw12_ManiTells: yours. -/
def scullerlaw12_ManiTells.Pure : Prop := ∀ (a0 : Int) (l1 : List Int) (a2 : Int) (a3 : Int) (a4 : Int) (a5 : Int) (a6 : Int) (a7 : Int), (Lit.int .u64 a0).wf = true → l1.length ≤ maxLen → l1.length * 1 ≤ 140737488351232 → (∀ x ∈ l1, (Lit.int .u8 x).wf = true) → (Lit.int .u8 a2).wf = true → (Lit.int .u8 a3).wf = true → (Lit.int .u8 a4).wf = true → (Lit.int .u8 a5).wf = true → (Lit.int .u8 a6).wf = true → (Lit.int .u8 a7).wf = true → scullerlaw12_ManiTells.f a0 l1 a2 a3 a4 a5 a6 a7 = some true
theorem scullerlaw12_ManiTells.walk (P : scullerlaw12_ManiTells.Pure) (a0 : Int) (a1 : Option Addr) (len1 cap1 : Nat) (z1 : List Int) (a2 : Int) (a3 : Int) (a4 : Int) (a5 : Int) (a6 : Int) (a7 : Int) (w : World) (w0 : (Lit.int .u64 a0).wf = true) (w1 : (a1 = none ∧ len1 = 0 ∧ cap1 = 0 ∧ z1 = []) ∨ ∃ x, a1 = some x ∧ len1 ≤ cap1 ∧ cap1 ≤ maxLen ∧ z1.length = cap1 ∧ (∀ i, i < z1.length → w.cell? (x.add i) = some (.int .u8 (z1.getD i 0))) ∧ ∀ n ∈ z1, (Lit.int .u8 n).wf = true) (y1 : len1 * 1 ≤ 140737488351232) (w2 : (Lit.int .u8 a2).wf = true) (w3 : (Lit.int .u8 a3).wf = true) (w4 : (Lit.int .u8 a4).wf = true) (w5 : (Lit.int .u8 a5).wf = true) (w6 : (Lit.int .u8 a6).wf = true) (w7 : (Lit.int .u8 a7).wf = true) :
    Calls Try.prog 6 #[.int .u64 a0, .slice a1 len1 cap1, .int .u8 a2, .int .u8 a3, .int .u8 a4, .int .u8 a5, .int .u8 a6, .int .u8 a7] w fun e w' => e = .returned (.bool true) ∧ Below w.heap.size w w' := by
  obtain ⟨l1, rfl, hr1, hm1, hw1, hc1⟩ := ReadsInt.ofRowC w1
  have h := P a0 l1 a2 a3 a4 a5 a6 a7 w0 hm1 y1 hw1 w2 w3 w4 w5 w6 w7
  refine (scullerlaw12_ManiTells.calls a0 _ _ l1 a2 a3 a4 a5 a6 a7 true w (Kd.C_of_reads (d := (0 : Int)) (h1 := fun _ => rfl) hr1) hc1 h).mono ?_
  rintro e w' ⟨rfl, hd⟩
  exact ⟨rfl, hd⟩

end Go.Proofs.Ythlhnodedofibaa.F
end

section
/- Numbers in the bounds of their kinds. -/
namespace Go.Proofs.Ythlhnodedofibaa.Pure
open Go.RowKit Go.Proofs.Ythlhnodedofibaa.H
theorem byte_wf {x : Int} (h : (Lit.int .u8 x).wf = true) : 0 ≤ x ∧ x ≤ 255 := by
  simp [Lit.wf, IntKind.min, IntKind.max, IntKind.signed, IntKind.bits] at h
  omega
theorem bytes_wf {l : List Int} (h : ∀ x ∈ l, (Lit.int .u8 x).wf = true) : bytesB l = true := bytesB_of fun x hx => byte_wf (h x hx)
end Go.Proofs.Ythlhnodedofibaa.Pure
end

section
/- A manifest is told apart: all of it lies in the walk (given/scullerlaw12_ManiTells); here the numbers' bounds alone. -/
namespace Go.Proofs.Ythlhnodedofibaa.Pure
open Go.RowKit Go.Proofs.Ythlhnodedofibaa.F Go.Proofs.Ythlhnodedofibaa.H Go.Proofs.YthlhnodedofibaaW.PrintWords Go.Proofs.YthlhnodedofibaaW.PrintLast Go.Proofs.YthlhnodedofibaaW.PrintMore
theorem ManiTells : scullerlaw12_ManiTells.Pure := by
  intro a0 l1 a2 a3 a4 a5 a6 a7 h0 h1 h2 h3 h4 h5 h6 h7 h8 h9
  have hs : u64B a0 = true := by
    simp [Lit.wf, IntKind.min, IntKind.max, IntKind.signed, IntKind.bits] at h0
    exact u64B_mk (by omega) (by omega)
  rw [scullerlaw12_ManiTells.f, if_pos ⟨hs, bytes_wf h3, by omega, byte_wf h4, byte_wf h5, byte_wf h6, byte_wf h7, byte_wf h8, byte_wf h9⟩]
end Go.Proofs.Ythlhnodedofibaa.Pure
end
