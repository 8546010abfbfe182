/- Proved: at every input in bounds the statement ArenaSpoil of the arena layer answers yes, writing over the bytes that an arena gave or was cut from spoils no arena.
Text 2 of 3; functions told as plain ones, with the contracts of their calls. -/
import Derived.Test.YthlhnodedofibaaQArenaSpoil1
section
namespace Go.Proofs.Ythlhnodedofibaa.F
open Go.RowKit Go.Proofs.YthlhnodedofibaaW.PrintWords Go.Proofs.YthlhnodedofibaaW.PrintLast Go.Proofs.YthlhnodedofibaaW.PrintMore
attribute [local go_sem] max2_int min2_int max_two min_two max_three min_three max_four min_four   -- for this text's walks alone
set_option linter.unusedVariables false
set_option linter.unusedSimpArgs false

/-! ### scullerlaw07_Arena: function 13 -/
mutual
def scullerlaw07_Arena.l0 : Nat → List Int → Int → List (List Int) → Int → Int → Option ((List (List Int)))
  | 0, _, _, _, _, _ => none
  | k + 1, x0, x1, x5, x6, x7 => if x7 < (wrap64 (1 + (wrap64 (Int.tmod x1 5)))) then (if x7 < (x0.length : Int) then (if 0 ≤ x7 then (scullerlaw07_Arena.j1 k x0 x1 x5 x6 x7 ([] : List Int) (wrap64 (Int.tmod (rd x0 x7) 12))) else (none)) else (scullerlaw07_Arena.j1 k x0 x1 x5 x6 x7 ([] : List Int) 1)) else (some x5)
def scullerlaw07_Arena.j1 : Nat → List Int → Int → List (List Int) → Int → Int → List Int → Int → Option ((List (List Int)))
  | 0, _, _, _, _, _, _, _ => none
  | k + 1, x0, x1, x5, x6, x7, x8, x9 => if x7 = 0 then (scullerlaw07_Arena.j2 k x0 x1 x5 x6 x7 x8 (wrap64 (x9 + 1))) else (scullerlaw07_Arena.j2 k x0 x1 x5 x6 x7 x8 x9)
def scullerlaw07_Arena.j2 : Nat → List Int → Int → List (List Int) → Int → Int → List Int → Int → Option ((List (List Int)))
  | 0, _, _, _, _, _, _, _ => none
  | k + 1, x0, x1, x5, x6, x7, x8, x9 => scullerlaw07_Arena.l1 k x0 x1 x5 x6 x7 x8 x9 0
def scullerlaw07_Arena.l1 : Nat → List Int → Int → List (List Int) → Int → Int → List Int → Int → Int → Option ((List (List Int)))
  | 0, _, _, _, _, _, _, _, _ => none
  | k + 1, x0, x1, x5, x6, x7, x8, x9, x10 => if x10 < x9 then (if (x0.length : Int) > 0 then (if (x0.length : Int) = 0 then (none) else (if 0 ≤ (Int.tmod x6 (x0.length : Int)) then (if (Int.tmod x6 (x0.length : Int)) < (x0.length : Int) then (if x8.length < 17592186044416 then (scullerlaw07_Arena.l1 k x0 x1 x5 (wrap64 (x6 + 1)) x7 (x8 ++ [IntKind.u64.wrap ((IntKind.u64.wrap ((IntKind.u64.wrap (rd x0 (Int.tmod x6 (x0.length : Int)))) * 4311810305)) + (IntKind.u64.wrap (x6)))]) x9 (wrap64 (x10 + 1))) else (none)) else (none)) else (none))) else (if x8.length < 17592186044416 then (scullerlaw07_Arena.l1 k x0 x1 x5 (wrap64 (x6 + 1)) x7 (x8 ++ [IntKind.u64.wrap (x6)]) x9 (wrap64 (x10 + 1))) else (none))) else (if x5.length < 5864062014805 then (scullerlaw07_Arena.l0 k x0 x1 (x5 ++ [x8]) x6 (wrap64 (x7 + 1))) else (none))
end
def scullerlaw07_Arena.f (k : Nat) (l0 : List Int) (a1 : Int) : Option ((List (List Int))) := scullerlaw07_Arena.l0 k l0 a1 ([] : List (List Int)) 0 0
theorem scullerlaw07_Arena.mono_l : ∀ k, (∀ y0 y1 y2 y3 y4, LeO (scullerlaw07_Arena.l0 k y0 y1 y2 y3 y4) (scullerlaw07_Arena.l0 (k + 1) y0 y1 y2 y3 y4)) ∧ (∀ y0 y1 y2 y3 y4 y5 y6, LeO (scullerlaw07_Arena.j1 k y0 y1 y2 y3 y4 y5 y6) (scullerlaw07_Arena.j1 (k + 1) y0 y1 y2 y3 y4 y5 y6)) ∧ (∀ y0 y1 y2 y3 y4 y5 y6, LeO (scullerlaw07_Arena.j2 k y0 y1 y2 y3 y4 y5 y6) (scullerlaw07_Arena.j2 (k + 1) y0 y1 y2 y3 y4 y5 y6)) ∧ (∀ y0 y1 y2 y3 y4 y5 y6 y7, LeO (scullerlaw07_Arena.l1 k y0 y1 y2 y3 y4 y5 y6 y7) (scullerlaw07_Arena.l1 (k + 1) y0 y1 y2 y3 y4 y5 y6 y7))
  | 0 => ⟨fun _ _ _ _ _ r h => by simp [scullerlaw07_Arena.l0] at h, fun _ _ _ _ _ _ _ r h => by simp [scullerlaw07_Arena.j1] at h, fun _ _ _ _ _ _ _ r h => by simp [scullerlaw07_Arena.j2] at h, fun _ _ _ _ _ _ _ _ r h => by simp [scullerlaw07_Arena.l1] at h⟩
  | k + 1 => by
    obtain ⟨ih0, ih1, ih2, ih3⟩ := scullerlaw07_Arena.mono_l k
    refine ⟨?_, ?_, ?_, ?_⟩
    · intro y0 y1 y2 y3 y4
      unfold scullerlaw07_Arena.l0
      repeat' first
      | (with_reducible exact ih0 _ _ _ _ _)
      | (with_reducible exact ih1 _ _ _ _ _ _ _)
      | (with_reducible exact ih2 _ _ _ _ _ _ _)
      | (with_reducible exact ih3 _ _ _ _ _ _ _ _)
      | (with_reducible exact LeO.refl _)
      | (with_reducible exact LeO.none _)
      | (with_reducible refine LeO.ite ?_ ?_)
      | (with_reducible refine LeO.bind ?_ (fun _ => ?_))
      | exact ih0 _ _ _ _ _
      | exact ih1 _ _ _ _ _ _ _
      | exact ih2 _ _ _ _ _ _ _
      | exact ih3 _ _ _ _ _ _ _ _
      | exact LeO.none _
      | refine LeO.ite ?_ ?_
      | refine LeO.bind ?_ (fun _ => ?_)
    · intro y0 y1 y2 y3 y4 y5 y6
      unfold scullerlaw07_Arena.j1
      repeat' first
      | (with_reducible exact ih0 _ _ _ _ _)
      | (with_reducible exact ih1 _ _ _ _ _ _ _)
      | (with_reducible exact ih2 _ _ _ _ _ _ _)
      | (with_reducible exact ih3 _ _ _ _ _ _ _ _)
      | (with_reducible exact LeO.refl _)
      | (with_reducible exact LeO.none _)
      | (with_reducible refine LeO.ite ?_ ?_)
      | (with_reducible refine LeO.bind ?_ (fun _ => ?_))
      | exact ih0 _ _ _ _ _
      | exact ih1 _ _ _ _ _ _ _
      | exact ih2 _ _ _ _ _ _ _
      | exact ih3 _ _ _ _ _ _ _ _
      | exact LeO.none _
      | refine LeO.ite ?_ ?_
      | refine LeO.bind ?_ (fun _ => ?_)
    · intro y0 y1 y2 y3 y4 y5 y6
      unfold scullerlaw07_Arena.j2
      repeat' first
      | (with_reducible exact ih0 _ _ _ _ _)
      | (with_reducible exact ih1 _ _ _ _ _ _ _)
      | (with_reducible exact ih2 _ _ _ _ _ _ _)
      | (with_reducible exact ih3 _ _ _ _ _ _ _ _)
      | (with_reducible exact LeO.refl _)
      | (with_reducible exact LeO.none _)
      | (with_reducible refine LeO.ite ?_ ?_)
      | (with_reducible refine LeO.bind ?_ (fun _ => ?_))
      | exact ih0 _ _ _ _ _
      | exact ih1 _ _ _ _ _ _ _
      | exact ih2 _ _ _ _ _ _ _
      | exact ih3 _ _ _ _ _ _ _ _
      | exact LeO.none _
      | refine LeO.ite ?_ ?_
      | refine LeO.bind ?_ (fun _ => ?_)
    · intro y0 y1 y2 y3 y4 y5 y6 y7
      unfold scullerlaw07_Arena.l1
      repeat' first
      | (with_reducible exact ih0 _ _ _ _ _)
      | (with_reducible exact ih1 _ _ _ _ _ _ _)
      | (with_reducible exact ih2 _ _ _ _ _ _ _)
      | (with_reducible exact ih3 _ _ _ _ _ _ _ _)
      | (with_reducible exact LeO.refl _)
      | (with_reducible exact LeO.none _)
      | (with_reducible refine LeO.ite ?_ ?_)
      | (with_reducible refine LeO.bind ?_ (fun _ => ?_))
      | exact ih0 _ _ _ _ _
      | exact ih1 _ _ _ _ _ _ _
      | exact ih2 _ _ _ _ _ _ _
      | exact ih3 _ _ _ _ _ _ _ _
      | exact LeO.none _
      | refine LeO.ite ?_ ?_
      | refine LeO.bind ?_ (fun _ => ?_)
theorem scullerlaw07_Arena.mono : ∀ a0 a1 k, LeO (scullerlaw07_Arena.f k a0 a1) (scullerlaw07_Arena.f (k + 1) a0 a1) := by
  intro a0 a1 k
  obtain ⟨ih0, ih1, ih2, ih3⟩ := scullerlaw07_Arena.mono_l k
  unfold scullerlaw07_Arena.f
  repeat' first
      | (with_reducible exact ih0 _ _ _ _ _)
      | (with_reducible exact ih1 _ _ _ _ _ _ _)
      | (with_reducible exact ih2 _ _ _ _ _ _ _)
      | (with_reducible exact ih3 _ _ _ _ _ _ _ _)
      | (with_reducible exact LeO.refl _)
      | (with_reducible exact LeO.none _)
      | (with_reducible refine LeO.ite ?_ ?_)
      | (with_reducible refine LeO.bind ?_ (fun _ => ?_))
      | exact ih0 _ _ _ _ _
      | exact ih1 _ _ _ _ _ _ _
      | exact ih2 _ _ _ _ _ _ _
      | exact ih3 _ _ _ _ _ _ _ _
      | exact LeO.none _
      | refine LeO.ite ?_ ?_
      | refine LeO.bind ?_ (fun _ => ?_)
set_option maxHeartbeats 8000000 in
set_option maxRecDepth 100000 in
theorem scullerlaw07_Arena.calls (k : Nat) (A0 : Option Addr) (c0 : Nat) (l0 : List Int) (a1 : Int) (r : List (List Int)) (w : World) (hr0 : Kd.C (Kd.int .u8) w A0 l0.length l0) (hc0 : l0.length ≤ c0) (h : scullerlaw07_Arena.f k l0 a1 = some r) :
    Calls Try.prog 13 #[.slice A0 l0.length c0, .int .u8 a1] w fun e w' => ∃ v0_ : Value, e = .returned (v0_) ∧ Kd.S (Kd.slice 42 (Kd.int .u64)) 37 w' w.heap.size (fun _ => True) v0_ r ∧ Below w.heap.size w w' := by
  have HR0 := Aside0.mk hr0
  have HC0 := Aside0.mk hc0
  clear hr0 hc0
  have HB := Aside0.mk (Below.refl w.heap.size w)
  have H : (scullerlaw07_Arena.l0 k l0 a1 ([] : List (List Int)) 0 0) = some r := h
  clear h
  have H' := Aside0.mk H
  clear H
  go_enter Try.func13, Try.ntmps13
  go_wp2
  go_loopg [5, 6, 7] k (fun kq v5 v6 v7 w' => ∃ (x5_1 : List (List Int)) (x6_1 : Int) (x7_1 : Int), v6 = .int .i64 x6_1 ∧ v7 = .int .i64 x7_1 ∧ Aside0 (scullerlaw07_Arena.l0 kq l0 a1 x5_1 x6_1 x7_1 = some r) ∧ Aside0 (kq ≤ k) ∧ Aside0 (Kd.S (Kd.slice 42 (Kd.int .u64)) 37 w' w.heap.size (fun _ => True) v5 x5_1) ∧ Aside0 (Below w.heap.size w w'))
  case atStart => exact ⟨(([] : List (List Int))), (0), (0), (by first | rfl | (simp; done) | (simp [*]; done)), (by first | rfl | (simp; done) | (simp [*]; done)), H', ⟨Nat.le_refl _⟩, ⟨by first | exact Kd.S_nil _ _ _ _ _ | exact Kd.N_nil _ _ _ _ _ | exact Kd.V_nil _ _ _ _ _ | exact Kd.Q_nil _ _ _ _ _ | exact Kd.R_nil _ _ _ _ _⟩, ⟨by repeat (first | (with_reducible first | exact HB.out | apply below_alloc | apply pw_below_drewN | apply below_drew1) | exact HB.out)⟩⟩
  case round =>
    clear H'
    try clear c1
    try clear p2
    obtain ⟨x5_1, x6_1, x7_1, rfl, rfl, HA, HK1, HO_5, HB⟩ := hrel
    cases gk with
    | zero => exact absurd HA.out (by simp [scullerlaw07_Arena.l0])
    | succ k1 =>
      have H := HA.out
      clear HA
      simp only [scullerlaw07_Arena.l0] at H
      by_cases c3 : x7_1 < (wrap64 (1 + (wrap64 (Int.tmod a1 5))))
      · rw [if_pos c3] at H
        have c3b0 : decide (x7_1 < (wrap64 (1 + (wrap64 (Int.tmod a1 5))))) = true := decide_eq_true c3
        clear c3
        have HC4 := Aside0.mk H
        clear H
        go_upto_if 23 with (fail)
        go_cut [9] (fun v9 wc => ∃ (kq : Nat) (x9_3 : Int), v9 = .int .i64 x9_3 ∧ Aside0 (scullerlaw07_Arena.j1 kq l0 a1 x5_1 x6_1 x7_1 ([] : List Int) x9_3 = some r) ∧ Aside0 (kq ≤ k1) ∧ Aside0 (Kd.S (Kd.slice 42 (Kd.int .u64)) 37 wc w.heap.size (fun k_ => some k_ ≠ ((.slice none 0 0) : Value).ownBlock) u5 x5_1) ∧ Aside0 (Kd.R (Kd.int .u64) 42 wc w.heap.size (fun _ => True) (.slice none 0 0) ([] : List Int)) ∧ Aside0 (Below w.heap.size w wc))
        case first =>
          have H := HC4.out
          clear HC4
          by_cases c5 : x7_1 < (l0.length : Int)
          · rw [if_pos c5] at H
            have c5b0 : decide (x7_1 < (l0.length : Int)) = true := decide_eq_true c5
            clear c5
            (first | rw [c5b0] | (simp only [i64_w, i32_w]; rw [c5b0]) | skip)
            by_cases c6 : 0 ≤ x7_1
            · rw [if_pos c6] at H
              have c6b0 : decide (0 ≤ x7_1) = true := decide_eq_true c6
              clear c6
              have H' := Aside0.mk H
              clear H
              have p139 : 0 ≤ (x7_1 : Int) := of_decide_eq_true (by first | (with_reducible assumption) | assumption)
              have q139 : x7_1 < (l0.length : Int) := of_decide_eq_true (by first | (with_reducible assumption) | assumption)
              obtain ⟨ad139, e139, hx139_0⟩ := Kd.at_int HR0.out x7_1 p139 q139
              cases e139
              replace hx139_0 := (HB.out.cell (World.block_lt_of_cell? w _ hx139_0)).trans hx139_0
              replace p139 := eq_true p139
              replace q139 := eq_true q139
              go_wp2
              go_meet
              case rel => exact ⟨_, (wrap64 (Int.tmod (rd l0 x7_1) 12)), (by first | rfl | (simp; done) | (simp [*]; done)), H', ⟨by have := HK1.out; first | omega | exact Nat.le_refl _⟩, ⟨by (with_reducible repeat (first | apply Kd.S_alloc | apply Kd.S_drewN | apply Kd.S_drew)); exact Kd.S_mono HO_5.out (fun _ hk => (by simp [Value.ownBlock]))⟩, ⟨by first | exact Kd.R_nil _ _ _ _ _ | exact Kd.N_nil _ _ _ _ _ | exact Kd.V_nil _ _ _ _ _ | exact Kd.Q_nil _ _ _ _ _ | exact Kd.S_nil _ _ _ _ _⟩, ⟨by repeat (first | (with_reducible first | exact HB.out | apply below_alloc | apply pw_below_drewN | apply below_drew1) | exact HB.out)⟩⟩
            · rw [if_neg c6] at H
              exact absurd H (by simp)
          · rw [if_neg c5] at H
            have c5b0 : decide (x7_1 < (l0.length : Int)) = false := decide_eq_false c5
            clear c5
            (first | rw [c5b0] | (simp only [i64_w, i32_w]; rw [c5b0]) | skip)
            have H' := Aside0.mk H
            clear H
            go_wp2
            go_meet
            case rel => exact ⟨_, (1), (by first | rfl | (simp; done) | (simp [*]; done)), H', ⟨by have := HK1.out; first | omega | exact Nat.le_refl _⟩, ⟨by (with_reducible repeat (first | apply Kd.S_alloc | apply Kd.S_drewN | apply Kd.S_drew)); exact Kd.S_mono HO_5.out (fun _ hk => (by simp [Value.ownBlock]))⟩, ⟨by first | exact Kd.R_nil _ _ _ _ _ | exact Kd.N_nil _ _ _ _ _ | exact Kd.V_nil _ _ _ _ _ | exact Kd.Q_nil _ _ _ _ _ | exact Kd.S_nil _ _ _ _ _⟩, ⟨by repeat (first | (with_reducible first | exact HB.out | apply below_alloc | apply pw_below_drewN | apply below_drew1) | exact HB.out)⟩⟩
        case rest =>
          clear HC4
          try clear c1
          try clear p1
          try clear q1
          try clear hx1
          try clear p2
          try clear c3
          try clear c3b0
          try clear c5
          try clear c5b0
          try clear c6
          try clear c6b0
          try clear p6
          try clear hx139_0
          try clear p139
          try clear p2
          try clear q139
          obtain ⟨kq, x9_3, rfl, HA, HJ3, HO_5, HO_8, HB⟩ := hcut
          cases kq with
          | zero => exact absurd HA.out (by simp [scullerlaw07_Arena.j1])
          | succ kj3 =>
            have H := HA.out
            clear HA
            simp only [scullerlaw07_Arena.j1] at H
            have HC7 := Aside0.mk H
            clear H
            go_upto_if 31 with (fail)
            go_cut [9] (fun v9 wc => ∃ (kq : Nat) (x9_6 : Int), v9 = .int .i64 x9_6 ∧ Aside0 (scullerlaw07_Arena.j2 kq l0 a1 x5_1 x6_1 x7_1 ([] : List Int) x9_6 = some r) ∧ Aside0 (kq ≤ kj3) ∧ Aside0 (Kd.S (Kd.slice 42 (Kd.int .u64)) 37 wc w.heap.size (fun k_ => some k_ ≠ ((.slice none 0 0) : Value).ownBlock) u5 x5_1) ∧ Aside0 (Kd.R (Kd.int .u64) 42 wc w.heap.size (fun _ => True) (.slice none 0 0) ([] : List Int)) ∧ Aside0 (Below w.heap.size w wc))
            case first =>
              have H := HC7.out
              clear HC7
              by_cases c8 : x7_1 = 0
              · rw [if_pos c8] at H
                have c8b0 : (x7_1 == 0) = true := beq_iff_eq.mpr c8
                have c8b1 : (x7_1 != 0) = false := bne_eq_false_iff_eq.mpr c8
                clear c8
                (first | rw [c8b0] | (simp only [i64_w, i32_w]; rw [c8b0]) | skip)
                have H' := Aside0.mk H
                clear H
                go_wp2
                go_meet
                case rel => exact ⟨_, (wrap64 (x9_3 + 1)), (by first | rfl | (simp; done) | (simp [*]; done)), H', ⟨by have := HK1.out; have := HJ3.out; first | omega | exact Nat.le_refl _⟩, ⟨by (with_reducible repeat (first | apply Kd.S_alloc | apply Kd.S_drewN | apply Kd.S_drew)); exact HO_5.out⟩, ⟨by (with_reducible repeat (first | apply Kd.R_alloc | apply Kd.R_drewN | apply Kd.R_drew)); exact HO_8.out⟩, ⟨by repeat (first | (with_reducible first | exact HB.out | apply below_alloc | apply pw_below_drewN | apply below_drew1) | exact HB.out)⟩⟩
              · rw [if_neg c8] at H
                have c8b0 : (x7_1 == 0) = false := beq_eq_false_iff_ne.mpr c8
                have c8b1 : (x7_1 != 0) = true := bne_iff_ne.mpr c8
                (first | rw [c8b0] | (simp only [i64_w, i32_w]; rw [c8b0]) | skip)
                have H' := Aside0.mk H
                clear H
                go_wp2
                go_meet
                case rel => exact ⟨_, (x9_3), (by first | rfl | (simp; done) | (simp [*]; done)), H', ⟨by have := HK1.out; have := HJ3.out; first | omega | exact Nat.le_refl _⟩, ⟨by (with_reducible repeat (first | apply Kd.S_alloc | apply Kd.S_drewN | apply Kd.S_drew)); exact HO_5.out⟩, ⟨by (with_reducible repeat (first | apply Kd.R_alloc | apply Kd.R_drewN | apply Kd.R_drew)); exact HO_8.out⟩, ⟨by repeat (first | (with_reducible first | exact HB.out | apply below_alloc | apply pw_below_drewN | apply below_drew1) | exact HB.out)⟩⟩
            case rest =>
              clear HC7
              try clear c1
              try clear p1
              try clear q1
              try clear hx1
              try clear p2
              try clear c3
              try clear c3b0
              try clear c5
              try clear c5b0
              try clear c6
              try clear c6b0
              try clear p6
              try clear c8
              try clear c8b0
              try clear c8b1
              try clear hx139_0
              try clear p1
              try clear p139
              try clear p2
              try clear p6
              try clear q1
              try clear q139
              obtain ⟨kq, x9_6, rfl, HA, HJ6, HO_5, HO_8, HB⟩ := hcut
              cases kq with
              | zero => exact absurd HA.out (by simp [scullerlaw07_Arena.j2])
              | succ kj6 =>
                have H := HA.out
                clear HA
                simp only [scullerlaw07_Arena.j2] at H
                have H' := Aside0.mk H
                clear H
                go_wp2
                go_loopg [6, 8, 10] kj6 (fun kq v6 v8 v10 w' => ∃ (x6_4 : Int) (x8_4 : List Int) (x10_4 : Int), v6 = .int .i64 x6_4 ∧ v10 = .int .i64 x10_4 ∧ Aside0 (scullerlaw07_Arena.l1 kq l0 a1 x5_1 x6_4 x7_1 x8_4 x9_6 x10_4 = some r) ∧ Aside0 (kq ≤ kj6) ∧ Aside0 (Kd.S (Kd.slice 42 (Kd.int .u64)) 37 w' w.heap.size (fun k_ => some k_ ≠ (v8 : Value).ownBlock) u5 x5_1) ∧ Aside0 (Kd.R (Kd.int .u64) 42 w' w.heap.size (fun _ => True) v8 x8_4) ∧ Aside0 (Below w.heap.size w w'))
                case atStart => exact ⟨(x6_1), (([] : List Int)), (0), (by first | rfl | (simp; done) | (simp [*]; done)), (by first | rfl | (simp; done) | (simp [*]; done)), H', ⟨Nat.le_refl _⟩, ⟨by (with_reducible repeat (first | apply Kd.S_alloc | apply Kd.S_drewN | apply Kd.S_drew)); exact HO_5.out⟩, ⟨by (with_reducible repeat (first | apply Kd.R_alloc | apply Kd.R_drewN | apply Kd.R_drew)); exact HO_8.out⟩, ⟨by repeat (first | (with_reducible first | exact HB.out | apply below_alloc | apply pw_below_drewN | apply below_drew1) | exact HB.out)⟩⟩
                case round =>
                  clear H'
                  try clear c1
                  try clear p1
                  try clear q1
                  try clear hx1
                  try clear p2
                  try clear c3
                  try clear c3b0
                  try clear c5
                  try clear c5b0
                  try clear c6
                  try clear c6b0
                  try clear p6
                  try clear c8
                  try clear c8b0
                  try clear c8b1
                  try clear hx139_0
                  try clear p1
                  try clear p139
                  try clear p2
                  try clear p6
                  try clear q1
                  try clear q139
                  obtain ⟨x6_4, x8_4, x10_4, rfl, rfl, HA, HK4, HO_5, HO_8, HB⟩ := hrel
                  cases gk with
                  | zero => exact absurd HA.out (by simp [scullerlaw07_Arena.l1])
                  | succ k4 =>
                    have H := HA.out
                    clear HA
                    simp only [scullerlaw07_Arena.l1] at H
                    by_cases c9 : x10_4 < x9_6
                    · rw [if_pos c9] at H
                      have c9b0 : decide (x10_4 < x9_6) = true := decide_eq_true c9
                      clear c9
                      by_cases c10 : (l0.length : Int) > 0
                      · rw [if_pos c10] at H
                        have c10b0 : decide (0 < (l0.length : Int)) = true := decide_eq_true c10
                        have c10b1 : decide (0 < l0.length) = true := decide_eq_true (by omega)
                        clear c10
                        by_cases c11 : (l0.length : Int) = 0
                        · rw [if_pos c11] at H
                          exact absurd H (by simp)
                        · rw [if_neg c11] at H
                          have c11b0 : ((l0.length : Int) == 0) = false := beq_eq_false_iff_ne.mpr c11
                          have c11b1 : ((l0.length : Int) != 0) = true := bne_iff_ne.mpr c11
                          have c11b2 : ¬ (l0 = []) := fun h_ => c11 (by rw [h_]; rfl)
                          obtain ⟨ji12, hji12⟩ : ∃ j_ : Int, (Int.tmod x6_4 (l0.length : Int)) = j_ := ⟨_, rfl⟩
                          replace H : (if 0 ≤ (ji12) then (if (ji12) < (l0.length : Int) then (if x8_4.length < 17592186044416 then (scullerlaw07_Arena.l1 k4 l0 a1 x5_1 (wrap64 (x6_4 + 1)) x7_1 (x8_4 ++ [IntKind.u64.wrap ((IntKind.u64.wrap ((IntKind.u64.wrap (rd l0 (ji12))) * 4311810305)) + (IntKind.u64.wrap (x6_4)))]) x9_6 (wrap64 (x10_4 + 1))) else (none)) else (none)) else (none)) = some r := by first | (rw [hji12] at H; exact H) | (simp only [hji12] at H ⊢; exact H)
                          by_cases c13 : 0 ≤ (ji12)
                          · rw [if_pos c13] at H
                            have c13b0 : decide (0 ≤ (ji12)) = true := decide_eq_true c13
                            clear c13
                            by_cases c14 : (ji12) < (l0.length : Int)
                            · rw [if_pos c14] at H
                              have c14b0 : decide ((ji12) < (l0.length : Int)) = true := decide_eq_true c14
                              clear c14
                              by_cases c15 : x8_4.length < 17592186044416
                              · rw [if_pos c15] at H
                                have LMc15 := Aside0.mk c15
                                clear c15
                                obtain ⟨y141, hy141⟩ : ∃ y_ : List Int, y_ = (x8_4 ++ [IntKind.u64.wrap ((IntKind.u64.wrap ((IntKind.u64.wrap (rd l0 (ji12))) * 4311810305)) + (IntKind.u64.wrap (x6_4)))]) := ⟨_, rfl⟩
                                replace H : (scullerlaw07_Arena.l1 k4 l0 a1 x5_1 (wrap64 (x6_4 + 1)) x7_1 y141 x9_6 (wrap64 (x10_4 + 1))) = some r := by first | (rw [hy141]; with_reducible exact H) | (have H2_ := (Option.bind_some _ _).symm.trans H; rw [hy141]; with_reducible exact H2_) | (have H2_ := (Option.bind_some _ _).symm.trans H; with_reducible exact H2_) | with_reducible exact H | (rw [hy141]; exact H) | exact H
                                have Ny141 := Aside0.mk hy141
                                clear hy141
                                have H' := Aside0.mk H
                                clear H
                                have p140 : 0 ≤ ((ji12) : Int) := of_decide_eq_true (by first | (with_reducible assumption) | assumption)
                                have q140 : (ji12) < (l0.length : Int) := of_decide_eq_true (by first | (with_reducible assumption) | assumption)
                                obtain ⟨ad140, e140, hx140_0⟩ := Kd.at_int HR0.out (ji12) p140 q140
                                cases e140
                                replace hx140_0 := (HB.out.cell (World.block_lt_of_cell? w _ hx140_0)).trans hx140_0
                                replace p140 := eq_true p140
                                replace q140 := eq_true q140
                                go_wp2_with (first | ((with_reducible refine gate_builtin (b := .append) (xs := #[.tmp 56, .tmp 58]) rfl ?_); at_builtin; refine Kd.R_append (Kd.int .u64) (w0 := w) w.heap.size rfl (.tmp 56) (.tmp 58) 37 42 (.int .u64 0) 8 rfl Try.underlying37 info42 rfl (by decide) (by omega) u8 x8_4 (IntKind.u64.wrap ((IntKind.u64.wrap ((IntKind.u64.wrap (rd l0 (ji12))) * 4311810305)) + (IntKind.u64.wrap (x6_4)))) [.int .u64 (IntKind.u64.wrap ((IntKind.u64.wrap ((IntKind.u64.wrap (rd l0 (ji12))) * 4311810305)) + (IntKind.u64.wrap (x6_4))))] (fun _ => True) (fun _ => False) rfl rfl ?aP (fun _ hk => hk.elim) ?aF ?aO ?aB ?aS ?aL ?_; (case aP => exact rfl); (case aB => exact (by repeat (first | (with_reducible first | exact HB.out | apply below_alloc | apply pw_below_drewN | apply below_drew1) | exact HB.out))); (case aF => exact (fun _ _ => trivial)); (case aO => exact (by (with_reducible repeat (first | apply Kd.R_alloc | apply Kd.R_drewN | apply Kd.R_drew)); exact HO_8.out)); (case aS => exact (below_size (by repeat (first | (with_reducible first | exact HB.out | apply below_alloc | apply pw_below_drewN | apply below_drew1) | exact HB.out)))); (case aL => have := LMc15.out; omega); intro v142 w16 ho hb hg hat; rw [← Ny141.out] at ho; have n0_ := Aside0.mk (Kd.S_after (ok := (fun _ => True)) (by (with_reducible repeat (first | apply Kd.S_alloc | apply Kd.S_drewN | apply Kd.S_drew)); exact Kd.S_mono HO_5.out (fun _ hk => ⟨trivial, hk⟩)) hg hat); have n1_ := Aside0.mk (hb); have n2_ := Aside0.mk (ho); clear HO_5; clear HB; clear HO_8; have HO_5 := n0_; have HB := n1_; have HO143 := n2_; clear n0_ n1_ n2_; clear ho hb hg hat))
                                go_roundg k4
                                case measure => have := HK1.out; have := HJ3.out; have := HJ6.out; have := HK4.out; omega
                                case rel => exact ⟨(wrap64 (x6_4 + 1)), (y141), (wrap64 (x10_4 + 1)), (by first | rfl | (simp; done) | (simp [*]; done)), (by first | rfl | (simp; done) | (simp [*]; done)), H', ⟨by have := HK1.out; have := HJ3.out; have := HJ6.out; have := HK4.out; omega⟩, ⟨by (with_reducible repeat (first | apply Kd.S_alloc | apply Kd.S_drewN | apply Kd.S_drew)); exact Kd.S_mono HO_5.out (fun _ hk => hk.2)⟩, ⟨by (with_reducible repeat (first | apply Kd.R_alloc | apply Kd.R_drewN | apply Kd.R_drew)); exact HO143.out⟩, ⟨by repeat (first | (with_reducible first | exact HB.out | apply below_alloc | apply pw_below_drewN | apply below_drew1) | exact HB.out)⟩⟩
                              · rw [if_neg c15] at H
                                exact absurd H (by simp)
                            · rw [if_neg c14] at H
                              exact absurd H (by simp)
                          · rw [if_neg c13] at H
                            exact absurd H (by simp)
                      · rw [if_neg c10] at H
                        have c10b0 : decide (0 < (l0.length : Int)) = false := decide_eq_false c10
                        have c10b1 : decide (0 < l0.length) = false := decide_eq_false (by omega)
                        clear c10
                        by_cases c17 : x8_4.length < 17592186044416
                        · rw [if_pos c17] at H
                          have LMc17 := Aside0.mk c17
                          clear c17
                          obtain ⟨y144, hy144⟩ : ∃ y_ : List Int, y_ = (x8_4 ++ [IntKind.u64.wrap (x6_4)]) := ⟨_, rfl⟩
                          replace H : (scullerlaw07_Arena.l1 k4 l0 a1 x5_1 (wrap64 (x6_4 + 1)) x7_1 y144 x9_6 (wrap64 (x10_4 + 1))) = some r := by first | (rw [hy144]; with_reducible exact H) | (have H2_ := (Option.bind_some _ _).symm.trans H; rw [hy144]; with_reducible exact H2_) | (have H2_ := (Option.bind_some _ _).symm.trans H; with_reducible exact H2_) | with_reducible exact H | (rw [hy144]; exact H) | exact H
                          have Ny144 := Aside0.mk hy144
                          clear hy144
                          have H' := Aside0.mk H
                          clear H
                          go_wp2_with (first | ((with_reducible refine gate_builtin (b := .append) (xs := #[.tmp 56, .tmp 58]) rfl ?_); at_builtin; refine Kd.R_append (Kd.int .u64) (w0 := w) w.heap.size rfl (.tmp 56) (.tmp 58) 37 42 (.int .u64 0) 8 rfl Try.underlying37 info42 rfl (by decide) (by omega) u8 x8_4 (IntKind.u64.wrap (x6_4)) [.int .u64 (IntKind.u64.wrap (x6_4))] (fun _ => True) (fun _ => False) rfl rfl ?aP (fun _ hk => hk.elim) ?aF ?aO ?aB ?aS ?aL ?_; (case aP => exact rfl); (case aB => exact (by repeat (first | (with_reducible first | exact HB.out | apply below_alloc | apply pw_below_drewN | apply below_drew1) | exact HB.out))); (case aF => exact (fun _ _ => trivial)); (case aO => exact (by (with_reducible repeat (first | apply Kd.R_alloc | apply Kd.R_drewN | apply Kd.R_drew)); exact HO_8.out)); (case aS => exact (below_size (by repeat (first | (with_reducible first | exact HB.out | apply below_alloc | apply pw_below_drewN | apply below_drew1) | exact HB.out)))); (case aL => have := LMc17.out; omega); intro v145 w18 ho hb hg hat; rw [← Ny144.out] at ho; have n0_ := Aside0.mk (Kd.S_after (ok := (fun _ => True)) (by (with_reducible repeat (first | apply Kd.S_alloc | apply Kd.S_drewN | apply Kd.S_drew)); exact Kd.S_mono HO_5.out (fun _ hk => ⟨trivial, hk⟩)) hg hat); have n1_ := Aside0.mk (hb); have n2_ := Aside0.mk (ho); clear HO_5; clear HB; clear HO_8; have HO_5 := n0_; have HB := n1_; have HO146 := n2_; clear n0_ n1_ n2_; clear ho hb hg hat))
                          go_roundg k4
                          case measure => have := HK1.out; have := HJ3.out; have := HJ6.out; have := HK4.out; omega
                          case rel => exact ⟨(wrap64 (x6_4 + 1)), (y144), (wrap64 (x10_4 + 1)), (by first | rfl | (simp; done) | (simp [*]; done)), (by first | rfl | (simp; done) | (simp [*]; done)), H', ⟨by have := HK1.out; have := HJ3.out; have := HJ6.out; have := HK4.out; omega⟩, ⟨by (with_reducible repeat (first | apply Kd.S_alloc | apply Kd.S_drewN | apply Kd.S_drew)); exact Kd.S_mono HO_5.out (fun _ hk => hk.2)⟩, ⟨by (with_reducible repeat (first | apply Kd.R_alloc | apply Kd.R_drewN | apply Kd.R_drew)); exact HO146.out⟩, ⟨by repeat (first | (with_reducible first | exact HB.out | apply below_alloc | apply pw_below_drewN | apply below_drew1) | exact HB.out)⟩⟩
                        · rw [if_neg c17] at H
                          exact absurd H (by simp)
                    · rw [if_neg c9] at H
                      have c9b0 : decide (x10_4 < x9_6) = false := decide_eq_false c9
                      clear c9
                      by_cases c19 : x5_1.length < 5864062014805
                      · rw [if_pos c19] at H
                        have LMc19 := Aside0.mk c19
                        clear c19
                        obtain ⟨y147, hy147⟩ : ∃ y_ : List (List Int), y_ = (x5_1 ++ [x8_4]) := ⟨_, rfl⟩
                        replace H : (scullerlaw07_Arena.l0 k4 l0 a1 y147 x6_4 (wrap64 (x7_1 + 1))) = some r := by first | (rw [hy147]; with_reducible exact H) | (have H2_ := (Option.bind_some _ _).symm.trans H; rw [hy147]; with_reducible exact H2_) | (have H2_ := (Option.bind_some _ _).symm.trans H; with_reducible exact H2_) | with_reducible exact H | (rw [hy147]; exact H) | exact H
                        have Ny147 := Aside0.mk hy147
                        clear hy147
                        have H' := Aside0.mk H
                        clear H
                        obtain ⟨Ao21, co21, eo21⟩ := Kd.R_slice HO_8.out
                        subst eo21
                        go_wp2_with (first | ((with_reducible refine gate_builtin (b := .append) (xs := #[.tmp 62, .tmp 64]) rfl ?_); at_builtin; refine Kd.S_append (Kd.slice 42 (Kd.int .u64)) (w0 := w) w.heap.size rfl (.tmp 62) (.tmp 64) 26 37 (.slice none 0 0) 24 rfl Try.underlying26 info37 rfl (by decide) (by omega) u5 x5_1 x8_4 [.slice Ao21 x8_4.length co21] (fun _ => True) (fun k_ => some k_ = (.slice Ao21 x8_4.length co21 : Value).ownBlock) rfl rfl ?aP (fun k_ hk_ => ((Kd.R_mono (ok' := fun k_ => ((fun _ => True)) k_ ∧ some k_ ≠ (u5 : Value).ownBlock) (Kd.R_apart' (HO_8.out) (Kd.S_typed HO_5.out) (by decide)) (fun k_ hk => ⟨trivial, hk.2⟩))).1 k_ hk_.symm) ?aF ?aO ?aB ?aS ?aL ?_; (case aP => exact Kd.M_row (Kd.R_mono (Kd.R_tight rfl (Kd.R_mono (ok' := fun k_ => ((fun _ => True)) k_ ∧ some k_ ≠ (u5 : Value).ownBlock) (Kd.R_apart' (HO_8.out) (Kd.S_typed HO_5.out) (by decide)) (fun k_ hk => ⟨trivial, hk.2⟩))) (fun _ h_ => h_))); (case aB => exact (by repeat (first | (with_reducible first | exact HB.out | apply below_alloc | apply pw_below_drewN | apply below_drew1) | exact HB.out))); (case aF => exact (fun _ _ => trivial)); (case aO => exact (by (with_reducible repeat (first | apply Kd.S_alloc | apply Kd.S_drewN | apply Kd.S_drew)); exact Kd.S_mono HO_5.out (fun k_ hk => ⟨trivial, fun e_ => hk e_⟩))); (case aS => exact (below_size (by repeat (first | (with_reducible first | exact HB.out | apply below_alloc | apply pw_below_drewN | apply below_drew1) | exact HB.out)))); (case aL => have := LMc19.out; omega); intro v148 w20 ho hb hg hat; rw [← Ny147.out] at ho; have n0_ := Aside0.mk (hb); have n1_ := Aside0.mk (ho); clear HB; clear HO_5; clear HO_8; have HB := n0_; have HO149 := n1_; clear n0_ n1_; clear ho hb hg hat))
                        go_roundg k4
                        case measure => have := HK1.out; have := HJ3.out; have := HJ6.out; have := HK4.out; omega
                        case rel => exact ⟨(y147), (x6_4), (wrap64 (x7_1 + 1)), (by first | rfl | (simp; done) | (simp [*]; done)), (by first | rfl | (simp; done) | (simp [*]; done)), H', ⟨by have := HK1.out; have := HJ3.out; have := HJ6.out; have := HK4.out; omega⟩, ⟨by (with_reducible repeat (first | apply Kd.S_alloc | apply Kd.S_drewN | apply Kd.S_drew)); exact HO149.out⟩, ⟨by repeat (first | (with_reducible first | exact HB.out | apply below_alloc | apply pw_below_drewN | apply below_drew1) | exact HB.out)⟩⟩
                      · rw [if_neg c19] at H
                        exact absurd H (by simp)
      · rw [if_neg c3] at H
        have c3b0 : decide (x7_1 < (wrap64 (1 + (wrap64 (Int.tmod a1 5))))) = false := decide_eq_false c3
        clear c3
        obtain rfl := Option.some.inj H
        go_wp2
        go_ret
        exact ⟨_, by first | rfl | (simp [errW_none, errW_some] <;> rfl) | (simp [*, errW_none, errW_some] <;> rfl), by (with_reducible repeat (first | apply Kd.S_alloc | apply Kd.S_drewN | apply Kd.S_drew)); exact HO_5.out, by repeat (first | (with_reducible first | exact HB.out | apply below_alloc | apply pw_below_drewN | apply below_drew1) | exact HB.out)⟩

end Go.Proofs.Ythlhnodedofibaa.F
end

section
namespace Go.Proofs.Ythlhnodedofibaa.F
open Go.RowKit Go.Proofs.YthlhnodedofibaaW.PrintWords Go.Proofs.YthlhnodedofibaaW.PrintLast Go.Proofs.YthlhnodedofibaaW.PrintMore
attribute [local go_sem] max2_int min2_int max_two min_two max_three min_three max_four min_four   -- for this text's walks alone
set_option linter.unusedVariables false
set_option linter.unusedSimpArgs false

open Go.Proofs.Ythlhnodedofibaa.H
def scullerlaw07_Arena_c.f (l0 : List Int) (a1 : Int) : Option (List (List Int)) := if bytesB l0 = true ∧ l0.length ≤ 140737488351232 ∧ 0 ≤ a1 ∧ a1 ≤ 255 then some (arenaL l0 a1) else none
theorem wrapu {z : Int} (hz : 0 ≤ z) (hz2 : z < 18446744073709551616) : IntKind.u64.wrap z = z := by
  simp [IntKind.wrap, IntKind.signed, IntKind.bits]
  omega
theorem scullerlaw07_Arena.l1_to (c : List Int) (hc : ∀ x ∈ c, 0 ≤ x ∧ x ≤ 255) (hcl : c.length ≤ 140737488351232) (n : Int) (acc : List (List Int)) (hacc : acc.length ≤ 100) (i k0 size : Nat) (hi : i ≤ 100) (hk0 : k0 ≤ 1000) (hsz : size ≤ 13) (R : Option (List (List Int)))
    (K : ∃ k, scullerlaw07_Arena.l0 k c n (acc ++ [segC c k0 size]) ((k0 + size : Nat) : Int) ((i + 1 : Nat) : Int) = R) :
    ∀ (d j : Nat), size - j = d → j ≤ size → ∃ k, scullerlaw07_Arena.l1 k c n acc ((k0 + j : Nat) : Int) (i : Int) (segC c k0 j) (size : Int) (j : Int) = R
  | 0, j, hd, hj => by
    obtain rfl : j = size := by omega
    obtain ⟨k, hk⟩ := K
    refine ⟨k + 1, ?_⟩
    simp only [scullerlaw07_Arena.l1]
    rw [if_neg (by omega), if_pos (by omega), show wrap64 ((i : Int) + 1) = ((i + 1 : Nat) : Int) from by unfold wrap64; omega, hk]
  | d + 1, j, hd, hj => by
    obtain ⟨k, hk⟩ := scullerlaw07_Arena.l1_to c hc hcl n acc hacc i k0 size hi hk0 hsz R K d (j + 1) (by omega) (by omega)
    refine ⟨k + 1, ?_⟩
    simp only [scullerlaw07_Arena.l1]
    have e1 : wrap64 (((k0 + j : Nat) : Int) + 1) = ((k0 + (j + 1) : Nat) : Int) := by unfold wrap64; omega
    have e2 : wrap64 ((j : Int) + 1) = ((j + 1 : Nat) : Int) := by unfold wrap64; omega
    rw [if_pos (by omega)]
    by_cases hc0 : (c.length : Int) > 0
    · have ht : Int.tmod ((k0 + j : Nat) : Int) (c.length : Int) = (((k0 + j) % c.length : Nat) : Int) := by
        rw [Int.tmod_eq_emod_of_nonneg (by omega)]; omega
      have hm : (k0 + j) % c.length < c.length := Nat.mod_lt _ (by omega)
      have hr : rd c (((k0 + j) % c.length : Nat) : Int) = c.getD ((k0 + j) % c.length) 0 := rfl
      have hx : 0 ≤ c.getD ((k0 + j) % c.length) 0 ∧ c.getD ((k0 + j) % c.length) 0 ≤ 255 := by
        rw [List.getD_eq_getElem?_getD, List.getElem?_eq_getElem hm]; exact hc _ (List.getElem_mem hm)
      rw [if_pos hc0, if_neg (by omega), ht, if_pos (by omega), if_pos (by omega), if_pos (by rw [segC_length]; omega), hr, wrapu hx.1 (by omega), wrapu (z := ((k0 + j : Nat) : Int)) (by omega) (by omega), wrapu (z := c.getD ((k0 + j) % c.length) 0 * 4311810305) (by omega) (by omega), wrapu (by omega) (by omega), e1, e2]
      rw [segC_succ] at hk
      exact hk
    · have hnil : c = [] := List.eq_nil_of_length_eq_zero (by omega)
      rw [if_neg hc0, if_pos (by rw [segC_length]; omega), wrapu (z := ((k0 + j : Nat) : Int)) (by omega) (by omega), e1, e2]
      rw [segC_succ] at hk
      have : wordC c (k0 + j) = ((k0 + j : Nat) : Int) := by simp [wordC, hnil]
      rw [this] at hk
      exact hk
theorem scullerlaw07_Arena.l0_to (c : List Int) (hc : ∀ x ∈ c, 0 ≤ x ∧ x ≤ 255) (hcl : c.length ≤ 140737488351232) (n : Int) (hn0 : 0 ≤ n) (hn : n ≤ 255) : ∀ (m i k0 : Nat) (acc : List (List Int)), i + m = (1 + n % 5).toNat → acc.length = i → k0 ≤ 13 * i →
    ∃ k, scullerlaw07_Arena.l0 k c n acc (k0 : Int) (i : Int) = some (acc ++ arenaC c m i k0)
  | 0, i, k0, acc, hm, ha, hk0 => ⟨1, by
    simp only [scullerlaw07_Arena.l0, arenaC, List.append_nil]
    rw [if_neg (by rw [Int.tmod_eq_emod_of_nonneg hn0]; unfold wrap64; omega)]⟩
  | m + 1, i, k0, acc, hm, ha, hk0 => by
    have hs := sizeC_le c i
    obtain ⟨k, hk⟩ := scullerlaw07_Arena.l0_to c hc hcl n hn0 hn m (i + 1) (k0 + sizeC c i) (acc ++ [segC c k0 (sizeC c i)]) (by omega) (by simp [ha]) (by omega)
    obtain ⟨k1, hk1⟩ := scullerlaw07_Arena.l1_to c hc hcl n acc (by omega) i k0 (sizeC c i) (by omega) (by omega) (by omega) _ ⟨k, hk⟩ (sizeC c i) 0 (by omega) (by omega)
    have hfin : ∃ q, scullerlaw07_Arena.j1 q c n acc (k0 : Int) (i : Int) [] (if i < c.length then c.getD i 0 % 12 else 1) = some (acc ++ arenaC c (m + 1) i k0) := by
      refine ⟨k1 + 1 + 1, ?_⟩
      have hnn : 0 ≤ (if i < c.length then c.getD i 0 % 12 else 1) ∧ (if i < c.length then c.getD i 0 % 12 else 1) < 12 := by split <;> omega
      have hsz : (sizeC c i : Int) = (if i < c.length then c.getD i 0 % 12 else 1) + (if i = 0 then 1 else 0) := by
        unfold sizeC; split <;> split <;> omega
      have hsz0 : i = 0 → (sizeC c i : Int) = (if i < c.length then c.getD i 0 % 12 else 1) + 1 := fun e => by rw [hsz, if_pos e]
      have hsz1 : ¬ i = 0 → (sizeC c i : Int) = (if i < c.length then c.getD i 0 % 12 else 1) := fun e => by rw [hsz, if_neg e]; omega
      clear hsz
      generalize (if i < c.length then c.getD i 0 % 12 else 1) = q0 at *
      simp only [scullerlaw07_Arena.j1, scullerlaw07_Arena.j2]
      rw [show segC c k0 0 = [] from rfl, List.append_assoc] at hk1
      by_cases e : (i : Int) = 0
      · rw [if_pos e, show wrap64 (q0 + 1) = (sizeC c i : Int) from by rw [hsz0 (by omega)]; unfold wrap64; omega]
        exact hk1
      · rw [if_neg e, show q0 = (sizeC c i : Int) from (hsz1 (by omega)).symm]
        exact hk1
    obtain ⟨q, hq⟩ := hfin
    refine ⟨q + 1, ?_⟩
    simp only [scullerlaw07_Arena.l0]
    rw [if_pos (by rw [Int.tmod_eq_emod_of_nonneg hn0]; unfold wrap64; omega)]
    by_cases hlt : (i : Int) < (c.length : Int)
    · have hr : rd c i = c.getD i 0 := rfl
      have hx : 0 ≤ c.getD i 0 ∧ c.getD i 0 ≤ 255 := by
        rw [List.getD_eq_getElem?_getD, List.getElem?_eq_getElem (show i < c.length by omega)]; exact hc _ (List.getElem_mem _)
      rw [if_pos hlt, if_pos (by omega), hr, Int.tmod_eq_emod_of_nonneg hx.1, show wrap64 (c.getD i 0 % 12) = c.getD i 0 % 12 from by unfold wrap64; omega]
      rw [if_pos (by omega)] at hq
      exact hq
    · rw [if_neg hlt]
      rw [if_neg (by omega)] at hq
      exact hq
theorem scullerlaw07_Arena_c.to {l0 : List Int} {a1 : Int} {r : List (List Int)} (h : scullerlaw07_Arena_c.f l0 a1 = some r) : ∃ k, scullerlaw07_Arena.f k l0 a1 = some r := by
  unfold scullerlaw07_Arena_c.f at h
  split at h
  case isFalse => cases h
  case isTrue hl =>
  obtain rfl := Option.some.inj h
  obtain ⟨hb, hl, h0, h1⟩ := hl
  obtain ⟨k, hk⟩ := scullerlaw07_Arena.l0_to l0 (bytesB_at hb) hl a1 h0 h1 (1 + (a1 % 5)).toNat 0 0 [] (by omega) rfl (by omega)
  exact ⟨k, by unfold scullerlaw07_Arena.f; simpa [arenaL] using hk⟩

theorem scullerlaw07_Arena_c.calls (A0 : Option Addr) (c0 : Nat) (l0 : List Int) (a1 : Int) (r : List (List Int)) (w : World) (hr0 : Kd.C (Kd.int .u8) w A0 l0.length l0) (hc0 : l0.length ≤ c0) (h : scullerlaw07_Arena_c.f l0 a1 = some r) :
    Calls Try.prog 13 #[.slice A0 l0.length c0, .int .u8 a1] w fun e w' => ∃ v0_ : Value, e = .returned (v0_) ∧ Kd.S (Kd.slice 42 (Kd.int .u64)) 37 w' w.heap.size (fun _ => True) v0_ r ∧ Below w.heap.size w w' := by
  obtain ⟨k_, hk_⟩ := scullerlaw07_Arena_c.to h
  exact scullerlaw07_Arena.calls k_ A0 c0 l0 a1 r w hr0 hc0 hk_

end Go.Proofs.Ythlhnodedofibaa.F
end

section
namespace Go.Proofs.Ythlhnodedofibaa.F
open Go.RowKit Go.Proofs.YthlhnodedofibaaW.PrintWords Go.Proofs.YthlhnodedofibaaW.PrintLast Go.Proofs.YthlhnodedofibaaW.PrintMore
attribute [local go_sem] max2_int min2_int max_two min_two max_three min_three max_four min_four   -- for this text's walks alone
set_option linter.unusedVariables false
set_option linter.unusedSimpArgs false

/-! ### scullerlaw07_ArenaSpoil: function 4 -/
def scullerlaw07_ArenaSpoil.l0 : Nat → List (List Int) → ByteArray → List Int → List (List Int) → Int → Int → Option (Bool)
  | 0, _, _, _, _, _, _ => none
  | k + 1, x5, x6, x7, x8, x9, x10 => if x10 < (x7.length : Int) then (if 0 ≤ x10 then (scullerlaw07_ArenaSpoil.l0 k x5 x6 (x7.set (x10 : Int).toNat (((rd x7 x10) + 1) % 256)) x8 x9 (wrap64 (x10 + 1))) else (none)) else ((arena_Sizes_c.f x5).bind fun t168 => (if (t168.length : Int) = 0 then (some false) else (if 0 < (t168.length : Int) then ((arena_Bytes.f x8).bind fun t172 => ((scullerlaw07_known.f).bind fun t175 => (if t175 = true then (if x9 = 0 then (if (strOfNums t172).toList = x6.toList then ((arena_Bytes.f x5).bind fun t176 => (some ((strOfNums t176).toList == x6.toList))) else (some false)) else (some false)) else (some false)))) else (none))))
def scullerlaw07_ArenaSpoil.f (k : Nat) (l0 : List Int) (a1 : Int) : Option (Bool) := (scullerlaw07_Arena_c.f l0 a1).bind fun t150 => ((arena_Bytes.f t150).bind fun t153 => ((arena_Bytes.f t150).bind fun t156 => ((arena_Sizes_c.f t150).bind fun t159 => ((arena_Cut.f t159 t156).bind fun bt162 => (scullerlaw07_ArenaSpoil.l0 k t150 (strOfNums t153) t156 bt162.1 bt162.2 0)))))
theorem scullerlaw07_ArenaSpoil.mono_l : ∀ k, (∀ y0 y1 y2 y3 y4 y5, LeO (scullerlaw07_ArenaSpoil.l0 k y0 y1 y2 y3 y4 y5) (scullerlaw07_ArenaSpoil.l0 (k + 1) y0 y1 y2 y3 y4 y5))
  | 0 => fun _ _ _ _ _ _ r h => by simp [scullerlaw07_ArenaSpoil.l0] at h
  | k + 1 => by
    have ih0 := scullerlaw07_ArenaSpoil.mono_l k
    · intro y0 y1 y2 y3 y4 y5
      unfold scullerlaw07_ArenaSpoil.l0
      repeat' first
      | (with_reducible exact ih0 _ _ _ _ _ _)
      | (with_reducible exact LeO.refl _)
      | (with_reducible exact LeO.none _)
      | (with_reducible refine LeO.ite ?_ ?_)
      | (with_reducible refine LeO.bind ?_ (fun _ => ?_))
      | exact ih0 _ _ _ _ _ _
      | exact LeO.none _
      | refine LeO.ite ?_ ?_
      | refine LeO.bind ?_ (fun _ => ?_)
theorem scullerlaw07_ArenaSpoil.mono : ∀ a0 a1 k, LeO (scullerlaw07_ArenaSpoil.f k a0 a1) (scullerlaw07_ArenaSpoil.f (k + 1) a0 a1) := by
  intro a0 a1 k
  have ih0 := scullerlaw07_ArenaSpoil.mono_l k
  unfold scullerlaw07_ArenaSpoil.f
  repeat' first
      | (with_reducible exact ih0 _ _ _ _ _ _)
      | (with_reducible exact LeO.refl _)
      | (with_reducible exact LeO.none _)
      | (with_reducible refine LeO.ite ?_ ?_)
      | (with_reducible refine LeO.bind ?_ (fun _ => ?_))
      | exact ih0 _ _ _ _ _ _
      | exact LeO.none _
      | refine LeO.ite ?_ ?_
      | refine LeO.bind ?_ (fun _ => ?_)
set_option maxHeartbeats 8000000 in
set_option maxRecDepth 100000 in
theorem scullerlaw07_ArenaSpoil.calls (k : Nat) (A0 : Option Addr) (c0 : Nat) (l0 : List Int) (a1 : Int) (r : Bool) (w : World) (hr0 : Kd.C (Kd.int .u8) w A0 l0.length l0) (hc0 : l0.length ≤ c0) (h : scullerlaw07_ArenaSpoil.f k l0 a1 = some r) :
    Calls Try.prog 4 #[.slice A0 l0.length c0, .int .u8 a1] w fun e w' => e = .returned (.bool r) ∧ Below w.heap.size w w' := by
  have HR0 := Aside0.mk hr0
  have HC0 := Aside0.mk hc0
  clear hr0 hc0
  have HB := Aside0.mk (Below.refl w.heap.size w)
  have H : ((scullerlaw07_Arena_c.f l0 a1).bind fun t150 => ((arena_Bytes.f t150).bind fun t153 => ((arena_Bytes.f t150).bind fun t156 => ((arena_Sizes_c.f t150).bind fun t159 => ((arena_Cut.f t159 t156).bind fun bt162 => (scullerlaw07_ArenaSpoil.l0 k t150 (strOfNums t153) t156 bt162.1 bt162.2 0)))))) = some r := h
  clear h
  replace H := Option.bind_eq_some_iff.mp H
  obtain ⟨t150, A30, H⟩ := H
  replace H : ((arena_Bytes.f t150).bind fun t153 => ((arena_Bytes.f t150).bind fun t156 => ((arena_Sizes_c.f t150).bind fun t159 => ((arena_Cut.f t159 t156).bind fun bt162 => (scullerlaw07_ArenaSpoil.l0 k t150 (strOfNums t153) t156 bt162.1 bt162.2 0))))) = some r := H
  have A3 := Aside0.mk A30
  clear A30
  replace H := Option.bind_eq_some_iff.mp H
  obtain ⟨t153, A40, H⟩ := H
  replace H : ((arena_Bytes.f t150).bind fun t156 => ((arena_Sizes_c.f t150).bind fun t159 => ((arena_Cut.f t159 t156).bind fun bt162 => (scullerlaw07_ArenaSpoil.l0 k t150 (strOfNums t153) t156 bt162.1 bt162.2 0)))) = some r := H
  have A4 := Aside0.mk A40
  clear A40
  replace H := Option.bind_eq_some_iff.mp H
  obtain ⟨t156, A50, H⟩ := H
  replace H : ((arena_Sizes_c.f t150).bind fun t159 => ((arena_Cut.f t159 t156).bind fun bt162 => (scullerlaw07_ArenaSpoil.l0 k t150 (strOfNums t153) t156 bt162.1 bt162.2 0))) = some r := H
  have A5 := Aside0.mk A50
  clear A50
  replace H := Option.bind_eq_some_iff.mp H
  obtain ⟨t159, A60, H⟩ := H
  replace H : ((arena_Cut.f t159 t156).bind fun bt162 => (scullerlaw07_ArenaSpoil.l0 k t150 (strOfNums t153) t156 bt162.1 bt162.2 0)) = some r := H
  have A6 := Aside0.mk A60
  clear A60
  replace H := Option.bind_eq_some_iff.mp H
  obtain ⟨⟨t162, t163⟩, A70, H⟩ := H
  replace H : (scullerlaw07_ArenaSpoil.l0 k t150 (strOfNums t153) t156 t162 t163 0) = some r := H
  have A7 := Aside0.mk A70
  clear A70
  have H' := Aside0.mk H
  clear H
  go_enter Try.func4, Try.ntmps4
  go_wp2_with (first | ((with_reducible refine gate_callee (f := 13) rfl ?_); refine goesL_ (some 15) rfl rfl Try.func13 (by kernel_rfl) rfl #[.slice A0 l0.length c0, .int .u8 a1] rfl (by (try simp only [List.map_toArray, List.map_cons, List.map_nil]); first | done | rfl | (simp only [List.length_drop, List.length_take]; rfl)) ?_; (with_reducible refine (scullerlaw07_Arena_c.calls _ _ l0 a1 t150 _ ?side1 ?side2 A3.out).mono ?_); (case side1 => repeat (first | exact HR0.out | (with_reducible refine Kd.C_alloc ?_ _) | (with_reducible refine Kd.C_drewN ?_ _) | (with_reducible refine Kd.C_drew ?_))); (case side2 => exact HC0.out); rintro e w8 ⟨v151, rfl, ho0, hb⟩; refine ⟨_, rfl, ?_⟩; have n0_ := Aside0.mk (Kd.S_lower ho0 (below_size (by repeat (first | (with_reducible first | exact HB.out | apply below_alloc | apply pw_below_drewN | apply below_drew1) | exact HB.out)))); have n1_ := Aside0.mk (below_step (by repeat (first | (with_reducible first | exact HB.out | apply below_alloc | apply pw_below_drewN | apply below_drew1) | exact HB.out)) hb); clear HB; have HO152 := n0_; have HB := n1_; clear n0_ n1_; (try clear hb); (try clear hb2); (try clear hk); (try clear hi); (try clear ho0); obtain ⟨Ao9, co9, eo9⟩ := Kd.S_slice HO152.out; subst eo9) | ((with_reducible refine gate_callee (f := 17) rfl ?_); refine goesL_ (some 17) rfl rfl Try.func17 (by kernel_rfl) rfl #[.slice Ao9 t150.length co9] rfl (by (try simp only [List.map_toArray, List.map_cons, List.map_nil]); first | done | rfl | (simp only [List.length_drop, List.length_take]; rfl)) ?_; (with_reducible refine (arena_Bytes.calls _ _ t150 t153 _ ?side1 ?side2 A4.out).mono ?_); (case side1 => repeat (first | exact (Kd.S_reads' HO152.out).2.2 | (with_reducible refine Kd.C_alloc ?_ _) | (with_reducible refine Kd.C_drewN ?_ _) | (with_reducible refine Kd.C_drew ?_))); (case side2 => exact (Kd.S_reads' HO152.out).2.1); rintro e w10 ⟨v154, rfl, ho0, hb⟩; refine ⟨_, rfl, ?_⟩; have n0_ := Aside0.mk (Kd.S_below (by (with_reducible repeat (first | apply Kd.S_alloc | apply Kd.S_drewN | apply Kd.S_drew)); exact HO152.out) hb); have n1_ := Aside0.mk (Kd.R_lower ho0 (below_size (by repeat (first | (with_reducible first | exact HB.out | apply below_alloc | apply pw_below_drewN | apply below_drew1) | exact HB.out)))); have n2_ := Aside0.mk (below_step (by repeat (first | (with_reducible first | exact HB.out | apply below_alloc | apply pw_below_drewN | apply below_drew1) | exact HB.out)) hb); clear HO152; clear HB; have HO152 := n0_; have HO155 := n1_; have HB := n2_; clear n0_ n1_ n2_; (try clear hb); (try clear hb2); (try clear hk); (try clear hi); (try clear ho0); have hcv11 := own_string (P := Try.prog) Try.underlying23 Try.underlying5 Try.underlying9 (Kd.own_of_R HO155.out)) | ((with_reducible refine gate_callee (f := 17) rfl ?_); refine goesL_ (some 20) rfl rfl Try.func17 (by kernel_rfl) rfl #[.slice Ao9 t150.length co9] rfl (by (try simp only [List.map_toArray, List.map_cons, List.map_nil]); first | done | rfl | (simp only [List.length_drop, List.length_take]; rfl)) ?_; (with_reducible refine (arena_Bytes.calls _ _ t150 t156 _ ?side1 ?side2 A5.out).mono ?_); (case side1 => repeat (first | exact (Kd.S_reads' HO152.out).2.2 | (with_reducible refine Kd.C_alloc ?_ _) | (with_reducible refine Kd.C_drewN ?_ _) | (with_reducible refine Kd.C_drew ?_))); (case side2 => exact (Kd.S_reads' HO152.out).2.1); rintro e w12 ⟨v157, rfl, ho0, hb⟩; refine ⟨_, rfl, ?_⟩; have n0_ := Aside0.mk (Kd.S_below (by (with_reducible repeat (first | apply Kd.S_alloc | apply Kd.S_drewN | apply Kd.S_drew)); exact HO152.out) hb); have n1_ := Aside0.mk (Kd.R_elder' (by (with_reducible repeat (first | apply Kd.R_alloc | apply Kd.R_drewN | apply Kd.R_drew)); exact HO155.out) (Kd.R_base ho0) hb); have n2_ := Aside0.mk (Kd.R_lower (Kd.R_new' ho0 (Kd.R_lt (by (with_reducible repeat (first | apply Kd.R_alloc | apply Kd.R_drewN | apply Kd.R_drew)); exact HO155.out))) (below_size (by repeat (first | (with_reducible first | exact HB.out | apply below_alloc | apply pw_below_drewN | apply below_drew1) | exact HB.out)))); have n3_ := Aside0.mk (below_step (by repeat (first | (with_reducible first | exact HB.out | apply below_alloc | apply pw_below_drewN | apply below_drew1) | exact HB.out)) hb); clear HO152; clear HO155; clear HB; have HO152 := n0_; have HO155 := n1_; have HO158 := n2_; have HB := n3_; clear n0_ n1_ n2_ n3_; (try clear hb); (try clear hb2); (try clear hk); (try clear hi); (try clear ho0)) | ((with_reducible refine gate_callee (f := 19) rfl ?_); refine goesL_ (some 23) rfl rfl Try.func19 (by kernel_rfl) rfl #[.slice Ao9 t150.length co9] rfl (by (try simp only [List.map_toArray, List.map_cons, List.map_nil]); first | done | rfl | (simp only [List.length_drop, List.length_take]; rfl)) ?_; (with_reducible refine (arena_Sizes_c.calls _ _ t150 t159 _ ?side1 ?side2 A6.out).mono ?_); (case side1 => repeat (first | exact (Kd.S_reads' HO152.out).2.2 | (with_reducible refine Kd.C_alloc ?_ _) | (with_reducible refine Kd.C_drewN ?_ _) | (with_reducible refine Kd.C_drew ?_))); (case side2 => exact (Kd.S_reads' HO152.out).2.1); rintro e w13 ⟨v160, rfl, ho0, hb⟩; refine ⟨_, rfl, ?_⟩; have n0_ := Aside0.mk (Kd.S_below (by (with_reducible repeat (first | apply Kd.S_alloc | apply Kd.S_drewN | apply Kd.S_drew)); exact HO152.out) hb); have n1_ := Aside0.mk (Kd.R_below (by (with_reducible repeat (first | apply Kd.R_alloc | apply Kd.R_drewN | apply Kd.R_drew)); exact HO155.out) hb); have n2_ := Aside0.mk (Kd.R_below (by (with_reducible repeat (first | apply Kd.R_alloc | apply Kd.R_drewN | apply Kd.R_drew)); exact HO158.out) hb); have n3_ := Aside0.mk (Kd.R_lower ho0 (below_size (by repeat (first | (with_reducible first | exact HB.out | apply below_alloc | apply pw_below_drewN | apply below_drew1) | exact HB.out)))); have n4_ := Aside0.mk (below_step (by repeat (first | (with_reducible first | exact HB.out | apply below_alloc | apply pw_below_drewN | apply below_drew1) | exact HB.out)) hb); clear HO152; clear HO155; clear HO158; clear HB; have HO152 := n0_; have HO155 := n1_; have HO158 := n2_; have HO161 := n3_; have HB := n4_; clear n0_ n1_ n2_ n3_ n4_; (try clear hb); (try clear hb2); (try clear hk); (try clear hi); (try clear ho0); obtain ⟨Ao14, co14, eo14⟩ := Kd.R_slice HO161.out; subst eo14; obtain ⟨Ao15, co15, eo15⟩ := Kd.R_slice HO158.out; subst eo15) | ((with_reducible refine gate_callee (f := 18) rfl ?_); refine goesL_ (some 25) rfl rfl Try.func18 (by kernel_rfl) rfl #[.slice Ao14 t159.length co14, .slice Ao15 t156.length co15] rfl (by (try simp only [List.map_toArray, List.map_cons, List.map_nil]); first | done | rfl | (simp only [List.length_drop, List.length_take]; rfl)) ?_; (with_reducible refine (arena_Cut.calls _ _ t159 _ _ t156 t162 t163 _ ?side1 ?side2 ?side3 ?side4 A7.out).mono ?_); (case side1 => repeat (first | exact (Kd.R_reads' HO161.out).2.2 | (with_reducible refine Kd.C_alloc ?_ _) | (with_reducible refine Kd.C_drewN ?_ _) | (with_reducible refine Kd.C_drew ?_))); (case side2 => exact (Kd.R_reads' HO161.out).2.1); (case side3 => repeat (first | exact (Kd.R_reads' HO158.out).2.2 | (with_reducible refine Kd.C_alloc ?_ _) | (with_reducible refine Kd.C_drewN ?_ _) | (with_reducible refine Kd.C_drew ?_))); (case side4 => exact (Kd.R_reads' HO158.out).2.1); rintro e w16 ⟨v164, rfl, ho0, hb⟩; refine ⟨_, rfl, ?_⟩; have n0_ := Aside0.mk (Kd.S_elder' (by (with_reducible repeat (first | apply Kd.S_alloc | apply Kd.S_drewN | apply Kd.S_drew)); exact HO152.out) (Kd.S_base ho0) hb); have n1_ := Aside0.mk (Kd.R_below (by (with_reducible repeat (first | apply Kd.R_alloc | apply Kd.R_drewN | apply Kd.R_drew)); exact HO155.out) hb); have n2_ := Aside0.mk (Kd.R_below (by (with_reducible repeat (first | apply Kd.R_alloc | apply Kd.R_drewN | apply Kd.R_drew)); exact HO158.out) hb); have n3_ := Aside0.mk (Kd.R_below (by (with_reducible repeat (first | apply Kd.R_alloc | apply Kd.R_drewN | apply Kd.R_drew)); exact HO161.out) hb); have n4_ := Aside0.mk (Kd.S_lower (Kd.S_new' ho0 (Kd.S_lt (by (with_reducible repeat (first | apply Kd.S_alloc | apply Kd.S_drewN | apply Kd.S_drew)); exact HO152.out))) (below_size (by repeat (first | (with_reducible first | exact HB.out | apply below_alloc | apply pw_below_drewN | apply below_drew1) | exact HB.out)))); have n5_ := Aside0.mk (below_step (by repeat (first | (with_reducible first | exact HB.out | apply below_alloc | apply pw_below_drewN | apply below_drew1) | exact HB.out)) hb); clear HO152; clear HO155; clear HO158; clear HO161; clear HB; have HO152 := n0_; have HO155 := n1_; have HO158 := n2_; have HO161 := n3_; have HO165 := n4_; have HB := n5_; clear n0_ n1_ n2_ n3_ n4_ n5_; (try clear hb); (try clear hb2); (try clear hk); (try clear hi); (try clear ho0)))
  go_loopg [10] k (fun kq v10 w' => ∃ (x7_1 : List Int) (x10_1 : Int), v10 = .int .i64 x10_1 ∧ Aside0 (scullerlaw07_ArenaSpoil.l0 kq t150 (strOfNums t153) x7_1 t162 t163 x10_1 = some r) ∧ Aside0 (kq ≤ k) ∧ Aside0 (Kd.S (Kd.slice 42 (Kd.int .u64)) 37 w' w.heap.size (fun k_ => some k_ ≠ (v164 : Value).ownBlock) (.slice Ao9 t150.length co9) t150) ∧ Aside0 (Kd.R (Kd.int .u8) 5 w' w.heap.size (fun _ => True) (.slice Ao15 t156.length co15) x7_1) ∧ Aside0 (Kd.S (Kd.slice 42 (Kd.int .u64)) 37 w' w.heap.size (fun k_ => some k_ ≠ ((.slice Ao9 t150.length co9) : Value).ownBlock) v164 t162) ∧ Aside0 (Below w.heap.size w w'))
  case atStart => exact ⟨(t156), (0), (by first | rfl | (simp; done) | (simp [*]; done)), H', ⟨Nat.le_refl _⟩, ⟨by (with_reducible repeat (first | apply Kd.S_alloc | apply Kd.S_drewN | apply Kd.S_drew)); exact Kd.S_mono HO152.out (fun _ hk => hk.2)⟩, ⟨by (with_reducible repeat (first | apply Kd.R_alloc | apply Kd.R_drewN | apply Kd.R_drew)); exact Kd.R_mono HO158.out (fun _ hk => trivial)⟩, ⟨by (with_reducible repeat (first | apply Kd.S_alloc | apply Kd.S_drewN | apply Kd.S_drew)); exact Kd.S_mono HO165.out (fun _ hk => hk.2)⟩, ⟨by repeat (first | (with_reducible first | exact HB.out | apply below_alloc | apply pw_below_drewN | apply below_drew1) | exact HB.out)⟩⟩
  case round =>
    clear H'
    try clear c1
    try clear hcv1
    try clear p2
    try clear c4
    try clear hcv11
    try clear c13
    obtain ⟨x7_1, x10_1, rfl, HA, HK1, HO_5, HO_7, HO_8, HB⟩ := hrel
    have hl7_1 := (Kd.R_reads' HO_7.out).1
    rw [hl7_1] at HO_7
    (try simp only [hl7_1])
    (try simp only [hl7_1] at HO_5)
    (try simp only [hl7_1] at HO_8)
    cases gk with
    | zero => exact absurd HA.out (by simp [scullerlaw07_ArenaSpoil.l0])
    | succ k1 =>
      have H := HA.out
      clear HA
      simp only [scullerlaw07_ArenaSpoil.l0] at H
      by_cases c17 : x10_1 < (x7_1.length : Int)
      · rw [if_pos c17] at H
        have c17b0 : decide (x10_1 < (x7_1.length : Int)) = true := decide_eq_true c17
        clear c17
        by_cases c18 : 0 ≤ x10_1
        · rw [if_pos c18] at H
          have c18b0 : decide (0 ≤ x10_1) = true := decide_eq_true c18
          clear c18
          obtain ⟨y167, hy167⟩ : ∃ y_ : List Int, y_ = (x7_1.set (x10_1 : Int).toNat (((rd x7_1 x10_1) + 1) % 256)) := ⟨_, rfl⟩
          replace H : (scullerlaw07_ArenaSpoil.l0 k1 t150 (strOfNums t153) y167 t162 t163 (wrap64 (x10_1 + 1))) = some r := by first | (rw [hy167]; with_reducible exact H) | (have H2_ := (Option.bind_some _ _).symm.trans H; rw [hy167]; with_reducible exact H2_) | (have H2_ := (Option.bind_some _ _).symm.trans H; with_reducible exact H2_) | with_reducible exact H | (rw [hy167]; exact H) | exact H
          have Ny167 := Aside0.mk hy167
          clear hy167
          have H' := Aside0.mk H
          clear H
          have p166 : 0 ≤ (x10_1 : Int) := of_decide_eq_true (by first | (with_reducible assumption) | assumption)
          have q166 : x10_1 < (x7_1.length : Int) := of_decide_eq_true (by first | (with_reducible assumption) | assumption)
          obtain ⟨ad166, e166, hx166_0⟩ := Kd.at_int (Kd.R_reads' HO_7.out).2.2 x10_1 p166 q166
          cases e166
          replace p166 := eq_true p166
          replace q166 := eq_true q166
          have p19 : 0 ≤ (x10_1 : Int) := of_decide_eq_true (by first | (with_reducible assumption) | assumption)
          have q19 : (x10_1 : Int) < ((x7_1.length : Int) : Int) := of_decide_eq_true (by first | (with_reducible assumption) | assumption)
          obtain ⟨go19, co19, eo19, gb19, gl19, cl19, HG19⟩ := Kd.R_form HO_7.out (by omega)
          (first | cases eo19 | (injection eo19 with ea_ en_ ec_; (first | subst ea_ | (injection ea_ with ea_; subst ea_)); subst ec_; clear en_))
          have GB19 := Aside0.mk gb19
          have GG19 := Aside0.mk HG19
          clear gb19 gl19 HG19
          (first | simp only [add_plain] at hx166_0 | skip)
          obtain ⟨hx19_0, hf19_0⟩ := Kd.R_celln 0 HO_7.out (x10_1 : Int) p19 q19
          replace p19 := eq_true p19
          replace q19 := eq_true q19
          have HP20 := Kd.R_putg HO_7.out (x10_1 : Int) (((rd x7_1 x10_1) + 1) % 256)
          go_wp2_with (first | ((with_reducible refine gate_store (t := 5) (p := 39) rfl ?_); refine store_event (t := 5) (p := 39) (v := ?vo_w21) (w1 := (wr.setCell ⟨go19, (x10_1 : Int).toNat, none⟩ (.int .u8 (((rd x7_1 x10_1) + 1) % 256)))) ?hg ?ho ?hn ?hr ?_; (case ho => rfl); (case hg => rfl); (case hn => rfl); (case hr => first | (go_simp; done) | (go_simp; rfl)); intro w21 hw; have hg : wr.grownBy w21 (some go19) := (by rw [hw]; exact HP20.2); have hp_ : Kd.R (Kd.int .u8) 5 w21 w.heap.size (fun _ => True) (.slice (some ⟨go19, 0, none⟩) x7_1.length co15) y167 := (by rw [hw, Ny167.out]; exact HP20.1); clear HP20; have n0_ := Aside0.mk (Kd.S_over' (v := (.slice (some ⟨go19, 0, none⟩) x7_1.length co15)) (by (with_reducible repeat (first | apply Kd.S_alloc | apply Kd.S_drewN | apply Kd.S_drew)); exact HO_5.out) (Kd.R_typed HO_7.out) (by decide) hg); have n1_ := Aside0.mk (hp_); have n2_ := Aside0.mk (Kd.S_over' (v := (.slice (some ⟨go19, 0, none⟩) x7_1.length co15)) (by (with_reducible repeat (first | apply Kd.S_alloc | apply Kd.S_drewN | apply Kd.S_drew)); exact HO_8.out) (Kd.R_typed HO_7.out) (by decide) hg); have n3_ := Aside0.mk ((by rw [hw]; exact below_set (HB.out) GB19.out : Below w.heap.size w w21)); clear HO_5; clear HO_7; clear HO_8; clear HB; have HO_5 := n0_; have HO_7 := n1_; have HO_8 := n2_; have HB := n3_; clear n0_ n1_ n2_ n3_; clear hg hw hp_))
          (try simp only [← hl7_1])
          go_roundg k1
          case measure => have := HK1.out; omega
          case rel => exact ⟨(y167), (wrap64 (x10_1 + 1)), (by first | rfl | (simp; done) | (simp [*]; done)), H', ⟨by have := HK1.out; omega⟩, ⟨by (try simp only [hl7_1]); (with_reducible repeat (first | apply Kd.S_alloc | apply Kd.S_drewN | apply Kd.S_drew)); exact HO_5.out⟩, ⟨by (try simp only [hl7_1]); (with_reducible repeat (first | apply Kd.R_alloc | apply Kd.R_drewN | apply Kd.R_drew)); exact HO_7.out⟩, ⟨by (try simp only [hl7_1]); (with_reducible repeat (first | apply Kd.S_alloc | apply Kd.S_drewN | apply Kd.S_drew)); exact HO_8.out⟩, ⟨by repeat (first | (with_reducible first | exact HB.out | apply below_alloc | apply pw_below_drewN | apply below_drew1) | exact HB.out)⟩⟩
        · rw [if_neg c18] at H
          exact absurd H (by simp)
      · rw [if_neg c17] at H
        have c17b0 : decide (x10_1 < (x7_1.length : Int)) = false := decide_eq_false c17
        clear c17
        replace H := Option.bind_eq_some_iff.mp H
        obtain ⟨t168, A220, H⟩ := H
        replace H : (if (t168.length : Int) = 0 then (some false) else (if 0 < (t168.length : Int) then ((arena_Bytes.f t162).bind fun t172 => ((scullerlaw07_known.f).bind fun t175 => (if t175 = true then (if t163 = 0 then (if (strOfNums t172).toList = (strOfNums t153).toList then ((arena_Bytes.f t150).bind fun t176 => (some ((strOfNums t176).toList == (strOfNums t153).toList))) else (some false)) else (some false)) else (some false)))) else (none))) = some r := H
        have A22 := Aside0.mk A220
        clear A220
        by_cases c23 : (t168.length : Int) = 0
        · rw [if_pos c23] at H
          have c23b0 : ((t168.length : Int) == 0) = true := beq_iff_eq.mpr c23
          have c23b1 : ((t168.length : Int) != 0) = false := bne_eq_false_iff_eq.mpr c23
          clear c23
          obtain rfl := Option.some.inj H
          go_wp2_with (first | ((with_reducible refine gate_callee (f := 19) rfl ?_); refine goesL_ (some 41) rfl rfl Try.func19 (by kernel_rfl) rfl #[.slice Ao9 t150.length co9] rfl (by (try simp only [List.map_toArray, List.map_cons, List.map_nil]); first | done | rfl | (simp only [List.length_drop, List.length_take]; rfl)) ?_; (with_reducible refine (arena_Sizes_c.calls _ _ t150 t168 _ ?side1 ?side2 A22.out).mono ?_); (case side1 => repeat (first | exact (Kd.S_reads' HO_5.out).2.2 | (with_reducible refine Kd.C_alloc ?_ _) | (with_reducible refine Kd.C_drewN ?_ _) | (with_reducible refine Kd.C_drew ?_))); (case side2 => exact (Kd.S_reads' HO_5.out).2.1); rintro e w24 ⟨v169, rfl, ho0, hb⟩; refine ⟨_, rfl, ?_⟩; have n0_ := Aside0.mk (Kd.S_below (by (with_reducible repeat (first | apply Kd.S_alloc | apply Kd.S_drewN | apply Kd.S_drew)); exact HO_5.out) hb); have n1_ := Aside0.mk (Kd.R_below (by (with_reducible repeat (first | apply Kd.R_alloc | apply Kd.R_drewN | apply Kd.R_drew)); exact HO_7.out) hb); have n2_ := Aside0.mk (Kd.S_below (by (with_reducible repeat (first | apply Kd.S_alloc | apply Kd.S_drewN | apply Kd.S_drew)); exact HO_8.out) hb); have n3_ := Aside0.mk (Kd.R_lower ho0 (below_size (by repeat (first | (with_reducible first | exact HB.out | apply below_alloc | apply pw_below_drewN | apply below_drew1) | exact HB.out)))); have n4_ := Aside0.mk (below_step (by repeat (first | (with_reducible first | exact HB.out | apply below_alloc | apply pw_below_drewN | apply below_drew1) | exact HB.out)) hb); clear HO_5; clear HO_7; clear HO_8; clear HB; have HO_5 := n0_; have HO_7 := n1_; have HO_8 := n2_; have HO170 := n3_; have HB := n4_; clear n0_ n1_ n2_ n3_ n4_; (try clear hb); (try clear hb2); (try clear hk); (try clear hi); (try clear ho0); obtain ⟨Ao25, co25, eo25⟩ := Kd.R_slice HO170.out; subst eo25))
          go_ret
          exact ⟨by first | rfl | (simp [errW_none, errW_some] <;> rfl) | (simp [*, errW_none, errW_some] <;> rfl), by repeat (first | (with_reducible first | exact HB.out | apply below_alloc | apply pw_below_drewN | apply below_drew1) | exact HB.out)⟩
        · rw [if_neg c23] at H
          have c23b0 : ((t168.length : Int) == 0) = false := beq_eq_false_iff_ne.mpr c23
          have c23b1 : ((t168.length : Int) != 0) = true := bne_iff_ne.mpr c23
          have c23b2 : ¬ (t168 = []) := fun h_ => c23 (by rw [h_]; rfl)
          by_cases c26 : 0 < (t168.length : Int)
          · rw [if_pos c26] at H
            have c26b0 : decide (0 < (t168.length : Int)) = true := decide_eq_true c26
            have c26b1 : decide (0 < t168.length) = true := decide_eq_true (by omega)
            clear c26
            obtain ⟨y171, hy171⟩ : ∃ y_ : List Int, y_ = (t168.set (0 : Int).toNat 99) := ⟨_, rfl⟩
            replace H : ((arena_Bytes.f t162).bind fun t172 => ((scullerlaw07_known.f).bind fun t175 => (if t175 = true then (if t163 = 0 then (if (strOfNums t172).toList = (strOfNums t153).toList then ((arena_Bytes.f t150).bind fun t176 => (some ((strOfNums t176).toList == (strOfNums t153).toList))) else (some false)) else (some false)) else (some false)))) = some r := by first | (rw [hy171]; with_reducible exact H) | (have H2_ := (Option.bind_some _ _).symm.trans H; rw [hy171]; with_reducible exact H2_) | (have H2_ := (Option.bind_some _ _).symm.trans H; with_reducible exact H2_) | with_reducible exact H | (rw [hy171]; exact H) | exact H
            have Ny171 := Aside0.mk hy171
            clear hy171
            replace H := Option.bind_eq_some_iff.mp H
            obtain ⟨t172, A280, H⟩ := H
            replace H : ((scullerlaw07_known.f).bind fun t175 => (if t175 = true then (if t163 = 0 then (if (strOfNums t172).toList = (strOfNums t153).toList then ((arena_Bytes.f t150).bind fun t176 => (some ((strOfNums t176).toList == (strOfNums t153).toList))) else (some false)) else (some false)) else (some false))) = some r := H
            have A28 := Aside0.mk A280
            clear A280
            replace H := Option.bind_eq_some_iff.mp H
            obtain ⟨t175, A290, H⟩ := H
            replace H : (if t175 = true then (if t163 = 0 then (if (strOfNums t172).toList = (strOfNums t153).toList then ((arena_Bytes.f t150).bind fun t176 => (some ((strOfNums t176).toList == (strOfNums t153).toList))) else (some false)) else (some false)) else (some false)) = some r := H
            have A29 := Aside0.mk A290
            clear A290
            by_cases c30 : t175 = true
            · subst c30
              have H1 : (if t163 = 0 then (if (strOfNums t172).toList = (strOfNums t153).toList then ((arena_Bytes.f t150).bind fun t176 => (some ((strOfNums t176).toList == (strOfNums t153).toList))) else (some false)) else (some false)) = some r := by rw [if_pos rfl] at H; exact H
              clear H
              have H := H1
              clear H1
              by_cases c31 : t163 = 0
              · rw [if_pos c31] at H
                have c31b0 : (t163 == 0) = true := beq_iff_eq.mpr c31
                have c31b1 : (t163 != 0) = false := bne_eq_false_iff_eq.mpr c31
                clear c31
                by_cases c32 : (strOfNums t172).toList = (strOfNums t153).toList
                · rw [if_pos c32] at H
                  have c32b0 : ((strOfNums t172).toList == (strOfNums t153).toList) = true := beq_iff_eq.mpr c32
                  have c32b1 : ((strOfNums t172).toList != (strOfNums t153).toList) = false := bne_eq_false_iff_eq.mpr c32
                  clear c32
                  replace H := Option.bind_eq_some_iff.mp H
                  obtain ⟨t176, A330, H⟩ := H
                  replace H : (some ((strOfNums t176).toList == (strOfNums t153).toList)) = some r := H
                  have A33 := Aside0.mk A330
                  clear A330
                  obtain rfl := Option.some.inj H
                  go_wp2_with (first | ((with_reducible refine gate_callee (f := 19) rfl ?_); refine goesL_ (some 41) rfl rfl Try.func19 (by kernel_rfl) rfl #[.slice Ao9 t150.length co9] rfl (by (try simp only [List.map_toArray, List.map_cons, List.map_nil]); first | done | rfl | (simp only [List.length_drop, List.length_take]; rfl)) ?_; (with_reducible refine (arena_Sizes_c.calls _ _ t150 t168 _ ?side1 ?side2 A22.out).mono ?_); (case side1 => repeat (first | exact (Kd.S_reads' HO_5.out).2.2 | (with_reducible refine Kd.C_alloc ?_ _) | (with_reducible refine Kd.C_drewN ?_ _) | (with_reducible refine Kd.C_drew ?_))); (case side2 => exact (Kd.S_reads' HO_5.out).2.1); rintro e w34 ⟨v169, rfl, ho0, hb⟩; refine ⟨_, rfl, ?_⟩; have n0_ := Aside0.mk (Kd.S_below (by (with_reducible repeat (first | apply Kd.S_alloc | apply Kd.S_drewN | apply Kd.S_drew)); exact HO_5.out) hb); have n1_ := Aside0.mk (Kd.R_below (by (with_reducible repeat (first | apply Kd.R_alloc | apply Kd.R_drewN | apply Kd.R_drew)); exact HO_7.out) hb); have n2_ := Aside0.mk (Kd.S_below (by (with_reducible repeat (first | apply Kd.S_alloc | apply Kd.S_drewN | apply Kd.S_drew)); exact HO_8.out) hb); have n3_ := Aside0.mk (Kd.R_lower ho0 (below_size (by repeat (first | (with_reducible first | exact HB.out | apply below_alloc | apply pw_below_drewN | apply below_drew1) | exact HB.out)))); have n4_ := Aside0.mk (below_step (by repeat (first | (with_reducible first | exact HB.out | apply below_alloc | apply pw_below_drewN | apply below_drew1) | exact HB.out)) hb); clear HO_5; clear HO_7; clear HO_8; clear HB; have HO_5 := n0_; have HO_7 := n1_; have HO_8 := n2_; have HO170 := n3_; have HB := n4_; clear n0_ n1_ n2_ n3_ n4_; (try clear hb); (try clear hb2); (try clear hk); (try clear hi); (try clear ho0); obtain ⟨Ao35, co35, eo35⟩ := Kd.R_slice HO170.out; subst eo35; have p27 : 0 ≤ (0 : Int) := (by omega); have q27 : (0 : Int) < ((t168.length : Int) : Int) := of_decide_eq_true (by first | (with_reducible assumption) | assumption); have qi27 : (0 < t168.length) = True := eq_true (by omega); obtain ⟨go27, co27, eo27, gb27, gl27, cl27, HG27⟩ := Kd.R_form HO170.out (by omega); (first | cases eo27 | (injection eo27 with ea_ en_ ec_; (first | subst ea_ | (injection ea_ with ea_; subst ea_)); subst ec_; clear en_)); have GB27 := Aside0.mk gb27; have GG27 := Aside0.mk HG27; clear gb27 gl27 HG27; obtain ⟨hx27_0, hf27_0⟩ := Kd.R_celln 0 HO170.out (0 : Int) p27 q27; (try rw [show ((0 : Int)).toNat = 0 from rfl] at hx27_0); (try simp only [Nat.reduceMul, Nat.zero_mul, Nat.zero_add, Nat.reduceAdd] at hx27_0); (try rw [show ((0 : Int)).toNat = 0 from rfl] at hf27_0); (try simp only [Nat.reduceMul, Nat.zero_mul, Nat.zero_add, Nat.reduceAdd] at hf27_0); replace p27 := eq_true p27; replace q27 := eq_true q27; obtain ⟨hy36_, hz36_⟩ := Kd.R_celln 0 HO170.out (0 : Int) (by omega) (of_decide_eq_true (by first | (with_reducible assumption) | assumption)); (try simp only [Int.reduceToNat, Int.toNat_zero, Int.toNat_ofNat, Nat.reduceMul, Nat.zero_mul, Nat.zero_add] at hy36_ hz36_); (try rw [show ((0 : Int)).toNat = 0 from rfl] at hy36_); (try rw [show ((0 : Int)).toNat = 0 from rfl] at hz36_); have HP36 := Kd.R_putg HO170.out (0 : Int) 99) | ((with_reducible refine gate_store (t := 3) (p := 46) rfl ?_); refine store_event (t := 3) (p := 46) (v := ?vo_w37) (w1 := (w34.setCell ⟨go27, (0 : Int).toNat, none⟩ (.int .i64 99))) ?hg ?ho ?hn ?hr ?_; (case ho => rfl); (case hg => rfl); (case hn => rfl); (case hr => first | (go_simp; done) | (go_simp; rfl)); intro w37 hw; have hg : w34.grownBy w37 (some go27) := (by rw [hw]; exact HP36.2); have hp_ : Kd.R (Kd.int .i64) 3 w37 w.heap.size (fun _ => True) (.slice (some ⟨go27, 0, none⟩) t168.length co35) y171 := (by rw [hw, Ny171.out]; exact HP36.1); clear HP36; have n0_ := Aside0.mk (Kd.S_over' (v := (.slice (some ⟨go27, 0, none⟩) t168.length co35)) (by (with_reducible repeat (first | apply Kd.S_alloc | apply Kd.S_drewN | apply Kd.S_drew)); exact HO_5.out) (Kd.R_typed HO170.out) (by decide) hg); have n1_ := Aside0.mk (Kd.R_over' (v := (.slice (some ⟨go27, 0, none⟩) t168.length co35)) (by (with_reducible repeat (first | apply Kd.R_alloc | apply Kd.R_drewN | apply Kd.R_drew)); exact HO_7.out) (Kd.R_typed HO170.out) (by decide) hg); have n2_ := Aside0.mk (Kd.S_over' (v := (.slice (some ⟨go27, 0, none⟩) t168.length co35)) (by (with_reducible repeat (first | apply Kd.S_alloc | apply Kd.S_drewN | apply Kd.S_drew)); exact HO_8.out) (Kd.R_typed HO170.out) (by decide) hg); have n3_ := Aside0.mk (hp_); have n4_ := Aside0.mk ((by rw [hw]; exact below_set (HB.out) GB27.out : Below w.heap.size w w37)); clear HO_5; clear HO_7; clear HO_8; clear HO170; clear HB; have HO_5 := n0_; have HO_7 := n1_; have HO_8 := n2_; have HO170 := n3_; have HB := n4_; clear n0_ n1_ n2_ n3_ n4_; clear hg hw hp_; obtain ⟨Ao38, co38, eo38⟩ := Kd.S_slice HO_8.out; subst eo38) | ((with_reducible refine gate_callee (f := 17) rfl ?_); refine goesL_ (some 48) rfl rfl Try.func17 (by kernel_rfl) rfl #[.slice Ao38 t162.length co38] rfl (by (try simp only [List.map_toArray, List.map_cons, List.map_nil]); first | done | rfl | (simp only [List.length_drop, List.length_take]; rfl)) ?_; (with_reducible refine (arena_Bytes.calls _ _ t162 t172 _ ?side1 ?side2 A28.out).mono ?_); (case side1 => repeat (first | exact (Kd.S_reads' HO_8.out).2.2 | (with_reducible refine Kd.C_alloc ?_ _) | (with_reducible refine Kd.C_drewN ?_ _) | (with_reducible refine Kd.C_drew ?_))); (case side2 => exact (Kd.S_reads' HO_8.out).2.1); rintro e w39 ⟨v173, rfl, ho0, hb⟩; refine ⟨_, rfl, ?_⟩; have n0_ := Aside0.mk (Kd.S_below (by (with_reducible repeat (first | apply Kd.S_alloc | apply Kd.S_drewN | apply Kd.S_drew)); exact HO_5.out) hb); have n1_ := Aside0.mk (Kd.R_elder' (by (with_reducible repeat (first | apply Kd.R_alloc | apply Kd.R_drewN | apply Kd.R_drew)); exact HO_7.out) (Kd.R_base ho0) hb); have n2_ := Aside0.mk (Kd.S_below (by (with_reducible repeat (first | apply Kd.S_alloc | apply Kd.S_drewN | apply Kd.S_drew)); exact HO_8.out) hb); have n3_ := Aside0.mk (Kd.R_below (by (with_reducible repeat (first | apply Kd.R_alloc | apply Kd.R_drewN | apply Kd.R_drew)); exact HO170.out) hb); have n4_ := Aside0.mk (Kd.R_lower (Kd.R_new' ho0 (Kd.R_lt (by (with_reducible repeat (first | apply Kd.R_alloc | apply Kd.R_drewN | apply Kd.R_drew)); exact HO_7.out))) (below_size (by repeat (first | (with_reducible first | exact HB.out | apply below_alloc | apply pw_below_drewN | apply below_drew1) | exact HB.out)))); have n5_ := Aside0.mk (below_step (by repeat (first | (with_reducible first | exact HB.out | apply below_alloc | apply pw_below_drewN | apply below_drew1) | exact HB.out)) hb); clear HO_5; clear HO_7; clear HO_8; clear HO170; clear HB; have HO_5 := n0_; have HO_7 := n1_; have HO_8 := n2_; have HO170 := n3_; have HO174 := n4_; have HB := n5_; clear n0_ n1_ n2_ n3_ n4_ n5_; (try clear hb); (try clear hb2); (try clear hk); (try clear hi); (try clear ho0); have hcv40 := own_string (P := Try.prog) Try.underlying23 Try.underlying5 Try.underlying9 (Kd.own_of_R HO174.out)) | ((with_reducible refine gate_callee (f := 12) rfl ?_); refine goesL_ (some 50) rfl rfl Try.func12 (by kernel_rfl) rfl #[] rfl (by (try simp only [List.map_toArray, List.map_cons, List.map_nil]); first | done | rfl | (simp only [List.length_drop, List.length_take]; rfl)) ?_; (with_reducible refine (scullerlaw07_known.calls  true _ A29.out).mono ?_); rintro e w41 ⟨rfl, hb⟩; refine ⟨_, rfl, ?_⟩; have n0_ := Aside0.mk (Kd.S_below (by (with_reducible repeat (first | apply Kd.S_alloc | apply Kd.S_drewN | apply Kd.S_drew)); exact HO_5.out) hb); have n1_ := Aside0.mk (Kd.R_below (by (with_reducible repeat (first | apply Kd.R_alloc | apply Kd.R_drewN | apply Kd.R_drew)); exact HO_7.out) hb); have n2_ := Aside0.mk (Kd.S_below (by (with_reducible repeat (first | apply Kd.S_alloc | apply Kd.S_drewN | apply Kd.S_drew)); exact HO_8.out) hb); have n3_ := Aside0.mk (Kd.R_below (by (with_reducible repeat (first | apply Kd.R_alloc | apply Kd.R_drewN | apply Kd.R_drew)); exact HO170.out) hb); have n4_ := Aside0.mk (Kd.R_below (by (with_reducible repeat (first | apply Kd.R_alloc | apply Kd.R_drewN | apply Kd.R_drew)); exact HO174.out) hb); have n5_ := Aside0.mk (below_step (by repeat (first | (with_reducible first | exact HB.out | apply below_alloc | apply pw_below_drewN | apply below_drew1) | exact HB.out)) hb); clear HO_5; clear HO_7; clear HO_8; clear HO170; clear HO174; clear HB; have HO_5 := n0_; have HO_7 := n1_; have HO_8 := n2_; have HO170 := n3_; have HO174 := n4_; have HB := n5_; clear n0_ n1_ n2_ n3_ n4_ n5_; (try clear hb); (try clear hb2); (try clear hk); (try clear hi)) | (go_at_call 17; (with_reducible refine (arena_Bytes.calls _ _ t150 t176 _ ?side1 ?side2 A33.out).mono ?_); (case side1 => repeat (first | exact (Kd.S_reads' HO_5.out).2.2 | (with_reducible refine Kd.C_alloc ?_ _) | (with_reducible refine Kd.C_drewN ?_ _) | (with_reducible refine Kd.C_drew ?_))); (case side2 => exact (Kd.S_reads' HO_5.out).2.1); rintro e w42 ⟨v177, rfl, ho0, hb⟩; have n0_ := Aside0.mk (Kd.S_below (by (with_reducible repeat (first | apply Kd.S_alloc | apply Kd.S_drewN | apply Kd.S_drew)); exact HO_5.out) hb); have n1_ := Aside0.mk (Kd.R_elder' (by (with_reducible repeat (first | apply Kd.R_alloc | apply Kd.R_drewN | apply Kd.R_drew)); exact HO_7.out) (Kd.R_base ho0) hb); have n2_ := Aside0.mk (Kd.S_below (by (with_reducible repeat (first | apply Kd.S_alloc | apply Kd.S_drewN | apply Kd.S_drew)); exact HO_8.out) hb); have n3_ := Aside0.mk (Kd.R_below (by (with_reducible repeat (first | apply Kd.R_alloc | apply Kd.R_drewN | apply Kd.R_drew)); exact HO170.out) hb); have n4_ := Aside0.mk (Kd.R_elder' (by (with_reducible repeat (first | apply Kd.R_alloc | apply Kd.R_drewN | apply Kd.R_drew)); exact HO174.out) (Kd.R_base ho0) hb); have n5_ := Aside0.mk (Kd.R_lower (Kd.R_new' (Kd.R_new' ho0 (Kd.R_lt (by (with_reducible repeat (first | apply Kd.R_alloc | apply Kd.R_drewN | apply Kd.R_drew)); exact HO_7.out))) (Kd.R_lt (by (with_reducible repeat (first | apply Kd.R_alloc | apply Kd.R_drewN | apply Kd.R_drew)); exact HO174.out))) (below_size (by repeat (first | (with_reducible first | exact HB.out | apply below_alloc | apply pw_below_drewN | apply below_drew1) | exact HB.out)))); have n6_ := Aside0.mk (below_step (by repeat (first | (with_reducible first | exact HB.out | apply below_alloc | apply pw_below_drewN | apply below_drew1) | exact HB.out)) hb); clear HO_5; clear HO_7; clear HO_8; clear HO170; clear HO174; clear HB; have HO_5 := n0_; have HO_7 := n1_; have HO_8 := n2_; have HO170 := n3_; have HO174 := n4_; have HO178 := n5_; have HB := n6_; clear n0_ n1_ n2_ n3_ n4_ n5_ n6_; (try clear hb); (try clear hb2); (try clear hk); (try clear hi); (try clear ho0); have hcv43 := own_string (P := Try.prog) Try.underlying23 Try.underlying5 Try.underlying9 (Kd.own_of_R HO178.out)))
                  go_ret
                  exact ⟨by first | rfl | (simp [errW_none, errW_some] <;> rfl) | (simp [*, errW_none, errW_some] <;> rfl), by repeat (first | (with_reducible first | exact HB.out | apply below_alloc | apply pw_below_drewN | apply below_drew1) | exact HB.out)⟩
                · rw [if_neg c32] at H
                  have c32b0 : ((strOfNums t172).toList == (strOfNums t153).toList) = false := beq_eq_false_iff_ne.mpr c32
                  have c32b1 : ((strOfNums t172).toList != (strOfNums t153).toList) = true := bne_iff_ne.mpr c32
                  obtain rfl := Option.some.inj H
                  go_wp2_with (first | ((with_reducible refine gate_callee (f := 19) rfl ?_); refine goesL_ (some 41) rfl rfl Try.func19 (by kernel_rfl) rfl #[.slice Ao9 t150.length co9] rfl (by (try simp only [List.map_toArray, List.map_cons, List.map_nil]); first | done | rfl | (simp only [List.length_drop, List.length_take]; rfl)) ?_; (with_reducible refine (arena_Sizes_c.calls _ _ t150 t168 _ ?side1 ?side2 A22.out).mono ?_); (case side1 => repeat (first | exact (Kd.S_reads' HO_5.out).2.2 | (with_reducible refine Kd.C_alloc ?_ _) | (with_reducible refine Kd.C_drewN ?_ _) | (with_reducible refine Kd.C_drew ?_))); (case side2 => exact (Kd.S_reads' HO_5.out).2.1); rintro e w44 ⟨v169, rfl, ho0, hb⟩; refine ⟨_, rfl, ?_⟩; have n0_ := Aside0.mk (Kd.S_below (by (with_reducible repeat (first | apply Kd.S_alloc | apply Kd.S_drewN | apply Kd.S_drew)); exact HO_5.out) hb); have n1_ := Aside0.mk (Kd.R_below (by (with_reducible repeat (first | apply Kd.R_alloc | apply Kd.R_drewN | apply Kd.R_drew)); exact HO_7.out) hb); have n2_ := Aside0.mk (Kd.S_below (by (with_reducible repeat (first | apply Kd.S_alloc | apply Kd.S_drewN | apply Kd.S_drew)); exact HO_8.out) hb); have n3_ := Aside0.mk (Kd.R_lower ho0 (below_size (by repeat (first | (with_reducible first | exact HB.out | apply below_alloc | apply pw_below_drewN | apply below_drew1) | exact HB.out)))); have n4_ := Aside0.mk (below_step (by repeat (first | (with_reducible first | exact HB.out | apply below_alloc | apply pw_below_drewN | apply below_drew1) | exact HB.out)) hb); clear HO_5; clear HO_7; clear HO_8; clear HB; have HO_5 := n0_; have HO_7 := n1_; have HO_8 := n2_; have HO170 := n3_; have HB := n4_; clear n0_ n1_ n2_ n3_ n4_; (try clear hb); (try clear hb2); (try clear hk); (try clear hi); (try clear ho0); obtain ⟨Ao45, co45, eo45⟩ := Kd.R_slice HO170.out; subst eo45; have p27 : 0 ≤ (0 : Int) := (by omega); have q27 : (0 : Int) < ((t168.length : Int) : Int) := of_decide_eq_true (by first | (with_reducible assumption) | assumption); have qi27 : (0 < t168.length) = True := eq_true (by omega); obtain ⟨go27, co27, eo27, gb27, gl27, cl27, HG27⟩ := Kd.R_form HO170.out (by omega); (first | cases eo27 | (injection eo27 with ea_ en_ ec_; (first | subst ea_ | (injection ea_ with ea_; subst ea_)); subst ec_; clear en_)); have GB27 := Aside0.mk gb27; have GG27 := Aside0.mk HG27; clear gb27 gl27 HG27; obtain ⟨hx27_0, hf27_0⟩ := Kd.R_celln 0 HO170.out (0 : Int) p27 q27; (try rw [show ((0 : Int)).toNat = 0 from rfl] at hx27_0); (try simp only [Nat.reduceMul, Nat.zero_mul, Nat.zero_add, Nat.reduceAdd] at hx27_0); (try rw [show ((0 : Int)).toNat = 0 from rfl] at hf27_0); (try simp only [Nat.reduceMul, Nat.zero_mul, Nat.zero_add, Nat.reduceAdd] at hf27_0); replace p27 := eq_true p27; replace q27 := eq_true q27; obtain ⟨hy46_, hz46_⟩ := Kd.R_celln 0 HO170.out (0 : Int) (by omega) (of_decide_eq_true (by first | (with_reducible assumption) | assumption)); (try simp only [Int.reduceToNat, Int.toNat_zero, Int.toNat_ofNat, Nat.reduceMul, Nat.zero_mul, Nat.zero_add] at hy46_ hz46_); (try rw [show ((0 : Int)).toNat = 0 from rfl] at hy46_); (try rw [show ((0 : Int)).toNat = 0 from rfl] at hz46_); have HP46 := Kd.R_putg HO170.out (0 : Int) 99) | ((with_reducible refine gate_store (t := 3) (p := 46) rfl ?_); refine store_event (t := 3) (p := 46) (v := ?vo_w47) (w1 := (w44.setCell ⟨go27, (0 : Int).toNat, none⟩ (.int .i64 99))) ?hg ?ho ?hn ?hr ?_; (case ho => rfl); (case hg => rfl); (case hn => rfl); (case hr => first | (go_simp; done) | (go_simp; rfl)); intro w47 hw; have hg : w44.grownBy w47 (some go27) := (by rw [hw]; exact HP46.2); have hp_ : Kd.R (Kd.int .i64) 3 w47 w.heap.size (fun _ => True) (.slice (some ⟨go27, 0, none⟩) t168.length co45) y171 := (by rw [hw, Ny171.out]; exact HP46.1); clear HP46; have n0_ := Aside0.mk (Kd.S_over' (v := (.slice (some ⟨go27, 0, none⟩) t168.length co45)) (by (with_reducible repeat (first | apply Kd.S_alloc | apply Kd.S_drewN | apply Kd.S_drew)); exact HO_5.out) (Kd.R_typed HO170.out) (by decide) hg); have n1_ := Aside0.mk (Kd.R_over' (v := (.slice (some ⟨go27, 0, none⟩) t168.length co45)) (by (with_reducible repeat (first | apply Kd.R_alloc | apply Kd.R_drewN | apply Kd.R_drew)); exact HO_7.out) (Kd.R_typed HO170.out) (by decide) hg); have n2_ := Aside0.mk (Kd.S_over' (v := (.slice (some ⟨go27, 0, none⟩) t168.length co45)) (by (with_reducible repeat (first | apply Kd.S_alloc | apply Kd.S_drewN | apply Kd.S_drew)); exact HO_8.out) (Kd.R_typed HO170.out) (by decide) hg); have n3_ := Aside0.mk (hp_); have n4_ := Aside0.mk ((by rw [hw]; exact below_set (HB.out) GB27.out : Below w.heap.size w w47)); clear HO_5; clear HO_7; clear HO_8; clear HO170; clear HB; have HO_5 := n0_; have HO_7 := n1_; have HO_8 := n2_; have HO170 := n3_; have HB := n4_; clear n0_ n1_ n2_ n3_ n4_; clear hg hw hp_; obtain ⟨Ao48, co48, eo48⟩ := Kd.S_slice HO_8.out; subst eo48) | ((with_reducible refine gate_callee (f := 17) rfl ?_); refine goesL_ (some 48) rfl rfl Try.func17 (by kernel_rfl) rfl #[.slice Ao48 t162.length co48] rfl (by (try simp only [List.map_toArray, List.map_cons, List.map_nil]); first | done | rfl | (simp only [List.length_drop, List.length_take]; rfl)) ?_; (with_reducible refine (arena_Bytes.calls _ _ t162 t172 _ ?side1 ?side2 A28.out).mono ?_); (case side1 => repeat (first | exact (Kd.S_reads' HO_8.out).2.2 | (with_reducible refine Kd.C_alloc ?_ _) | (with_reducible refine Kd.C_drewN ?_ _) | (with_reducible refine Kd.C_drew ?_))); (case side2 => exact (Kd.S_reads' HO_8.out).2.1); rintro e w49 ⟨v173, rfl, ho0, hb⟩; refine ⟨_, rfl, ?_⟩; have n0_ := Aside0.mk (Kd.S_below (by (with_reducible repeat (first | apply Kd.S_alloc | apply Kd.S_drewN | apply Kd.S_drew)); exact HO_5.out) hb); have n1_ := Aside0.mk (Kd.R_elder' (by (with_reducible repeat (first | apply Kd.R_alloc | apply Kd.R_drewN | apply Kd.R_drew)); exact HO_7.out) (Kd.R_base ho0) hb); have n2_ := Aside0.mk (Kd.S_below (by (with_reducible repeat (first | apply Kd.S_alloc | apply Kd.S_drewN | apply Kd.S_drew)); exact HO_8.out) hb); have n3_ := Aside0.mk (Kd.R_below (by (with_reducible repeat (first | apply Kd.R_alloc | apply Kd.R_drewN | apply Kd.R_drew)); exact HO170.out) hb); have n4_ := Aside0.mk (Kd.R_lower (Kd.R_new' ho0 (Kd.R_lt (by (with_reducible repeat (first | apply Kd.R_alloc | apply Kd.R_drewN | apply Kd.R_drew)); exact HO_7.out))) (below_size (by repeat (first | (with_reducible first | exact HB.out | apply below_alloc | apply pw_below_drewN | apply below_drew1) | exact HB.out)))); have n5_ := Aside0.mk (below_step (by repeat (first | (with_reducible first | exact HB.out | apply below_alloc | apply pw_below_drewN | apply below_drew1) | exact HB.out)) hb); clear HO_5; clear HO_7; clear HO_8; clear HO170; clear HB; have HO_5 := n0_; have HO_7 := n1_; have HO_8 := n2_; have HO170 := n3_; have HO174 := n4_; have HB := n5_; clear n0_ n1_ n2_ n3_ n4_ n5_; (try clear hb); (try clear hb2); (try clear hk); (try clear hi); (try clear ho0); have hcv50 := own_string (P := Try.prog) Try.underlying23 Try.underlying5 Try.underlying9 (Kd.own_of_R HO174.out)) | ((with_reducible refine gate_callee (f := 12) rfl ?_); refine goesL_ (some 50) rfl rfl Try.func12 (by kernel_rfl) rfl #[] rfl (by (try simp only [List.map_toArray, List.map_cons, List.map_nil]); first | done | rfl | (simp only [List.length_drop, List.length_take]; rfl)) ?_; (with_reducible refine (scullerlaw07_known.calls  true _ A29.out).mono ?_); rintro e w51 ⟨rfl, hb⟩; refine ⟨_, rfl, ?_⟩; have n0_ := Aside0.mk (Kd.S_below (by (with_reducible repeat (first | apply Kd.S_alloc | apply Kd.S_drewN | apply Kd.S_drew)); exact HO_5.out) hb); have n1_ := Aside0.mk (Kd.R_below (by (with_reducible repeat (first | apply Kd.R_alloc | apply Kd.R_drewN | apply Kd.R_drew)); exact HO_7.out) hb); have n2_ := Aside0.mk (Kd.S_below (by (with_reducible repeat (first | apply Kd.S_alloc | apply Kd.S_drewN | apply Kd.S_drew)); exact HO_8.out) hb); have n3_ := Aside0.mk (Kd.R_below (by (with_reducible repeat (first | apply Kd.R_alloc | apply Kd.R_drewN | apply Kd.R_drew)); exact HO170.out) hb); have n4_ := Aside0.mk (Kd.R_below (by (with_reducible repeat (first | apply Kd.R_alloc | apply Kd.R_drewN | apply Kd.R_drew)); exact HO174.out) hb); have n5_ := Aside0.mk (below_step (by repeat (first | (with_reducible first | exact HB.out | apply below_alloc | apply pw_below_drewN | apply below_drew1) | exact HB.out)) hb); clear HO_5; clear HO_7; clear HO_8; clear HO170; clear HO174; clear HB; have HO_5 := n0_; have HO_7 := n1_; have HO_8 := n2_; have HO170 := n3_; have HO174 := n4_; have HB := n5_; clear n0_ n1_ n2_ n3_ n4_ n5_; (try clear hb); (try clear hb2); (try clear hk); (try clear hi)))
                  go_ret
                  exact ⟨by first | rfl | (simp [errW_none, errW_some] <;> rfl) | (simp [*, errW_none, errW_some] <;> rfl), by repeat (first | (with_reducible first | exact HB.out | apply below_alloc | apply pw_below_drewN | apply below_drew1) | exact HB.out)⟩
              · rw [if_neg c31] at H
                have c31b0 : (t163 == 0) = false := beq_eq_false_iff_ne.mpr c31
                have c31b1 : (t163 != 0) = true := bne_iff_ne.mpr c31
                obtain rfl := Option.some.inj H
                go_wp2_with (first | ((with_reducible refine gate_callee (f := 19) rfl ?_); refine goesL_ (some 41) rfl rfl Try.func19 (by kernel_rfl) rfl #[.slice Ao9 t150.length co9] rfl (by (try simp only [List.map_toArray, List.map_cons, List.map_nil]); first | done | rfl | (simp only [List.length_drop, List.length_take]; rfl)) ?_; (with_reducible refine (arena_Sizes_c.calls _ _ t150 t168 _ ?side1 ?side2 A22.out).mono ?_); (case side1 => repeat (first | exact (Kd.S_reads' HO_5.out).2.2 | (with_reducible refine Kd.C_alloc ?_ _) | (with_reducible refine Kd.C_drewN ?_ _) | (with_reducible refine Kd.C_drew ?_))); (case side2 => exact (Kd.S_reads' HO_5.out).2.1); rintro e w52 ⟨v169, rfl, ho0, hb⟩; refine ⟨_, rfl, ?_⟩; have n0_ := Aside0.mk (Kd.S_below (by (with_reducible repeat (first | apply Kd.S_alloc | apply Kd.S_drewN | apply Kd.S_drew)); exact HO_5.out) hb); have n1_ := Aside0.mk (Kd.R_below (by (with_reducible repeat (first | apply Kd.R_alloc | apply Kd.R_drewN | apply Kd.R_drew)); exact HO_7.out) hb); have n2_ := Aside0.mk (Kd.S_below (by (with_reducible repeat (first | apply Kd.S_alloc | apply Kd.S_drewN | apply Kd.S_drew)); exact HO_8.out) hb); have n3_ := Aside0.mk (Kd.R_lower ho0 (below_size (by repeat (first | (with_reducible first | exact HB.out | apply below_alloc | apply pw_below_drewN | apply below_drew1) | exact HB.out)))); have n4_ := Aside0.mk (below_step (by repeat (first | (with_reducible first | exact HB.out | apply below_alloc | apply pw_below_drewN | apply below_drew1) | exact HB.out)) hb); clear HO_5; clear HO_7; clear HO_8; clear HB; have HO_5 := n0_; have HO_7 := n1_; have HO_8 := n2_; have HO170 := n3_; have HB := n4_; clear n0_ n1_ n2_ n3_ n4_; (try clear hb); (try clear hb2); (try clear hk); (try clear hi); (try clear ho0); obtain ⟨Ao53, co53, eo53⟩ := Kd.R_slice HO170.out; subst eo53; have p27 : 0 ≤ (0 : Int) := (by omega); have q27 : (0 : Int) < ((t168.length : Int) : Int) := of_decide_eq_true (by first | (with_reducible assumption) | assumption); have qi27 : (0 < t168.length) = True := eq_true (by omega); obtain ⟨go27, co27, eo27, gb27, gl27, cl27, HG27⟩ := Kd.R_form HO170.out (by omega); (first | cases eo27 | (injection eo27 with ea_ en_ ec_; (first | subst ea_ | (injection ea_ with ea_; subst ea_)); subst ec_; clear en_)); have GB27 := Aside0.mk gb27; have GG27 := Aside0.mk HG27; clear gb27 gl27 HG27; obtain ⟨hx27_0, hf27_0⟩ := Kd.R_celln 0 HO170.out (0 : Int) p27 q27; (try rw [show ((0 : Int)).toNat = 0 from rfl] at hx27_0); (try simp only [Nat.reduceMul, Nat.zero_mul, Nat.zero_add, Nat.reduceAdd] at hx27_0); (try rw [show ((0 : Int)).toNat = 0 from rfl] at hf27_0); (try simp only [Nat.reduceMul, Nat.zero_mul, Nat.zero_add, Nat.reduceAdd] at hf27_0); replace p27 := eq_true p27; replace q27 := eq_true q27; obtain ⟨hy54_, hz54_⟩ := Kd.R_celln 0 HO170.out (0 : Int) (by omega) (of_decide_eq_true (by first | (with_reducible assumption) | assumption)); (try simp only [Int.reduceToNat, Int.toNat_zero, Int.toNat_ofNat, Nat.reduceMul, Nat.zero_mul, Nat.zero_add] at hy54_ hz54_); (try rw [show ((0 : Int)).toNat = 0 from rfl] at hy54_); (try rw [show ((0 : Int)).toNat = 0 from rfl] at hz54_); have HP54 := Kd.R_putg HO170.out (0 : Int) 99) | ((with_reducible refine gate_store (t := 3) (p := 46) rfl ?_); refine store_event (t := 3) (p := 46) (v := ?vo_w55) (w1 := (w52.setCell ⟨go27, (0 : Int).toNat, none⟩ (.int .i64 99))) ?hg ?ho ?hn ?hr ?_; (case ho => rfl); (case hg => rfl); (case hn => rfl); (case hr => first | (go_simp; done) | (go_simp; rfl)); intro w55 hw; have hg : w52.grownBy w55 (some go27) := (by rw [hw]; exact HP54.2); have hp_ : Kd.R (Kd.int .i64) 3 w55 w.heap.size (fun _ => True) (.slice (some ⟨go27, 0, none⟩) t168.length co53) y171 := (by rw [hw, Ny171.out]; exact HP54.1); clear HP54; have n0_ := Aside0.mk (Kd.S_over' (v := (.slice (some ⟨go27, 0, none⟩) t168.length co53)) (by (with_reducible repeat (first | apply Kd.S_alloc | apply Kd.S_drewN | apply Kd.S_drew)); exact HO_5.out) (Kd.R_typed HO170.out) (by decide) hg); have n1_ := Aside0.mk (Kd.R_over' (v := (.slice (some ⟨go27, 0, none⟩) t168.length co53)) (by (with_reducible repeat (first | apply Kd.R_alloc | apply Kd.R_drewN | apply Kd.R_drew)); exact HO_7.out) (Kd.R_typed HO170.out) (by decide) hg); have n2_ := Aside0.mk (Kd.S_over' (v := (.slice (some ⟨go27, 0, none⟩) t168.length co53)) (by (with_reducible repeat (first | apply Kd.S_alloc | apply Kd.S_drewN | apply Kd.S_drew)); exact HO_8.out) (Kd.R_typed HO170.out) (by decide) hg); have n3_ := Aside0.mk (hp_); have n4_ := Aside0.mk ((by rw [hw]; exact below_set (HB.out) GB27.out : Below w.heap.size w w55)); clear HO_5; clear HO_7; clear HO_8; clear HO170; clear HB; have HO_5 := n0_; have HO_7 := n1_; have HO_8 := n2_; have HO170 := n3_; have HB := n4_; clear n0_ n1_ n2_ n3_ n4_; clear hg hw hp_; obtain ⟨Ao56, co56, eo56⟩ := Kd.S_slice HO_8.out; subst eo56) | ((with_reducible refine gate_callee (f := 17) rfl ?_); refine goesL_ (some 48) rfl rfl Try.func17 (by kernel_rfl) rfl #[.slice Ao56 t162.length co56] rfl (by (try simp only [List.map_toArray, List.map_cons, List.map_nil]); first | done | rfl | (simp only [List.length_drop, List.length_take]; rfl)) ?_; (with_reducible refine (arena_Bytes.calls _ _ t162 t172 _ ?side1 ?side2 A28.out).mono ?_); (case side1 => repeat (first | exact (Kd.S_reads' HO_8.out).2.2 | (with_reducible refine Kd.C_alloc ?_ _) | (with_reducible refine Kd.C_drewN ?_ _) | (with_reducible refine Kd.C_drew ?_))); (case side2 => exact (Kd.S_reads' HO_8.out).2.1); rintro e w57 ⟨v173, rfl, ho0, hb⟩; refine ⟨_, rfl, ?_⟩; have n0_ := Aside0.mk (Kd.S_below (by (with_reducible repeat (first | apply Kd.S_alloc | apply Kd.S_drewN | apply Kd.S_drew)); exact HO_5.out) hb); have n1_ := Aside0.mk (Kd.R_elder' (by (with_reducible repeat (first | apply Kd.R_alloc | apply Kd.R_drewN | apply Kd.R_drew)); exact HO_7.out) (Kd.R_base ho0) hb); have n2_ := Aside0.mk (Kd.S_below (by (with_reducible repeat (first | apply Kd.S_alloc | apply Kd.S_drewN | apply Kd.S_drew)); exact HO_8.out) hb); have n3_ := Aside0.mk (Kd.R_below (by (with_reducible repeat (first | apply Kd.R_alloc | apply Kd.R_drewN | apply Kd.R_drew)); exact HO170.out) hb); have n4_ := Aside0.mk (Kd.R_lower (Kd.R_new' ho0 (Kd.R_lt (by (with_reducible repeat (first | apply Kd.R_alloc | apply Kd.R_drewN | apply Kd.R_drew)); exact HO_7.out))) (below_size (by repeat (first | (with_reducible first | exact HB.out | apply below_alloc | apply pw_below_drewN | apply below_drew1) | exact HB.out)))); have n5_ := Aside0.mk (below_step (by repeat (first | (with_reducible first | exact HB.out | apply below_alloc | apply pw_below_drewN | apply below_drew1) | exact HB.out)) hb); clear HO_5; clear HO_7; clear HO_8; clear HO170; clear HB; have HO_5 := n0_; have HO_7 := n1_; have HO_8 := n2_; have HO170 := n3_; have HO174 := n4_; have HB := n5_; clear n0_ n1_ n2_ n3_ n4_ n5_; (try clear hb); (try clear hb2); (try clear hk); (try clear hi); (try clear ho0); have hcv58 := own_string (P := Try.prog) Try.underlying23 Try.underlying5 Try.underlying9 (Kd.own_of_R HO174.out)) | ((with_reducible refine gate_callee (f := 12) rfl ?_); refine goesL_ (some 50) rfl rfl Try.func12 (by kernel_rfl) rfl #[] rfl (by (try simp only [List.map_toArray, List.map_cons, List.map_nil]); first | done | rfl | (simp only [List.length_drop, List.length_take]; rfl)) ?_; (with_reducible refine (scullerlaw07_known.calls  true _ A29.out).mono ?_); rintro e w59 ⟨rfl, hb⟩; refine ⟨_, rfl, ?_⟩; have n0_ := Aside0.mk (Kd.S_below (by (with_reducible repeat (first | apply Kd.S_alloc | apply Kd.S_drewN | apply Kd.S_drew)); exact HO_5.out) hb); have n1_ := Aside0.mk (Kd.R_below (by (with_reducible repeat (first | apply Kd.R_alloc | apply Kd.R_drewN | apply Kd.R_drew)); exact HO_7.out) hb); have n2_ := Aside0.mk (Kd.S_below (by (with_reducible repeat (first | apply Kd.S_alloc | apply Kd.S_drewN | apply Kd.S_drew)); exact HO_8.out) hb); have n3_ := Aside0.mk (Kd.R_below (by (with_reducible repeat (first | apply Kd.R_alloc | apply Kd.R_drewN | apply Kd.R_drew)); exact HO170.out) hb); have n4_ := Aside0.mk (Kd.R_below (by (with_reducible repeat (first | apply Kd.R_alloc | apply Kd.R_drewN | apply Kd.R_drew)); exact HO174.out) hb); have n5_ := Aside0.mk (below_step (by repeat (first | (with_reducible first | exact HB.out | apply below_alloc | apply pw_below_drewN | apply below_drew1) | exact HB.out)) hb); clear HO_5; clear HO_7; clear HO_8; clear HO170; clear HO174; clear HB; have HO_5 := n0_; have HO_7 := n1_; have HO_8 := n2_; have HO170 := n3_; have HO174 := n4_; have HB := n5_; clear n0_ n1_ n2_ n3_ n4_ n5_; (try clear hb); (try clear hb2); (try clear hk); (try clear hi)))
                go_ret
                exact ⟨by first | rfl | (simp [errW_none, errW_some] <;> rfl) | (simp [*, errW_none, errW_some] <;> rfl), by repeat (first | (with_reducible first | exact HB.out | apply below_alloc | apply pw_below_drewN | apply below_drew1) | exact HB.out)⟩
            · replace c30 := Bool.eq_false_iff.mpr c30
              subst c30
              have H1 : (some false) = some r := by rw [if_neg (show ¬ (false = true) by decide)] at H; exact H
              clear H
              have H := H1
              clear H1
              obtain rfl := Option.some.inj H
              go_wp2_with (first | ((with_reducible refine gate_callee (f := 19) rfl ?_); refine goesL_ (some 41) rfl rfl Try.func19 (by kernel_rfl) rfl #[.slice Ao9 t150.length co9] rfl (by (try simp only [List.map_toArray, List.map_cons, List.map_nil]); first | done | rfl | (simp only [List.length_drop, List.length_take]; rfl)) ?_; (with_reducible refine (arena_Sizes_c.calls _ _ t150 t168 _ ?side1 ?side2 A22.out).mono ?_); (case side1 => repeat (first | exact (Kd.S_reads' HO_5.out).2.2 | (with_reducible refine Kd.C_alloc ?_ _) | (with_reducible refine Kd.C_drewN ?_ _) | (with_reducible refine Kd.C_drew ?_))); (case side2 => exact (Kd.S_reads' HO_5.out).2.1); rintro e w60 ⟨v169, rfl, ho0, hb⟩; refine ⟨_, rfl, ?_⟩; have n0_ := Aside0.mk (Kd.S_below (by (with_reducible repeat (first | apply Kd.S_alloc | apply Kd.S_drewN | apply Kd.S_drew)); exact HO_5.out) hb); have n1_ := Aside0.mk (Kd.R_below (by (with_reducible repeat (first | apply Kd.R_alloc | apply Kd.R_drewN | apply Kd.R_drew)); exact HO_7.out) hb); have n2_ := Aside0.mk (Kd.S_below (by (with_reducible repeat (first | apply Kd.S_alloc | apply Kd.S_drewN | apply Kd.S_drew)); exact HO_8.out) hb); have n3_ := Aside0.mk (Kd.R_lower ho0 (below_size (by repeat (first | (with_reducible first | exact HB.out | apply below_alloc | apply pw_below_drewN | apply below_drew1) | exact HB.out)))); have n4_ := Aside0.mk (below_step (by repeat (first | (with_reducible first | exact HB.out | apply below_alloc | apply pw_below_drewN | apply below_drew1) | exact HB.out)) hb); clear HO_5; clear HO_7; clear HO_8; clear HB; have HO_5 := n0_; have HO_7 := n1_; have HO_8 := n2_; have HO170 := n3_; have HB := n4_; clear n0_ n1_ n2_ n3_ n4_; (try clear hb); (try clear hb2); (try clear hk); (try clear hi); (try clear ho0); obtain ⟨Ao61, co61, eo61⟩ := Kd.R_slice HO170.out; subst eo61; have p27 : 0 ≤ (0 : Int) := (by omega); have q27 : (0 : Int) < ((t168.length : Int) : Int) := of_decide_eq_true (by first | (with_reducible assumption) | assumption); have qi27 : (0 < t168.length) = True := eq_true (by omega); obtain ⟨go27, co27, eo27, gb27, gl27, cl27, HG27⟩ := Kd.R_form HO170.out (by omega); (first | cases eo27 | (injection eo27 with ea_ en_ ec_; (first | subst ea_ | (injection ea_ with ea_; subst ea_)); subst ec_; clear en_)); have GB27 := Aside0.mk gb27; have GG27 := Aside0.mk HG27; clear gb27 gl27 HG27; obtain ⟨hx27_0, hf27_0⟩ := Kd.R_celln 0 HO170.out (0 : Int) p27 q27; (try rw [show ((0 : Int)).toNat = 0 from rfl] at hx27_0); (try simp only [Nat.reduceMul, Nat.zero_mul, Nat.zero_add, Nat.reduceAdd] at hx27_0); (try rw [show ((0 : Int)).toNat = 0 from rfl] at hf27_0); (try simp only [Nat.reduceMul, Nat.zero_mul, Nat.zero_add, Nat.reduceAdd] at hf27_0); replace p27 := eq_true p27; replace q27 := eq_true q27; obtain ⟨hy62_, hz62_⟩ := Kd.R_celln 0 HO170.out (0 : Int) (by omega) (of_decide_eq_true (by first | (with_reducible assumption) | assumption)); (try simp only [Int.reduceToNat, Int.toNat_zero, Int.toNat_ofNat, Nat.reduceMul, Nat.zero_mul, Nat.zero_add] at hy62_ hz62_); (try rw [show ((0 : Int)).toNat = 0 from rfl] at hy62_); (try rw [show ((0 : Int)).toNat = 0 from rfl] at hz62_); have HP62 := Kd.R_putg HO170.out (0 : Int) 99) | ((with_reducible refine gate_store (t := 3) (p := 46) rfl ?_); refine store_event (t := 3) (p := 46) (v := ?vo_w63) (w1 := (w60.setCell ⟨go27, (0 : Int).toNat, none⟩ (.int .i64 99))) ?hg ?ho ?hn ?hr ?_; (case ho => rfl); (case hg => rfl); (case hn => rfl); (case hr => first | (go_simp; done) | (go_simp; rfl)); intro w63 hw; have hg : w60.grownBy w63 (some go27) := (by rw [hw]; exact HP62.2); have hp_ : Kd.R (Kd.int .i64) 3 w63 w.heap.size (fun _ => True) (.slice (some ⟨go27, 0, none⟩) t168.length co61) y171 := (by rw [hw, Ny171.out]; exact HP62.1); clear HP62; have n0_ := Aside0.mk (Kd.S_over' (v := (.slice (some ⟨go27, 0, none⟩) t168.length co61)) (by (with_reducible repeat (first | apply Kd.S_alloc | apply Kd.S_drewN | apply Kd.S_drew)); exact HO_5.out) (Kd.R_typed HO170.out) (by decide) hg); have n1_ := Aside0.mk (Kd.R_over' (v := (.slice (some ⟨go27, 0, none⟩) t168.length co61)) (by (with_reducible repeat (first | apply Kd.R_alloc | apply Kd.R_drewN | apply Kd.R_drew)); exact HO_7.out) (Kd.R_typed HO170.out) (by decide) hg); have n2_ := Aside0.mk (Kd.S_over' (v := (.slice (some ⟨go27, 0, none⟩) t168.length co61)) (by (with_reducible repeat (first | apply Kd.S_alloc | apply Kd.S_drewN | apply Kd.S_drew)); exact HO_8.out) (Kd.R_typed HO170.out) (by decide) hg); have n3_ := Aside0.mk (hp_); have n4_ := Aside0.mk ((by rw [hw]; exact below_set (HB.out) GB27.out : Below w.heap.size w w63)); clear HO_5; clear HO_7; clear HO_8; clear HO170; clear HB; have HO_5 := n0_; have HO_7 := n1_; have HO_8 := n2_; have HO170 := n3_; have HB := n4_; clear n0_ n1_ n2_ n3_ n4_; clear hg hw hp_; obtain ⟨Ao64, co64, eo64⟩ := Kd.S_slice HO_8.out; subst eo64) | ((with_reducible refine gate_callee (f := 17) rfl ?_); refine goesL_ (some 48) rfl rfl Try.func17 (by kernel_rfl) rfl #[.slice Ao64 t162.length co64] rfl (by (try simp only [List.map_toArray, List.map_cons, List.map_nil]); first | done | rfl | (simp only [List.length_drop, List.length_take]; rfl)) ?_; (with_reducible refine (arena_Bytes.calls _ _ t162 t172 _ ?side1 ?side2 A28.out).mono ?_); (case side1 => repeat (first | exact (Kd.S_reads' HO_8.out).2.2 | (with_reducible refine Kd.C_alloc ?_ _) | (with_reducible refine Kd.C_drewN ?_ _) | (with_reducible refine Kd.C_drew ?_))); (case side2 => exact (Kd.S_reads' HO_8.out).2.1); rintro e w65 ⟨v173, rfl, ho0, hb⟩; refine ⟨_, rfl, ?_⟩; have n0_ := Aside0.mk (Kd.S_below (by (with_reducible repeat (first | apply Kd.S_alloc | apply Kd.S_drewN | apply Kd.S_drew)); exact HO_5.out) hb); have n1_ := Aside0.mk (Kd.R_elder' (by (with_reducible repeat (first | apply Kd.R_alloc | apply Kd.R_drewN | apply Kd.R_drew)); exact HO_7.out) (Kd.R_base ho0) hb); have n2_ := Aside0.mk (Kd.S_below (by (with_reducible repeat (first | apply Kd.S_alloc | apply Kd.S_drewN | apply Kd.S_drew)); exact HO_8.out) hb); have n3_ := Aside0.mk (Kd.R_below (by (with_reducible repeat (first | apply Kd.R_alloc | apply Kd.R_drewN | apply Kd.R_drew)); exact HO170.out) hb); have n4_ := Aside0.mk (Kd.R_lower (Kd.R_new' ho0 (Kd.R_lt (by (with_reducible repeat (first | apply Kd.R_alloc | apply Kd.R_drewN | apply Kd.R_drew)); exact HO_7.out))) (below_size (by repeat (first | (with_reducible first | exact HB.out | apply below_alloc | apply pw_below_drewN | apply below_drew1) | exact HB.out)))); have n5_ := Aside0.mk (below_step (by repeat (first | (with_reducible first | exact HB.out | apply below_alloc | apply pw_below_drewN | apply below_drew1) | exact HB.out)) hb); clear HO_5; clear HO_7; clear HO_8; clear HO170; clear HB; have HO_5 := n0_; have HO_7 := n1_; have HO_8 := n2_; have HO170 := n3_; have HO174 := n4_; have HB := n5_; clear n0_ n1_ n2_ n3_ n4_ n5_; (try clear hb); (try clear hb2); (try clear hk); (try clear hi); (try clear ho0); have hcv66 := own_string (P := Try.prog) Try.underlying23 Try.underlying5 Try.underlying9 (Kd.own_of_R HO174.out)) | ((with_reducible refine gate_callee (f := 12) rfl ?_); refine goesL_ (some 50) rfl rfl Try.func12 (by kernel_rfl) rfl #[] rfl (by (try simp only [List.map_toArray, List.map_cons, List.map_nil]); first | done | rfl | (simp only [List.length_drop, List.length_take]; rfl)) ?_; (with_reducible refine (scullerlaw07_known.calls  false _ A29.out).mono ?_); rintro e w67 ⟨rfl, hb⟩; refine ⟨_, rfl, ?_⟩; have n0_ := Aside0.mk (Kd.S_below (by (with_reducible repeat (first | apply Kd.S_alloc | apply Kd.S_drewN | apply Kd.S_drew)); exact HO_5.out) hb); have n1_ := Aside0.mk (Kd.R_below (by (with_reducible repeat (first | apply Kd.R_alloc | apply Kd.R_drewN | apply Kd.R_drew)); exact HO_7.out) hb); have n2_ := Aside0.mk (Kd.S_below (by (with_reducible repeat (first | apply Kd.S_alloc | apply Kd.S_drewN | apply Kd.S_drew)); exact HO_8.out) hb); have n3_ := Aside0.mk (Kd.R_below (by (with_reducible repeat (first | apply Kd.R_alloc | apply Kd.R_drewN | apply Kd.R_drew)); exact HO170.out) hb); have n4_ := Aside0.mk (Kd.R_below (by (with_reducible repeat (first | apply Kd.R_alloc | apply Kd.R_drewN | apply Kd.R_drew)); exact HO174.out) hb); have n5_ := Aside0.mk (below_step (by repeat (first | (with_reducible first | exact HB.out | apply below_alloc | apply pw_below_drewN | apply below_drew1) | exact HB.out)) hb); clear HO_5; clear HO_7; clear HO_8; clear HO170; clear HO174; clear HB; have HO_5 := n0_; have HO_7 := n1_; have HO_8 := n2_; have HO170 := n3_; have HO174 := n4_; have HB := n5_; clear n0_ n1_ n2_ n3_ n4_ n5_; (try clear hb); (try clear hb2); (try clear hk); (try clear hi)))
              go_ret
              exact ⟨by first | rfl | (simp [errW_none, errW_some] <;> rfl) | (simp [*, errW_none, errW_some] <;> rfl), by repeat (first | (with_reducible first | exact HB.out | apply below_alloc | apply pw_below_drewN | apply below_drew1) | exact HB.out)⟩
          · rw [if_neg c26] at H
            exact absurd H (by simp)

/-- THE ONE PURE STATEMENT of scullerlaw07_ArenaSpoil: yours. -/
def scullerlaw07_ArenaSpoil.Pure : Prop := ∀ (l0 : List Int) (a1 : Int), l0.length ≤ maxLen → l0.length * 1 ≤ 140737488351232 → (∀ x ∈ l0, (Lit.int .u8 x).wf = true) → (Lit.int .u8 a1).wf = true → ∃ k, scullerlaw07_ArenaSpoil.f k l0 a1 = some true
theorem scullerlaw07_ArenaSpoil.walk (P : scullerlaw07_ArenaSpoil.Pure) (a0 : Option Addr) (len0 cap0 : Nat) (z0 : List Int) (a1 : Int) (w : World) (w0 : (a0 = none ∧ len0 = 0 ∧ cap0 = 0 ∧ z0 = []) ∨ ∃ x, a0 = some x ∧ len0 ≤ cap0 ∧ cap0 ≤ maxLen ∧ z0.length = cap0 ∧ (∀ i, i < z0.length → w.cell? (x.add i) = some (.int .u8 (z0.getD i 0))) ∧ ∀ n ∈ z0, (Lit.int .u8 n).wf = true) (y0 : len0 * 1 ≤ 140737488351232) (w1 : (Lit.int .u8 a1).wf = true) :
    Calls Try.prog 4 #[.slice a0 len0 cap0, .int .u8 a1] w fun e w' => e = .returned (.bool true) ∧ Below w.heap.size w w' := by
  obtain ⟨l0, rfl, hr0, hm0, hw0, hc0⟩ := ReadsInt.ofRowC w0
  obtain ⟨k, h⟩ := P l0 a1 hm0 y0 hw0 w1
  refine (scullerlaw07_ArenaSpoil.calls k _ _ l0 a1 true w (Kd.C_of_reads (d := (0 : Int)) (h1 := fun _ => rfl) hr0) hc0 h).mono ?_
  rintro e w' ⟨rfl, hd⟩
  exact ⟨rfl, hd⟩

end Go.Proofs.Ythlhnodedofibaa.F
end

section
/- The statements' own arenas: they fit, and what is cut from their bytes is they again. No program in sight. -/
namespace Go.Proofs.Ythlhnodedofibaa.H
set_option linter.unusedVariables false
set_option linter.unusedSimpArgs false
theorem flat8_take (s : List Int) (b : List Int) (hs : ∀ x ∈ s, u64B x = true) : segL s.length ((s.flatMap fun w => putL w 8) ++ b) = s := by
  induction s with
  | nil => rfl
  | cons x xs ih =>
    have hx := hs x (by simp)
    simp only [u64B, Bool.and_eq_true, decide_eq_true_eq] at hx
    have hl := putL_length x 8
    rw [List.length_cons, segL, List.flatMap_cons, List.append_assoc, List.take_append_of_le_length (by omega), List.take_of_length_le (by omega), getL_putL 8 x hx.1 (by omega),
      List.drop_append_of_le_length (by omega), List.drop_of_length_le (by omega), List.nil_append, ih (fun y hy => hs y (by simp [hy]))]
theorem cutWords_bytes (a : List (List Int)) (h : ∀ s ∈ a, ∀ x ∈ s, u64B x = true) (b : List Int) : cutWords (sizesL a) (bytesL a ++ b) = a := by
  induction a with
  | nil => rfl
  | cons s a ih =>
    rw [sizesL_cons, cutWords, bytesL_cons, List.append_assoc, Int.toNat_natCast, flat8_take s _ (h s (by simp)), ← flat8_length s, List.drop_append_of_le_length (by omega), List.drop_of_length_le (by omega), List.nil_append,
      ih (fun t ht => h t (by simp [ht]))]
theorem sizesL_sum (a : List (List Int)) : (sizesL a).sum = (wordsL a : Int) := by
  induction a with
  | nil => rfl
  | cons s a ih => rw [sizesL_cons, List.sum_cons, ih, wordsL_cons]; omega
theorem cutL_bytes (a : List (List Int)) (hf : fitsB (sizesL a) = true) (h : ∀ s ∈ a, ∀ x ∈ s, u64B x = true) : cutL (sizesL a) (bytesL a) = (a, 0) := by
  unfold cutL
  rw [if_pos hf, if_pos (by rw [bytesL_length, sizesL_sum]; omega)]
  have := cutWords_bytes a h []
  rw [List.append_nil] at this
  rw [this]
theorem sizesL_nonneg (a : List (List Int)) : ∀ x ∈ sizesL a, 0 ≤ x := by
  intro x hx
  simp only [sizesL, List.mem_map] at hx
  obtain ⟨s, _, rfl⟩ := hx
  omega
theorem fitsB_of {l : List Int} (h1 : 1 ≤ l.length) (h2 : l.length ≤ 16) (h3 : 1 ≤ l.getD 0 0) (h4 : ∀ x ∈ l, 0 ≤ x) (h5 : l.sum ≤ 4096) : fitsB l = true := by
  have : l.all (fun x => decide (0 ≤ x)) = true := List.all_eq_true.2 fun x hx => by simpa using h4 x hx
  simp only [fitsB, restB, Bool.and_eq_true, decide_eq_true_eq]
  exact ⟨⟨⟨h1, h2⟩, h3⟩, this, by omega⟩
theorem arenaC_length (c : List Int) : ∀ m i k, (arenaC c m i k).length = m
  | 0, _, _ => rfl
  | m + 1, i, k => by simp [arenaC, arenaC_length c m]
theorem arenaC_words (c : List Int) : ∀ m i k, wordsL (arenaC c m i k) ≤ 12 * m
  | 0, _, _ => by simp [arenaC, wordsL]
  | m + 1, i, k => by
    have := arenaC_words c m (i + 1) (k + sizeC c i)
    have := sizeC_le c i
    rw [arenaC, wordsL_cons, segC_length]; omega
theorem wordC_u64 {c : List Int} (hc : bytesB c = true) (k : Nat) (hk : k ≤ 1000000000) : u64B (wordC c k) = true := by
  have h : 0 ≤ c.getD (k % c.length) 0 ∧ c.getD (k % c.length) 0 ≤ 255 := by
    by_cases hl : k % c.length < c.length
    · rw [List.getD_eq_getElem?_getD, List.getElem?_eq_getElem hl]; exact bytesB_at hc _ (List.getElem_mem hl)
    · rw [List.getD_eq_getElem?_getD, List.getElem?_eq_none (by omega)]; simp
  have e : u64B (wordC c k) = (decide (0 ≤ wordC c k) && decide (wordC c k < 18446744073709551616)) := rfl
  rw [e, wordC, decide_eq_true (by omega), decide_eq_true (by omega)]
  rfl
theorem arenaC_u64 {c : List Int} (hc : bytesB c = true) : ∀ m i k, k + 12 * m ≤ 1000000000 → ∀ s ∈ arenaC c m i k, ∀ x ∈ s, u64B x = true
  | 0, _, _, _ => by simp [arenaC]
  | m + 1, i, k, hk => by
    have hz := sizeC_le c i
    have := arenaC_u64 hc m (i + 1) (k + sizeC c i) (by omega)
    intro s hs
    rw [arenaC, List.mem_cons] at hs
    rcases hs with rfl | hs
    · intro x hx
      simp only [segC, List.mem_map, List.mem_range] at hx
      obtain ⟨j, hj, rfl⟩ := hx
      exact wordC_u64 hc _ (by omega)
    · exact this s hs
theorem arenaL_length (c : List Int) {n : Int} (h0 : 0 ≤ n) : 1 ≤ (arenaL c n).length ∧ (arenaL c n).length ≤ 5 := by
  unfold arenaL; rw [arenaC_length]; omega
theorem arenaL_words (c : List Int) {n : Int} (h0 : 0 ≤ n) : wordsL (arenaL c n) ≤ 60 := by
  have := arenaC_words c (1 + (n % 5)).toNat 0 0
  unfold arenaL; omega
theorem arenaL_u64 {c : List Int} (hc : bytesB c = true) {n : Int} (h0 : 0 ≤ n) : ∀ s ∈ arenaL c n, ∀ x ∈ s, u64B x = true :=
  arenaC_u64 hc _ _ _ (by omega)
theorem arenaL_first (c : List Int) {n : Int} (h0 : 0 ≤ n) : 1 ≤ (sizesL (arenaL c n)).getD 0 0 := by
  unfold arenaL
  rw [show (1 + (n % 5)).toNat = (n % 5).toNat + 1 from by omega, arenaC, sizesL_cons, segC_length]
  have := sizeC_pos c
  simp; omega
theorem arenaL_fits (c : List Int) {n : Int} (h0 : 0 ≤ n) : fitsB (sizesL (arenaL c n)) = true := by
  have h1 := arenaL_length c h0
  have h2 := arenaL_words c h0
  exact fitsB_of (by rw [sizesL_length]; omega) (by rw [sizesL_length]; omega) (arenaL_first c h0) (sizesL_nonneg _) (by rw [sizesL_sum]; omega)
theorem arenaL_cut {c : List Int} (hc : bytesB c = true) {n : Int} (h0 : 0 ≤ n) : cutL (sizesL (arenaL c n)) (bytesL (arenaL c n)) = (arenaL c n, 0) :=
  cutL_bytes _ (arenaL_fits c h0) (arenaL_u64 hc h0)
theorem mem_wordsL {a : List (List Int)} {s : List Int} (h : s ∈ a) : s.length ≤ wordsL a := by
  induction a with
  | nil => simp at h
  | cons t a ih =>
    rw [wordsL_cons]
    rcases List.mem_cons.1 h with rfl | h
    · omega
    · have := ih h; omega
theorem arenaL_small (c : List Int) {n : Int} (h0 : 0 ≤ n) : smallA (arenaL c n) = true := by
  have h1 := arenaL_length c h0
  have h2 := arenaL_words c h0
  simp only [smallA, Bool.and_eq_true, decide_eq_true_eq, List.all_eq_true]
  exact ⟨by omega, fun s hs => by have := mem_wordsL hs; omega⟩
theorem okA_of {a : List (List Int)} (h1 : a.length ≤ 1000000) (h2 : wordsL a ≤ 1000000) (h3 : ∀ s ∈ a, ∀ x ∈ s, u64B x = true) : okA a = true := by
  simp only [okA, Bool.and_eq_true, decide_eq_true_eq, List.all_eq_true]
  exact ⟨⟨h1, h2⟩, h3⟩
theorem arenaL_ok {c : List Int} (hc : bytesB c = true) {n : Int} (h0 : 0 ≤ n) : okA (arenaL c n) = true :=
  okA_of (by have := arenaL_length c h0; omega) (by have := arenaL_words c h0; omega) (arenaL_u64 hc h0)
theorem cutWords_u64 : ∀ (s b : List Int), bytesB b = true → ∀ t ∈ cutWords s b, ∀ x ∈ t, u64B x = true
  | [], _, _ => by simp [cutWords]
  | n :: ss, b, hb => by
    have hseg : ∀ (m : Nat) (b : List Int), bytesB b = true → ∀ x ∈ segL m b, u64B x = true := by
      intro m
      induction m with
      | zero => intro b _ x hx; simp [segL] at hx
      | succ m ih =>
        intro b hb x hx
        rw [segL, List.mem_cons] at hx
        rcases hx with rfl | hx
        · have := getL_bound 8 (b.take 8) (by simp; omega) (bytesB_at (bytesB_take hb 8))
          simp only [u64B, Bool.and_eq_true, decide_eq_true_eq]; omega
        · exact ih _ (bytesB_drop hb 8) x hx
    intro t ht
    rw [cutWords, List.mem_cons] at ht
    rcases ht with rfl | ht
    · exact hseg _ _ hb
    · exact cutWords_u64 ss _ (bytesB_drop hb _) t ht
end Go.Proofs.Ythlhnodedofibaa.H
end

section
/- Plain facts that several laws of the arena layer need. -/
namespace Go.Proofs.Ythlhnodedofibaa.Pure
open Go.RowKit Go.Proofs.Ythlhnodedofibaa.F Go.Proofs.Ythlhnodedofibaa.H
theorem known07 : scullerlaw07_known.f = some true := by decide +kernel
theorem byte_wf {x : Int} (h : (Lit.int .u8 x).wf = true) : 0 ≤ x ∧ x ≤ 255 := by
  simp [Lit.wf, IntKind.min, IntKind.max, IntKind.signed, IntKind.bits] at h
  omega
theorem bytes_wf {l : List Int} (h : ∀ x ∈ l, (Lit.int .u8 x).wf = true) : bytesB l = true := bytesB_of fun x hx => byte_wf (h x hx)
end Go.Proofs.Ythlhnodedofibaa.Pure
end

section
/- What is cut from an arena's bytes is the arena, and writing over the bytes spoils nothing. -/
namespace Go.Proofs.Ythlhnodedofibaa.Pure
open Go.RowKit Go.Proofs.Ythlhnodedofibaa.F Go.Proofs.Ythlhnodedofibaa.H Go.Proofs.YthlhnodedofibaaW.PrintWords Go.Proofs.YthlhnodedofibaaW.PrintLast
theorem spoil_l0 (a : List (List Int)) (hf : fitsB (sizesL a) = true) (h1 : a.length ≤ 1000000) (h2 : wordsL a ≤ 1000000) : ∀ (d : Nat) (b : List Int) (i : Nat), b.length ≤ 8000000 → b.length - i = d → i ≤ b.length →
    ∃ k, scullerlaw07_ArenaSpoil.l0 k a (strOfNums (bytesL a)) b a 0 (i : Int) = some true
  | 0, b, i, hl, hd, hi => by
    refine ⟨1, ?_⟩
    have hfit := fitsB_at hf
    rw [sizesL_length] at hfit
    rw [scullerlaw07_ArenaSpoil.l0, if_neg (by omega), arena_Sizes_c.f, if_pos h1, Option.bind_some, sizesL_length, if_neg (by omega), if_pos (by omega),
      arena_Bytes.f, if_pos ⟨h1, h2⟩, Option.bind_some, known07, Option.bind_some, if_pos rfl, if_pos rfl, if_pos rfl, Option.bind_some, beq_self_eq_true]
  | d + 1, b, i, hl, hd, hi => by
    obtain ⟨k, hk⟩ := spoil_l0 a hf h1 h2 d (b.set i (((rd b i) + 1) % 256)) (i + 1) (by rw [List.length_set]; omega) (by rw [List.length_set]; omega) (by rw [List.length_set]; omega)
    refine ⟨k + 1, ?_⟩
    rw [scullerlaw07_ArenaSpoil.l0, if_pos (by omega), if_pos (by omega), show wrap64 ((i : Int) + 1) = ((i + 1 : Nat) : Int) from by unfold wrap64; omega]
    exact hk
theorem ArenaSpoil : scullerlaw07_ArenaSpoil.Pure := by
  intro l0 a1 h1 h2 h3 h4
  have hb := bytes_wf h3
  have hn := byte_wf h4
  have hA := arenaL_length l0 hn.1
  have hW := arenaL_words l0 hn.1
  have hl := bytesL_length (arenaL l0 a1)
  obtain ⟨k, hk⟩ := spoil_l0 (arenaL l0 a1) (arenaL_fits l0 hn.1) (by omega) (by omega) (bytesL (arenaL l0 a1)).length (bytesL (arenaL l0 a1)) 0 (by omega) (by omega) (by omega)
  refine ⟨k, ?_⟩
  have hB : arena_Bytes.f (arenaL l0 a1) = some (bytesL (arenaL l0 a1)) := if_pos ⟨by omega, by omega⟩
  rw [scullerlaw07_ArenaSpoil.f, scullerlaw07_Arena_c.f, if_pos ⟨hb, by omega, hn.1, hn.2⟩, Option.bind_some, hB, Option.bind_some, Option.bind_some,
    arena_Sizes_c.f, if_pos (by omega), Option.bind_some, arena_Cut.f, if_pos ⟨bytesB_of (bytesL_byte _), by omega⟩, Option.bind_some, arenaL_cut hb hn.1]
  exact hk
end Go.Proofs.Ythlhnodedofibaa.Pure
end
