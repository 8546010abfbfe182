/- Proved: at every input in bounds the statement ArenaBack of the arena layer answers yes, an arena comes back from its bytes and a word is found at its place.
Text 2 of 3; functions told as plain ones, with the contracts of their calls. -/
import Derived.Test.YthlhnodedofibaaQArenaBack1
section
namespace Go.Proofs.Ythlhnodedofibaa.F
open Go.RowKit Go.Proofs.YthlhnodedofibaaW.PrintWords Go.Proofs.YthlhnodedofibaaW.PrintLast Go.Proofs.YthlhnodedofibaaW.PrintMore
attribute [local go_sem] max2_int min2_int max_two min_two max_three min_three max_four min_four   -- for this text's walks alone
set_option linter.unusedVariables false
set_option linter.unusedSimpArgs false

/-! ### scullerlaw07_Arena: function 13 -/
mutual
def scullerlaw07_Arena.l0 : Nat → List Int → Int → List (List Int) → Int → Int → Option ((List (List Int)))
  | 0, _, _, _, _, _ => none
  | k + 1, x0, x1, x5, x6, x7 => if x7 < (wrap64 (1 + (wrap64 (Int.tmod x1 5)))) then (if x7 < (x0.length : Int) then (if 0 ≤ x7 then (scullerlaw07_Arena.j1 k x0 x1 x5 x6 x7 ([] : List Int) (wrap64 (Int.tmod (rd x0 x7) 12))) else (none)) else (scullerlaw07_Arena.j1 k x0 x1 x5 x6 x7 ([] : List Int) 1)) else (some x5)
def scullerlaw07_Arena.j1 : Nat → List Int → Int → List (List Int) → Int → Int → List Int → Int → Option ((List (List Int)))
  | 0, _, _, _, _, _, _, _ => none
  | k + 1, x0, x1, x5, x6, x7, x8, x9 => if x7 = 0 then (scullerlaw07_Arena.j2 k x0 x1 x5 x6 x7 x8 (wrap64 (x9 + 1))) else (scullerlaw07_Arena.j2 k x0 x1 x5 x6 x7 x8 x9)
def scullerlaw07_Arena.j2 : Nat → List Int → Int → List (List Int) → Int → Int → List Int → Int → Option ((List (List Int)))
  | 0, _, _, _, _, _, _, _ => none
  | k + 1, x0, x1, x5, x6, x7, x8, x9 => scullerlaw07_Arena.l1 k x0 x1 x5 x6 x7 x8 x9 0
def scullerlaw07_Arena.l1 : Nat → List Int → Int → List (List Int) → Int → Int → List Int → Int → Int → Option ((List (List Int)))
  | 0, _, _, _, _, _, _, _, _ => none
  | k + 1, x0, x1, x5, x6, x7, x8, x9, x10 => if x10 < x9 then (if (x0.length : Int) > 0 then (if (x0.length : Int) = 0 then (none) else (if 0 ≤ (Int.tmod x6 (x0.length : Int)) then (if (Int.tmod x6 (x0.length : Int)) < (x0.length : Int) then (if x8.length < 17592186044416 then (scullerlaw07_Arena.l1 k x0 x1 x5 (wrap64 (x6 + 1)) x7 (x8 ++ [IntKind.u64.wrap ((IntKind.u64.wrap ((IntKind.u64.wrap (rd x0 (Int.tmod x6 (x0.length : Int)))) * 4311810305)) + (IntKind.u64.wrap (x6)))]) x9 (wrap64 (x10 + 1))) else (none)) else (none)) else (none))) else (if x8.length < 17592186044416 then (scullerlaw07_Arena.l1 k x0 x1 x5 (wrap64 (x6 + 1)) x7 (x8 ++ [IntKind.u64.wrap (x6)]) x9 (wrap64 (x10 + 1))) else (none))) else (if x5.length < 5864062014805 then (scullerlaw07_Arena.l0 k x0 x1 (x5 ++ [x8]) x6 (wrap64 (x7 + 1))) else (none))
end
def scullerlaw07_Arena.f (k : Nat) (l0 : List Int) (a1 : Int) : Option ((List (List Int))) := scullerlaw07_Arena.l0 k l0 a1 ([] : List (List Int)) 0 0
theorem scullerlaw07_Arena.mono_l : ∀ k, (∀ y0 y1 y2 y3 y4, LeO (scullerlaw07_Arena.l0 k y0 y1 y2 y3 y4) (scullerlaw07_Arena.l0 (k + 1) y0 y1 y2 y3 y4)) ∧ (∀ y0 y1 y2 y3 y4 y5 y6, LeO (scullerlaw07_Arena.j1 k y0 y1 y2 y3 y4 y5 y6) (scullerlaw07_Arena.j1 (k + 1) y0 y1 y2 y3 y4 y5 y6)) ∧ (∀ y0 y1 y2 y3 y4 y5 y6, LeO (scullerlaw07_Arena.j2 k y0 y1 y2 y3 y4 y5 y6) (scullerlaw07_Arena.j2 (k + 1) y0 y1 y2 y3 y4 y5 y6)) ∧ (∀ y0 y1 y2 y3 y4 y5 y6 y7, LeO (scullerlaw07_Arena.l1 k y0 y1 y2 y3 y4 y5 y6 y7) (scullerlaw07_Arena.l1 (k + 1) y0 y1 y2 y3 y4 y5 y6 y7))
  | 0 => ⟨fun _ _ _ _ _ r h => by simp [scullerlaw07_Arena.l0] at h, fun _ _ _ _ _ _ _ r h => by simp [scullerlaw07_Arena.j1] at h, fun _ _ _ _ _ _ _ r h => by simp [scullerlaw07_Arena.j2] at h, fun _ _ _ _ _ _ _ _ r h => by simp [scullerlaw07_Arena.l1] at h⟩
  | k + 1 => by
    obtain ⟨ih0, ih1, ih2, ih3⟩ := scullerlaw07_Arena.mono_l k
    refine ⟨?_, ?_, ?_, ?_⟩
    · intro y0 y1 y2 y3 y4
      unfold scullerlaw07_Arena.l0
      repeat' first
      | (with_reducible exact ih0 _ _ _ _ _)
      | (with_reducible exact ih1 _ _ _ _ _ _ _)
      | (with_reducible exact ih2 _ _ _ _ _ _ _)
      | (with_reducible exact ih3 _ _ _ _ _ _ _ _)
      | (with_reducible exact LeO.refl _)
      | (with_reducible exact LeO.none _)
      | (with_reducible refine LeO.ite ?_ ?_)
      | (with_reducible refine LeO.bind ?_ (fun _ => ?_))
      | exact ih0 _ _ _ _ _
      | exact ih1 _ _ _ _ _ _ _
      | exact ih2 _ _ _ _ _ _ _
      | exact ih3 _ _ _ _ _ _ _ _
      | exact LeO.none _
      | refine LeO.ite ?_ ?_
      | refine LeO.bind ?_ (fun _ => ?_)
    · intro y0 y1 y2 y3 y4 y5 y6
      unfold scullerlaw07_Arena.j1
      repeat' first
      | (with_reducible exact ih0 _ _ _ _ _)
      | (with_reducible exact ih1 _ _ _ _ _ _ _)
      | (with_reducible exact ih2 _ _ _ _ _ _ _)
      | (with_reducible exact ih3 _ _ _ _ _ _ _ _)
      | (with_reducible exact LeO.refl _)
      | (with_reducible exact LeO.none _)
      | (with_reducible refine LeO.ite ?_ ?_)
      | (with_reducible refine LeO.bind ?_ (fun _ => ?_))
      | exact ih0 _ _ _ _ _
      | exact ih1 _ _ _ _ _ _ _
      | exact ih2 _ _ _ _ _ _ _
      | exact ih3 _ _ _ _ _ _ _ _
      | exact LeO.none _
      | refine LeO.ite ?_ ?_
      | refine LeO.bind ?_ (fun _ => ?_)
    · intro y0 y1 y2 y3 y4 y5 y6
      unfold scullerlaw07_Arena.j2
      repeat' first
      | (with_reducible exact ih0 _ _ _ _ _)
      | (with_reducible exact ih1 _ _ _ _ _ _ _)
      | (with_reducible exact ih2 _ _ _ _ _ _ _)
      | (with_reducible exact ih3 _ _ _ _ _ _ _ _)
      | (with_reducible exact LeO.refl _)
      | (with_reducible exact LeO.none _)
      | (with_reducible refine LeO.ite ?_ ?_)
      | (with_reducible refine LeO.bind ?_ (fun _ => ?_))
      | exact ih0 _ _ _ _ _
      | exact ih1 _ _ _ _ _ _ _
      | exact ih2 _ _ _ _ _ _ _
      | exact ih3 _ _ _ _ _ _ _ _
      | exact LeO.none _
      | refine LeO.ite ?_ ?_
      | refine LeO.bind ?_ (fun _ => ?_)
    · intro y0 y1 y2 y3 y4 y5 y6 y7
      unfold scullerlaw07_Arena.l1
      repeat' first
      | (with_reducible exact ih0 _ _ _ _ _)
      | (with_reducible exact ih1 _ _ _ _ _ _ _)
      | (with_reducible exact ih2 _ _ _ _ _ _ _)
      | (with_reducible exact ih3 _ _ _ _ _ _ _ _)
      | (with_reducible exact LeO.refl _)
      | (with_reducible exact LeO.none _)
      | (with_reducible refine LeO.ite ?_ ?_)
      | (with_reducible refine LeO.bind ?_ (fun _ => ?_))
      | exact ih0 _ _ _ _ _
      | exact ih1 _ _ _ _ _ _ _
      | exact ih2 _ _ _ _ _ _ _
      | exact ih3 _ _ _ _ _ _ _ _
      | exact LeO.none _
      | refine LeO.ite ?_ ?_
      | refine LeO.bind ?_ (fun _ => ?_)
theorem scullerlaw07_Arena.mono : ∀ a0 a1 k, LeO (scullerlaw07_Arena.f k a0 a1) (scullerlaw07_Arena.f (k + 1) a0 a1) := by
  intro a0 a1 k
  obtain ⟨ih0, ih1, ih2, ih3⟩ := scullerlaw07_Arena.mono_l k
  unfold scullerlaw07_Arena.f
  repeat' first
      | (with_reducible exact ih0 _ _ _ _ _)
      | (with_reducible exact ih1 _ _ _ _ _ _ _)
      | (with_reducible exact ih2 _ _ _ _ _ _ _)
      | (with_reducible exact ih3 _ _ _ _ _ _ _ _)
      | (with_reducible exact LeO.refl _)
      | (with_reducible exact LeO.none _)
      | (with_reducible refine LeO.ite ?_ ?_)
      | (with_reducible refine LeO.bind ?_ (fun _ => ?_))
      | exact ih0 _ _ _ _ _
      | exact ih1 _ _ _ _ _ _ _
      | exact ih2 _ _ _ _ _ _ _
      | exact ih3 _ _ _ _ _ _ _ _
      | exact LeO.none _
      | refine LeO.ite ?_ ?_
      | refine LeO.bind ?_ (fun _ => ?_)
set_option maxHeartbeats 8000000 in
set_option maxRecDepth 100000 in
theorem scullerlaw07_Arena.calls (k : Nat) (A0 : Option Addr) (c0 : Nat) (l0 : List Int) (a1 : Int) (r : List (List Int)) (w : World) (hr0 : Kd.C (Kd.int .u8) w A0 l0.length l0) (hc0 : l0.length ≤ c0) (h : scullerlaw07_Arena.f k l0 a1 = some r) :
    Calls Try.prog 13 #[.slice A0 l0.length c0, .int .u8 a1] w fun e w' => ∃ v0_ : Value, e = .returned (v0_) ∧ Kd.S (Kd.slice 42 (Kd.int .u64)) 37 w' w.heap.size (fun _ => True) v0_ r ∧ Below w.heap.size w w' := by
  have HR0 := Aside0.mk hr0
  have HC0 := Aside0.mk hc0
  clear hr0 hc0
  have HB := Aside0.mk (Below.refl w.heap.size w)
  have H : (scullerlaw07_Arena.l0 k l0 a1 ([] : List (List Int)) 0 0) = some r := h
  clear h
  have H' := Aside0.mk H
  clear H
  go_enter Try.func13, Try.ntmps13
  go_wp2
  go_loopg [5, 6, 7] k (fun kq v5 v6 v7 w' => ∃ (x5_1 : List (List Int)) (x6_1 : Int) (x7_1 : Int), v6 = .int .i64 x6_1 ∧ v7 = .int .i64 x7_1 ∧ Aside0 (scullerlaw07_Arena.l0 kq l0 a1 x5_1 x6_1 x7_1 = some r) ∧ Aside0 (kq ≤ k) ∧ Aside0 (Kd.S (Kd.slice 42 (Kd.int .u64)) 37 w' w.heap.size (fun _ => True) v5 x5_1) ∧ Aside0 (Below w.heap.size w w'))
  case atStart => exact ⟨(([] : List (List Int))), (0), (0), (by first | rfl | (simp; done) | (simp [*]; done)), (by first | rfl | (simp; done) | (simp [*]; done)), H', ⟨Nat.le_refl _⟩, ⟨by first | exact Kd.S_nil _ _ _ _ _ | exact Kd.N_nil _ _ _ _ _ | exact Kd.V_nil _ _ _ _ _ | exact Kd.Q_nil _ _ _ _ _ | exact Kd.R_nil _ _ _ _ _⟩, ⟨by repeat (first | (with_reducible first | exact HB.out | apply below_alloc | apply pw_below_drewN | apply below_drew1) | exact HB.out)⟩⟩
  case round =>
    clear H'
    try clear c1
    try clear p2
    obtain ⟨x5_1, x6_1, x7_1, rfl, rfl, HA, HK1, HO_5, HB⟩ := hrel
    cases gk with
    | zero => exact absurd HA.out (by simp [scullerlaw07_Arena.l0])
    | succ k1 =>
      have H := HA.out
      clear HA
      simp only [scullerlaw07_Arena.l0] at H
      by_cases c3 : x7_1 < (wrap64 (1 + (wrap64 (Int.tmod a1 5))))
      · rw [if_pos c3] at H
        have c3b0 : decide (x7_1 < (wrap64 (1 + (wrap64 (Int.tmod a1 5))))) = true := decide_eq_true c3
        clear c3
        have HC4 := Aside0.mk H
        clear H
        go_upto_if 23 with (fail)
        go_cut [9] (fun v9 wc => ∃ (kq : Nat) (x9_3 : Int), v9 = .int .i64 x9_3 ∧ Aside0 (scullerlaw07_Arena.j1 kq l0 a1 x5_1 x6_1 x7_1 ([] : List Int) x9_3 = some r) ∧ Aside0 (kq ≤ k1) ∧ Aside0 (Kd.S (Kd.slice 42 (Kd.int .u64)) 37 wc w.heap.size (fun k_ => some k_ ≠ ((.slice none 0 0) : Value).ownBlock) u5 x5_1) ∧ Aside0 (Kd.R (Kd.int .u64) 42 wc w.heap.size (fun _ => True) (.slice none 0 0) ([] : List Int)) ∧ Aside0 (Below w.heap.size w wc))
        case first =>
          have H := HC4.out
          clear HC4
          by_cases c5 : x7_1 < (l0.length : Int)
          · rw [if_pos c5] at H
            have c5b0 : decide (x7_1 < (l0.length : Int)) = true := decide_eq_true c5
            clear c5
            (first | rw [c5b0] | (simp only [i64_w, i32_w]; rw [c5b0]) | skip)
            by_cases c6 : 0 ≤ x7_1
            · rw [if_pos c6] at H
              have c6b0 : decide (0 ≤ x7_1) = true := decide_eq_true c6
              clear c6
              have H' := Aside0.mk H
              clear H
              have p139 : 0 ≤ (x7_1 : Int) := of_decide_eq_true (by first | (with_reducible assumption) | assumption)
              have q139 : x7_1 < (l0.length : Int) := of_decide_eq_true (by first | (with_reducible assumption) | assumption)
              obtain ⟨ad139, e139, hx139_0⟩ := Kd.at_int HR0.out x7_1 p139 q139
              cases e139
              replace hx139_0 := (HB.out.cell (World.block_lt_of_cell? w _ hx139_0)).trans hx139_0
              replace p139 := eq_true p139
              replace q139 := eq_true q139
              go_wp2
              go_meet
              case rel => exact ⟨_, (wrap64 (Int.tmod (rd l0 x7_1) 12)), (by first | rfl | (simp; done) | (simp [*]; done)), H', ⟨by have := HK1.out; first | omega | exact Nat.le_refl _⟩, ⟨by (with_reducible repeat (first | apply Kd.S_alloc | apply Kd.S_drewN | apply Kd.S_drew)); exact Kd.S_mono HO_5.out (fun _ hk => (by simp [Value.ownBlock]))⟩, ⟨by first | exact Kd.R_nil _ _ _ _ _ | exact Kd.N_nil _ _ _ _ _ | exact Kd.V_nil _ _ _ _ _ | exact Kd.Q_nil _ _ _ _ _ | exact Kd.S_nil _ _ _ _ _⟩, ⟨by repeat (first | (with_reducible first | exact HB.out | apply below_alloc | apply pw_below_drewN | apply below_drew1) | exact HB.out)⟩⟩
            · rw [if_neg c6] at H
              exact absurd H (by simp)
          · rw [if_neg c5] at H
            have c5b0 : decide (x7_1 < (l0.length : Int)) = false := decide_eq_false c5
            clear c5
            (first | rw [c5b0] | (simp only [i64_w, i32_w]; rw [c5b0]) | skip)
            have H' := Aside0.mk H
            clear H
            go_wp2
            go_meet
            case rel => exact ⟨_, (1), (by first | rfl | (simp; done) | (simp [*]; done)), H', ⟨by have := HK1.out; first | omega | exact Nat.le_refl _⟩, ⟨by (with_reducible repeat (first | apply Kd.S_alloc | apply Kd.S_drewN | apply Kd.S_drew)); exact Kd.S_mono HO_5.out (fun _ hk => (by simp [Value.ownBlock]))⟩, ⟨by first | exact Kd.R_nil _ _ _ _ _ | exact Kd.N_nil _ _ _ _ _ | exact Kd.V_nil _ _ _ _ _ | exact Kd.Q_nil _ _ _ _ _ | exact Kd.S_nil _ _ _ _ _⟩, ⟨by repeat (first | (with_reducible first | exact HB.out | apply below_alloc | apply pw_below_drewN | apply below_drew1) | exact HB.out)⟩⟩
        case rest =>
          clear HC4
          try clear c1
          try clear p1
          try clear q1
          try clear hx1
          try clear p2
          try clear c3
          try clear c3b0
          try clear c5
          try clear c5b0
          try clear c6
          try clear c6b0
          try clear p6
          try clear hx139_0
          try clear p139
          try clear p2
          try clear q139
          obtain ⟨kq, x9_3, rfl, HA, HJ3, HO_5, HO_8, HB⟩ := hcut
          cases kq with
          | zero => exact absurd HA.out (by simp [scullerlaw07_Arena.j1])
          | succ kj3 =>
            have H := HA.out
            clear HA
            simp only [scullerlaw07_Arena.j1] at H
            have HC7 := Aside0.mk H
            clear H
            go_upto_if 31 with (fail)
            go_cut [9] (fun v9 wc => ∃ (kq : Nat) (x9_6 : Int), v9 = .int .i64 x9_6 ∧ Aside0 (scullerlaw07_Arena.j2 kq l0 a1 x5_1 x6_1 x7_1 ([] : List Int) x9_6 = some r) ∧ Aside0 (kq ≤ kj3) ∧ Aside0 (Kd.S (Kd.slice 42 (Kd.int .u64)) 37 wc w.heap.size (fun k_ => some k_ ≠ ((.slice none 0 0) : Value).ownBlock) u5 x5_1) ∧ Aside0 (Kd.R (Kd.int .u64) 42 wc w.heap.size (fun _ => True) (.slice none 0 0) ([] : List Int)) ∧ Aside0 (Below w.heap.size w wc))
            case first =>
              have H := HC7.out
              clear HC7
              by_cases c8 : x7_1 = 0
              · rw [if_pos c8] at H
                have c8b0 : (x7_1 == 0) = true := beq_iff_eq.mpr c8
                have c8b1 : (x7_1 != 0) = false := bne_eq_false_iff_eq.mpr c8
                clear c8
                (first | rw [c8b0] | (simp only [i64_w, i32_w]; rw [c8b0]) | skip)
                have H' := Aside0.mk H
                clear H
                go_wp2
                go_meet
                case rel => exact ⟨_, (wrap64 (x9_3 + 1)), (by first | rfl | (simp; done) | (simp [*]; done)), H', ⟨by have := HK1.out; have := HJ3.out; first | omega | exact Nat.le_refl _⟩, ⟨by (with_reducible repeat (first | apply Kd.S_alloc | apply Kd.S_drewN | apply Kd.S_drew)); exact HO_5.out⟩, ⟨by (with_reducible repeat (first | apply Kd.R_alloc | apply Kd.R_drewN | apply Kd.R_drew)); exact HO_8.out⟩, ⟨by repeat (first | (with_reducible first | exact HB.out | apply below_alloc | apply pw_below_drewN | apply below_drew1) | exact HB.out)⟩⟩
              · rw [if_neg c8] at H
                have c8b0 : (x7_1 == 0) = false := beq_eq_false_iff_ne.mpr c8
                have c8b1 : (x7_1 != 0) = true := bne_iff_ne.mpr c8
                (first | rw [c8b0] | (simp only [i64_w, i32_w]; rw [c8b0]) | skip)
                have H' := Aside0.mk H
                clear H
                go_wp2
                go_meet
                case rel => exact ⟨_, (x9_3), (by first | rfl | (simp; done) | (simp [*]; done)), H', ⟨by have := HK1.out; have := HJ3.out; first | omega | exact Nat.le_refl _⟩, ⟨by (with_reducible repeat (first | apply Kd.S_alloc | apply Kd.S_drewN | apply Kd.S_drew)); exact HO_5.out⟩, ⟨by (with_reducible repeat (first | apply Kd.R_alloc | apply Kd.R_drewN | apply Kd.R_drew)); exact HO_8.out⟩, ⟨by repeat (first | (with_reducible first | exact HB.out | apply below_alloc | apply pw_below_drewN | apply below_drew1) | exact HB.out)⟩⟩
            case rest =>
              clear HC7
              try clear c1
              try clear p1
              try clear q1
              try clear hx1
              try clear p2
              try clear c3
              try clear c3b0
              try clear c5
              try clear c5b0
              try clear c6
              try clear c6b0
              try clear p6
              try clear c8
              try clear c8b0
              try clear c8b1
              try clear hx139_0
              try clear p1
              try clear p139
              try clear p2
              try clear p6
              try clear q1
              try clear q139
              obtain ⟨kq, x9_6, rfl, HA, HJ6, HO_5, HO_8, HB⟩ := hcut
              cases kq with
              | zero => exact absurd HA.out (by simp [scullerlaw07_Arena.j2])
              | succ kj6 =>
                have H := HA.out
                clear HA
                simp only [scullerlaw07_Arena.j2] at H
                have H' := Aside0.mk H
                clear H
                go_wp2
                go_loopg [6, 8, 10] kj6 (fun kq v6 v8 v10 w' => ∃ (x6_4 : Int) (x8_4 : List Int) (x10_4 : Int), v6 = .int .i64 x6_4 ∧ v10 = .int .i64 x10_4 ∧ Aside0 (scullerlaw07_Arena.l1 kq l0 a1 x5_1 x6_4 x7_1 x8_4 x9_6 x10_4 = some r) ∧ Aside0 (kq ≤ kj6) ∧ Aside0 (Kd.S (Kd.slice 42 (Kd.int .u64)) 37 w' w.heap.size (fun k_ => some k_ ≠ (v8 : Value).ownBlock) u5 x5_1) ∧ Aside0 (Kd.R (Kd.int .u64) 42 w' w.heap.size (fun _ => True) v8 x8_4) ∧ Aside0 (Below w.heap.size w w'))
                case atStart => exact ⟨(x6_1), (([] : List Int)), (0), (by first | rfl | (simp; done) | (simp [*]; done)), (by first | rfl | (simp; done) | (simp [*]; done)), H', ⟨Nat.le_refl _⟩, ⟨by (with_reducible repeat (first | apply Kd.S_alloc | apply Kd.S_drewN | apply Kd.S_drew)); exact HO_5.out⟩, ⟨by (with_reducible repeat (first | apply Kd.R_alloc | apply Kd.R_drewN | apply Kd.R_drew)); exact HO_8.out⟩, ⟨by repeat (first | (with_reducible first | exact HB.out | apply below_alloc | apply pw_below_drewN | apply below_drew1) | exact HB.out)⟩⟩
                case round =>
                  clear H'
                  try clear c1
                  try clear p1
                  try clear q1
                  try clear hx1
                  try clear p2
                  try clear c3
                  try clear c3b0
                  try clear c5
                  try clear c5b0
                  try clear c6
                  try clear c6b0
                  try clear p6
                  try clear c8
                  try clear c8b0
                  try clear c8b1
                  try clear hx139_0
                  try clear p1
                  try clear p139
                  try clear p2
                  try clear p6
                  try clear q1
                  try clear q139
                  obtain ⟨x6_4, x8_4, x10_4, rfl, rfl, HA, HK4, HO_5, HO_8, HB⟩ := hrel
                  cases gk with
                  | zero => exact absurd HA.out (by simp [scullerlaw07_Arena.l1])
                  | succ k4 =>
                    have H := HA.out
                    clear HA
                    simp only [scullerlaw07_Arena.l1] at H
                    by_cases c9 : x10_4 < x9_6
                    · rw [if_pos c9] at H
                      have c9b0 : decide (x10_4 < x9_6) = true := decide_eq_true c9
                      clear c9
                      by_cases c10 : (l0.length : Int) > 0
                      · rw [if_pos c10] at H
                        have c10b0 : decide (0 < (l0.length : Int)) = true := decide_eq_true c10
                        have c10b1 : decide (0 < l0.length) = true := decide_eq_true (by omega)
                        clear c10
                        by_cases c11 : (l0.length : Int) = 0
                        · rw [if_pos c11] at H
                          exact absurd H (by simp)
                        · rw [if_neg c11] at H
                          have c11b0 : ((l0.length : Int) == 0) = false := beq_eq_false_iff_ne.mpr c11
                          have c11b1 : ((l0.length : Int) != 0) = true := bne_iff_ne.mpr c11
                          have c11b2 : ¬ (l0 = []) := fun h_ => c11 (by rw [h_]; rfl)
                          obtain ⟨ji12, hji12⟩ : ∃ j_ : Int, (Int.tmod x6_4 (l0.length : Int)) = j_ := ⟨_, rfl⟩
                          replace H : (if 0 ≤ (ji12) then (if (ji12) < (l0.length : Int) then (if x8_4.length < 17592186044416 then (scullerlaw07_Arena.l1 k4 l0 a1 x5_1 (wrap64 (x6_4 + 1)) x7_1 (x8_4 ++ [IntKind.u64.wrap ((IntKind.u64.wrap ((IntKind.u64.wrap (rd l0 (ji12))) * 4311810305)) + (IntKind.u64.wrap (x6_4)))]) x9_6 (wrap64 (x10_4 + 1))) else (none)) else (none)) else (none)) = some r := by first | (rw [hji12] at H; exact H) | (simp only [hji12] at H ⊢; exact H)
                          by_cases c13 : 0 ≤ (ji12)
                          · rw [if_pos c13] at H
                            have c13b0 : decide (0 ≤ (ji12)) = true := decide_eq_true c13
                            clear c13
                            by_cases c14 : (ji12) < (l0.length : Int)
                            · rw [if_pos c14] at H
                              have c14b0 : decide ((ji12) < (l0.length : Int)) = true := decide_eq_true c14
                              clear c14
                              by_cases c15 : x8_4.length < 17592186044416
                              · rw [if_pos c15] at H
                                have LMc15 := Aside0.mk c15
                                clear c15
                                obtain ⟨y141, hy141⟩ : ∃ y_ : List Int, y_ = (x8_4 ++ [IntKind.u64.wrap ((IntKind.u64.wrap ((IntKind.u64.wrap (rd l0 (ji12))) * 4311810305)) + (IntKind.u64.wrap (x6_4)))]) := ⟨_, rfl⟩
                                replace H : (scullerlaw07_Arena.l1 k4 l0 a1 x5_1 (wrap64 (x6_4 + 1)) x7_1 y141 x9_6 (wrap64 (x10_4 + 1))) = some r := by first | (rw [hy141]; with_reducible exact H) | (have H2_ := (Option.bind_some _ _).symm.trans H; rw [hy141]; with_reducible exact H2_) | (have H2_ := (Option.bind_some _ _).symm.trans H; with_reducible exact H2_) | with_reducible exact H | (rw [hy141]; exact H) | exact H
                                have Ny141 := Aside0.mk hy141
                                clear hy141
                                have H' := Aside0.mk H
                                clear H
                                have p140 : 0 ≤ ((ji12) : Int) := of_decide_eq_true (by first | (with_reducible assumption) | assumption)
                                have q140 : (ji12) < (l0.length : Int) := of_decide_eq_true (by first | (with_reducible assumption) | assumption)
                                obtain ⟨ad140, e140, hx140_0⟩ := Kd.at_int HR0.out (ji12) p140 q140
                                cases e140
                                replace hx140_0 := (HB.out.cell (World.block_lt_of_cell? w _ hx140_0)).trans hx140_0
                                replace p140 := eq_true p140
                                replace q140 := eq_true q140
                                go_wp2_with (first | ((with_reducible refine gate_builtin (b := .append) (xs := #[.tmp 56, .tmp 58]) rfl ?_); at_builtin; refine Kd.R_append (Kd.int .u64) (w0 := w) w.heap.size rfl (.tmp 56) (.tmp 58) 37 42 (.int .u64 0) 8 rfl Try.underlying37 info42 rfl (by decide) (by omega) u8 x8_4 (IntKind.u64.wrap ((IntKind.u64.wrap ((IntKind.u64.wrap (rd l0 (ji12))) * 4311810305)) + (IntKind.u64.wrap (x6_4)))) [.int .u64 (IntKind.u64.wrap ((IntKind.u64.wrap ((IntKind.u64.wrap (rd l0 (ji12))) * 4311810305)) + (IntKind.u64.wrap (x6_4))))] (fun _ => True) (fun _ => False) rfl rfl ?aP (fun _ hk => hk.elim) ?aF ?aO ?aB ?aS ?aL ?_; (case aP => exact rfl); (case aB => exact (by repeat (first | (with_reducible first | exact HB.out | apply below_alloc | apply pw_below_drewN | apply below_drew1) | exact HB.out))); (case aF => exact (fun _ _ => trivial)); (case aO => exact (by (with_reducible repeat (first | apply Kd.R_alloc | apply Kd.R_drewN | apply Kd.R_drew)); exact HO_8.out)); (case aS => exact (below_size (by repeat (first | (with_reducible first | exact HB.out | apply below_alloc | apply pw_below_drewN | apply below_drew1) | exact HB.out)))); (case aL => have := LMc15.out; omega); intro v142 w16 ho hb hg hat; rw [← Ny141.out] at ho; have n0_ := Aside0.mk (Kd.S_after (ok := (fun _ => True)) (by (with_reducible repeat (first | apply Kd.S_alloc | apply Kd.S_drewN | apply Kd.S_drew)); exact Kd.S_mono HO_5.out (fun _ hk => ⟨trivial, hk⟩)) hg hat); have n1_ := Aside0.mk (hb); have n2_ := Aside0.mk (ho); clear HO_5; clear HB; clear HO_8; have HO_5 := n0_; have HB := n1_; have HO143 := n2_; clear n0_ n1_ n2_; clear ho hb hg hat))
                                go_roundg k4
                                case measure => have := HK1.out; have := HJ3.out; have := HJ6.out; have := HK4.out; omega
                                case rel => exact ⟨(wrap64 (x6_4 + 1)), (y141), (wrap64 (x10_4 + 1)), (by first | rfl | (simp; done) | (simp [*]; done)), (by first | rfl | (simp; done) | (simp [*]; done)), H', ⟨by have := HK1.out; have := HJ3.out; have := HJ6.out; have := HK4.out; omega⟩, ⟨by (with_reducible repeat (first | apply Kd.S_alloc | apply Kd.S_drewN | apply Kd.S_drew)); exact Kd.S_mono HO_5.out (fun _ hk => hk.2)⟩, ⟨by (with_reducible repeat (first | apply Kd.R_alloc | apply Kd.R_drewN | apply Kd.R_drew)); exact HO143.out⟩, ⟨by repeat (first | (with_reducible first | exact HB.out | apply below_alloc | apply pw_below_drewN | apply below_drew1) | exact HB.out)⟩⟩
                              · rw [if_neg c15] at H
                                exact absurd H (by simp)
                            · rw [if_neg c14] at H
                              exact absurd H (by simp)
                          · rw [if_neg c13] at H
                            exact absurd H (by simp)
                      · rw [if_neg c10] at H
                        have c10b0 : decide (0 < (l0.length : Int)) = false := decide_eq_false c10
                        have c10b1 : decide (0 < l0.length) = false := decide_eq_false (by omega)
                        clear c10
                        by_cases c17 : x8_4.length < 17592186044416
                        · rw [if_pos c17] at H
                          have LMc17 := Aside0.mk c17
                          clear c17
                          obtain ⟨y144, hy144⟩ : ∃ y_ : List Int, y_ = (x8_4 ++ [IntKind.u64.wrap (x6_4)]) := ⟨_, rfl⟩
                          replace H : (scullerlaw07_Arena.l1 k4 l0 a1 x5_1 (wrap64 (x6_4 + 1)) x7_1 y144 x9_6 (wrap64 (x10_4 + 1))) = some r := by first | (rw [hy144]; with_reducible exact H) | (have H2_ := (Option.bind_some _ _).symm.trans H; rw [hy144]; with_reducible exact H2_) | (have H2_ := (Option.bind_some _ _).symm.trans H; with_reducible exact H2_) | with_reducible exact H | (rw [hy144]; exact H) | exact H
                          have Ny144 := Aside0.mk hy144
                          clear hy144
                          have H' := Aside0.mk H
                          clear H
                          go_wp2_with (first | ((with_reducible refine gate_builtin (b := .append) (xs := #[.tmp 56, .tmp 58]) rfl ?_); at_builtin; refine Kd.R_append (Kd.int .u64) (w0 := w) w.heap.size rfl (.tmp 56) (.tmp 58) 37 42 (.int .u64 0) 8 rfl Try.underlying37 info42 rfl (by decide) (by omega) u8 x8_4 (IntKind.u64.wrap (x6_4)) [.int .u64 (IntKind.u64.wrap (x6_4))] (fun _ => True) (fun _ => False) rfl rfl ?aP (fun _ hk => hk.elim) ?aF ?aO ?aB ?aS ?aL ?_; (case aP => exact rfl); (case aB => exact (by repeat (first | (with_reducible first | exact HB.out | apply below_alloc | apply pw_below_drewN | apply below_drew1) | exact HB.out))); (case aF => exact (fun _ _ => trivial)); (case aO => exact (by (with_reducible repeat (first | apply Kd.R_alloc | apply Kd.R_drewN | apply Kd.R_drew)); exact HO_8.out)); (case aS => exact (below_size (by repeat (first | (with_reducible first | exact HB.out | apply below_alloc | apply pw_below_drewN | apply below_drew1) | exact HB.out)))); (case aL => have := LMc17.out; omega); intro v145 w18 ho hb hg hat; rw [← Ny144.out] at ho; have n0_ := Aside0.mk (Kd.S_after (ok := (fun _ => True)) (by (with_reducible repeat (first | apply Kd.S_alloc | apply Kd.S_drewN | apply Kd.S_drew)); exact Kd.S_mono HO_5.out (fun _ hk => ⟨trivial, hk⟩)) hg hat); have n1_ := Aside0.mk (hb); have n2_ := Aside0.mk (ho); clear HO_5; clear HB; clear HO_8; have HO_5 := n0_; have HB := n1_; have HO146 := n2_; clear n0_ n1_ n2_; clear ho hb hg hat))
                          go_roundg k4
                          case measure => have := HK1.out; have := HJ3.out; have := HJ6.out; have := HK4.out; omega
                          case rel => exact ⟨(wrap64 (x6_4 + 1)), (y144), (wrap64 (x10_4 + 1)), (by first | rfl | (simp; done) | (simp [*]; done)), (by first | rfl | (simp; done) | (simp [*]; done)), H', ⟨by have := HK1.out; have := HJ3.out; have := HJ6.out; have := HK4.out; omega⟩, ⟨by (with_reducible repeat (first | apply Kd.S_alloc | apply Kd.S_drewN | apply Kd.S_drew)); exact Kd.S_mono HO_5.out (fun _ hk => hk.2)⟩, ⟨by (with_reducible repeat (first | apply Kd.R_alloc | apply Kd.R_drewN | apply Kd.R_drew)); exact HO146.out⟩, ⟨by repeat (first | (with_reducible first | exact HB.out | apply below_alloc | apply pw_below_drewN | apply below_drew1) | exact HB.out)⟩⟩
                        · rw [if_neg c17] at H
                          exact absurd H (by simp)
                    · rw [if_neg c9] at H
                      have c9b0 : decide (x10_4 < x9_6) = false := decide_eq_false c9
                      clear c9
                      by_cases c19 : x5_1.length < 5864062014805
                      · rw [if_pos c19] at H
                        have LMc19 := Aside0.mk c19
                        clear c19
                        obtain ⟨y147, hy147⟩ : ∃ y_ : List (List Int), y_ = (x5_1 ++ [x8_4]) := ⟨_, rfl⟩
                        replace H : (scullerlaw07_Arena.l0 k4 l0 a1 y147 x6_4 (wrap64 (x7_1 + 1))) = some r := by first | (rw [hy147]; with_reducible exact H) | (have H2_ := (Option.bind_some _ _).symm.trans H; rw [hy147]; with_reducible exact H2_) | (have H2_ := (Option.bind_some _ _).symm.trans H; with_reducible exact H2_) | with_reducible exact H | (rw [hy147]; exact H) | exact H
                        have Ny147 := Aside0.mk hy147
                        clear hy147
                        have H' := Aside0.mk H
                        clear H
                        obtain ⟨Ao21, co21, eo21⟩ := Kd.R_slice HO_8.out
                        subst eo21
                        go_wp2_with (first | ((with_reducible refine gate_builtin (b := .append) (xs := #[.tmp 62, .tmp 64]) rfl ?_); at_builtin; refine Kd.S_append (Kd.slice 42 (Kd.int .u64)) (w0 := w) w.heap.size rfl (.tmp 62) (.tmp 64) 26 37 (.slice none 0 0) 24 rfl Try.underlying26 info37 rfl (by decide) (by omega) u5 x5_1 x8_4 [.slice Ao21 x8_4.length co21] (fun _ => True) (fun k_ => some k_ = (.slice Ao21 x8_4.length co21 : Value).ownBlock) rfl rfl ?aP (fun k_ hk_ => ((Kd.R_mono (ok' := fun k_ => ((fun _ => True)) k_ ∧ some k_ ≠ (u5 : Value).ownBlock) (Kd.R_apart' (HO_8.out) (Kd.S_typed HO_5.out) (by decide)) (fun k_ hk => ⟨trivial, hk.2⟩))).1 k_ hk_.symm) ?aF ?aO ?aB ?aS ?aL ?_; (case aP => exact Kd.M_row (Kd.R_mono (Kd.R_tight rfl (Kd.R_mono (ok' := fun k_ => ((fun _ => True)) k_ ∧ some k_ ≠ (u5 : Value).ownBlock) (Kd.R_apart' (HO_8.out) (Kd.S_typed HO_5.out) (by decide)) (fun k_ hk => ⟨trivial, hk.2⟩))) (fun _ h_ => h_))); (case aB => exact (by repeat (first | (with_reducible first | exact HB.out | apply below_alloc | apply pw_below_drewN | apply below_drew1) | exact HB.out))); (case aF => exact (fun _ _ => trivial)); (case aO => exact (by (with_reducible repeat (first | apply Kd.S_alloc | apply Kd.S_drewN | apply Kd.S_drew)); exact Kd.S_mono HO_5.out (fun k_ hk => ⟨trivial, fun e_ => hk e_⟩))); (case aS => exact (below_size (by repeat (first | (with_reducible first | exact HB.out | apply below_alloc | apply pw_below_drewN | apply below_drew1) | exact HB.out)))); (case aL => have := LMc19.out; omega); intro v148 w20 ho hb hg hat; rw [← Ny147.out] at ho; have n0_ := Aside0.mk (hb); have n1_ := Aside0.mk (ho); clear HB; clear HO_5; clear HO_8; have HB := n0_; have HO149 := n1_; clear n0_ n1_; clear ho hb hg hat))
                        go_roundg k4
                        case measure => have := HK1.out; have := HJ3.out; have := HJ6.out; have := HK4.out; omega
                        case rel => exact ⟨(y147), (x6_4), (wrap64 (x7_1 + 1)), (by first | rfl | (simp; done) | (simp [*]; done)), (by first | rfl | (simp; done) | (simp [*]; done)), H', ⟨by have := HK1.out; have := HJ3.out; have := HJ6.out; have := HK4.out; omega⟩, ⟨by (with_reducible repeat (first | apply Kd.S_alloc | apply Kd.S_drewN | apply Kd.S_drew)); exact HO149.out⟩, ⟨by repeat (first | (with_reducible first | exact HB.out | apply below_alloc | apply pw_below_drewN | apply below_drew1) | exact HB.out)⟩⟩
                      · rw [if_neg c19] at H
                        exact absurd H (by simp)
      · rw [if_neg c3] at H
        have c3b0 : decide (x7_1 < (wrap64 (1 + (wrap64 (Int.tmod a1 5))))) = false := decide_eq_false c3
        clear c3
        obtain rfl := Option.some.inj H
        go_wp2
        go_ret
        exact ⟨_, by first | rfl | (simp [errW_none, errW_some] <;> rfl) | (simp [*, errW_none, errW_some] <;> rfl), by (with_reducible repeat (first | apply Kd.S_alloc | apply Kd.S_drewN | apply Kd.S_drew)); exact HO_5.out, by repeat (first | (with_reducible first | exact HB.out | apply below_alloc | apply pw_below_drewN | apply below_drew1) | exact HB.out)⟩

end Go.Proofs.Ythlhnodedofibaa.F
end

section
namespace Go.Proofs.Ythlhnodedofibaa.F
open Go.RowKit Go.Proofs.YthlhnodedofibaaW.PrintWords Go.Proofs.YthlhnodedofibaaW.PrintLast Go.Proofs.YthlhnodedofibaaW.PrintMore
attribute [local go_sem] max2_int min2_int max_two min_two max_three min_three max_four min_four   -- for this text's walks alone
set_option linter.unusedVariables false
set_option linter.unusedSimpArgs false

open Go.Proofs.Ythlhnodedofibaa.H
def scullerlaw07_Arena_c.f (l0 : List Int) (a1 : Int) : Option (List (List Int)) := if bytesB l0 = true ∧ l0.length ≤ 140737488351232 ∧ 0 ≤ a1 ∧ a1 ≤ 255 then some (arenaL l0 a1) else none
theorem wrapu {z : Int} (hz : 0 ≤ z) (hz2 : z < 18446744073709551616) : IntKind.u64.wrap z = z := by
  simp [IntKind.wrap, IntKind.signed, IntKind.bits]
  omega
theorem scullerlaw07_Arena.l1_to (c : List Int) (hc : ∀ x ∈ c, 0 ≤ x ∧ x ≤ 255) (hcl : c.length ≤ 140737488351232) (n : Int) (acc : List (List Int)) (hacc : acc.length ≤ 100) (i k0 size : Nat) (hi : i ≤ 100) (hk0 : k0 ≤ 1000) (hsz : size ≤ 13) (R : Option (List (List Int)))
    (K : ∃ k, scullerlaw07_Arena.l0 k c n (acc ++ [segC c k0 size]) ((k0 + size : Nat) : Int) ((i + 1 : Nat) : Int) = R) :
    ∀ (d j : Nat), size - j = d → j ≤ size → ∃ k, scullerlaw07_Arena.l1 k c n acc ((k0 + j : Nat) : Int) (i : Int) (segC c k0 j) (size : Int) (j : Int) = R
  | 0, j, hd, hj => by
    obtain rfl : j = size := by omega
    obtain ⟨k, hk⟩ := K
    refine ⟨k + 1, ?_⟩
    simp only [scullerlaw07_Arena.l1]
    rw [if_neg (by omega), if_pos (by omega), show wrap64 ((i : Int) + 1) = ((i + 1 : Nat) : Int) from by unfold wrap64; omega, hk]
  | d + 1, j, hd, hj => by
    obtain ⟨k, hk⟩ := scullerlaw07_Arena.l1_to c hc hcl n acc hacc i k0 size hi hk0 hsz R K d (j + 1) (by omega) (by omega)
    refine ⟨k + 1, ?_⟩
    simp only [scullerlaw07_Arena.l1]
    have e1 : wrap64 (((k0 + j : Nat) : Int) + 1) = ((k0 + (j + 1) : Nat) : Int) := by unfold wrap64; omega
    have e2 : wrap64 ((j : Int) + 1) = ((j + 1 : Nat) : Int) := by unfold wrap64; omega
    rw [if_pos (by omega)]
    by_cases hc0 : (c.length : Int) > 0
    · have ht : Int.tmod ((k0 + j : Nat) : Int) (c.length : Int) = (((k0 + j) % c.length : Nat) : Int) := by
        rw [Int.tmod_eq_emod_of_nonneg (by omega)]; omega
      have hm : (k0 + j) % c.length < c.length := Nat.mod_lt _ (by omega)
      have hr : rd c (((k0 + j) % c.length : Nat) : Int) = c.getD ((k0 + j) % c.length) 0 := rfl
      have hx : 0 ≤ c.getD ((k0 + j) % c.length) 0 ∧ c.getD ((k0 + j) % c.length) 0 ≤ 255 := by
        rw [List.getD_eq_getElem?_getD, List.getElem?_eq_getElem hm]; exact hc _ (List.getElem_mem hm)
      rw [if_pos hc0, if_neg (by omega), ht, if_pos (by omega), if_pos (by omega), if_pos (by rw [segC_length]; omega), hr, wrapu hx.1 (by omega), wrapu (z := ((k0 + j : Nat) : Int)) (by omega) (by omega), wrapu (z := c.getD ((k0 + j) % c.length) 0 * 4311810305) (by omega) (by omega), wrapu (by omega) (by omega), e1, e2]
      rw [segC_succ] at hk
      exact hk
    · have hnil : c = [] := List.eq_nil_of_length_eq_zero (by omega)
      rw [if_neg hc0, if_pos (by rw [segC_length]; omega), wrapu (z := ((k0 + j : Nat) : Int)) (by omega) (by omega), e1, e2]
      rw [segC_succ] at hk
      have : wordC c (k0 + j) = ((k0 + j : Nat) : Int) := by simp [wordC, hnil]
      rw [this] at hk
      exact hk
theorem scullerlaw07_Arena.l0_to (c : List Int) (hc : ∀ x ∈ c, 0 ≤ x ∧ x ≤ 255) (hcl : c.length ≤ 140737488351232) (n : Int) (hn0 : 0 ≤ n) (hn : n ≤ 255) : ∀ (m i k0 : Nat) (acc : List (List Int)), i + m = (1 + n % 5).toNat → acc.length = i → k0 ≤ 13 * i →
    ∃ k, scullerlaw07_Arena.l0 k c n acc (k0 : Int) (i : Int) = some (acc ++ arenaC c m i k0)
  | 0, i, k0, acc, hm, ha, hk0 => ⟨1, by
    simp only [scullerlaw07_Arena.l0, arenaC, List.append_nil]
    rw [if_neg (by rw [Int.tmod_eq_emod_of_nonneg hn0]; unfold wrap64; omega)]⟩
  | m + 1, i, k0, acc, hm, ha, hk0 => by
    have hs := sizeC_le c i
    obtain ⟨k, hk⟩ := scullerlaw07_Arena.l0_to c hc hcl n hn0 hn m (i + 1) (k0 + sizeC c i) (acc ++ [segC c k0 (sizeC c i)]) (by omega) (by simp [ha]) (by omega)
    obtain ⟨k1, hk1⟩ := scullerlaw07_Arena.l1_to c hc hcl n acc (by omega) i k0 (sizeC c i) (by omega) (by omega) (by omega) _ ⟨k, hk⟩ (sizeC c i) 0 (by omega) (by omega)
    have hfin : ∃ q, scullerlaw07_Arena.j1 q c n acc (k0 : Int) (i : Int) [] (if i < c.length then c.getD i 0 % 12 else 1) = some (acc ++ arenaC c (m + 1) i k0) := by
      refine ⟨k1 + 1 + 1, ?_⟩
      have hnn : 0 ≤ (if i < c.length then c.getD i 0 % 12 else 1) ∧ (if i < c.length then c.getD i 0 % 12 else 1) < 12 := by split <;> omega
      have hsz : (sizeC c i : Int) = (if i < c.length then c.getD i 0 % 12 else 1) + (if i = 0 then 1 else 0) := by
        unfold sizeC; split <;> split <;> omega
      have hsz0 : i = 0 → (sizeC c i : Int) = (if i < c.length then c.getD i 0 % 12 else 1) + 1 := fun e => by rw [hsz, if_pos e]
      have hsz1 : ¬ i = 0 → (sizeC c i : Int) = (if i < c.length then c.getD i 0 % 12 else 1) := fun e => by rw [hsz, if_neg e]; omega
      clear hsz
      generalize (if i < c.length then c.getD i 0 % 12 else 1) = q0 at *
      simp only [scullerlaw07_Arena.j1, scullerlaw07_Arena.j2]
      rw [show segC c k0 0 = [] from rfl, List.append_assoc] at hk1
      by_cases e : (i : Int) = 0
      · rw [if_pos e, show wrap64 (q0 + 1) = (sizeC c i : Int) from by rw [hsz0 (by omega)]; unfold wrap64; omega]
        exact hk1
      · rw [if_neg e, show q0 = (sizeC c i : Int) from (hsz1 (by omega)).symm]
        exact hk1
    obtain ⟨q, hq⟩ := hfin
    refine ⟨q + 1, ?_⟩
    simp only [scullerlaw07_Arena.l0]
    rw [if_pos (by rw [Int.tmod_eq_emod_of_nonneg hn0]; unfold wrap64; omega)]
    by_cases hlt : (i : Int) < (c.length : Int)
    · have hr : rd c i = c.getD i 0 := rfl
      have hx : 0 ≤ c.getD i 0 ∧ c.getD i 0 ≤ 255 := by
        rw [List.getD_eq_getElem?_getD, List.getElem?_eq_getElem (show i < c.length by omega)]; exact hc _ (List.getElem_mem _)
      rw [if_pos hlt, if_pos (by omega), hr, Int.tmod_eq_emod_of_nonneg hx.1, show wrap64 (c.getD i 0 % 12) = c.getD i 0 % 12 from by unfold wrap64; omega]
      rw [if_pos (by omega)] at hq
      exact hq
    · rw [if_neg hlt]
      rw [if_neg (by omega)] at hq
      exact hq
theorem scullerlaw07_Arena_c.to {l0 : List Int} {a1 : Int} {r : List (List Int)} (h : scullerlaw07_Arena_c.f l0 a1 = some r) : ∃ k, scullerlaw07_Arena.f k l0 a1 = some r := by
  unfold scullerlaw07_Arena_c.f at h
  split at h
  case isFalse => cases h
  case isTrue hl =>
  obtain rfl := Option.some.inj h
  obtain ⟨hb, hl, h0, h1⟩ := hl
  obtain ⟨k, hk⟩ := scullerlaw07_Arena.l0_to l0 (bytesB_at hb) hl a1 h0 h1 (1 + (a1 % 5)).toNat 0 0 [] (by omega) rfl (by omega)
  exact ⟨k, by unfold scullerlaw07_Arena.f; simpa [arenaL] using hk⟩

theorem scullerlaw07_Arena_c.calls (A0 : Option Addr) (c0 : Nat) (l0 : List Int) (a1 : Int) (r : List (List Int)) (w : World) (hr0 : Kd.C (Kd.int .u8) w A0 l0.length l0) (hc0 : l0.length ≤ c0) (h : scullerlaw07_Arena_c.f l0 a1 = some r) :
    Calls Try.prog 13 #[.slice A0 l0.length c0, .int .u8 a1] w fun e w' => ∃ v0_ : Value, e = .returned (v0_) ∧ Kd.S (Kd.slice 42 (Kd.int .u64)) 37 w' w.heap.size (fun _ => True) v0_ r ∧ Below w.heap.size w w' := by
  obtain ⟨k_, hk_⟩ := scullerlaw07_Arena_c.to h
  exact scullerlaw07_Arena.calls k_ A0 c0 l0 a1 r w hr0 hc0 hk_

end Go.Proofs.Ythlhnodedofibaa.F
end

section
namespace Go.Proofs.Ythlhnodedofibaa.F
open Go.RowKit Go.Proofs.YthlhnodedofibaaW.PrintWords Go.Proofs.YthlhnodedofibaaW.PrintLast Go.Proofs.YthlhnodedofibaaW.PrintMore
attribute [local go_sem] max2_int min2_int max_two min_two max_three min_three max_four min_four   -- for this text's walks alone
set_option linter.unusedVariables false
set_option linter.unusedSimpArgs false

/-! ### scullerlaw07_ArenaBack: function 8 -/
mutual
def scullerlaw07_ArenaBack.j0 : Nat → List (List Int) → List Int → List (List Int) → Int → Int → Int → Int → Bool → Option (Bool)
  | 0, _, _, _, _, _, _, _, _ => none
  | k + 1, x9, x11, x12, x13, x14, x15, x16, x80 => if x80 = true then (some false) else (scullerlaw07_ArenaBack.l0 k x9 x11 x12 x13 x14 x15 x16 0 7)
def scullerlaw07_ArenaBack.l0 : Nat → List (List Int) → List Int → List (List Int) → Int → Int → Int → Int → Int → Int → Option (Bool)
  | 0, _, _, _, _, _, _, _, _, _ => none
  | k + 1, x9, x11, x12, x13, x14, x15, x16, x17, x18 => if x18 ≥ 0 then (if 0 ≤ (wrap64 ((wrap64 (8 * x16)) + x18)) then (if (wrap64 ((wrap64 (8 * x16)) + x18)) < (x11.length : Int) then (scullerlaw07_ArenaBack.l0 k x9 x11 x12 x13 x14 x15 x16 (IntKind.u64.wrap ((IntKind.u64.wrap (256 * x17)) + (IntKind.u64.wrap (rd x11 (wrap64 ((wrap64 (8 * x16)) + x18)))))) (wrap64 (x18 - 1))) else (none)) else (none)) else ((scullerlaw07_known.f).bind fun t235 => (if t235 = true then (if x13 = 0 then ((arena_Same.f x12 x9).bind fun t236 => (if t236 = true then (if 0 ≤ x14 then (if x14 < (x9.length : Int) then (if 0 ≤ x15 then (if x15 < ((rd_L1 x9 x14).length : Int) then (if x17 = (rd (rd_L1 x9 x14) x15) then ((arena_Words.f x9).bind fun t239 => (some ((x11.length : Int) == (wrap64 (8 * t239))))) else (some false)) else (none)) else (none)) else (none)) else (none)) else (some false))) else (some false)) else (some false)))
end
def scullerlaw07_ArenaBack.f (k : Nat) (l0 : List Int) (a1 : Int) (a2 : Int) (a3 : Int) : Option (Bool) := (scullerlaw07_Arena_c.f l0 a1).bind fun t215 => ((arena_Sizes_c.f t215).bind fun t218 => ((arena_Bytes.f t215).bind fun t221 => ((arena_Cut.f t218 t221).bind fun bt224 => (if (t215.length : Int) = 0 then (none) else (if 0 ≤ (Int.tmod (wrap64 (a2)) (t215.length : Int)) then (if (Int.tmod (wrap64 (a2)) (t215.length : Int)) < (t215.length : Int) then (if ((rd_L1 t215 (Int.tmod (wrap64 (a2)) (t215.length : Int))).length : Int) = 0 then ((scullerlaw07_known.f).bind fun t229 => (if t229 = true then (if bt224.2 = 0 then ((arena_Same.f bt224.1 t215).bind fun t230 => (if t230 = true then ((arena_Place.f t218 (Int.tmod (wrap64 (a2)) (t215.length : Int)) 0).bind fun t231 => (some (t231 == (-1)))) else (some false))) else (some false)) else (some false))) else ((arena_Place.f t218 (Int.tmod (wrap64 (a2)) (t215.length : Int)) (Int.tmod (wrap64 (a3)) ((rd_L1 t215 (Int.tmod (wrap64 (a2)) (t215.length : Int))).length : Int))).bind fun t233 => (if t233 < 0 then (scullerlaw07_ArenaBack.j0 k t215 t221 bt224.1 bt224.2 (Int.tmod (wrap64 (a2)) (t215.length : Int)) (Int.tmod (wrap64 (a3)) ((rd_L1 t215 (Int.tmod (wrap64 (a2)) (t215.length : Int))).length : Int)) t233 true) else (scullerlaw07_ArenaBack.j0 k t215 t221 bt224.1 bt224.2 (Int.tmod (wrap64 (a2)) (t215.length : Int)) (Int.tmod (wrap64 (a3)) ((rd_L1 t215 (Int.tmod (wrap64 (a2)) (t215.length : Int))).length : Int)) t233 (decide ((wrap64 ((wrap64 (8 * t233)) + 8)) > (t221.length : Int))))))) else (none)) else (none))))))
theorem scullerlaw07_ArenaBack.mono_l : ∀ k, (∀ y0 y1 y2 y3 y4 y5 y6 y7, LeO (scullerlaw07_ArenaBack.j0 k y0 y1 y2 y3 y4 y5 y6 y7) (scullerlaw07_ArenaBack.j0 (k + 1) y0 y1 y2 y3 y4 y5 y6 y7)) ∧ (∀ y0 y1 y2 y3 y4 y5 y6 y7 y8, LeO (scullerlaw07_ArenaBack.l0 k y0 y1 y2 y3 y4 y5 y6 y7 y8) (scullerlaw07_ArenaBack.l0 (k + 1) y0 y1 y2 y3 y4 y5 y6 y7 y8))
  | 0 => ⟨fun _ _ _ _ _ _ _ _ r h => by simp [scullerlaw07_ArenaBack.j0] at h, fun _ _ _ _ _ _ _ _ _ r h => by simp [scullerlaw07_ArenaBack.l0] at h⟩
  | k + 1 => by
    obtain ⟨ih0, ih1⟩ := scullerlaw07_ArenaBack.mono_l k
    refine ⟨?_, ?_⟩
    · intro y0 y1 y2 y3 y4 y5 y6 y7
      unfold scullerlaw07_ArenaBack.j0
      repeat' first
      | (with_reducible exact ih0 _ _ _ _ _ _ _ _)
      | (with_reducible exact ih1 _ _ _ _ _ _ _ _ _)
      | (with_reducible exact LeO.refl _)
      | (with_reducible exact LeO.none _)
      | (with_reducible refine LeO.ite ?_ ?_)
      | (with_reducible refine LeO.bind ?_ (fun _ => ?_))
      | exact ih0 _ _ _ _ _ _ _ _
      | exact ih1 _ _ _ _ _ _ _ _ _
      | exact LeO.none _
      | refine LeO.ite ?_ ?_
      | refine LeO.bind ?_ (fun _ => ?_)
    · intro y0 y1 y2 y3 y4 y5 y6 y7 y8
      unfold scullerlaw07_ArenaBack.l0
      repeat' first
      | (with_reducible exact ih0 _ _ _ _ _ _ _ _)
      | (with_reducible exact ih1 _ _ _ _ _ _ _ _ _)
      | (with_reducible exact LeO.refl _)
      | (with_reducible exact LeO.none _)
      | (with_reducible refine LeO.ite ?_ ?_)
      | (with_reducible refine LeO.bind ?_ (fun _ => ?_))
      | exact ih0 _ _ _ _ _ _ _ _
      | exact ih1 _ _ _ _ _ _ _ _ _
      | exact LeO.none _
      | refine LeO.ite ?_ ?_
      | refine LeO.bind ?_ (fun _ => ?_)
theorem scullerlaw07_ArenaBack.mono : ∀ a0 a1 a2 a3 k, LeO (scullerlaw07_ArenaBack.f k a0 a1 a2 a3) (scullerlaw07_ArenaBack.f (k + 1) a0 a1 a2 a3) := by
  intro a0 a1 a2 a3 k
  obtain ⟨ih0, ih1⟩ := scullerlaw07_ArenaBack.mono_l k
  unfold scullerlaw07_ArenaBack.f
  repeat' first
      | (with_reducible exact ih0 _ _ _ _ _ _ _ _)
      | (with_reducible exact ih1 _ _ _ _ _ _ _ _ _)
      | (with_reducible exact LeO.refl _)
      | (with_reducible exact LeO.none _)
      | (with_reducible refine LeO.ite ?_ ?_)
      | (with_reducible refine LeO.bind ?_ (fun _ => ?_))
      | exact ih0 _ _ _ _ _ _ _ _
      | exact ih1 _ _ _ _ _ _ _ _ _
      | exact LeO.none _
      | refine LeO.ite ?_ ?_
      | refine LeO.bind ?_ (fun _ => ?_)
set_option maxHeartbeats 8000000 in
set_option maxRecDepth 100000 in
theorem scullerlaw07_ArenaBack.calls (k : Nat) (A0 : Option Addr) (c0 : Nat) (l0 : List Int) (a1 : Int) (a2 : Int) (a3 : Int) (r : Bool) (w : World) (hr0 : Kd.C (Kd.int .u8) w A0 l0.length l0) (hc0 : l0.length ≤ c0) (h : scullerlaw07_ArenaBack.f k l0 a1 a2 a3 = some r) :
    Calls Try.prog 8 #[.slice A0 l0.length c0, .int .u8 a1, .int .u8 a2, .int .u8 a3] w fun e w' => e = .returned (.bool r) ∧ Below w.heap.size w w' := by
  have HR0 := Aside0.mk hr0
  have HC0 := Aside0.mk hc0
  clear hr0 hc0
  have HB := Aside0.mk (Below.refl w.heap.size w)
  have H : ((scullerlaw07_Arena_c.f l0 a1).bind fun t215 => ((arena_Sizes_c.f t215).bind fun t218 => ((arena_Bytes.f t215).bind fun t221 => ((arena_Cut.f t218 t221).bind fun bt224 => (if (t215.length : Int) = 0 then (none) else (if 0 ≤ (Int.tmod (wrap64 (a2)) (t215.length : Int)) then (if (Int.tmod (wrap64 (a2)) (t215.length : Int)) < (t215.length : Int) then (if ((rd_L1 t215 (Int.tmod (wrap64 (a2)) (t215.length : Int))).length : Int) = 0 then ((scullerlaw07_known.f).bind fun t229 => (if t229 = true then (if bt224.2 = 0 then ((arena_Same.f bt224.1 t215).bind fun t230 => (if t230 = true then ((arena_Place.f t218 (Int.tmod (wrap64 (a2)) (t215.length : Int)) 0).bind fun t231 => (some (t231 == (-1)))) else (some false))) else (some false)) else (some false))) else ((arena_Place.f t218 (Int.tmod (wrap64 (a2)) (t215.length : Int)) (Int.tmod (wrap64 (a3)) ((rd_L1 t215 (Int.tmod (wrap64 (a2)) (t215.length : Int))).length : Int))).bind fun t233 => (if t233 < 0 then (scullerlaw07_ArenaBack.j0 k t215 t221 bt224.1 bt224.2 (Int.tmod (wrap64 (a2)) (t215.length : Int)) (Int.tmod (wrap64 (a3)) ((rd_L1 t215 (Int.tmod (wrap64 (a2)) (t215.length : Int))).length : Int)) t233 true) else (scullerlaw07_ArenaBack.j0 k t215 t221 bt224.1 bt224.2 (Int.tmod (wrap64 (a2)) (t215.length : Int)) (Int.tmod (wrap64 (a3)) ((rd_L1 t215 (Int.tmod (wrap64 (a2)) (t215.length : Int))).length : Int)) t233 (decide ((wrap64 ((wrap64 (8 * t233)) + 8)) > (t221.length : Int))))))) else (none)) else (none))))))) = some r := h
  clear h
  replace H := Option.bind_eq_some_iff.mp H
  obtain ⟨t215, A50, H⟩ := H
  replace H : ((arena_Sizes_c.f t215).bind fun t218 => ((arena_Bytes.f t215).bind fun t221 => ((arena_Cut.f t218 t221).bind fun bt224 => (if (t215.length : Int) = 0 then (none) else (if 0 ≤ (Int.tmod (wrap64 (a2)) (t215.length : Int)) then (if (Int.tmod (wrap64 (a2)) (t215.length : Int)) < (t215.length : Int) then (if ((rd_L1 t215 (Int.tmod (wrap64 (a2)) (t215.length : Int))).length : Int) = 0 then ((scullerlaw07_known.f).bind fun t229 => (if t229 = true then (if bt224.2 = 0 then ((arena_Same.f bt224.1 t215).bind fun t230 => (if t230 = true then ((arena_Place.f t218 (Int.tmod (wrap64 (a2)) (t215.length : Int)) 0).bind fun t231 => (some (t231 == (-1)))) else (some false))) else (some false)) else (some false))) else ((arena_Place.f t218 (Int.tmod (wrap64 (a2)) (t215.length : Int)) (Int.tmod (wrap64 (a3)) ((rd_L1 t215 (Int.tmod (wrap64 (a2)) (t215.length : Int))).length : Int))).bind fun t233 => (if t233 < 0 then (scullerlaw07_ArenaBack.j0 k t215 t221 bt224.1 bt224.2 (Int.tmod (wrap64 (a2)) (t215.length : Int)) (Int.tmod (wrap64 (a3)) ((rd_L1 t215 (Int.tmod (wrap64 (a2)) (t215.length : Int))).length : Int)) t233 true) else (scullerlaw07_ArenaBack.j0 k t215 t221 bt224.1 bt224.2 (Int.tmod (wrap64 (a2)) (t215.length : Int)) (Int.tmod (wrap64 (a3)) ((rd_L1 t215 (Int.tmod (wrap64 (a2)) (t215.length : Int))).length : Int)) t233 (decide ((wrap64 ((wrap64 (8 * t233)) + 8)) > (t221.length : Int))))))) else (none)) else (none)))))) = some r := H
  have A5 := Aside0.mk A50
  clear A50
  replace H := Option.bind_eq_some_iff.mp H
  obtain ⟨t218, A60, H⟩ := H
  replace H : ((arena_Bytes.f t215).bind fun t221 => ((arena_Cut.f t218 t221).bind fun bt224 => (if (t215.length : Int) = 0 then (none) else (if 0 ≤ (Int.tmod (wrap64 (a2)) (t215.length : Int)) then (if (Int.tmod (wrap64 (a2)) (t215.length : Int)) < (t215.length : Int) then (if ((rd_L1 t215 (Int.tmod (wrap64 (a2)) (t215.length : Int))).length : Int) = 0 then ((scullerlaw07_known.f).bind fun t229 => (if t229 = true then (if bt224.2 = 0 then ((arena_Same.f bt224.1 t215).bind fun t230 => (if t230 = true then ((arena_Place.f t218 (Int.tmod (wrap64 (a2)) (t215.length : Int)) 0).bind fun t231 => (some (t231 == (-1)))) else (some false))) else (some false)) else (some false))) else ((arena_Place.f t218 (Int.tmod (wrap64 (a2)) (t215.length : Int)) (Int.tmod (wrap64 (a3)) ((rd_L1 t215 (Int.tmod (wrap64 (a2)) (t215.length : Int))).length : Int))).bind fun t233 => (if t233 < 0 then (scullerlaw07_ArenaBack.j0 k t215 t221 bt224.1 bt224.2 (Int.tmod (wrap64 (a2)) (t215.length : Int)) (Int.tmod (wrap64 (a3)) ((rd_L1 t215 (Int.tmod (wrap64 (a2)) (t215.length : Int))).length : Int)) t233 true) else (scullerlaw07_ArenaBack.j0 k t215 t221 bt224.1 bt224.2 (Int.tmod (wrap64 (a2)) (t215.length : Int)) (Int.tmod (wrap64 (a3)) ((rd_L1 t215 (Int.tmod (wrap64 (a2)) (t215.length : Int))).length : Int)) t233 (decide ((wrap64 ((wrap64 (8 * t233)) + 8)) > (t221.length : Int))))))) else (none)) else (none))))) = some r := H
  have A6 := Aside0.mk A60
  clear A60
  replace H := Option.bind_eq_some_iff.mp H
  obtain ⟨t221, A70, H⟩ := H
  replace H : ((arena_Cut.f t218 t221).bind fun bt224 => (if (t215.length : Int) = 0 then (none) else (if 0 ≤ (Int.tmod (wrap64 (a2)) (t215.length : Int)) then (if (Int.tmod (wrap64 (a2)) (t215.length : Int)) < (t215.length : Int) then (if ((rd_L1 t215 (Int.tmod (wrap64 (a2)) (t215.length : Int))).length : Int) = 0 then ((scullerlaw07_known.f).bind fun t229 => (if t229 = true then (if bt224.2 = 0 then ((arena_Same.f bt224.1 t215).bind fun t230 => (if t230 = true then ((arena_Place.f t218 (Int.tmod (wrap64 (a2)) (t215.length : Int)) 0).bind fun t231 => (some (t231 == (-1)))) else (some false))) else (some false)) else (some false))) else ((arena_Place.f t218 (Int.tmod (wrap64 (a2)) (t215.length : Int)) (Int.tmod (wrap64 (a3)) ((rd_L1 t215 (Int.tmod (wrap64 (a2)) (t215.length : Int))).length : Int))).bind fun t233 => (if t233 < 0 then (scullerlaw07_ArenaBack.j0 k t215 t221 bt224.1 bt224.2 (Int.tmod (wrap64 (a2)) (t215.length : Int)) (Int.tmod (wrap64 (a3)) ((rd_L1 t215 (Int.tmod (wrap64 (a2)) (t215.length : Int))).length : Int)) t233 true) else (scullerlaw07_ArenaBack.j0 k t215 t221 bt224.1 bt224.2 (Int.tmod (wrap64 (a2)) (t215.length : Int)) (Int.tmod (wrap64 (a3)) ((rd_L1 t215 (Int.tmod (wrap64 (a2)) (t215.length : Int))).length : Int)) t233 (decide ((wrap64 ((wrap64 (8 * t233)) + 8)) > (t221.length : Int))))))) else (none)) else (none)))) = some r := H
  have A7 := Aside0.mk A70
  clear A70
  replace H := Option.bind_eq_some_iff.mp H
  obtain ⟨⟨t224, t225⟩, A80, H⟩ := H
  replace H : (if (t215.length : Int) = 0 then (none) else (if 0 ≤ (Int.tmod (wrap64 (a2)) (t215.length : Int)) then (if (Int.tmod (wrap64 (a2)) (t215.length : Int)) < (t215.length : Int) then (if ((rd_L1 t215 (Int.tmod (wrap64 (a2)) (t215.length : Int))).length : Int) = 0 then ((scullerlaw07_known.f).bind fun t229 => (if t229 = true then (if t225 = 0 then ((arena_Same.f t224 t215).bind fun t230 => (if t230 = true then ((arena_Place.f t218 (Int.tmod (wrap64 (a2)) (t215.length : Int)) 0).bind fun t231 => (some (t231 == (-1)))) else (some false))) else (some false)) else (some false))) else ((arena_Place.f t218 (Int.tmod (wrap64 (a2)) (t215.length : Int)) (Int.tmod (wrap64 (a3)) ((rd_L1 t215 (Int.tmod (wrap64 (a2)) (t215.length : Int))).length : Int))).bind fun t233 => (if t233 < 0 then (scullerlaw07_ArenaBack.j0 k t215 t221 t224 t225 (Int.tmod (wrap64 (a2)) (t215.length : Int)) (Int.tmod (wrap64 (a3)) ((rd_L1 t215 (Int.tmod (wrap64 (a2)) (t215.length : Int))).length : Int)) t233 true) else (scullerlaw07_ArenaBack.j0 k t215 t221 t224 t225 (Int.tmod (wrap64 (a2)) (t215.length : Int)) (Int.tmod (wrap64 (a3)) ((rd_L1 t215 (Int.tmod (wrap64 (a2)) (t215.length : Int))).length : Int)) t233 (decide ((wrap64 ((wrap64 (8 * t233)) + 8)) > (t221.length : Int))))))) else (none)) else (none))) = some r := H
  have A8 := Aside0.mk A80
  clear A80
  by_cases c9 : (t215.length : Int) = 0
  · rw [if_pos c9] at H
    exact absurd H (by simp)
  · rw [if_neg c9] at H
    have c9b0 : ((t215.length : Int) == 0) = false := beq_eq_false_iff_ne.mpr c9
    have c9b1 : ((t215.length : Int) != 0) = true := bne_iff_ne.mpr c9
    have c9b2 : ¬ (t215 = []) := fun h_ => c9 (by rw [h_]; rfl)
    obtain ⟨ji10, hji10⟩ : ∃ j_ : Int, (Int.tmod (wrap64 (a2)) (t215.length : Int)) = j_ := ⟨_, rfl⟩
    replace H : (if 0 ≤ (ji10) then (if (ji10) < (t215.length : Int) then (if ((rd_L1 t215 (ji10)).length : Int) = 0 then ((scullerlaw07_known.f).bind fun t229 => (if t229 = true then (if t225 = 0 then ((arena_Same.f t224 t215).bind fun t230 => (if t230 = true then ((arena_Place.f t218 (ji10) 0).bind fun t231 => (some (t231 == (-1)))) else (some false))) else (some false)) else (some false))) else ((arena_Place.f t218 (ji10) (Int.tmod (wrap64 (a3)) ((rd_L1 t215 (ji10)).length : Int))).bind fun t233 => (if t233 < 0 then (scullerlaw07_ArenaBack.j0 k t215 t221 t224 t225 ji10 (Int.tmod (wrap64 (a3)) ((rd_L1 t215 (ji10)).length : Int)) t233 true) else (scullerlaw07_ArenaBack.j0 k t215 t221 t224 t225 ji10 (Int.tmod (wrap64 (a3)) ((rd_L1 t215 (ji10)).length : Int)) t233 (decide ((wrap64 ((wrap64 (8 * t233)) + 8)) > (t221.length : Int))))))) else (none)) else (none)) = some r := by first | (rw [hji10] at H; exact H) | (simp only [hji10] at H ⊢; exact H)
    (try rw [hji10] at A5)
    (try rw [hji10] at A6)
    (try rw [hji10] at A7)
    (try rw [hji10] at A8)
    by_cases c11 : 0 ≤ (ji10)
    · rw [if_pos c11] at H
      have c11b0 : decide (0 ≤ (ji10)) = true := decide_eq_true c11
      clear c11
      by_cases c12 : (ji10) < (t215.length : Int)
      · rw [if_pos c12] at H
        have c12b0 : decide ((ji10) < (t215.length : Int)) = true := decide_eq_true c12
        clear c12
        by_cases c13 : ((rd_L1 t215 (ji10)).length : Int) = 0
        · rw [if_pos c13] at H
          have c13b0 : (((rd_L1 t215 (ji10)).length : Int) == 0) = true := beq_iff_eq.mpr c13
          have c13b1 : (((rd_L1 t215 (ji10)).length : Int) != 0) = false := bne_eq_false_iff_eq.mpr c13
          clear c13
          replace H := Option.bind_eq_some_iff.mp H
          obtain ⟨t229, A140, H⟩ := H
          replace H : (if t229 = true then (if t225 = 0 then ((arena_Same.f t224 t215).bind fun t230 => (if t230 = true then ((arena_Place.f t218 (ji10) 0).bind fun t231 => (some (t231 == (-1)))) else (some false))) else (some false)) else (some false)) = some r := H
          have A14 := Aside0.mk A140
          clear A140
          by_cases c15 : t229 = true
          · subst c15
            have H1 : (if t225 = 0 then ((arena_Same.f t224 t215).bind fun t230 => (if t230 = true then ((arena_Place.f t218 (ji10) 0).bind fun t231 => (some (t231 == (-1)))) else (some false))) else (some false)) = some r := by rw [if_pos rfl] at H; exact H
            clear H
            have H := H1
            clear H1
            by_cases c16 : t225 = 0
            · rw [if_pos c16] at H
              have c16b0 : (t225 == 0) = true := beq_iff_eq.mpr c16
              have c16b1 : (t225 != 0) = false := bne_eq_false_iff_eq.mpr c16
              clear c16
              replace H := Option.bind_eq_some_iff.mp H
              obtain ⟨t230, A170, H⟩ := H
              replace H : (if t230 = true then ((arena_Place.f t218 (ji10) 0).bind fun t231 => (some (t231 == (-1)))) else (some false)) = some r := H
              have A17 := Aside0.mk A170
              clear A170
              by_cases c18 : t230 = true
              · subst c18
                have H1 : ((arena_Place.f t218 (ji10) 0).bind fun t231 => (some (t231 == (-1)))) = some r := by rw [if_pos rfl] at H; exact H
                clear H
                have H := H1
                clear H1
                replace H := Option.bind_eq_some_iff.mp H
                obtain ⟨t231, A190, H⟩ := H
                replace H : (some (t231 == (-1))) = some r := H
                have A19 := Aside0.mk A190
                clear A190
                obtain rfl := Option.some.inj H
                go_enter Try.func8, Try.ntmps8
                go_wp2_with (first | ((with_reducible refine gate_callee (f := 13) rfl ?_); refine goesL_ (some 21) rfl rfl Try.func13 (by kernel_rfl) rfl #[.slice A0 l0.length c0, .int .u8 a1] rfl (by (try simp only [List.map_toArray, List.map_cons, List.map_nil]); first | done | rfl | (simp only [List.length_drop, List.length_take]; rfl)) ?_; (with_reducible refine (scullerlaw07_Arena_c.calls _ _ l0 a1 t215 _ ?side1 ?side2 A5.out).mono ?_); (case side1 => repeat (first | exact HR0.out | (with_reducible refine Kd.C_alloc ?_ _) | (with_reducible refine Kd.C_drewN ?_ _) | (with_reducible refine Kd.C_drew ?_))); (case side2 => exact HC0.out); rintro e w20 ⟨v216, rfl, ho0, hb⟩; refine ⟨_, rfl, ?_⟩; have n0_ := Aside0.mk (Kd.S_lower ho0 (below_size (by repeat (first | (with_reducible first | exact HB.out | apply below_alloc | apply pw_below_drewN | apply below_drew1) | exact HB.out)))); have n1_ := Aside0.mk (below_step (by repeat (first | (with_reducible first | exact HB.out | apply below_alloc | apply pw_below_drewN | apply below_drew1) | exact HB.out)) hb); clear HB; have HO217 := n0_; have HB := n1_; clear n0_ n1_; (try clear hb); (try clear hb2); (try clear hk); (try clear hi); (try clear ho0); obtain ⟨Ao21, co21, eo21⟩ := Kd.S_slice HO217.out; subst eo21) | ((with_reducible refine gate_callee (f := 19) rfl ?_); refine goesL_ (some 23) rfl rfl Try.func19 (by kernel_rfl) rfl #[.slice Ao21 t215.length co21] rfl (by (try simp only [List.map_toArray, List.map_cons, List.map_nil]); first | done | rfl | (simp only [List.length_drop, List.length_take]; rfl)) ?_; (with_reducible refine (arena_Sizes_c.calls _ _ t215 t218 _ ?side1 ?side2 A6.out).mono ?_); (case side1 => repeat (first | exact (Kd.S_reads' HO217.out).2.2 | (with_reducible refine Kd.C_alloc ?_ _) | (with_reducible refine Kd.C_drewN ?_ _) | (with_reducible refine Kd.C_drew ?_))); (case side2 => exact (Kd.S_reads' HO217.out).2.1); rintro e w22 ⟨v219, rfl, ho0, hb⟩; refine ⟨_, rfl, ?_⟩; have n0_ := Aside0.mk (Kd.S_below (by (with_reducible repeat (first | apply Kd.S_alloc | apply Kd.S_drewN | apply Kd.S_drew)); exact HO217.out) hb); have n1_ := Aside0.mk (Kd.R_lower ho0 (below_size (by repeat (first | (with_reducible first | exact HB.out | apply below_alloc | apply pw_below_drewN | apply below_drew1) | exact HB.out)))); have n2_ := Aside0.mk (below_step (by repeat (first | (with_reducible first | exact HB.out | apply below_alloc | apply pw_below_drewN | apply below_drew1) | exact HB.out)) hb); clear HO217; clear HB; have HO217 := n0_; have HO220 := n1_; have HB := n2_; clear n0_ n1_ n2_; (try clear hb); (try clear hb2); (try clear hk); (try clear hi); (try clear ho0)) | ((with_reducible refine gate_callee (f := 17) rfl ?_); refine goesL_ (some 25) rfl rfl Try.func17 (by kernel_rfl) rfl #[.slice Ao21 t215.length co21] rfl (by (try simp only [List.map_toArray, List.map_cons, List.map_nil]); first | done | rfl | (simp only [List.length_drop, List.length_take]; rfl)) ?_; (with_reducible refine (arena_Bytes.calls _ _ t215 t221 _ ?side1 ?side2 A7.out).mono ?_); (case side1 => repeat (first | exact (Kd.S_reads' HO217.out).2.2 | (with_reducible refine Kd.C_alloc ?_ _) | (with_reducible refine Kd.C_drewN ?_ _) | (with_reducible refine Kd.C_drew ?_))); (case side2 => exact (Kd.S_reads' HO217.out).2.1); rintro e w23 ⟨v222, rfl, ho0, hb⟩; refine ⟨_, rfl, ?_⟩; have n0_ := Aside0.mk (Kd.S_below (by (with_reducible repeat (first | apply Kd.S_alloc | apply Kd.S_drewN | apply Kd.S_drew)); exact HO217.out) hb); have n1_ := Aside0.mk (Kd.R_below (by (with_reducible repeat (first | apply Kd.R_alloc | apply Kd.R_drewN | apply Kd.R_drew)); exact HO220.out) hb); have n2_ := Aside0.mk (Kd.R_lower ho0 (below_size (by repeat (first | (with_reducible first | exact HB.out | apply below_alloc | apply pw_below_drewN | apply below_drew1) | exact HB.out)))); have n3_ := Aside0.mk (below_step (by repeat (first | (with_reducible first | exact HB.out | apply below_alloc | apply pw_below_drewN | apply below_drew1) | exact HB.out)) hb); clear HO217; clear HO220; clear HB; have HO217 := n0_; have HO220 := n1_; have HO223 := n2_; have HB := n3_; clear n0_ n1_ n2_ n3_; (try clear hb); (try clear hb2); (try clear hk); (try clear hi); (try clear ho0); obtain ⟨Ao24, co24, eo24⟩ := Kd.R_slice HO220.out; subst eo24; obtain ⟨Ao25, co25, eo25⟩ := Kd.R_slice HO223.out; subst eo25) | ((with_reducible refine gate_callee (f := 18) rfl ?_); refine goesL_ (some 29) rfl rfl Try.func18 (by kernel_rfl) rfl #[.slice Ao24 t218.length co24, .slice Ao25 t221.length co25] rfl (by (try simp only [List.map_toArray, List.map_cons, List.map_nil]); first | done | rfl | (simp only [List.length_drop, List.length_take]; rfl)) ?_; (with_reducible refine (arena_Cut.calls _ _ t218 _ _ t221 t224 t225 _ ?side1 ?side2 ?side3 ?side4 A8.out).mono ?_); (case side1 => repeat (first | exact (Kd.R_reads' HO220.out).2.2 | (with_reducible refine Kd.C_alloc ?_ _) | (with_reducible refine Kd.C_drewN ?_ _) | (with_reducible refine Kd.C_drew ?_))); (case side2 => exact (Kd.R_reads' HO220.out).2.1); (case side3 => repeat (first | exact (Kd.R_reads' HO223.out).2.2 | (with_reducible refine Kd.C_alloc ?_ _) | (with_reducible refine Kd.C_drewN ?_ _) | (with_reducible refine Kd.C_drew ?_))); (case side4 => exact (Kd.R_reads' HO223.out).2.1); rintro e w26 ⟨v226, rfl, ho0, hb⟩; refine ⟨_, rfl, ?_⟩; have n0_ := Aside0.mk (Kd.S_elder' (by (with_reducible repeat (first | apply Kd.S_alloc | apply Kd.S_drewN | apply Kd.S_drew)); exact HO217.out) (Kd.S_base ho0) hb); have n1_ := Aside0.mk (Kd.R_below (by (with_reducible repeat (first | apply Kd.R_alloc | apply Kd.R_drewN | apply Kd.R_drew)); exact HO220.out) hb); have n2_ := Aside0.mk (Kd.R_below (by (with_reducible repeat (first | apply Kd.R_alloc | apply Kd.R_drewN | apply Kd.R_drew)); exact HO223.out) hb); have n3_ := Aside0.mk (Kd.S_lower (Kd.S_new' ho0 (Kd.S_lt (by (with_reducible repeat (first | apply Kd.S_alloc | apply Kd.S_drewN | apply Kd.S_drew)); exact HO217.out))) (below_size (by repeat (first | (with_reducible first | exact HB.out | apply below_alloc | apply pw_below_drewN | apply below_drew1) | exact HB.out)))); have n4_ := Aside0.mk (below_step (by repeat (first | (with_reducible first | exact HB.out | apply below_alloc | apply pw_below_drewN | apply below_drew1) | exact HB.out)) hb); clear HO217; clear HO220; clear HO223; clear HB; have HO217 := n0_; have HO220 := n1_; have HO223 := n2_; have HO227 := n3_; have HB := n4_; clear n0_ n1_ n2_ n3_ n4_; (try clear hb); (try clear hb2); (try clear hk); (try clear hi); (try clear ho0); have p228 : 0 ≤ ((ji10) : Int) := of_decide_eq_true (by first | (with_reducible assumption) | assumption); have q228 : (ji10) < (t215.length : Int) := of_decide_eq_true (by first | (with_reducible assumption) | assumption); obtain ⟨ad228, A228_0, c228_0, e228, hx228_0, hl228_0, hi228_0⟩ := at_L1 (Kd.S_reads' HO217.out).2.2 (ji10) p228 q228; cases e228; obtain ⟨ce228, hce228, hMe228, hcc228⟩ := Kd.S_get HO217.out [] (ji10) p228 (by first | exact q228 | exact of_decide_eq_true (by first | (with_reducible assumption) | assumption) | (have e_ := (Kd.S_reads' HO217.out).1; omega)); obtain ⟨ve228_0, rfl, ge228_0⟩ := hMe228; have hv228_0 := hcc228 0 _ rfl; rw [Nat.add_zero, show ((Kd.slice 42 (Kd.int .u64))).sz = 1 from rfl, Nat.mul_one] at hv228_0; replace hv228_0 := Option.some.inj (hv228_0.symm.trans hx228_0); rw [hv228_0] at ge228_0; have HL228_0 := Aside0.mk (show Kd.R (Kd.int .u64) 42 _ _ _ _ (rd_L1 t215 (ji10)) from ge228_0); clear hv228_0 ge228_0; clear hcc228 hce228; have HR228_0 := Aside0.mk hi228_0; have HC228_0 := Aside0.mk hl228_0; clear hi228_0 hl228_0; replace p228 := eq_true p228; replace q228 := eq_true q228) | ((with_reducible refine gate_callee (f := 12) rfl ?_); refine goesL_ (some 43) rfl rfl Try.func12 (by kernel_rfl) rfl #[] rfl (by (try simp only [List.map_toArray, List.map_cons, List.map_nil]); first | done | rfl | (simp only [List.length_drop, List.length_take]; rfl)) ?_; (with_reducible refine (scullerlaw07_known.calls  true _ A14.out).mono ?_); rintro e w27 ⟨rfl, hb⟩; refine ⟨_, rfl, ?_⟩; have n0_ := Aside0.mk (Kd.S_below (by (with_reducible repeat (first | apply Kd.S_alloc | apply Kd.S_drewN | apply Kd.S_drew)); exact HO217.out) hb); have n1_ := Aside0.mk (Kd.R_below (by (with_reducible repeat (first | apply Kd.R_alloc | apply Kd.R_drewN | apply Kd.R_drew)); exact HO220.out) hb); have n2_ := Aside0.mk (Kd.R_below (by (with_reducible repeat (first | apply Kd.R_alloc | apply Kd.R_drewN | apply Kd.R_drew)); exact HO223.out) hb); have n3_ := Aside0.mk (Kd.S_below (by (with_reducible repeat (first | apply Kd.S_alloc | apply Kd.S_drewN | apply Kd.S_drew)); exact HO227.out) hb); have n4_ := Aside0.mk (Kd.R_below (by (with_reducible repeat (first | apply Kd.R_alloc | apply Kd.R_drewN | apply Kd.R_drew)); exact HL228_0.out) hb); have n5_ := Aside0.mk (Kd.C_below (by repeat (first | (with_reducible exact HR228_0.out) | (with_reducible refine Kd.C_alloc ?_ _) | (with_reducible refine Kd.C_drewN ?_ _) | (with_reducible refine Kd.C_drew ?_) | exact HR228_0.out)) hb); have n6_ := Aside0.mk (below_step (by repeat (first | (with_reducible first | exact HB.out | apply below_alloc | apply pw_below_drewN | apply below_drew1) | exact HB.out)) hb); clear HO217; clear HO220; clear HO223; clear HO227; clear HL228_0; clear HR228_0; clear HB; have HO217 := n0_; have HO220 := n1_; have HO223 := n2_; have HO227 := n3_; have HL228_0 := n4_; have HR228_0 := n5_; have HB := n6_; clear n0_ n1_ n2_ n3_ n4_ n5_ n6_; (try clear hb); (try clear hb2); (try clear hk); (try clear hi); obtain ⟨Ao28, co28, eo28⟩ := Kd.S_slice HO227.out; subst eo28) | (go_at_call 34; (with_reducible refine (arena_Same.calls _ _ t224 _ _ t215 true _ ?side1 ?side2 ?side3 ?side4 A17.out).mono ?_); (case side1 => repeat (first | exact (Kd.S_reads' HO227.out).2.2 | (with_reducible refine Kd.C_alloc ?_ _) | (with_reducible refine Kd.C_drewN ?_ _) | (with_reducible refine Kd.C_drew ?_))); (case side2 => exact (Kd.S_reads' HO227.out).2.1); (case side3 => repeat (first | exact (Kd.S_reads' HO217.out).2.2 | (with_reducible refine Kd.C_alloc ?_ _) | (with_reducible refine Kd.C_drewN ?_ _) | (with_reducible refine Kd.C_drew ?_))); (case side4 => exact (Kd.S_reads' HO217.out).2.1); rintro e w29 ⟨rfl, hb⟩; have n0_ := Aside0.mk (Kd.S_below (by (with_reducible repeat (first | apply Kd.S_alloc | apply Kd.S_drewN | apply Kd.S_drew)); exact HO217.out) hb); have n1_ := Aside0.mk (Kd.R_below (by (with_reducible repeat (first | apply Kd.R_alloc | apply Kd.R_drewN | apply Kd.R_drew)); exact HO220.out) hb); have n2_ := Aside0.mk (Kd.R_below (by (with_reducible repeat (first | apply Kd.R_alloc | apply Kd.R_drewN | apply Kd.R_drew)); exact HO223.out) hb); have n3_ := Aside0.mk (Kd.S_below (by (with_reducible repeat (first | apply Kd.S_alloc | apply Kd.S_drewN | apply Kd.S_drew)); exact HO227.out) hb); have n4_ := Aside0.mk (Kd.R_below (by (with_reducible repeat (first | apply Kd.R_alloc | apply Kd.R_drewN | apply Kd.R_drew)); exact HL228_0.out) hb); have n5_ := Aside0.mk (Kd.C_below (by repeat (first | (with_reducible exact HR228_0.out) | (with_reducible refine Kd.C_alloc ?_ _) | (with_reducible refine Kd.C_drewN ?_ _) | (with_reducible refine Kd.C_drew ?_) | exact HR228_0.out)) hb); have n6_ := Aside0.mk (below_step (by repeat (first | (with_reducible first | exact HB.out | apply below_alloc | apply pw_below_drewN | apply below_drew1) | exact HB.out)) hb); clear HO217; clear HO220; clear HO223; clear HO227; clear HL228_0; clear HR228_0; clear HB; have HO217 := n0_; have HO220 := n1_; have HO223 := n2_; have HO227 := n3_; have HL228_0 := n4_; have HR228_0 := n5_; have HB := n6_; clear n0_ n1_ n2_ n3_ n4_ n5_ n6_; (try clear hb); (try clear hb2); (try clear hk); (try clear hi)) | (go_at_call 35; (with_reducible refine (arena_Place.calls _ _ t218 ji10 0 t231 _ ?side1 ?side2 A19.out).mono ?_); (case side1 => repeat (first | exact (Kd.R_reads' HO220.out).2.2 | (with_reducible refine Kd.C_alloc ?_ _) | (with_reducible refine Kd.C_drewN ?_ _) | (with_reducible refine Kd.C_drew ?_))); (case side2 => exact (Kd.R_reads' HO220.out).2.1); rintro e w30 ⟨rfl, hb⟩; have n0_ := Aside0.mk (Kd.S_below (by (with_reducible repeat (first | apply Kd.S_alloc | apply Kd.S_drewN | apply Kd.S_drew)); exact HO217.out) hb); have n1_ := Aside0.mk (Kd.R_below (by (with_reducible repeat (first | apply Kd.R_alloc | apply Kd.R_drewN | apply Kd.R_drew)); exact HO220.out) hb); have n2_ := Aside0.mk (Kd.R_below (by (with_reducible repeat (first | apply Kd.R_alloc | apply Kd.R_drewN | apply Kd.R_drew)); exact HO223.out) hb); have n3_ := Aside0.mk (Kd.S_below (by (with_reducible repeat (first | apply Kd.S_alloc | apply Kd.S_drewN | apply Kd.S_drew)); exact HO227.out) hb); have n4_ := Aside0.mk (Kd.R_below (by (with_reducible repeat (first | apply Kd.R_alloc | apply Kd.R_drewN | apply Kd.R_drew)); exact HL228_0.out) hb); have n5_ := Aside0.mk (Kd.C_below (by repeat (first | (with_reducible exact HR228_0.out) | (with_reducible refine Kd.C_alloc ?_ _) | (with_reducible refine Kd.C_drewN ?_ _) | (with_reducible refine Kd.C_drew ?_) | exact HR228_0.out)) hb); have n6_ := Aside0.mk (below_step (by repeat (first | (with_reducible first | exact HB.out | apply below_alloc | apply pw_below_drewN | apply below_drew1) | exact HB.out)) hb); clear HO217; clear HO220; clear HO223; clear HO227; clear HL228_0; clear HR228_0; clear HB; have HO217 := n0_; have HO220 := n1_; have HO223 := n2_; have HO227 := n3_; have HL228_0 := n4_; have HR228_0 := n5_; have HB := n6_; clear n0_ n1_ n2_ n3_ n4_ n5_ n6_; (try clear hb); (try clear hb2); (try clear hk); (try clear hi)))
                go_ret
                exact ⟨by first | rfl | (simp [errW_none, errW_some] <;> rfl) | (simp only [← hji10]; first | rfl | (simp [errW_none, errW_some] <;> rfl)) | (simp [*, errW_none, errW_some] <;> rfl), by repeat (first | (with_reducible first | exact HB.out | apply below_alloc | apply pw_below_drewN | apply below_drew1) | exact HB.out)⟩
              · replace c18 := Bool.eq_false_iff.mpr c18
                subst c18
                have H1 : (some false) = some r := by rw [if_neg (show ¬ (false = true) by decide)] at H; exact H
                clear H
                have H := H1
                clear H1
                obtain rfl := Option.some.inj H
                go_enter Try.func8, Try.ntmps8
                go_wp2_with (first | ((with_reducible refine gate_callee (f := 13) rfl ?_); refine goesL_ (some 21) rfl rfl Try.func13 (by kernel_rfl) rfl #[.slice A0 l0.length c0, .int .u8 a1] rfl (by (try simp only [List.map_toArray, List.map_cons, List.map_nil]); first | done | rfl | (simp only [List.length_drop, List.length_take]; rfl)) ?_; (with_reducible refine (scullerlaw07_Arena_c.calls _ _ l0 a1 t215 _ ?side1 ?side2 A5.out).mono ?_); (case side1 => repeat (first | exact HR0.out | (with_reducible refine Kd.C_alloc ?_ _) | (with_reducible refine Kd.C_drewN ?_ _) | (with_reducible refine Kd.C_drew ?_))); (case side2 => exact HC0.out); rintro e w31 ⟨v216, rfl, ho0, hb⟩; refine ⟨_, rfl, ?_⟩; have n0_ := Aside0.mk (Kd.S_lower ho0 (below_size (by repeat (first | (with_reducible first | exact HB.out | apply below_alloc | apply pw_below_drewN | apply below_drew1) | exact HB.out)))); have n1_ := Aside0.mk (below_step (by repeat (first | (with_reducible first | exact HB.out | apply below_alloc | apply pw_below_drewN | apply below_drew1) | exact HB.out)) hb); clear HB; have HO217 := n0_; have HB := n1_; clear n0_ n1_; (try clear hb); (try clear hb2); (try clear hk); (try clear hi); (try clear ho0); obtain ⟨Ao32, co32, eo32⟩ := Kd.S_slice HO217.out; subst eo32) | ((with_reducible refine gate_callee (f := 19) rfl ?_); refine goesL_ (some 23) rfl rfl Try.func19 (by kernel_rfl) rfl #[.slice Ao32 t215.length co32] rfl (by (try simp only [List.map_toArray, List.map_cons, List.map_nil]); first | done | rfl | (simp only [List.length_drop, List.length_take]; rfl)) ?_; (with_reducible refine (arena_Sizes_c.calls _ _ t215 t218 _ ?side1 ?side2 A6.out).mono ?_); (case side1 => repeat (first | exact (Kd.S_reads' HO217.out).2.2 | (with_reducible refine Kd.C_alloc ?_ _) | (with_reducible refine Kd.C_drewN ?_ _) | (with_reducible refine Kd.C_drew ?_))); (case side2 => exact (Kd.S_reads' HO217.out).2.1); rintro e w33 ⟨v219, rfl, ho0, hb⟩; refine ⟨_, rfl, ?_⟩; have n0_ := Aside0.mk (Kd.S_below (by (with_reducible repeat (first | apply Kd.S_alloc | apply Kd.S_drewN | apply Kd.S_drew)); exact HO217.out) hb); have n1_ := Aside0.mk (Kd.R_lower ho0 (below_size (by repeat (first | (with_reducible first | exact HB.out | apply below_alloc | apply pw_below_drewN | apply below_drew1) | exact HB.out)))); have n2_ := Aside0.mk (below_step (by repeat (first | (with_reducible first | exact HB.out | apply below_alloc | apply pw_below_drewN | apply below_drew1) | exact HB.out)) hb); clear HO217; clear HB; have HO217 := n0_; have HO220 := n1_; have HB := n2_; clear n0_ n1_ n2_; (try clear hb); (try clear hb2); (try clear hk); (try clear hi); (try clear ho0)) | ((with_reducible refine gate_callee (f := 17) rfl ?_); refine goesL_ (some 25) rfl rfl Try.func17 (by kernel_rfl) rfl #[.slice Ao32 t215.length co32] rfl (by (try simp only [List.map_toArray, List.map_cons, List.map_nil]); first | done | rfl | (simp only [List.length_drop, List.length_take]; rfl)) ?_; (with_reducible refine (arena_Bytes.calls _ _ t215 t221 _ ?side1 ?side2 A7.out).mono ?_); (case side1 => repeat (first | exact (Kd.S_reads' HO217.out).2.2 | (with_reducible refine Kd.C_alloc ?_ _) | (with_reducible refine Kd.C_drewN ?_ _) | (with_reducible refine Kd.C_drew ?_))); (case side2 => exact (Kd.S_reads' HO217.out).2.1); rintro e w34 ⟨v222, rfl, ho0, hb⟩; refine ⟨_, rfl, ?_⟩; have n0_ := Aside0.mk (Kd.S_below (by (with_reducible repeat (first | apply Kd.S_alloc | apply Kd.S_drewN | apply Kd.S_drew)); exact HO217.out) hb); have n1_ := Aside0.mk (Kd.R_below (by (with_reducible repeat (first | apply Kd.R_alloc | apply Kd.R_drewN | apply Kd.R_drew)); exact HO220.out) hb); have n2_ := Aside0.mk (Kd.R_lower ho0 (below_size (by repeat (first | (with_reducible first | exact HB.out | apply below_alloc | apply pw_below_drewN | apply below_drew1) | exact HB.out)))); have n3_ := Aside0.mk (below_step (by repeat (first | (with_reducible first | exact HB.out | apply below_alloc | apply pw_below_drewN | apply below_drew1) | exact HB.out)) hb); clear HO217; clear HO220; clear HB; have HO217 := n0_; have HO220 := n1_; have HO223 := n2_; have HB := n3_; clear n0_ n1_ n2_ n3_; (try clear hb); (try clear hb2); (try clear hk); (try clear hi); (try clear ho0); obtain ⟨Ao35, co35, eo35⟩ := Kd.R_slice HO220.out; subst eo35; obtain ⟨Ao36, co36, eo36⟩ := Kd.R_slice HO223.out; subst eo36) | ((with_reducible refine gate_callee (f := 18) rfl ?_); refine goesL_ (some 29) rfl rfl Try.func18 (by kernel_rfl) rfl #[.slice Ao35 t218.length co35, .slice Ao36 t221.length co36] rfl (by (try simp only [List.map_toArray, List.map_cons, List.map_nil]); first | done | rfl | (simp only [List.length_drop, List.length_take]; rfl)) ?_; (with_reducible refine (arena_Cut.calls _ _ t218 _ _ t221 t224 t225 _ ?side1 ?side2 ?side3 ?side4 A8.out).mono ?_); (case side1 => repeat (first | exact (Kd.R_reads' HO220.out).2.2 | (with_reducible refine Kd.C_alloc ?_ _) | (with_reducible refine Kd.C_drewN ?_ _) | (with_reducible refine Kd.C_drew ?_))); (case side2 => exact (Kd.R_reads' HO220.out).2.1); (case side3 => repeat (first | exact (Kd.R_reads' HO223.out).2.2 | (with_reducible refine Kd.C_alloc ?_ _) | (with_reducible refine Kd.C_drewN ?_ _) | (with_reducible refine Kd.C_drew ?_))); (case side4 => exact (Kd.R_reads' HO223.out).2.1); rintro e w37 ⟨v226, rfl, ho0, hb⟩; refine ⟨_, rfl, ?_⟩; have n0_ := Aside0.mk (Kd.S_elder' (by (with_reducible repeat (first | apply Kd.S_alloc | apply Kd.S_drewN | apply Kd.S_drew)); exact HO217.out) (Kd.S_base ho0) hb); have n1_ := Aside0.mk (Kd.R_below (by (with_reducible repeat (first | apply Kd.R_alloc | apply Kd.R_drewN | apply Kd.R_drew)); exact HO220.out) hb); have n2_ := Aside0.mk (Kd.R_below (by (with_reducible repeat (first | apply Kd.R_alloc | apply Kd.R_drewN | apply Kd.R_drew)); exact HO223.out) hb); have n3_ := Aside0.mk (Kd.S_lower (Kd.S_new' ho0 (Kd.S_lt (by (with_reducible repeat (first | apply Kd.S_alloc | apply Kd.S_drewN | apply Kd.S_drew)); exact HO217.out))) (below_size (by repeat (first | (with_reducible first | exact HB.out | apply below_alloc | apply pw_below_drewN | apply below_drew1) | exact HB.out)))); have n4_ := Aside0.mk (below_step (by repeat (first | (with_reducible first | exact HB.out | apply below_alloc | apply pw_below_drewN | apply below_drew1) | exact HB.out)) hb); clear HO217; clear HO220; clear HO223; clear HB; have HO217 := n0_; have HO220 := n1_; have HO223 := n2_; have HO227 := n3_; have HB := n4_; clear n0_ n1_ n2_ n3_ n4_; (try clear hb); (try clear hb2); (try clear hk); (try clear hi); (try clear ho0); have p228 : 0 ≤ ((ji10) : Int) := of_decide_eq_true (by first | (with_reducible assumption) | assumption); have q228 : (ji10) < (t215.length : Int) := of_decide_eq_true (by first | (with_reducible assumption) | assumption); obtain ⟨ad228, A228_0, c228_0, e228, hx228_0, hl228_0, hi228_0⟩ := at_L1 (Kd.S_reads' HO217.out).2.2 (ji10) p228 q228; cases e228; obtain ⟨ce228, hce228, hMe228, hcc228⟩ := Kd.S_get HO217.out [] (ji10) p228 (by first | exact q228 | exact of_decide_eq_true (by first | (with_reducible assumption) | assumption) | (have e_ := (Kd.S_reads' HO217.out).1; omega)); obtain ⟨ve228_0, rfl, ge228_0⟩ := hMe228; have hv228_0 := hcc228 0 _ rfl; rw [Nat.add_zero, show ((Kd.slice 42 (Kd.int .u64))).sz = 1 from rfl, Nat.mul_one] at hv228_0; replace hv228_0 := Option.some.inj (hv228_0.symm.trans hx228_0); rw [hv228_0] at ge228_0; have HL228_0 := Aside0.mk (show Kd.R (Kd.int .u64) 42 _ _ _ _ (rd_L1 t215 (ji10)) from ge228_0); clear hv228_0 ge228_0; clear hcc228 hce228; have HR228_0 := Aside0.mk hi228_0; have HC228_0 := Aside0.mk hl228_0; clear hi228_0 hl228_0; replace p228 := eq_true p228; replace q228 := eq_true q228) | ((with_reducible refine gate_callee (f := 12) rfl ?_); refine goesL_ (some 43) rfl rfl Try.func12 (by kernel_rfl) rfl #[] rfl (by (try simp only [List.map_toArray, List.map_cons, List.map_nil]); first | done | rfl | (simp only [List.length_drop, List.length_take]; rfl)) ?_; (with_reducible refine (scullerlaw07_known.calls  true _ A14.out).mono ?_); rintro e w38 ⟨rfl, hb⟩; refine ⟨_, rfl, ?_⟩; have n0_ := Aside0.mk (Kd.S_below (by (with_reducible repeat (first | apply Kd.S_alloc | apply Kd.S_drewN | apply Kd.S_drew)); exact HO217.out) hb); have n1_ := Aside0.mk (Kd.R_below (by (with_reducible repeat (first | apply Kd.R_alloc | apply Kd.R_drewN | apply Kd.R_drew)); exact HO220.out) hb); have n2_ := Aside0.mk (Kd.R_below (by (with_reducible repeat (first | apply Kd.R_alloc | apply Kd.R_drewN | apply Kd.R_drew)); exact HO223.out) hb); have n3_ := Aside0.mk (Kd.S_below (by (with_reducible repeat (first | apply Kd.S_alloc | apply Kd.S_drewN | apply Kd.S_drew)); exact HO227.out) hb); have n4_ := Aside0.mk (Kd.R_below (by (with_reducible repeat (first | apply Kd.R_alloc | apply Kd.R_drewN | apply Kd.R_drew)); exact HL228_0.out) hb); have n5_ := Aside0.mk (Kd.C_below (by repeat (first | (with_reducible exact HR228_0.out) | (with_reducible refine Kd.C_alloc ?_ _) | (with_reducible refine Kd.C_drewN ?_ _) | (with_reducible refine Kd.C_drew ?_) | exact HR228_0.out)) hb); have n6_ := Aside0.mk (below_step (by repeat (first | (with_reducible first | exact HB.out | apply below_alloc | apply pw_below_drewN | apply below_drew1) | exact HB.out)) hb); clear HO217; clear HO220; clear HO223; clear HO227; clear HL228_0; clear HR228_0; clear HB; have HO217 := n0_; have HO220 := n1_; have HO223 := n2_; have HO227 := n3_; have HL228_0 := n4_; have HR228_0 := n5_; have HB := n6_; clear n0_ n1_ n2_ n3_ n4_ n5_ n6_; (try clear hb); (try clear hb2); (try clear hk); (try clear hi); obtain ⟨Ao39, co39, eo39⟩ := Kd.S_slice HO227.out; subst eo39) | (go_at_call 34; (with_reducible refine (arena_Same.calls _ _ t224 _ _ t215 false _ ?side1 ?side2 ?side3 ?side4 A17.out).mono ?_); (case side1 => repeat (first | exact (Kd.S_reads' HO227.out).2.2 | (with_reducible refine Kd.C_alloc ?_ _) | (with_reducible refine Kd.C_drewN ?_ _) | (with_reducible refine Kd.C_drew ?_))); (case side2 => exact (Kd.S_reads' HO227.out).2.1); (case side3 => repeat (first | exact (Kd.S_reads' HO217.out).2.2 | (with_reducible refine Kd.C_alloc ?_ _) | (with_reducible refine Kd.C_drewN ?_ _) | (with_reducible refine Kd.C_drew ?_))); (case side4 => exact (Kd.S_reads' HO217.out).2.1); rintro e w40 ⟨rfl, hb⟩; have n0_ := Aside0.mk (Kd.S_below (by (with_reducible repeat (first | apply Kd.S_alloc | apply Kd.S_drewN | apply Kd.S_drew)); exact HO217.out) hb); have n1_ := Aside0.mk (Kd.R_below (by (with_reducible repeat (first | apply Kd.R_alloc | apply Kd.R_drewN | apply Kd.R_drew)); exact HO220.out) hb); have n2_ := Aside0.mk (Kd.R_below (by (with_reducible repeat (first | apply Kd.R_alloc | apply Kd.R_drewN | apply Kd.R_drew)); exact HO223.out) hb); have n3_ := Aside0.mk (Kd.S_below (by (with_reducible repeat (first | apply Kd.S_alloc | apply Kd.S_drewN | apply Kd.S_drew)); exact HO227.out) hb); have n4_ := Aside0.mk (Kd.R_below (by (with_reducible repeat (first | apply Kd.R_alloc | apply Kd.R_drewN | apply Kd.R_drew)); exact HL228_0.out) hb); have n5_ := Aside0.mk (Kd.C_below (by repeat (first | (with_reducible exact HR228_0.out) | (with_reducible refine Kd.C_alloc ?_ _) | (with_reducible refine Kd.C_drewN ?_ _) | (with_reducible refine Kd.C_drew ?_) | exact HR228_0.out)) hb); have n6_ := Aside0.mk (below_step (by repeat (first | (with_reducible first | exact HB.out | apply below_alloc | apply pw_below_drewN | apply below_drew1) | exact HB.out)) hb); clear HO217; clear HO220; clear HO223; clear HO227; clear HL228_0; clear HR228_0; clear HB; have HO217 := n0_; have HO220 := n1_; have HO223 := n2_; have HO227 := n3_; have HL228_0 := n4_; have HR228_0 := n5_; have HB := n6_; clear n0_ n1_ n2_ n3_ n4_ n5_ n6_; (try clear hb); (try clear hb2); (try clear hk); (try clear hi)))
                go_ret
                exact ⟨by first | rfl | (simp [errW_none, errW_some] <;> rfl) | (simp only [← hji10]; first | rfl | (simp [errW_none, errW_some] <;> rfl)) | (simp [*, errW_none, errW_some] <;> rfl), by repeat (first | (with_reducible first | exact HB.out | apply below_alloc | apply pw_below_drewN | apply below_drew1) | exact HB.out)⟩
            · rw [if_neg c16] at H
              have c16b0 : (t225 == 0) = false := beq_eq_false_iff_ne.mpr c16
              have c16b1 : (t225 != 0) = true := bne_iff_ne.mpr c16
              obtain rfl := Option.some.inj H
              go_enter Try.func8, Try.ntmps8
              go_wp2_with (first | ((with_reducible refine gate_callee (f := 13) rfl ?_); refine goesL_ (some 21) rfl rfl Try.func13 (by kernel_rfl) rfl #[.slice A0 l0.length c0, .int .u8 a1] rfl (by (try simp only [List.map_toArray, List.map_cons, List.map_nil]); first | done | rfl | (simp only [List.length_drop, List.length_take]; rfl)) ?_; (with_reducible refine (scullerlaw07_Arena_c.calls _ _ l0 a1 t215 _ ?side1 ?side2 A5.out).mono ?_); (case side1 => repeat (first | exact HR0.out | (with_reducible refine Kd.C_alloc ?_ _) | (with_reducible refine Kd.C_drewN ?_ _) | (with_reducible refine Kd.C_drew ?_))); (case side2 => exact HC0.out); rintro e w41 ⟨v216, rfl, ho0, hb⟩; refine ⟨_, rfl, ?_⟩; have n0_ := Aside0.mk (Kd.S_lower ho0 (below_size (by repeat (first | (with_reducible first | exact HB.out | apply below_alloc | apply pw_below_drewN | apply below_drew1) | exact HB.out)))); have n1_ := Aside0.mk (below_step (by repeat (first | (with_reducible first | exact HB.out | apply below_alloc | apply pw_below_drewN | apply below_drew1) | exact HB.out)) hb); clear HB; have HO217 := n0_; have HB := n1_; clear n0_ n1_; (try clear hb); (try clear hb2); (try clear hk); (try clear hi); (try clear ho0); obtain ⟨Ao42, co42, eo42⟩ := Kd.S_slice HO217.out; subst eo42) | ((with_reducible refine gate_callee (f := 19) rfl ?_); refine goesL_ (some 23) rfl rfl Try.func19 (by kernel_rfl) rfl #[.slice Ao42 t215.length co42] rfl (by (try simp only [List.map_toArray, List.map_cons, List.map_nil]); first | done | rfl | (simp only [List.length_drop, List.length_take]; rfl)) ?_; (with_reducible refine (arena_Sizes_c.calls _ _ t215 t218 _ ?side1 ?side2 A6.out).mono ?_); (case side1 => repeat (first | exact (Kd.S_reads' HO217.out).2.2 | (with_reducible refine Kd.C_alloc ?_ _) | (with_reducible refine Kd.C_drewN ?_ _) | (with_reducible refine Kd.C_drew ?_))); (case side2 => exact (Kd.S_reads' HO217.out).2.1); rintro e w43 ⟨v219, rfl, ho0, hb⟩; refine ⟨_, rfl, ?_⟩; have n0_ := Aside0.mk (Kd.S_below (by (with_reducible repeat (first | apply Kd.S_alloc | apply Kd.S_drewN | apply Kd.S_drew)); exact HO217.out) hb); have n1_ := Aside0.mk (Kd.R_lower ho0 (below_size (by repeat (first | (with_reducible first | exact HB.out | apply below_alloc | apply pw_below_drewN | apply below_drew1) | exact HB.out)))); have n2_ := Aside0.mk (below_step (by repeat (first | (with_reducible first | exact HB.out | apply below_alloc | apply pw_below_drewN | apply below_drew1) | exact HB.out)) hb); clear HO217; clear HB; have HO217 := n0_; have HO220 := n1_; have HB := n2_; clear n0_ n1_ n2_; (try clear hb); (try clear hb2); (try clear hk); (try clear hi); (try clear ho0)) | ((with_reducible refine gate_callee (f := 17) rfl ?_); refine goesL_ (some 25) rfl rfl Try.func17 (by kernel_rfl) rfl #[.slice Ao42 t215.length co42] rfl (by (try simp only [List.map_toArray, List.map_cons, List.map_nil]); first | done | rfl | (simp only [List.length_drop, List.length_take]; rfl)) ?_; (with_reducible refine (arena_Bytes.calls _ _ t215 t221 _ ?side1 ?side2 A7.out).mono ?_); (case side1 => repeat (first | exact (Kd.S_reads' HO217.out).2.2 | (with_reducible refine Kd.C_alloc ?_ _) | (with_reducible refine Kd.C_drewN ?_ _) | (with_reducible refine Kd.C_drew ?_))); (case side2 => exact (Kd.S_reads' HO217.out).2.1); rintro e w44 ⟨v222, rfl, ho0, hb⟩; refine ⟨_, rfl, ?_⟩; have n0_ := Aside0.mk (Kd.S_below (by (with_reducible repeat (first | apply Kd.S_alloc | apply Kd.S_drewN | apply Kd.S_drew)); exact HO217.out) hb); have n1_ := Aside0.mk (Kd.R_below (by (with_reducible repeat (first | apply Kd.R_alloc | apply Kd.R_drewN | apply Kd.R_drew)); exact HO220.out) hb); have n2_ := Aside0.mk (Kd.R_lower ho0 (below_size (by repeat (first | (with_reducible first | exact HB.out | apply below_alloc | apply pw_below_drewN | apply below_drew1) | exact HB.out)))); have n3_ := Aside0.mk (below_step (by repeat (first | (with_reducible first | exact HB.out | apply below_alloc | apply pw_below_drewN | apply below_drew1) | exact HB.out)) hb); clear HO217; clear HO220; clear HB; have HO217 := n0_; have HO220 := n1_; have HO223 := n2_; have HB := n3_; clear n0_ n1_ n2_ n3_; (try clear hb); (try clear hb2); (try clear hk); (try clear hi); (try clear ho0); obtain ⟨Ao45, co45, eo45⟩ := Kd.R_slice HO220.out; subst eo45; obtain ⟨Ao46, co46, eo46⟩ := Kd.R_slice HO223.out; subst eo46) | ((with_reducible refine gate_callee (f := 18) rfl ?_); refine goesL_ (some 29) rfl rfl Try.func18 (by kernel_rfl) rfl #[.slice Ao45 t218.length co45, .slice Ao46 t221.length co46] rfl (by (try simp only [List.map_toArray, List.map_cons, List.map_nil]); first | done | rfl | (simp only [List.length_drop, List.length_take]; rfl)) ?_; (with_reducible refine (arena_Cut.calls _ _ t218 _ _ t221 t224 t225 _ ?side1 ?side2 ?side3 ?side4 A8.out).mono ?_); (case side1 => repeat (first | exact (Kd.R_reads' HO220.out).2.2 | (with_reducible refine Kd.C_alloc ?_ _) | (with_reducible refine Kd.C_drewN ?_ _) | (with_reducible refine Kd.C_drew ?_))); (case side2 => exact (Kd.R_reads' HO220.out).2.1); (case side3 => repeat (first | exact (Kd.R_reads' HO223.out).2.2 | (with_reducible refine Kd.C_alloc ?_ _) | (with_reducible refine Kd.C_drewN ?_ _) | (with_reducible refine Kd.C_drew ?_))); (case side4 => exact (Kd.R_reads' HO223.out).2.1); rintro e w47 ⟨v226, rfl, ho0, hb⟩; refine ⟨_, rfl, ?_⟩; have n0_ := Aside0.mk (Kd.S_elder' (by (with_reducible repeat (first | apply Kd.S_alloc | apply Kd.S_drewN | apply Kd.S_drew)); exact HO217.out) (Kd.S_base ho0) hb); have n1_ := Aside0.mk (Kd.R_below (by (with_reducible repeat (first | apply Kd.R_alloc | apply Kd.R_drewN | apply Kd.R_drew)); exact HO220.out) hb); have n2_ := Aside0.mk (Kd.R_below (by (with_reducible repeat (first | apply Kd.R_alloc | apply Kd.R_drewN | apply Kd.R_drew)); exact HO223.out) hb); have n3_ := Aside0.mk (Kd.S_lower (Kd.S_new' ho0 (Kd.S_lt (by (with_reducible repeat (first | apply Kd.S_alloc | apply Kd.S_drewN | apply Kd.S_drew)); exact HO217.out))) (below_size (by repeat (first | (with_reducible first | exact HB.out | apply below_alloc | apply pw_below_drewN | apply below_drew1) | exact HB.out)))); have n4_ := Aside0.mk (below_step (by repeat (first | (with_reducible first | exact HB.out | apply below_alloc | apply pw_below_drewN | apply below_drew1) | exact HB.out)) hb); clear HO217; clear HO220; clear HO223; clear HB; have HO217 := n0_; have HO220 := n1_; have HO223 := n2_; have HO227 := n3_; have HB := n4_; clear n0_ n1_ n2_ n3_ n4_; (try clear hb); (try clear hb2); (try clear hk); (try clear hi); (try clear ho0); have p228 : 0 ≤ ((ji10) : Int) := of_decide_eq_true (by first | (with_reducible assumption) | assumption); have q228 : (ji10) < (t215.length : Int) := of_decide_eq_true (by first | (with_reducible assumption) | assumption); obtain ⟨ad228, A228_0, c228_0, e228, hx228_0, hl228_0, hi228_0⟩ := at_L1 (Kd.S_reads' HO217.out).2.2 (ji10) p228 q228; cases e228; obtain ⟨ce228, hce228, hMe228, hcc228⟩ := Kd.S_get HO217.out [] (ji10) p228 (by first | exact q228 | exact of_decide_eq_true (by first | (with_reducible assumption) | assumption) | (have e_ := (Kd.S_reads' HO217.out).1; omega)); obtain ⟨ve228_0, rfl, ge228_0⟩ := hMe228; have hv228_0 := hcc228 0 _ rfl; rw [Nat.add_zero, show ((Kd.slice 42 (Kd.int .u64))).sz = 1 from rfl, Nat.mul_one] at hv228_0; replace hv228_0 := Option.some.inj (hv228_0.symm.trans hx228_0); rw [hv228_0] at ge228_0; have HL228_0 := Aside0.mk (show Kd.R (Kd.int .u64) 42 _ _ _ _ (rd_L1 t215 (ji10)) from ge228_0); clear hv228_0 ge228_0; clear hcc228 hce228; have HR228_0 := Aside0.mk hi228_0; have HC228_0 := Aside0.mk hl228_0; clear hi228_0 hl228_0; replace p228 := eq_true p228; replace q228 := eq_true q228) | ((with_reducible refine gate_callee (f := 12) rfl ?_); refine goesL_ (some 43) rfl rfl Try.func12 (by kernel_rfl) rfl #[] rfl (by (try simp only [List.map_toArray, List.map_cons, List.map_nil]); first | done | rfl | (simp only [List.length_drop, List.length_take]; rfl)) ?_; (with_reducible refine (scullerlaw07_known.calls  true _ A14.out).mono ?_); rintro e w48 ⟨rfl, hb⟩; refine ⟨_, rfl, ?_⟩; have n0_ := Aside0.mk (Kd.S_below (by (with_reducible repeat (first | apply Kd.S_alloc | apply Kd.S_drewN | apply Kd.S_drew)); exact HO217.out) hb); have n1_ := Aside0.mk (Kd.R_below (by (with_reducible repeat (first | apply Kd.R_alloc | apply Kd.R_drewN | apply Kd.R_drew)); exact HO220.out) hb); have n2_ := Aside0.mk (Kd.R_below (by (with_reducible repeat (first | apply Kd.R_alloc | apply Kd.R_drewN | apply Kd.R_drew)); exact HO223.out) hb); have n3_ := Aside0.mk (Kd.S_below (by (with_reducible repeat (first | apply Kd.S_alloc | apply Kd.S_drewN | apply Kd.S_drew)); exact HO227.out) hb); have n4_ := Aside0.mk (Kd.R_below (by (with_reducible repeat (first | apply Kd.R_alloc | apply Kd.R_drewN | apply Kd.R_drew)); exact HL228_0.out) hb); have n5_ := Aside0.mk (Kd.C_below (by repeat (first | (with_reducible exact HR228_0.out) | (with_reducible refine Kd.C_alloc ?_ _) | (with_reducible refine Kd.C_drewN ?_ _) | (with_reducible refine Kd.C_drew ?_) | exact HR228_0.out)) hb); have n6_ := Aside0.mk (below_step (by repeat (first | (with_reducible first | exact HB.out | apply below_alloc | apply pw_below_drewN | apply below_drew1) | exact HB.out)) hb); clear HO217; clear HO220; clear HO223; clear HO227; clear HL228_0; clear HR228_0; clear HB; have HO217 := n0_; have HO220 := n1_; have HO223 := n2_; have HO227 := n3_; have HL228_0 := n4_; have HR228_0 := n5_; have HB := n6_; clear n0_ n1_ n2_ n3_ n4_ n5_ n6_; (try clear hb); (try clear hb2); (try clear hk); (try clear hi)))
              go_ret
              exact ⟨by first | rfl | (simp [errW_none, errW_some] <;> rfl) | (simp only [← hji10]; first | rfl | (simp [errW_none, errW_some] <;> rfl)) | (simp [*, errW_none, errW_some] <;> rfl), by repeat (first | (with_reducible first | exact HB.out | apply below_alloc | apply pw_below_drewN | apply below_drew1) | exact HB.out)⟩
          · replace c15 := Bool.eq_false_iff.mpr c15
            subst c15
            have H1 : (some false) = some r := by rw [if_neg (show ¬ (false = true) by decide)] at H; exact H
            clear H
            have H := H1
            clear H1
            obtain rfl := Option.some.inj H
            go_enter Try.func8, Try.ntmps8
            go_wp2_with (first | ((with_reducible refine gate_callee (f := 13) rfl ?_); refine goesL_ (some 21) rfl rfl Try.func13 (by kernel_rfl) rfl #[.slice A0 l0.length c0, .int .u8 a1] rfl (by (try simp only [List.map_toArray, List.map_cons, List.map_nil]); first | done | rfl | (simp only [List.length_drop, List.length_take]; rfl)) ?_; (with_reducible refine (scullerlaw07_Arena_c.calls _ _ l0 a1 t215 _ ?side1 ?side2 A5.out).mono ?_); (case side1 => repeat (first | exact HR0.out | (with_reducible refine Kd.C_alloc ?_ _) | (with_reducible refine Kd.C_drewN ?_ _) | (with_reducible refine Kd.C_drew ?_))); (case side2 => exact HC0.out); rintro e w49 ⟨v216, rfl, ho0, hb⟩; refine ⟨_, rfl, ?_⟩; have n0_ := Aside0.mk (Kd.S_lower ho0 (below_size (by repeat (first | (with_reducible first | exact HB.out | apply below_alloc | apply pw_below_drewN | apply below_drew1) | exact HB.out)))); have n1_ := Aside0.mk (below_step (by repeat (first | (with_reducible first | exact HB.out | apply below_alloc | apply pw_below_drewN | apply below_drew1) | exact HB.out)) hb); clear HB; have HO217 := n0_; have HB := n1_; clear n0_ n1_; (try clear hb); (try clear hb2); (try clear hk); (try clear hi); (try clear ho0); obtain ⟨Ao50, co50, eo50⟩ := Kd.S_slice HO217.out; subst eo50) | ((with_reducible refine gate_callee (f := 19) rfl ?_); refine goesL_ (some 23) rfl rfl Try.func19 (by kernel_rfl) rfl #[.slice Ao50 t215.length co50] rfl (by (try simp only [List.map_toArray, List.map_cons, List.map_nil]); first | done | rfl | (simp only [List.length_drop, List.length_take]; rfl)) ?_; (with_reducible refine (arena_Sizes_c.calls _ _ t215 t218 _ ?side1 ?side2 A6.out).mono ?_); (case side1 => repeat (first | exact (Kd.S_reads' HO217.out).2.2 | (with_reducible refine Kd.C_alloc ?_ _) | (with_reducible refine Kd.C_drewN ?_ _) | (with_reducible refine Kd.C_drew ?_))); (case side2 => exact (Kd.S_reads' HO217.out).2.1); rintro e w51 ⟨v219, rfl, ho0, hb⟩; refine ⟨_, rfl, ?_⟩; have n0_ := Aside0.mk (Kd.S_below (by (with_reducible repeat (first | apply Kd.S_alloc | apply Kd.S_drewN | apply Kd.S_drew)); exact HO217.out) hb); have n1_ := Aside0.mk (Kd.R_lower ho0 (below_size (by repeat (first | (with_reducible first | exact HB.out | apply below_alloc | apply pw_below_drewN | apply below_drew1) | exact HB.out)))); have n2_ := Aside0.mk (below_step (by repeat (first | (with_reducible first | exact HB.out | apply below_alloc | apply pw_below_drewN | apply below_drew1) | exact HB.out)) hb); clear HO217; clear HB; have HO217 := n0_; have HO220 := n1_; have HB := n2_; clear n0_ n1_ n2_; (try clear hb); (try clear hb2); (try clear hk); (try clear hi); (try clear ho0)) | ((with_reducible refine gate_callee (f := 17) rfl ?_); refine goesL_ (some 25) rfl rfl Try.func17 (by kernel_rfl) rfl #[.slice Ao50 t215.length co50] rfl (by (try simp only [List.map_toArray, List.map_cons, List.map_nil]); first | done | rfl | (simp only [List.length_drop, List.length_take]; rfl)) ?_; (with_reducible refine (arena_Bytes.calls _ _ t215 t221 _ ?side1 ?side2 A7.out).mono ?_); (case side1 => repeat (first | exact (Kd.S_reads' HO217.out).2.2 | (with_reducible refine Kd.C_alloc ?_ _) | (with_reducible refine Kd.C_drewN ?_ _) | (with_reducible refine Kd.C_drew ?_))); (case side2 => exact (Kd.S_reads' HO217.out).2.1); rintro e w52 ⟨v222, rfl, ho0, hb⟩; refine ⟨_, rfl, ?_⟩; have n0_ := Aside0.mk (Kd.S_below (by (with_reducible repeat (first | apply Kd.S_alloc | apply Kd.S_drewN | apply Kd.S_drew)); exact HO217.out) hb); have n1_ := Aside0.mk (Kd.R_below (by (with_reducible repeat (first | apply Kd.R_alloc | apply Kd.R_drewN | apply Kd.R_drew)); exact HO220.out) hb); have n2_ := Aside0.mk (Kd.R_lower ho0 (below_size (by repeat (first | (with_reducible first | exact HB.out | apply below_alloc | apply pw_below_drewN | apply below_drew1) | exact HB.out)))); have n3_ := Aside0.mk (below_step (by repeat (first | (with_reducible first | exact HB.out | apply below_alloc | apply pw_below_drewN | apply below_drew1) | exact HB.out)) hb); clear HO217; clear HO220; clear HB; have HO217 := n0_; have HO220 := n1_; have HO223 := n2_; have HB := n3_; clear n0_ n1_ n2_ n3_; (try clear hb); (try clear hb2); (try clear hk); (try clear hi); (try clear ho0); obtain ⟨Ao53, co53, eo53⟩ := Kd.R_slice HO220.out; subst eo53; obtain ⟨Ao54, co54, eo54⟩ := Kd.R_slice HO223.out; subst eo54) | ((with_reducible refine gate_callee (f := 18) rfl ?_); refine goesL_ (some 29) rfl rfl Try.func18 (by kernel_rfl) rfl #[.slice Ao53 t218.length co53, .slice Ao54 t221.length co54] rfl (by (try simp only [List.map_toArray, List.map_cons, List.map_nil]); first | done | rfl | (simp only [List.length_drop, List.length_take]; rfl)) ?_; (with_reducible refine (arena_Cut.calls _ _ t218 _ _ t221 t224 t225 _ ?side1 ?side2 ?side3 ?side4 A8.out).mono ?_); (case side1 => repeat (first | exact (Kd.R_reads' HO220.out).2.2 | (with_reducible refine Kd.C_alloc ?_ _) | (with_reducible refine Kd.C_drewN ?_ _) | (with_reducible refine Kd.C_drew ?_))); (case side2 => exact (Kd.R_reads' HO220.out).2.1); (case side3 => repeat (first | exact (Kd.R_reads' HO223.out).2.2 | (with_reducible refine Kd.C_alloc ?_ _) | (with_reducible refine Kd.C_drewN ?_ _) | (with_reducible refine Kd.C_drew ?_))); (case side4 => exact (Kd.R_reads' HO223.out).2.1); rintro e w55 ⟨v226, rfl, ho0, hb⟩; refine ⟨_, rfl, ?_⟩; have n0_ := Aside0.mk (Kd.S_elder' (by (with_reducible repeat (first | apply Kd.S_alloc | apply Kd.S_drewN | apply Kd.S_drew)); exact HO217.out) (Kd.S_base ho0) hb); have n1_ := Aside0.mk (Kd.R_below (by (with_reducible repeat (first | apply Kd.R_alloc | apply Kd.R_drewN | apply Kd.R_drew)); exact HO220.out) hb); have n2_ := Aside0.mk (Kd.R_below (by (with_reducible repeat (first | apply Kd.R_alloc | apply Kd.R_drewN | apply Kd.R_drew)); exact HO223.out) hb); have n3_ := Aside0.mk (Kd.S_lower (Kd.S_new' ho0 (Kd.S_lt (by (with_reducible repeat (first | apply Kd.S_alloc | apply Kd.S_drewN | apply Kd.S_drew)); exact HO217.out))) (below_size (by repeat (first | (with_reducible first | exact HB.out | apply below_alloc | apply pw_below_drewN | apply below_drew1) | exact HB.out)))); have n4_ := Aside0.mk (below_step (by repeat (first | (with_reducible first | exact HB.out | apply below_alloc | apply pw_below_drewN | apply below_drew1) | exact HB.out)) hb); clear HO217; clear HO220; clear HO223; clear HB; have HO217 := n0_; have HO220 := n1_; have HO223 := n2_; have HO227 := n3_; have HB := n4_; clear n0_ n1_ n2_ n3_ n4_; (try clear hb); (try clear hb2); (try clear hk); (try clear hi); (try clear ho0); have p228 : 0 ≤ ((ji10) : Int) := of_decide_eq_true (by first | (with_reducible assumption) | assumption); have q228 : (ji10) < (t215.length : Int) := of_decide_eq_true (by first | (with_reducible assumption) | assumption); obtain ⟨ad228, A228_0, c228_0, e228, hx228_0, hl228_0, hi228_0⟩ := at_L1 (Kd.S_reads' HO217.out).2.2 (ji10) p228 q228; cases e228; obtain ⟨ce228, hce228, hMe228, hcc228⟩ := Kd.S_get HO217.out [] (ji10) p228 (by first | exact q228 | exact of_decide_eq_true (by first | (with_reducible assumption) | assumption) | (have e_ := (Kd.S_reads' HO217.out).1; omega)); obtain ⟨ve228_0, rfl, ge228_0⟩ := hMe228; have hv228_0 := hcc228 0 _ rfl; rw [Nat.add_zero, show ((Kd.slice 42 (Kd.int .u64))).sz = 1 from rfl, Nat.mul_one] at hv228_0; replace hv228_0 := Option.some.inj (hv228_0.symm.trans hx228_0); rw [hv228_0] at ge228_0; have HL228_0 := Aside0.mk (show Kd.R (Kd.int .u64) 42 _ _ _ _ (rd_L1 t215 (ji10)) from ge228_0); clear hv228_0 ge228_0; clear hcc228 hce228; have HR228_0 := Aside0.mk hi228_0; have HC228_0 := Aside0.mk hl228_0; clear hi228_0 hl228_0; replace p228 := eq_true p228; replace q228 := eq_true q228) | ((with_reducible refine gate_callee (f := 12) rfl ?_); refine goesL_ (some 43) rfl rfl Try.func12 (by kernel_rfl) rfl #[] rfl (by (try simp only [List.map_toArray, List.map_cons, List.map_nil]); first | done | rfl | (simp only [List.length_drop, List.length_take]; rfl)) ?_; (with_reducible refine (scullerlaw07_known.calls  false _ A14.out).mono ?_); rintro e w56 ⟨rfl, hb⟩; refine ⟨_, rfl, ?_⟩; have n0_ := Aside0.mk (Kd.S_below (by (with_reducible repeat (first | apply Kd.S_alloc | apply Kd.S_drewN | apply Kd.S_drew)); exact HO217.out) hb); have n1_ := Aside0.mk (Kd.R_below (by (with_reducible repeat (first | apply Kd.R_alloc | apply Kd.R_drewN | apply Kd.R_drew)); exact HO220.out) hb); have n2_ := Aside0.mk (Kd.R_below (by (with_reducible repeat (first | apply Kd.R_alloc | apply Kd.R_drewN | apply Kd.R_drew)); exact HO223.out) hb); have n3_ := Aside0.mk (Kd.S_below (by (with_reducible repeat (first | apply Kd.S_alloc | apply Kd.S_drewN | apply Kd.S_drew)); exact HO227.out) hb); have n4_ := Aside0.mk (Kd.R_below (by (with_reducible repeat (first | apply Kd.R_alloc | apply Kd.R_drewN | apply Kd.R_drew)); exact HL228_0.out) hb); have n5_ := Aside0.mk (Kd.C_below (by repeat (first | (with_reducible exact HR228_0.out) | (with_reducible refine Kd.C_alloc ?_ _) | (with_reducible refine Kd.C_drewN ?_ _) | (with_reducible refine Kd.C_drew ?_) | exact HR228_0.out)) hb); have n6_ := Aside0.mk (below_step (by repeat (first | (with_reducible first | exact HB.out | apply below_alloc | apply pw_below_drewN | apply below_drew1) | exact HB.out)) hb); clear HO217; clear HO220; clear HO223; clear HO227; clear HL228_0; clear HR228_0; clear HB; have HO217 := n0_; have HO220 := n1_; have HO223 := n2_; have HO227 := n3_; have HL228_0 := n4_; have HR228_0 := n5_; have HB := n6_; clear n0_ n1_ n2_ n3_ n4_ n5_ n6_; (try clear hb); (try clear hb2); (try clear hk); (try clear hi)))
            go_ret
            exact ⟨by first | rfl | (simp [errW_none, errW_some] <;> rfl) | (simp only [← hji10]; first | rfl | (simp [errW_none, errW_some] <;> rfl)) | (simp [*, errW_none, errW_some] <;> rfl), by repeat (first | (with_reducible first | exact HB.out | apply below_alloc | apply pw_below_drewN | apply below_drew1) | exact HB.out)⟩
        · rw [if_neg c13] at H
          have c13b0 : (((rd_L1 t215 (ji10)).length : Int) == 0) = false := beq_eq_false_iff_ne.mpr c13
          have c13b1 : (((rd_L1 t215 (ji10)).length : Int) != 0) = true := bne_iff_ne.mpr c13
          have c13b2 : ¬ ((rd_L1 t215 (ji10)) = []) := fun h_ => c13 (by rw [h_]; rfl)
          replace H := Option.bind_eq_some_iff.mp H
          obtain ⟨t233, A570, H⟩ := H
          replace H : (if t233 < 0 then (scullerlaw07_ArenaBack.j0 k t215 t221 t224 t225 ji10 (Int.tmod (wrap64 (a3)) ((rd_L1 t215 (ji10)).length : Int)) t233 true) else (scullerlaw07_ArenaBack.j0 k t215 t221 t224 t225 ji10 (Int.tmod (wrap64 (a3)) ((rd_L1 t215 (ji10)).length : Int)) t233 (decide ((wrap64 ((wrap64 (8 * t233)) + 8)) > (t221.length : Int))))) = some r := H
          have A57 := Aside0.mk A570
          clear A570
          have HC58 := Aside0.mk H
          clear H
          go_enter Try.func8, Try.ntmps8
          go_upto_region 10 with (first | ((with_reducible refine gate_callee (f := 13) rfl ?_); refine goesL_ (some 21) rfl rfl Try.func13 (by kernel_rfl) rfl #[.slice A0 l0.length c0, .int .u8 a1] rfl (by (try simp only [List.map_toArray, List.map_cons, List.map_nil]); first | done | rfl | (simp only [List.length_drop, List.length_take]; rfl)) ?_; (with_reducible refine (scullerlaw07_Arena_c.calls _ _ l0 a1 t215 _ ?side1 ?side2 A5.out).mono ?_); (case side1 => repeat (first | exact HR0.out | (with_reducible refine Kd.C_alloc ?_ _) | (with_reducible refine Kd.C_drewN ?_ _) | (with_reducible refine Kd.C_drew ?_))); (case side2 => exact HC0.out); rintro e w59 ⟨v216, rfl, ho0, hb⟩; refine ⟨_, rfl, ?_⟩; have n0_ := Aside0.mk (Kd.S_lower ho0 (below_size (by repeat (first | (with_reducible first | exact HB.out | apply below_alloc | apply pw_below_drewN | apply below_drew1) | exact HB.out)))); have n1_ := Aside0.mk (below_step (by repeat (first | (with_reducible first | exact HB.out | apply below_alloc | apply pw_below_drewN | apply below_drew1) | exact HB.out)) hb); clear HB; have HO217 := n0_; have HB := n1_; clear n0_ n1_; (try clear hb); (try clear hb2); (try clear hk); (try clear hi); (try clear ho0); obtain ⟨Ao60, co60, eo60⟩ := Kd.S_slice HO217.out; subst eo60) | ((with_reducible refine gate_callee (f := 19) rfl ?_); refine goesL_ (some 23) rfl rfl Try.func19 (by kernel_rfl) rfl #[.slice Ao60 t215.length co60] rfl (by (try simp only [List.map_toArray, List.map_cons, List.map_nil]); first | done | rfl | (simp only [List.length_drop, List.length_take]; rfl)) ?_; (with_reducible refine (arena_Sizes_c.calls _ _ t215 t218 _ ?side1 ?side2 A6.out).mono ?_); (case side1 => repeat (first | exact (Kd.S_reads' HO217.out).2.2 | (with_reducible refine Kd.C_alloc ?_ _) | (with_reducible refine Kd.C_drewN ?_ _) | (with_reducible refine Kd.C_drew ?_))); (case side2 => exact (Kd.S_reads' HO217.out).2.1); rintro e w61 ⟨v219, rfl, ho0, hb⟩; refine ⟨_, rfl, ?_⟩; have n0_ := Aside0.mk (Kd.S_below (by (with_reducible repeat (first | apply Kd.S_alloc | apply Kd.S_drewN | apply Kd.S_drew)); exact HO217.out) hb); have n1_ := Aside0.mk (Kd.R_lower ho0 (below_size (by repeat (first | (with_reducible first | exact HB.out | apply below_alloc | apply pw_below_drewN | apply below_drew1) | exact HB.out)))); have n2_ := Aside0.mk (below_step (by repeat (first | (with_reducible first | exact HB.out | apply below_alloc | apply pw_below_drewN | apply below_drew1) | exact HB.out)) hb); clear HO217; clear HB; have HO217 := n0_; have HO220 := n1_; have HB := n2_; clear n0_ n1_ n2_; (try clear hb); (try clear hb2); (try clear hk); (try clear hi); (try clear ho0)) | ((with_reducible refine gate_callee (f := 17) rfl ?_); refine goesL_ (some 25) rfl rfl Try.func17 (by kernel_rfl) rfl #[.slice Ao60 t215.length co60] rfl (by (try simp only [List.map_toArray, List.map_cons, List.map_nil]); first | done | rfl | (simp only [List.length_drop, List.length_take]; rfl)) ?_; (with_reducible refine (arena_Bytes.calls _ _ t215 t221 _ ?side1 ?side2 A7.out).mono ?_); (case side1 => repeat (first | exact (Kd.S_reads' HO217.out).2.2 | (with_reducible refine Kd.C_alloc ?_ _) | (with_reducible refine Kd.C_drewN ?_ _) | (with_reducible refine Kd.C_drew ?_))); (case side2 => exact (Kd.S_reads' HO217.out).2.1); rintro e w62 ⟨v222, rfl, ho0, hb⟩; refine ⟨_, rfl, ?_⟩; have n0_ := Aside0.mk (Kd.S_below (by (with_reducible repeat (first | apply Kd.S_alloc | apply Kd.S_drewN | apply Kd.S_drew)); exact HO217.out) hb); have n1_ := Aside0.mk (Kd.R_below (by (with_reducible repeat (first | apply Kd.R_alloc | apply Kd.R_drewN | apply Kd.R_drew)); exact HO220.out) hb); have n2_ := Aside0.mk (Kd.R_lower ho0 (below_size (by repeat (first | (with_reducible first | exact HB.out | apply below_alloc | apply pw_below_drewN | apply below_drew1) | exact HB.out)))); have n3_ := Aside0.mk (below_step (by repeat (first | (with_reducible first | exact HB.out | apply below_alloc | apply pw_below_drewN | apply below_drew1) | exact HB.out)) hb); clear HO217; clear HO220; clear HB; have HO217 := n0_; have HO220 := n1_; have HO223 := n2_; have HB := n3_; clear n0_ n1_ n2_ n3_; (try clear hb); (try clear hb2); (try clear hk); (try clear hi); (try clear ho0); obtain ⟨Ao63, co63, eo63⟩ := Kd.R_slice HO220.out; subst eo63; obtain ⟨Ao64, co64, eo64⟩ := Kd.R_slice HO223.out; subst eo64) | ((with_reducible refine gate_callee (f := 18) rfl ?_); refine goesL_ (some 29) rfl rfl Try.func18 (by kernel_rfl) rfl #[.slice Ao63 t218.length co63, .slice Ao64 t221.length co64] rfl (by (try simp only [List.map_toArray, List.map_cons, List.map_nil]); first | done | rfl | (simp only [List.length_drop, List.length_take]; rfl)) ?_; (with_reducible refine (arena_Cut.calls _ _ t218 _ _ t221 t224 t225 _ ?side1 ?side2 ?side3 ?side4 A8.out).mono ?_); (case side1 => repeat (first | exact (Kd.R_reads' HO220.out).2.2 | (with_reducible refine Kd.C_alloc ?_ _) | (with_reducible refine Kd.C_drewN ?_ _) | (with_reducible refine Kd.C_drew ?_))); (case side2 => exact (Kd.R_reads' HO220.out).2.1); (case side3 => repeat (first | exact (Kd.R_reads' HO223.out).2.2 | (with_reducible refine Kd.C_alloc ?_ _) | (with_reducible refine Kd.C_drewN ?_ _) | (with_reducible refine Kd.C_drew ?_))); (case side4 => exact (Kd.R_reads' HO223.out).2.1); rintro e w65 ⟨v226, rfl, ho0, hb⟩; refine ⟨_, rfl, ?_⟩; have n0_ := Aside0.mk (Kd.S_elder' (by (with_reducible repeat (first | apply Kd.S_alloc | apply Kd.S_drewN | apply Kd.S_drew)); exact HO217.out) (Kd.S_base ho0) hb); have n1_ := Aside0.mk (Kd.R_below (by (with_reducible repeat (first | apply Kd.R_alloc | apply Kd.R_drewN | apply Kd.R_drew)); exact HO220.out) hb); have n2_ := Aside0.mk (Kd.R_below (by (with_reducible repeat (first | apply Kd.R_alloc | apply Kd.R_drewN | apply Kd.R_drew)); exact HO223.out) hb); have n3_ := Aside0.mk (Kd.S_lower (Kd.S_new' ho0 (Kd.S_lt (by (with_reducible repeat (first | apply Kd.S_alloc | apply Kd.S_drewN | apply Kd.S_drew)); exact HO217.out))) (below_size (by repeat (first | (with_reducible first | exact HB.out | apply below_alloc | apply pw_below_drewN | apply below_drew1) | exact HB.out)))); have n4_ := Aside0.mk (below_step (by repeat (first | (with_reducible first | exact HB.out | apply below_alloc | apply pw_below_drewN | apply below_drew1) | exact HB.out)) hb); clear HO217; clear HO220; clear HO223; clear HB; have HO217 := n0_; have HO220 := n1_; have HO223 := n2_; have HO227 := n3_; have HB := n4_; clear n0_ n1_ n2_ n3_ n4_; (try clear hb); (try clear hb2); (try clear hk); (try clear hi); (try clear ho0); have p228 : 0 ≤ ((ji10) : Int) := of_decide_eq_true (by first | (with_reducible assumption) | assumption); have q228 : (ji10) < (t215.length : Int) := of_decide_eq_true (by first | (with_reducible assumption) | assumption); obtain ⟨ad228, A228_0, c228_0, e228, hx228_0, hl228_0, hi228_0⟩ := at_L1 (Kd.S_reads' HO217.out).2.2 (ji10) p228 q228; cases e228; obtain ⟨ce228, hce228, hMe228, hcc228⟩ := Kd.S_get HO217.out [] (ji10) p228 (by first | exact q228 | exact of_decide_eq_true (by first | (with_reducible assumption) | assumption) | (have e_ := (Kd.S_reads' HO217.out).1; omega)); obtain ⟨ve228_0, rfl, ge228_0⟩ := hMe228; have hv228_0 := hcc228 0 _ rfl; rw [Nat.add_zero, show ((Kd.slice 42 (Kd.int .u64))).sz = 1 from rfl, Nat.mul_one] at hv228_0; replace hv228_0 := Option.some.inj (hv228_0.symm.trans hx228_0); rw [hv228_0] at ge228_0; have HL228_0 := Aside0.mk (show Kd.R (Kd.int .u64) 42 _ _ _ _ (rd_L1 t215 (ji10)) from ge228_0); clear hv228_0 ge228_0; clear hcc228 hce228; have HR228_0 := Aside0.mk hi228_0; have HC228_0 := Aside0.mk hl228_0; clear hi228_0 hl228_0; replace p228 := eq_true p228; replace q228 := eq_true q228; have p232 : 0 ≤ ((ji10) : Int) := of_decide_eq_true (by first | (with_reducible assumption) | assumption); have q232 : (ji10) < (t215.length : Int) := of_decide_eq_true (by first | (with_reducible assumption) | assumption); obtain ⟨ad232, A232_0, c232_0, e232, hx232_0, hl232_0, hi232_0⟩ := at_L1 (Kd.S_reads' HO217.out).2.2 (ji10) p232 q232; obtain rfl : ad228 = ad232 := (by injection e232); obtain ⟨ce232, hce232, hMe232, hcc232⟩ := Kd.S_get HO217.out [] (ji10) p232 (by first | exact q232 | exact of_decide_eq_true (by first | (with_reducible assumption) | assumption) | (have e_ := (Kd.S_reads' HO217.out).1; omega)); obtain ⟨ve232_0, rfl, ge232_0⟩ := hMe232; have hv232_0 := hcc232 0 _ rfl; rw [Nat.add_zero, show ((Kd.slice 42 (Kd.int .u64))).sz = 1 from rfl, Nat.mul_one] at hv232_0; replace hv232_0 := Option.some.inj (hv232_0.symm.trans hx232_0); rw [hv232_0] at ge232_0; have HL232_0 := Aside0.mk (show Kd.R (Kd.int .u64) 42 _ _ _ _ (rd_L1 t215 (ji10)) from ge232_0); clear hv232_0 ge232_0; clear hcc232 hce232; have HR232_0 := Aside0.mk hi232_0; have HC232_0 := Aside0.mk hl232_0; clear hi232_0 hl232_0; replace p232 := eq_true p232; replace q232 := eq_true q232; have ea_ := Option.some.inj (hx228_0.symm.trans hx232_0); injection ea_ with ea_ en_ ec_; subst ea_; subst ec_; clear en_) | ((with_reducible refine gate_callee (f := 35) rfl ?_); refine goesL_ (some 70) rfl rfl Try.func35 (by kernel_rfl) rfl #[.slice Ao63 t218.length co63, .int .i64 ji10, .int .i64 (Int.tmod (wrap64 (a3)) ((rd_L1 t215 (ji10)).length : Int))] rfl (by (try simp only [List.map_toArray, List.map_cons, List.map_nil]); first | done | (simp only [hji10]; rfl) | rfl | (simp only [List.length_drop, List.length_take]; rfl)) ?_; (with_reducible refine (arena_Place.calls _ _ t218 ji10 (Int.tmod (wrap64 (a3)) ((rd_L1 t215 (ji10)).length : Int)) t233 _ ?side1 ?side2 A57.out).mono ?_); (case side1 => repeat (first | exact (Kd.R_reads' HO220.out).2.2 | (with_reducible refine Kd.C_alloc ?_ _) | (with_reducible refine Kd.C_drewN ?_ _) | (with_reducible refine Kd.C_drew ?_))); (case side2 => exact (Kd.R_reads' HO220.out).2.1); rintro e w66 ⟨rfl, hb⟩; refine ⟨_, rfl, ?_⟩; have n0_ := Aside0.mk (Kd.S_below (by (with_reducible repeat (first | apply Kd.S_alloc | apply Kd.S_drewN | apply Kd.S_drew)); exact HO217.out) hb); have n1_ := Aside0.mk (Kd.R_below (by (with_reducible repeat (first | apply Kd.R_alloc | apply Kd.R_drewN | apply Kd.R_drew)); exact HO220.out) hb); have n2_ := Aside0.mk (Kd.R_below (by (with_reducible repeat (first | apply Kd.R_alloc | apply Kd.R_drewN | apply Kd.R_drew)); exact HO223.out) hb); have n3_ := Aside0.mk (Kd.S_below (by (with_reducible repeat (first | apply Kd.S_alloc | apply Kd.S_drewN | apply Kd.S_drew)); exact HO227.out) hb); have n4_ := Aside0.mk (Kd.R_below (by (with_reducible repeat (first | apply Kd.R_alloc | apply Kd.R_drewN | apply Kd.R_drew)); exact HL228_0.out) hb); have n5_ := Aside0.mk (Kd.R_below (by (with_reducible repeat (first | apply Kd.R_alloc | apply Kd.R_drewN | apply Kd.R_drew)); exact HL232_0.out) hb); have n6_ := Aside0.mk (Kd.C_below (by repeat (first | (with_reducible exact HR228_0.out) | (with_reducible refine Kd.C_alloc ?_ _) | (with_reducible refine Kd.C_drewN ?_ _) | (with_reducible refine Kd.C_drew ?_) | exact HR228_0.out)) hb); have n7_ := Aside0.mk (Kd.C_below (by repeat (first | (with_reducible exact HR232_0.out) | (with_reducible refine Kd.C_alloc ?_ _) | (with_reducible refine Kd.C_drewN ?_ _) | (with_reducible refine Kd.C_drew ?_) | exact HR232_0.out)) hb); have n8_ := Aside0.mk (below_step (by repeat (first | (with_reducible first | exact HB.out | apply below_alloc | apply pw_below_drewN | apply below_drew1) | exact HB.out)) hb); clear HO217; clear HO220; clear HO223; clear HO227; clear HL228_0; clear HL232_0; clear HR228_0; clear HR232_0; clear HB; have HO217 := n0_; have HO220 := n1_; have HO223 := n2_; have HO227 := n3_; have HL228_0 := n4_; have HL232_0 := n5_; have HR228_0 := n6_; have HR232_0 := n7_; have HB := n8_; clear n0_ n1_ n2_ n3_ n4_ n5_ n6_ n7_ n8_; (try clear hb); (try clear hb2); (try clear hk); (try clear hi)))
          (try simp only [Act.put, List.setIfInBounds_toArray, List.set_cons_zero, List.set_cons_succ])
          go_cut [80] (fun v80 wc => ∃ (kq : Nat) (x80_57 : Bool), v80 = .bool x80_57 ∧ Aside0 (scullerlaw07_ArenaBack.j0 kq t215 t221 t224 t225 ji10 (Int.tmod (wrap64 (a3)) ((rd_L1 t215 (ji10)).length : Int)) t233 x80_57 = some r) ∧ Aside0 (kq ≤ k) ∧ Aside0 (Kd.S (Kd.slice 42 (Kd.int .u64)) 37 wc w.heap.size (fun k_ => some k_ ≠ (v226 : Value).ownBlock) (.slice (some ad228) t215.length co60) t215) ∧ Aside0 (Kd.R (Kd.int .u8) 5 wc w.heap.size (fun _ => True) (.slice Ao64 t221.length co64) t221) ∧ Aside0 (Kd.S (Kd.slice 42 (Kd.int .u64)) 37 wc w.heap.size (fun k_ => some k_ ≠ ((.slice (some ad228) t215.length co60) : Value).ownBlock) v226 t224) ∧ Aside0 (Kd.C (Kd.int .u64) wc A228_0 (rd_L1 t215 (ji10)).length (rd_L1 t215 (ji10))) ∧ Aside0 (Kd.C (Kd.int .u64) wc A228_0 (rd_L1 t215 (ji10)).length (rd_L1 t215 (ji10))) ∧ Aside0 (Below w.heap.size w wc))
          case first =>
            have H := HC58.out
            clear HC58
            by_cases c67 : t233 < 0
            · rw [if_pos c67] at H
              have c67b0 : decide (t233 < 0) = true := decide_eq_true c67
              clear c67
              (first | rw [c67b0] | (simp only [i64_w, i32_w]; rw [c67b0]) | skip)
              have H' := Aside0.mk H
              clear H
              go_wp2
              go_meet
              case rel => exact ⟨_, (true), (by first | rfl | (simp; done) | (simp [*]; done)), H', ⟨by first | omega | exact Nat.le_refl _⟩, ⟨by (with_reducible repeat (first | apply Kd.S_alloc | apply Kd.S_drewN | apply Kd.S_drew)); exact Kd.S_mono HO217.out (fun _ hk => hk.2)⟩, ⟨by (with_reducible repeat (first | apply Kd.R_alloc | apply Kd.R_drewN | apply Kd.R_drew)); exact HO223.out⟩, ⟨by (with_reducible repeat (first | apply Kd.S_alloc | apply Kd.S_drewN | apply Kd.S_drew)); exact Kd.S_mono HO227.out (fun _ hk => hk.2)⟩, ⟨by repeat (first | (with_reducible exact HR228_0.out) | (with_reducible refine Kd.C_alloc ?_ _) | (with_reducible refine Kd.C_drewN ?_ _) | (with_reducible refine Kd.C_drew ?_) | exact HR228_0.out)⟩, ⟨by repeat (first | (with_reducible exact HR232_0.out) | (with_reducible refine Kd.C_alloc ?_ _) | (with_reducible refine Kd.C_drewN ?_ _) | (with_reducible refine Kd.C_drew ?_) | exact HR232_0.out)⟩, ⟨by repeat (first | (with_reducible first | exact HB.out | apply below_alloc | apply pw_below_drewN | apply below_drew1) | exact HB.out)⟩⟩
            · rw [if_neg c67] at H
              have c67b0 : decide (t233 < 0) = false := decide_eq_false c67
              clear c67
              (first | rw [c67b0] | (simp only [i64_w, i32_w]; rw [c67b0]) | skip)
              have H' := Aside0.mk H
              clear H
              go_wp2
              go_meet
              case rel => exact ⟨_, (decide ((wrap64 ((wrap64 (8 * t233)) + 8)) > (t221.length : Int))), (by first | rfl | (simp; done) | (simp [*]; done)), H', ⟨by first | omega | exact Nat.le_refl _⟩, ⟨by (with_reducible repeat (first | apply Kd.S_alloc | apply Kd.S_drewN | apply Kd.S_drew)); exact Kd.S_mono HO217.out (fun _ hk => hk.2)⟩, ⟨by (with_reducible repeat (first | apply Kd.R_alloc | apply Kd.R_drewN | apply Kd.R_drew)); exact HO223.out⟩, ⟨by (with_reducible repeat (first | apply Kd.S_alloc | apply Kd.S_drewN | apply Kd.S_drew)); exact Kd.S_mono HO227.out (fun _ hk => hk.2)⟩, ⟨by repeat (first | (with_reducible exact HR228_0.out) | (with_reducible refine Kd.C_alloc ?_ _) | (with_reducible refine Kd.C_drewN ?_ _) | (with_reducible refine Kd.C_drew ?_) | exact HR228_0.out)⟩, ⟨by repeat (first | (with_reducible exact HR232_0.out) | (with_reducible refine Kd.C_alloc ?_ _) | (with_reducible refine Kd.C_drewN ?_ _) | (with_reducible refine Kd.C_drew ?_) | exact HR232_0.out)⟩, ⟨by repeat (first | (with_reducible first | exact HB.out | apply below_alloc | apply pw_below_drewN | apply below_drew1) | exact HB.out)⟩⟩
          case rest =>
            clear HC58
            try clear c1
            try clear c2
            try clear p2
            try clear q2
            try clear hx2
            try clear c3
            try clear c6
            try clear p6
            try clear c8
            try clear c9
            try clear c9b0
            try clear c9b1
            try clear c9b2
            try clear c11
            try clear c11b0
            try clear c12
            try clear c12b0
            try clear c13
            try clear c13b0
            try clear c13b1
            try clear c13b2
            try clear c15
            try clear c16
            try clear c16b0
            try clear c16b1
            try clear c17
            try clear c18
            try clear c19
            try clear c22
            try clear p22
            try clear q22
            try clear hx22
            try clear c23
            try clear p23
            try clear q23
            try clear hx23
            try clear c35
            try clear p64
            try clear c67
            try clear c67b0
            try clear hx228_0
            try clear hx232_0
            try clear p228
            try clear p232
            try clear q228
            try clear q232
            obtain ⟨kq, x80_57, rfl, HA, HJ57, HO_9, HO_11, HO_12, HR228_0, HR232_0, HB⟩ := hcut
            cases kq with
            | zero => exact absurd HA.out (by simp [scullerlaw07_ArenaBack.j0])
            | succ kj57 =>
              have H := HA.out
              clear HA
              simp only [scullerlaw07_ArenaBack.j0] at H
              by_cases c68 : x80_57 = true
              · subst c68
                have H1 : (some false) = some r := by rw [if_pos rfl] at H; exact H
                clear H
                have H := H1
                clear H1
                obtain rfl := Option.some.inj H
                go_wp2
                go_ret
                exact ⟨by first | rfl | (simp [errW_none, errW_some] <;> rfl) | (simp only [← hji10]; first | rfl | (simp [errW_none, errW_some] <;> rfl)) | (simp [*, errW_none, errW_some] <;> rfl), by repeat (first | (with_reducible first | exact HB.out | apply below_alloc | apply pw_below_drewN | apply below_drew1) | exact HB.out)⟩
              · replace c68 := Bool.eq_false_iff.mpr c68
                subst c68
                have H1 : (scullerlaw07_ArenaBack.l0 kj57 t215 t221 t224 t225 ji10 (Int.tmod (wrap64 (a3)) ((rd_L1 t215 (ji10)).length : Int)) t233 0 7) = some r := by rw [if_neg (show ¬ (false = true) by decide)] at H; exact H
                clear H
                have H := H1
                clear H1
                have H' := Aside0.mk H
                clear H
                go_wp2
                go_loopg [17, 18] kj57 (fun kq v17 v18 w' => ∃ (x17_2 : Int) (x18_2 : Int), v17 = .int .u64 x17_2 ∧ v18 = .int .i64 x18_2 ∧ Aside0 (scullerlaw07_ArenaBack.l0 kq t215 t221 t224 t225 ji10 (Int.tmod (wrap64 (a3)) ((rd_L1 t215 (ji10)).length : Int)) t233 x17_2 x18_2 = some r) ∧ Aside0 (kq ≤ kj57) ∧ Aside0 (Kd.S (Kd.slice 42 (Kd.int .u64)) 37 w' w.heap.size (fun k_ => some k_ ≠ (v226 : Value).ownBlock) (.slice (some ad228) t215.length co60) t215) ∧ Aside0 (Kd.R (Kd.int .u8) 5 w' w.heap.size (fun _ => True) (.slice Ao64 t221.length co64) t221) ∧ Aside0 (Kd.S (Kd.slice 42 (Kd.int .u64)) 37 w' w.heap.size (fun k_ => some k_ ≠ ((.slice (some ad228) t215.length co60) : Value).ownBlock) v226 t224) ∧ Aside0 (Kd.C (Kd.int .u64) w' A228_0 (rd_L1 t215 (ji10)).length (rd_L1 t215 (ji10))) ∧ Aside0 (Kd.C (Kd.int .u64) w' A228_0 (rd_L1 t215 (ji10)).length (rd_L1 t215 (ji10))) ∧ Aside0 (Below w.heap.size w w'))
                case atStart => exact ⟨(0), (7), (by first | rfl | (simp; done) | (simp [*]; done)), (by first | rfl | (simp; done) | (simp [*]; done)), H', ⟨Nat.le_refl _⟩, ⟨by (with_reducible repeat (first | apply Kd.S_alloc | apply Kd.S_drewN | apply Kd.S_drew)); exact HO_9.out⟩, ⟨by (with_reducible repeat (first | apply Kd.R_alloc | apply Kd.R_drewN | apply Kd.R_drew)); exact HO_11.out⟩, ⟨by (with_reducible repeat (first | apply Kd.S_alloc | apply Kd.S_drewN | apply Kd.S_drew)); exact HO_12.out⟩, ⟨by repeat (first | (with_reducible exact HR228_0.out) | (with_reducible refine Kd.C_alloc ?_ _) | (with_reducible refine Kd.C_drewN ?_ _) | (with_reducible refine Kd.C_drew ?_) | exact HR228_0.out)⟩, ⟨by repeat (first | (with_reducible exact HR232_0.out) | (with_reducible refine Kd.C_alloc ?_ _) | (with_reducible refine Kd.C_drewN ?_ _) | (with_reducible refine Kd.C_drew ?_) | exact HR232_0.out)⟩, ⟨by repeat (first | (with_reducible first | exact HB.out | apply below_alloc | apply pw_below_drewN | apply below_drew1) | exact HB.out)⟩⟩
                case round =>
                  clear H'
                  try clear c1
                  try clear c2
                  try clear p2
                  try clear q2
                  try clear hx2
                  try clear c3
                  try clear c6
                  try clear p6
                  try clear c8
                  try clear c9
                  try clear c9b0
                  try clear c9b1
                  try clear c9b2
                  try clear c11
                  try clear c11b0
                  try clear c12
                  try clear c12b0
                  try clear c13
                  try clear c13b0
                  try clear c13b1
                  try clear c13b2
                  try clear c15
                  try clear c16
                  try clear c16b0
                  try clear c16b1
                  try clear c17
                  try clear c18
                  try clear c19
                  try clear c22
                  try clear p22
                  try clear q22
                  try clear hx22
                  try clear c23
                  try clear p23
                  try clear q23
                  try clear hx23
                  try clear c35
                  try clear p64
                  try clear c67
                  try clear c67b0
                  try clear c68
                  try clear hx228_0
                  try clear hx232_0
                  try clear p2
                  try clear p22
                  try clear p228
                  try clear p23
                  try clear p232
                  try clear p6
                  try clear p64
                  try clear q2
                  try clear q22
                  try clear q228
                  try clear q23
                  try clear q232
                  obtain ⟨x17_2, x18_2, rfl, rfl, HA, HK2, HO_9, HO_11, HO_12, HR228_0, HR232_0, HB⟩ := hrel
                  cases gk with
                  | zero => exact absurd HA.out (by simp [scullerlaw07_ArenaBack.l0])
                  | succ k2 =>
                    have H := HA.out
                    clear HA
                    simp only [scullerlaw07_ArenaBack.l0] at H
                    by_cases c69 : x18_2 ≥ 0
                    · rw [if_pos c69] at H
                      have c69b0 : decide (0 ≤ x18_2) = true := decide_eq_true c69
                      clear c69
                      obtain ⟨ji70, hji70⟩ : ∃ j_ : Int, (wrap64 ((wrap64 (8 * t233)) + x18_2)) = j_ := ⟨_, rfl⟩
                      replace H : (if 0 ≤ (ji70) then (if (ji70) < (t221.length : Int) then (scullerlaw07_ArenaBack.l0 k2 t215 t221 t224 t225 ji10 (Int.tmod (wrap64 (a3)) ((rd_L1 t215 (ji10)).length : Int)) t233 (IntKind.u64.wrap ((IntKind.u64.wrap (256 * x17_2)) + (IntKind.u64.wrap (rd t221 (ji70))))) (wrap64 (x18_2 - 1))) else (none)) else (none)) = some r := by first | (rw [hji70] at H; exact H) | (simp only [hji70] at H ⊢; exact H)
                      have hji70w : (IntKind.i64.wrap ((wrap64 (8 * t233)) + x18_2)) = ji70 := (i64_w _).trans hji70
                      by_cases c71 : 0 ≤ (ji70)
                      · rw [if_pos c71] at H
                        have c71b0 : decide (0 ≤ (ji70)) = true := decide_eq_true c71
                        clear c71
                        by_cases c72 : (ji70) < (t221.length : Int)
                        · rw [if_pos c72] at H
                          have c72b0 : decide ((ji70) < (t221.length : Int)) = true := decide_eq_true c72
                          clear c72
                          have H' := Aside0.mk H
                          clear H
                          have p234 : 0 ≤ ((ji70) : Int) := of_decide_eq_true (by first | (with_reducible assumption) | assumption)
                          have q234 : (ji70) < (t221.length : Int) := of_decide_eq_true (by first | (with_reducible assumption) | assumption)
                          obtain ⟨ad234, e234, hx234_0⟩ := Kd.at_int (Kd.R_reads' HO_11.out).2.2 (ji70) p234 q234
                          cases e234
                          replace p234 := eq_true p234
                          replace q234 := eq_true q234
                          go_wp2
                          go_roundg k2
                          case measure => have := HJ57.out; have := HK2.out; omega
                          case rel => exact ⟨(IntKind.u64.wrap ((IntKind.u64.wrap (256 * x17_2)) + (IntKind.u64.wrap (rd t221 (ji70))))), (wrap64 (x18_2 - 1)), (by first | rfl | (simp; done) | (simp only [← hji70] <;> (first | rfl | simp)) | (simp [*]; done)), (by first | rfl | (simp; done) | (simp [*]; done)), H', ⟨by have := HJ57.out; have := HK2.out; omega⟩, ⟨by (with_reducible repeat (first | apply Kd.S_alloc | apply Kd.S_drewN | apply Kd.S_drew)); exact HO_9.out⟩, ⟨by (with_reducible repeat (first | apply Kd.R_alloc | apply Kd.R_drewN | apply Kd.R_drew)); exact HO_11.out⟩, ⟨by (with_reducible repeat (first | apply Kd.S_alloc | apply Kd.S_drewN | apply Kd.S_drew)); exact HO_12.out⟩, ⟨by repeat (first | (with_reducible exact HR228_0.out) | (with_reducible refine Kd.C_alloc ?_ _) | (with_reducible refine Kd.C_drewN ?_ _) | (with_reducible refine Kd.C_drew ?_) | exact HR228_0.out)⟩, ⟨by repeat (first | (with_reducible exact HR232_0.out) | (with_reducible refine Kd.C_alloc ?_ _) | (with_reducible refine Kd.C_drewN ?_ _) | (with_reducible refine Kd.C_drew ?_) | exact HR232_0.out)⟩, ⟨by repeat (first | (with_reducible first | exact HB.out | apply below_alloc | apply pw_below_drewN | apply below_drew1) | exact HB.out)⟩⟩
                        · rw [if_neg c72] at H
                          exact absurd H (by simp)
                      · rw [if_neg c71] at H
                        exact absurd H (by simp)
                    · rw [if_neg c69] at H
                      have c69b0 : decide (0 ≤ x18_2) = false := decide_eq_false c69
                      clear c69
                      replace H := Option.bind_eq_some_iff.mp H
                      obtain ⟨t235, A730, H⟩ := H
                      replace H : (if t235 = true then (if t225 = 0 then ((arena_Same.f t224 t215).bind fun t236 => (if t236 = true then (if 0 ≤ ji10 then (if ji10 < (t215.length : Int) then (if 0 ≤ (Int.tmod (wrap64 (a3)) ((rd_L1 t215 (ji10)).length : Int)) then (if (Int.tmod (wrap64 (a3)) ((rd_L1 t215 (ji10)).length : Int)) < ((rd_L1 t215 ji10).length : Int) then (if x17_2 = (rd (rd_L1 t215 ji10) (Int.tmod (wrap64 (a3)) ((rd_L1 t215 (ji10)).length : Int))) then ((arena_Words.f t215).bind fun t239 => (some ((t221.length : Int) == (wrap64 (8 * t239))))) else (some false)) else (none)) else (none)) else (none)) else (none)) else (some false))) else (some false)) else (some false)) = some r := H
                      have A73 := Aside0.mk A730
                      clear A730
                      by_cases c74 : t235 = true
                      · subst c74
                        have H1 : (if t225 = 0 then ((arena_Same.f t224 t215).bind fun t236 => (if t236 = true then (if 0 ≤ ji10 then (if ji10 < (t215.length : Int) then (if 0 ≤ (Int.tmod (wrap64 (a3)) ((rd_L1 t215 (ji10)).length : Int)) then (if (Int.tmod (wrap64 (a3)) ((rd_L1 t215 (ji10)).length : Int)) < ((rd_L1 t215 ji10).length : Int) then (if x17_2 = (rd (rd_L1 t215 ji10) (Int.tmod (wrap64 (a3)) ((rd_L1 t215 (ji10)).length : Int))) then ((arena_Words.f t215).bind fun t239 => (some ((t221.length : Int) == (wrap64 (8 * t239))))) else (some false)) else (none)) else (none)) else (none)) else (none)) else (some false))) else (some false)) = some r := by rw [if_pos rfl] at H; exact H
                        clear H
                        have H := H1
                        clear H1
                        by_cases c75 : t225 = 0
                        · rw [if_pos c75] at H
                          have c75b0 : (t225 == 0) = true := beq_iff_eq.mpr c75
                          have c75b1 : (t225 != 0) = false := bne_eq_false_iff_eq.mpr c75
                          clear c75
                          replace H := Option.bind_eq_some_iff.mp H
                          obtain ⟨t236, A760, H⟩ := H
                          replace H : (if t236 = true then (if 0 ≤ ji10 then (if ji10 < (t215.length : Int) then (if 0 ≤ (Int.tmod (wrap64 (a3)) ((rd_L1 t215 (ji10)).length : Int)) then (if (Int.tmod (wrap64 (a3)) ((rd_L1 t215 (ji10)).length : Int)) < ((rd_L1 t215 ji10).length : Int) then (if x17_2 = (rd (rd_L1 t215 ji10) (Int.tmod (wrap64 (a3)) ((rd_L1 t215 (ji10)).length : Int))) then ((arena_Words.f t215).bind fun t239 => (some ((t221.length : Int) == (wrap64 (8 * t239))))) else (some false)) else (none)) else (none)) else (none)) else (none)) else (some false)) = some r := H
                          have A76 := Aside0.mk A760
                          clear A760
                          by_cases c77 : t236 = true
                          · subst c77
                            have H1 : (if 0 ≤ ji10 then (if ji10 < (t215.length : Int) then (if 0 ≤ (Int.tmod (wrap64 (a3)) ((rd_L1 t215 (ji10)).length : Int)) then (if (Int.tmod (wrap64 (a3)) ((rd_L1 t215 (ji10)).length : Int)) < ((rd_L1 t215 ji10).length : Int) then (if x17_2 = (rd (rd_L1 t215 ji10) (Int.tmod (wrap64 (a3)) ((rd_L1 t215 (ji10)).length : Int))) then ((arena_Words.f t215).bind fun t239 => (some ((t221.length : Int) == (wrap64 (8 * t239))))) else (some false)) else (none)) else (none)) else (none)) else (none)) = some r := by rw [if_pos rfl] at H; exact H
                            clear H
                            have H := H1
                            clear H1
                            by_cases c78 : 0 ≤ ji10
                            · rw [if_pos c78] at H
                              have c78b0 : decide (0 ≤ ji10) = true := decide_eq_true c78
                              clear c78
                              by_cases c79 : ji10 < (t215.length : Int)
                              · rw [if_pos c79] at H
                                have c79b0 : decide (ji10 < (t215.length : Int)) = true := decide_eq_true c79
                                clear c79
                                obtain ⟨ji80, hji80⟩ : ∃ j_ : Int, (Int.tmod (wrap64 (a3)) ((rd_L1 t215 (ji10)).length : Int)) = j_ := ⟨_, rfl⟩
                                replace H : (if 0 ≤ (ji80) then (if (ji80) < ((rd_L1 t215 ji10).length : Int) then (if x17_2 = (rd (rd_L1 t215 ji10) (ji80)) then ((arena_Words.f t215).bind fun t239 => (some ((t221.length : Int) == (wrap64 (8 * t239))))) else (some false)) else (none)) else (none)) = some r := by first | (rw [hji80] at H; exact H) | (simp only [hji80] at H ⊢; exact H)
                                (try rw [hji80] at A73)
                                (try rw [hji80] at A76)
                                by_cases c81 : 0 ≤ (ji80)
                                · rw [if_pos c81] at H
                                  have c81b0 : decide (0 ≤ (ji80)) = true := decide_eq_true c81
                                  clear c81
                                  by_cases c82 : (ji80) < ((rd_L1 t215 ji10).length : Int)
                                  · rw [if_pos c82] at H
                                    have c82b0 : decide ((ji80) < ((rd_L1 t215 ji10).length : Int)) = true := decide_eq_true c82
                                    clear c82
                                    by_cases c83 : x17_2 = (rd (rd_L1 t215 ji10) (ji80))
                                    · rw [if_pos c83] at H
                                      have c83b0 : (x17_2 == (rd (rd_L1 t215 ji10) (ji80))) = true := beq_iff_eq.mpr c83
                                      have c83b1 : (x17_2 != (rd (rd_L1 t215 ji10) (ji80))) = false := bne_eq_false_iff_eq.mpr c83
                                      clear c83
                                      replace H := Option.bind_eq_some_iff.mp H
                                      obtain ⟨t239, A840, H⟩ := H
                                      replace H : (some ((t221.length : Int) == (wrap64 (8 * t239)))) = some r := H
                                      have A84 := Aside0.mk A840
                                      clear A840
                                      obtain rfl := Option.some.inj H
                                      go_wp2_with (first | ((with_reducible refine gate_callee (f := 12) rfl ?_); refine goesL_ (some 96) rfl rfl Try.func12 (by kernel_rfl) rfl #[] rfl (by (try simp only [List.map_toArray, List.map_cons, List.map_nil]); first | done | rfl | (simp only [List.length_drop, List.length_take]; rfl)) ?_; (with_reducible refine (scullerlaw07_known.calls  true _ A73.out).mono ?_); rintro e w85 ⟨rfl, hb⟩; refine ⟨_, rfl, ?_⟩; have n0_ := Aside0.mk (Kd.S_below (by (with_reducible repeat (first | apply Kd.S_alloc | apply Kd.S_drewN | apply Kd.S_drew)); exact HO_9.out) hb); have n1_ := Aside0.mk (Kd.R_below (by (with_reducible repeat (first | apply Kd.R_alloc | apply Kd.R_drewN | apply Kd.R_drew)); exact HO_11.out) hb); have n2_ := Aside0.mk (Kd.S_below (by (with_reducible repeat (first | apply Kd.S_alloc | apply Kd.S_drewN | apply Kd.S_drew)); exact HO_12.out) hb); have n3_ := Aside0.mk (Kd.C_below (by repeat (first | (with_reducible exact HR228_0.out) | (with_reducible refine Kd.C_alloc ?_ _) | (with_reducible refine Kd.C_drewN ?_ _) | (with_reducible refine Kd.C_drew ?_) | exact HR228_0.out)) hb); have n4_ := Aside0.mk (Kd.C_below (by repeat (first | (with_reducible exact HR232_0.out) | (with_reducible refine Kd.C_alloc ?_ _) | (with_reducible refine Kd.C_drewN ?_ _) | (with_reducible refine Kd.C_drew ?_) | exact HR232_0.out)) hb); have n5_ := Aside0.mk (below_step (by repeat (first | (with_reducible first | exact HB.out | apply below_alloc | apply pw_below_drewN | apply below_drew1) | exact HB.out)) hb); clear HO_9; clear HO_11; clear HO_12; clear HR228_0; clear HR232_0; clear HB; have HO_9 := n0_; have HO_11 := n1_; have HO_12 := n2_; have HR228_0 := n3_; have HR232_0 := n4_; have HB := n5_; clear n0_ n1_ n2_ n3_ n4_ n5_; (try clear hb); (try clear hb2); (try clear hk); (try clear hi); obtain ⟨Ao86, co86, eo86⟩ := Kd.S_slice HO_12.out; subst eo86) | (go_at_call 34; (with_reducible refine (arena_Same.calls _ _ t224 _ _ t215 true _ ?side1 ?side2 ?side3 ?side4 A76.out).mono ?_); (case side1 => repeat (first | exact (Kd.S_reads' HO_12.out).2.2 | (with_reducible refine Kd.C_alloc ?_ _) | (with_reducible refine Kd.C_drewN ?_ _) | (with_reducible refine Kd.C_drew ?_))); (case side2 => exact (Kd.S_reads' HO_12.out).2.1); (case side3 => repeat (first | exact (Kd.S_reads' HO_9.out).2.2 | (with_reducible refine Kd.C_alloc ?_ _) | (with_reducible refine Kd.C_drewN ?_ _) | (with_reducible refine Kd.C_drew ?_))); (case side4 => exact (Kd.S_reads' HO_9.out).2.1); rintro e w87 ⟨rfl, hb⟩; have n0_ := Aside0.mk (Kd.S_below (by (with_reducible repeat (first | apply Kd.S_alloc | apply Kd.S_drewN | apply Kd.S_drew)); exact HO_9.out) hb); have n1_ := Aside0.mk (Kd.R_below (by (with_reducible repeat (first | apply Kd.R_alloc | apply Kd.R_drewN | apply Kd.R_drew)); exact HO_11.out) hb); have n2_ := Aside0.mk (Kd.S_below (by (with_reducible repeat (first | apply Kd.S_alloc | apply Kd.S_drewN | apply Kd.S_drew)); exact HO_12.out) hb); have n3_ := Aside0.mk (Kd.C_below (by repeat (first | (with_reducible exact HR228_0.out) | (with_reducible refine Kd.C_alloc ?_ _) | (with_reducible refine Kd.C_drewN ?_ _) | (with_reducible refine Kd.C_drew ?_) | exact HR228_0.out)) hb); have n4_ := Aside0.mk (Kd.C_below (by repeat (first | (with_reducible exact HR232_0.out) | (with_reducible refine Kd.C_alloc ?_ _) | (with_reducible refine Kd.C_drewN ?_ _) | (with_reducible refine Kd.C_drew ?_) | exact HR232_0.out)) hb); have n5_ := Aside0.mk (below_step (by repeat (first | (with_reducible first | exact HB.out | apply below_alloc | apply pw_below_drewN | apply below_drew1) | exact HB.out)) hb); clear HO_9; clear HO_11; clear HO_12; clear HR228_0; clear HR232_0; clear HB; have HO_9 := n0_; have HO_11 := n1_; have HO_12 := n2_; have HR228_0 := n3_; have HR232_0 := n4_; have HB := n5_; clear n0_ n1_ n2_ n3_ n4_ n5_; (try clear hb); (try clear hb2); (try clear hk); (try clear hi); have p237 : 0 ≤ (ji10 : Int) := of_decide_eq_true (by first | (with_reducible assumption) | assumption); have q237 : ji10 < (t215.length : Int) := of_decide_eq_true (by first | (with_reducible assumption) | assumption); obtain ⟨ad237, A237_0, c237_0, e237, hx237_0, hl237_0, hi237_0⟩ := at_L1 (Kd.S_reads' HO_9.out).2.2 ji10 p237 q237; obtain rfl : ad228 = ad237 := (by injection e237); obtain ⟨ce237, hce237, hMe237, hcc237⟩ := Kd.S_get HO_9.out [] ji10 p237 (by first | exact q237 | exact of_decide_eq_true (by first | (with_reducible assumption) | assumption) | (have e_ := (Kd.S_reads' HO_9.out).1; omega)); obtain ⟨ve237_0, rfl, ge237_0⟩ := hMe237; have hv237_0 := hcc237 0 _ rfl; rw [Nat.add_zero, show ((Kd.slice 42 (Kd.int .u64))).sz = 1 from rfl, Nat.mul_one] at hv237_0; replace hv237_0 := Option.some.inj (hv237_0.symm.trans hx237_0); rw [hv237_0] at ge237_0; have HL237_0 := Aside0.mk (show Kd.R (Kd.int .u64) 42 _ _ _ _ (rd_L1 t215 ji10) from ge237_0); clear hv237_0 ge237_0; clear hcc237 hce237; have HR237_0 := Aside0.mk hi237_0; have HC237_0 := Aside0.mk hl237_0; clear hi237_0 hl237_0; replace p237 := eq_true p237; replace q237 := eq_true q237; have p238 : 0 ≤ ((ji80) : Int) := of_decide_eq_true (by first | (with_reducible assumption) | assumption); have q238 : (ji80) < ((rd_L1 t215 ji10).length : Int) := of_decide_eq_true (by first | (with_reducible assumption) | assumption); obtain ⟨ad238, e238, hx238_0⟩ := Kd.at_int (by repeat (first | (with_reducible exact HR237_0.out) | (with_reducible refine Kd.C_alloc ?_ _) | (with_reducible refine Kd.C_drewN ?_ _) | (with_reducible refine Kd.C_drew ?_) | exact HR237_0.out)) (ji80) p238 q238; cases e238; replace p238 := eq_true p238; replace q238 := eq_true q238) | (go_at_call 36; (with_reducible refine (arena_Words.calls _ _ t215 t239 _ ?side1 ?side2 A84.out).mono ?_); (case side1 => repeat (first | exact (Kd.S_reads' HO_9.out).2.2 | (with_reducible refine Kd.C_alloc ?_ _) | (with_reducible refine Kd.C_drewN ?_ _) | (with_reducible refine Kd.C_drew ?_))); (case side2 => exact (Kd.S_reads' HO_9.out).2.1); rintro e w88 ⟨rfl, hb⟩; have n0_ := Aside0.mk (Kd.S_below (by (with_reducible repeat (first | apply Kd.S_alloc | apply Kd.S_drewN | apply Kd.S_drew)); exact HO_9.out) hb); have n1_ := Aside0.mk (Kd.R_below (by (with_reducible repeat (first | apply Kd.R_alloc | apply Kd.R_drewN | apply Kd.R_drew)); exact HO_11.out) hb); have n2_ := Aside0.mk (Kd.S_below (by (with_reducible repeat (first | apply Kd.S_alloc | apply Kd.S_drewN | apply Kd.S_drew)); exact HO_12.out) hb); have n3_ := Aside0.mk (Kd.R_below (by (with_reducible repeat (first | apply Kd.R_alloc | apply Kd.R_drewN | apply Kd.R_drew)); exact HL237_0.out) hb); have n4_ := Aside0.mk (Kd.C_below (by repeat (first | (with_reducible exact HR228_0.out) | (with_reducible refine Kd.C_alloc ?_ _) | (with_reducible refine Kd.C_drewN ?_ _) | (with_reducible refine Kd.C_drew ?_) | exact HR228_0.out)) hb); have n5_ := Aside0.mk (Kd.C_below (by repeat (first | (with_reducible exact HR232_0.out) | (with_reducible refine Kd.C_alloc ?_ _) | (with_reducible refine Kd.C_drewN ?_ _) | (with_reducible refine Kd.C_drew ?_) | exact HR232_0.out)) hb); have n6_ := Aside0.mk (Kd.C_below (by repeat (first | (with_reducible exact HR237_0.out) | (with_reducible refine Kd.C_alloc ?_ _) | (with_reducible refine Kd.C_drewN ?_ _) | (with_reducible refine Kd.C_drew ?_) | exact HR237_0.out)) hb); have n7_ := Aside0.mk (below_step (by repeat (first | (with_reducible first | exact HB.out | apply below_alloc | apply pw_below_drewN | apply below_drew1) | exact HB.out)) hb); clear HO_9; clear HO_11; clear HO_12; clear HL237_0; clear HR228_0; clear HR232_0; clear HR237_0; clear HB; have HO_9 := n0_; have HO_11 := n1_; have HO_12 := n2_; have HL237_0 := n3_; have HR228_0 := n4_; have HR232_0 := n5_; have HR237_0 := n6_; have HB := n7_; clear n0_ n1_ n2_ n3_ n4_ n5_ n6_ n7_; (try clear hb); (try clear hb2); (try clear hk); (try clear hi)))
                                      go_ret
                                      exact ⟨by first | rfl | (simp [errW_none, errW_some] <;> rfl) | (simp only [← hji10, ← hji80]; first | rfl | (simp [errW_none, errW_some] <;> rfl)) | (simp [*, errW_none, errW_some] <;> rfl), by repeat (first | (with_reducible first | exact HB.out | apply below_alloc | apply pw_below_drewN | apply below_drew1) | exact HB.out)⟩
                                    · rw [if_neg c83] at H
                                      have c83b0 : (x17_2 == (rd (rd_L1 t215 ji10) (ji80))) = false := beq_eq_false_iff_ne.mpr c83
                                      have c83b1 : (x17_2 != (rd (rd_L1 t215 ji10) (ji80))) = true := bne_iff_ne.mpr c83
                                      obtain rfl := Option.some.inj H
                                      go_wp2_with (first | ((with_reducible refine gate_callee (f := 12) rfl ?_); refine goesL_ (some 96) rfl rfl Try.func12 (by kernel_rfl) rfl #[] rfl (by (try simp only [List.map_toArray, List.map_cons, List.map_nil]); first | done | rfl | (simp only [List.length_drop, List.length_take]; rfl)) ?_; (with_reducible refine (scullerlaw07_known.calls  true _ A73.out).mono ?_); rintro e w89 ⟨rfl, hb⟩; refine ⟨_, rfl, ?_⟩; have n0_ := Aside0.mk (Kd.S_below (by (with_reducible repeat (first | apply Kd.S_alloc | apply Kd.S_drewN | apply Kd.S_drew)); exact HO_9.out) hb); have n1_ := Aside0.mk (Kd.R_below (by (with_reducible repeat (first | apply Kd.R_alloc | apply Kd.R_drewN | apply Kd.R_drew)); exact HO_11.out) hb); have n2_ := Aside0.mk (Kd.S_below (by (with_reducible repeat (first | apply Kd.S_alloc | apply Kd.S_drewN | apply Kd.S_drew)); exact HO_12.out) hb); have n3_ := Aside0.mk (Kd.C_below (by repeat (first | (with_reducible exact HR228_0.out) | (with_reducible refine Kd.C_alloc ?_ _) | (with_reducible refine Kd.C_drewN ?_ _) | (with_reducible refine Kd.C_drew ?_) | exact HR228_0.out)) hb); have n4_ := Aside0.mk (Kd.C_below (by repeat (first | (with_reducible exact HR232_0.out) | (with_reducible refine Kd.C_alloc ?_ _) | (with_reducible refine Kd.C_drewN ?_ _) | (with_reducible refine Kd.C_drew ?_) | exact HR232_0.out)) hb); have n5_ := Aside0.mk (below_step (by repeat (first | (with_reducible first | exact HB.out | apply below_alloc | apply pw_below_drewN | apply below_drew1) | exact HB.out)) hb); clear HO_9; clear HO_11; clear HO_12; clear HR228_0; clear HR232_0; clear HB; have HO_9 := n0_; have HO_11 := n1_; have HO_12 := n2_; have HR228_0 := n3_; have HR232_0 := n4_; have HB := n5_; clear n0_ n1_ n2_ n3_ n4_ n5_; (try clear hb); (try clear hb2); (try clear hk); (try clear hi); obtain ⟨Ao90, co90, eo90⟩ := Kd.S_slice HO_12.out; subst eo90) | (go_at_call 34; (with_reducible refine (arena_Same.calls _ _ t224 _ _ t215 true _ ?side1 ?side2 ?side3 ?side4 A76.out).mono ?_); (case side1 => repeat (first | exact (Kd.S_reads' HO_12.out).2.2 | (with_reducible refine Kd.C_alloc ?_ _) | (with_reducible refine Kd.C_drewN ?_ _) | (with_reducible refine Kd.C_drew ?_))); (case side2 => exact (Kd.S_reads' HO_12.out).2.1); (case side3 => repeat (first | exact (Kd.S_reads' HO_9.out).2.2 | (with_reducible refine Kd.C_alloc ?_ _) | (with_reducible refine Kd.C_drewN ?_ _) | (with_reducible refine Kd.C_drew ?_))); (case side4 => exact (Kd.S_reads' HO_9.out).2.1); rintro e w91 ⟨rfl, hb⟩; have n0_ := Aside0.mk (Kd.S_below (by (with_reducible repeat (first | apply Kd.S_alloc | apply Kd.S_drewN | apply Kd.S_drew)); exact HO_9.out) hb); have n1_ := Aside0.mk (Kd.R_below (by (with_reducible repeat (first | apply Kd.R_alloc | apply Kd.R_drewN | apply Kd.R_drew)); exact HO_11.out) hb); have n2_ := Aside0.mk (Kd.S_below (by (with_reducible repeat (first | apply Kd.S_alloc | apply Kd.S_drewN | apply Kd.S_drew)); exact HO_12.out) hb); have n3_ := Aside0.mk (Kd.C_below (by repeat (first | (with_reducible exact HR228_0.out) | (with_reducible refine Kd.C_alloc ?_ _) | (with_reducible refine Kd.C_drewN ?_ _) | (with_reducible refine Kd.C_drew ?_) | exact HR228_0.out)) hb); have n4_ := Aside0.mk (Kd.C_below (by repeat (first | (with_reducible exact HR232_0.out) | (with_reducible refine Kd.C_alloc ?_ _) | (with_reducible refine Kd.C_drewN ?_ _) | (with_reducible refine Kd.C_drew ?_) | exact HR232_0.out)) hb); have n5_ := Aside0.mk (below_step (by repeat (first | (with_reducible first | exact HB.out | apply below_alloc | apply pw_below_drewN | apply below_drew1) | exact HB.out)) hb); clear HO_9; clear HO_11; clear HO_12; clear HR228_0; clear HR232_0; clear HB; have HO_9 := n0_; have HO_11 := n1_; have HO_12 := n2_; have HR228_0 := n3_; have HR232_0 := n4_; have HB := n5_; clear n0_ n1_ n2_ n3_ n4_ n5_; (try clear hb); (try clear hb2); (try clear hk); (try clear hi); have p237 : 0 ≤ (ji10 : Int) := of_decide_eq_true (by first | (with_reducible assumption) | assumption); have q237 : ji10 < (t215.length : Int) := of_decide_eq_true (by first | (with_reducible assumption) | assumption); obtain ⟨ad237, A237_0, c237_0, e237, hx237_0, hl237_0, hi237_0⟩ := at_L1 (Kd.S_reads' HO_9.out).2.2 ji10 p237 q237; obtain rfl : ad228 = ad237 := (by injection e237); obtain ⟨ce237, hce237, hMe237, hcc237⟩ := Kd.S_get HO_9.out [] ji10 p237 (by first | exact q237 | exact of_decide_eq_true (by first | (with_reducible assumption) | assumption) | (have e_ := (Kd.S_reads' HO_9.out).1; omega)); obtain ⟨ve237_0, rfl, ge237_0⟩ := hMe237; have hv237_0 := hcc237 0 _ rfl; rw [Nat.add_zero, show ((Kd.slice 42 (Kd.int .u64))).sz = 1 from rfl, Nat.mul_one] at hv237_0; replace hv237_0 := Option.some.inj (hv237_0.symm.trans hx237_0); rw [hv237_0] at ge237_0; have HL237_0 := Aside0.mk (show Kd.R (Kd.int .u64) 42 _ _ _ _ (rd_L1 t215 ji10) from ge237_0); clear hv237_0 ge237_0; clear hcc237 hce237; have HR237_0 := Aside0.mk hi237_0; have HC237_0 := Aside0.mk hl237_0; clear hi237_0 hl237_0; replace p237 := eq_true p237; replace q237 := eq_true q237; have p238 : 0 ≤ ((ji80) : Int) := of_decide_eq_true (by first | (with_reducible assumption) | assumption); have q238 : (ji80) < ((rd_L1 t215 ji10).length : Int) := of_decide_eq_true (by first | (with_reducible assumption) | assumption); obtain ⟨ad238, e238, hx238_0⟩ := Kd.at_int (by repeat (first | (with_reducible exact HR237_0.out) | (with_reducible refine Kd.C_alloc ?_ _) | (with_reducible refine Kd.C_drewN ?_ _) | (with_reducible refine Kd.C_drew ?_) | exact HR237_0.out)) (ji80) p238 q238; cases e238; replace p238 := eq_true p238; replace q238 := eq_true q238))
                                      go_ret
                                      exact ⟨by first | rfl | (simp [errW_none, errW_some] <;> rfl) | (simp only [← hji10, ← hji80]; first | rfl | (simp [errW_none, errW_some] <;> rfl)) | (simp [*, errW_none, errW_some] <;> rfl), by repeat (first | (with_reducible first | exact HB.out | apply below_alloc | apply pw_below_drewN | apply below_drew1) | exact HB.out)⟩
                                  · rw [if_neg c82] at H
                                    exact absurd H (by simp)
                                · rw [if_neg c81] at H
                                  exact absurd H (by simp)
                              · rw [if_neg c79] at H
                                exact absurd H (by simp)
                            · rw [if_neg c78] at H
                              exact absurd H (by simp)
                          · replace c77 := Bool.eq_false_iff.mpr c77
                            subst c77
                            have H1 : (some false) = some r := by rw [if_neg (show ¬ (false = true) by decide)] at H; exact H
                            clear H
                            have H := H1
                            clear H1
                            obtain rfl := Option.some.inj H
                            go_wp2_with (first | ((with_reducible refine gate_callee (f := 12) rfl ?_); refine goesL_ (some 96) rfl rfl Try.func12 (by kernel_rfl) rfl #[] rfl (by (try simp only [List.map_toArray, List.map_cons, List.map_nil]); first | done | rfl | (simp only [List.length_drop, List.length_take]; rfl)) ?_; (with_reducible refine (scullerlaw07_known.calls  true _ A73.out).mono ?_); rintro e w92 ⟨rfl, hb⟩; refine ⟨_, rfl, ?_⟩; have n0_ := Aside0.mk (Kd.S_below (by (with_reducible repeat (first | apply Kd.S_alloc | apply Kd.S_drewN | apply Kd.S_drew)); exact HO_9.out) hb); have n1_ := Aside0.mk (Kd.R_below (by (with_reducible repeat (first | apply Kd.R_alloc | apply Kd.R_drewN | apply Kd.R_drew)); exact HO_11.out) hb); have n2_ := Aside0.mk (Kd.S_below (by (with_reducible repeat (first | apply Kd.S_alloc | apply Kd.S_drewN | apply Kd.S_drew)); exact HO_12.out) hb); have n3_ := Aside0.mk (Kd.C_below (by repeat (first | (with_reducible exact HR228_0.out) | (with_reducible refine Kd.C_alloc ?_ _) | (with_reducible refine Kd.C_drewN ?_ _) | (with_reducible refine Kd.C_drew ?_) | exact HR228_0.out)) hb); have n4_ := Aside0.mk (Kd.C_below (by repeat (first | (with_reducible exact HR232_0.out) | (with_reducible refine Kd.C_alloc ?_ _) | (with_reducible refine Kd.C_drewN ?_ _) | (with_reducible refine Kd.C_drew ?_) | exact HR232_0.out)) hb); have n5_ := Aside0.mk (below_step (by repeat (first | (with_reducible first | exact HB.out | apply below_alloc | apply pw_below_drewN | apply below_drew1) | exact HB.out)) hb); clear HO_9; clear HO_11; clear HO_12; clear HR228_0; clear HR232_0; clear HB; have HO_9 := n0_; have HO_11 := n1_; have HO_12 := n2_; have HR228_0 := n3_; have HR232_0 := n4_; have HB := n5_; clear n0_ n1_ n2_ n3_ n4_ n5_; (try clear hb); (try clear hb2); (try clear hk); (try clear hi); obtain ⟨Ao93, co93, eo93⟩ := Kd.S_slice HO_12.out; subst eo93) | (go_at_call 34; (with_reducible refine (arena_Same.calls _ _ t224 _ _ t215 false _ ?side1 ?side2 ?side3 ?side4 A76.out).mono ?_); (case side1 => repeat (first | exact (Kd.S_reads' HO_12.out).2.2 | (with_reducible refine Kd.C_alloc ?_ _) | (with_reducible refine Kd.C_drewN ?_ _) | (with_reducible refine Kd.C_drew ?_))); (case side2 => exact (Kd.S_reads' HO_12.out).2.1); (case side3 => repeat (first | exact (Kd.S_reads' HO_9.out).2.2 | (with_reducible refine Kd.C_alloc ?_ _) | (with_reducible refine Kd.C_drewN ?_ _) | (with_reducible refine Kd.C_drew ?_))); (case side4 => exact (Kd.S_reads' HO_9.out).2.1); rintro e w94 ⟨rfl, hb⟩; have n0_ := Aside0.mk (Kd.S_below (by (with_reducible repeat (first | apply Kd.S_alloc | apply Kd.S_drewN | apply Kd.S_drew)); exact HO_9.out) hb); have n1_ := Aside0.mk (Kd.R_below (by (with_reducible repeat (first | apply Kd.R_alloc | apply Kd.R_drewN | apply Kd.R_drew)); exact HO_11.out) hb); have n2_ := Aside0.mk (Kd.S_below (by (with_reducible repeat (first | apply Kd.S_alloc | apply Kd.S_drewN | apply Kd.S_drew)); exact HO_12.out) hb); have n3_ := Aside0.mk (Kd.C_below (by repeat (first | (with_reducible exact HR228_0.out) | (with_reducible refine Kd.C_alloc ?_ _) | (with_reducible refine Kd.C_drewN ?_ _) | (with_reducible refine Kd.C_drew ?_) | exact HR228_0.out)) hb); have n4_ := Aside0.mk (Kd.C_below (by repeat (first | (with_reducible exact HR232_0.out) | (with_reducible refine Kd.C_alloc ?_ _) | (with_reducible refine Kd.C_drewN ?_ _) | (with_reducible refine Kd.C_drew ?_) | exact HR232_0.out)) hb); have n5_ := Aside0.mk (below_step (by repeat (first | (with_reducible first | exact HB.out | apply below_alloc | apply pw_below_drewN | apply below_drew1) | exact HB.out)) hb); clear HO_9; clear HO_11; clear HO_12; clear HR228_0; clear HR232_0; clear HB; have HO_9 := n0_; have HO_11 := n1_; have HO_12 := n2_; have HR228_0 := n3_; have HR232_0 := n4_; have HB := n5_; clear n0_ n1_ n2_ n3_ n4_ n5_; (try clear hb); (try clear hb2); (try clear hk); (try clear hi)))
                            go_ret
                            exact ⟨by first | rfl | (simp [errW_none, errW_some] <;> rfl) | (simp only [← hji10]; first | rfl | (simp [errW_none, errW_some] <;> rfl)) | (simp [*, errW_none, errW_some] <;> rfl), by repeat (first | (with_reducible first | exact HB.out | apply below_alloc | apply pw_below_drewN | apply below_drew1) | exact HB.out)⟩
                        · rw [if_neg c75] at H
                          have c75b0 : (t225 == 0) = false := beq_eq_false_iff_ne.mpr c75
                          have c75b1 : (t225 != 0) = true := bne_iff_ne.mpr c75
                          obtain rfl := Option.some.inj H
                          go_wp2_with (first | ((with_reducible refine gate_callee (f := 12) rfl ?_); refine goesL_ (some 96) rfl rfl Try.func12 (by kernel_rfl) rfl #[] rfl (by (try simp only [List.map_toArray, List.map_cons, List.map_nil]); first | done | rfl | (simp only [List.length_drop, List.length_take]; rfl)) ?_; (with_reducible refine (scullerlaw07_known.calls  true _ A73.out).mono ?_); rintro e w95 ⟨rfl, hb⟩; refine ⟨_, rfl, ?_⟩; have n0_ := Aside0.mk (Kd.S_below (by (with_reducible repeat (first | apply Kd.S_alloc | apply Kd.S_drewN | apply Kd.S_drew)); exact HO_9.out) hb); have n1_ := Aside0.mk (Kd.R_below (by (with_reducible repeat (first | apply Kd.R_alloc | apply Kd.R_drewN | apply Kd.R_drew)); exact HO_11.out) hb); have n2_ := Aside0.mk (Kd.S_below (by (with_reducible repeat (first | apply Kd.S_alloc | apply Kd.S_drewN | apply Kd.S_drew)); exact HO_12.out) hb); have n3_ := Aside0.mk (Kd.C_below (by repeat (first | (with_reducible exact HR228_0.out) | (with_reducible refine Kd.C_alloc ?_ _) | (with_reducible refine Kd.C_drewN ?_ _) | (with_reducible refine Kd.C_drew ?_) | exact HR228_0.out)) hb); have n4_ := Aside0.mk (Kd.C_below (by repeat (first | (with_reducible exact HR232_0.out) | (with_reducible refine Kd.C_alloc ?_ _) | (with_reducible refine Kd.C_drewN ?_ _) | (with_reducible refine Kd.C_drew ?_) | exact HR232_0.out)) hb); have n5_ := Aside0.mk (below_step (by repeat (first | (with_reducible first | exact HB.out | apply below_alloc | apply pw_below_drewN | apply below_drew1) | exact HB.out)) hb); clear HO_9; clear HO_11; clear HO_12; clear HR228_0; clear HR232_0; clear HB; have HO_9 := n0_; have HO_11 := n1_; have HO_12 := n2_; have HR228_0 := n3_; have HR232_0 := n4_; have HB := n5_; clear n0_ n1_ n2_ n3_ n4_ n5_; (try clear hb); (try clear hb2); (try clear hk); (try clear hi)))
                          go_ret
                          exact ⟨by first | rfl | (simp [errW_none, errW_some] <;> rfl) | (simp only [← hji10]; first | rfl | (simp [errW_none, errW_some] <;> rfl)) | (simp [*, errW_none, errW_some] <;> rfl), by repeat (first | (with_reducible first | exact HB.out | apply below_alloc | apply pw_below_drewN | apply below_drew1) | exact HB.out)⟩
                      · replace c74 := Bool.eq_false_iff.mpr c74
                        subst c74
                        have H1 : (some false) = some r := by rw [if_neg (show ¬ (false = true) by decide)] at H; exact H
                        clear H
                        have H := H1
                        clear H1
                        obtain rfl := Option.some.inj H
                        go_wp2_with (first | ((with_reducible refine gate_callee (f := 12) rfl ?_); refine goesL_ (some 96) rfl rfl Try.func12 (by kernel_rfl) rfl #[] rfl (by (try simp only [List.map_toArray, List.map_cons, List.map_nil]); first | done | rfl | (simp only [List.length_drop, List.length_take]; rfl)) ?_; (with_reducible refine (scullerlaw07_known.calls  false _ A73.out).mono ?_); rintro e w96 ⟨rfl, hb⟩; refine ⟨_, rfl, ?_⟩; have n0_ := Aside0.mk (Kd.S_below (by (with_reducible repeat (first | apply Kd.S_alloc | apply Kd.S_drewN | apply Kd.S_drew)); exact HO_9.out) hb); have n1_ := Aside0.mk (Kd.R_below (by (with_reducible repeat (first | apply Kd.R_alloc | apply Kd.R_drewN | apply Kd.R_drew)); exact HO_11.out) hb); have n2_ := Aside0.mk (Kd.S_below (by (with_reducible repeat (first | apply Kd.S_alloc | apply Kd.S_drewN | apply Kd.S_drew)); exact HO_12.out) hb); have n3_ := Aside0.mk (Kd.C_below (by repeat (first | (with_reducible exact HR228_0.out) | (with_reducible refine Kd.C_alloc ?_ _) | (with_reducible refine Kd.C_drewN ?_ _) | (with_reducible refine Kd.C_drew ?_) | exact HR228_0.out)) hb); have n4_ := Aside0.mk (Kd.C_below (by repeat (first | (with_reducible exact HR232_0.out) | (with_reducible refine Kd.C_alloc ?_ _) | (with_reducible refine Kd.C_drewN ?_ _) | (with_reducible refine Kd.C_drew ?_) | exact HR232_0.out)) hb); have n5_ := Aside0.mk (below_step (by repeat (first | (with_reducible first | exact HB.out | apply below_alloc | apply pw_below_drewN | apply below_drew1) | exact HB.out)) hb); clear HO_9; clear HO_11; clear HO_12; clear HR228_0; clear HR232_0; clear HB; have HO_9 := n0_; have HO_11 := n1_; have HO_12 := n2_; have HR228_0 := n3_; have HR232_0 := n4_; have HB := n5_; clear n0_ n1_ n2_ n3_ n4_ n5_; (try clear hb); (try clear hb2); (try clear hk); (try clear hi)))
                        go_ret
                        exact ⟨by first | rfl | (simp [errW_none, errW_some] <;> rfl) | (simp only [← hji10]; first | rfl | (simp [errW_none, errW_some] <;> rfl)) | (simp [*, errW_none, errW_some] <;> rfl), by repeat (first | (with_reducible first | exact HB.out | apply below_alloc | apply pw_below_drewN | apply below_drew1) | exact HB.out)⟩
      · rw [if_neg c12] at H
        exact absurd H (by simp)
    · rw [if_neg c11] at H
      exact absurd H (by simp)

/-- THE ONE PURE STATEMENT of scullerlaw07_ArenaBack: yours. -/
def scullerlaw07_ArenaBack.Pure : Prop := ∀ (l0 : List Int) (a1 : Int) (a2 : Int) (a3 : Int), l0.length ≤ maxLen → l0.length * 1 ≤ 140737488351232 → (∀ x ∈ l0, (Lit.int .u8 x).wf = true) → (Lit.int .u8 a1).wf = true → (Lit.int .u8 a2).wf = true → (Lit.int .u8 a3).wf = true → ∃ k, scullerlaw07_ArenaBack.f k l0 a1 a2 a3 = some true
theorem scullerlaw07_ArenaBack.walk (P : scullerlaw07_ArenaBack.Pure) (a0 : Option Addr) (len0 cap0 : Nat) (z0 : List Int) (a1 : Int) (a2 : Int) (a3 : Int) (w : World) (w0 : (a0 = none ∧ len0 = 0 ∧ cap0 = 0 ∧ z0 = []) ∨ ∃ x, a0 = some x ∧ len0 ≤ cap0 ∧ cap0 ≤ maxLen ∧ z0.length = cap0 ∧ (∀ i, i < z0.length → w.cell? (x.add i) = some (.int .u8 (z0.getD i 0))) ∧ ∀ n ∈ z0, (Lit.int .u8 n).wf = true) (y0 : len0 * 1 ≤ 140737488351232) (w1 : (Lit.int .u8 a1).wf = true) (w2 : (Lit.int .u8 a2).wf = true) (w3 : (Lit.int .u8 a3).wf = true) :
    Calls Try.prog 8 #[.slice a0 len0 cap0, .int .u8 a1, .int .u8 a2, .int .u8 a3] w fun e w' => e = .returned (.bool true) ∧ Below w.heap.size w w' := by
  obtain ⟨l0, rfl, hr0, hm0, hw0, hc0⟩ := ReadsInt.ofRowC w0
  obtain ⟨k, h⟩ := P l0 a1 a2 a3 hm0 y0 hw0 w1 w2 w3
  refine (scullerlaw07_ArenaBack.calls k _ _ l0 a1 a2 a3 true w (Kd.C_of_reads (d := (0 : Int)) (h1 := fun _ => rfl) hr0) hc0 h).mono ?_
  rintro e w' ⟨rfl, hd⟩
  exact ⟨rfl, hd⟩

end Go.Proofs.Ythlhnodedofibaa.F
end

section
/- The statements' own arenas: they fit, and what is cut from their bytes is they again. No program in sight. -/
namespace Go.Proofs.Ythlhnodedofibaa.H
set_option linter.unusedVariables false
set_option linter.unusedSimpArgs false
theorem flat8_take (s : List Int) (b : List Int) (hs : ∀ x ∈ s, u64B x = true) : segL s.length ((s.flatMap fun w => putL w 8) ++ b) = s := by
  induction s with
  | nil => rfl
  | cons x xs ih =>
    have hx := hs x (by simp)
    simp only [u64B, Bool.and_eq_true, decide_eq_true_eq] at hx
    have hl := putL_length x 8
    rw [List.length_cons, segL, List.flatMap_cons, List.append_assoc, List.take_append_of_le_length (by omega), List.take_of_length_le (by omega), getL_putL 8 x hx.1 (by omega),
      List.drop_append_of_le_length (by omega), List.drop_of_length_le (by omega), List.nil_append, ih (fun y hy => hs y (by simp [hy]))]
theorem cutWords_bytes (a : List (List Int)) (h : ∀ s ∈ a, ∀ x ∈ s, u64B x = true) (b : List Int) : cutWords (sizesL a) (bytesL a ++ b) = a := by
  induction a with
  | nil => rfl
  | cons s a ih =>
    rw [sizesL_cons, cutWords, bytesL_cons, List.append_assoc, Int.toNat_natCast, flat8_take s _ (h s (by simp)), ← flat8_length s, List.drop_append_of_le_length (by omega), List.drop_of_length_le (by omega), List.nil_append,
      ih (fun t ht => h t (by simp [ht]))]
theorem sizesL_sum (a : List (List Int)) : (sizesL a).sum = (wordsL a : Int) := by
  induction a with
  | nil => rfl
  | cons s a ih => rw [sizesL_cons, List.sum_cons, ih, wordsL_cons]; omega
theorem cutL_bytes (a : List (List Int)) (hf : fitsB (sizesL a) = true) (h : ∀ s ∈ a, ∀ x ∈ s, u64B x = true) : cutL (sizesL a) (bytesL a) = (a, 0) := by
  unfold cutL
  rw [if_pos hf, if_pos (by rw [bytesL_length, sizesL_sum]; omega)]
  have := cutWords_bytes a h []
  rw [List.append_nil] at this
  rw [this]
theorem sizesL_nonneg (a : List (List Int)) : ∀ x ∈ sizesL a, 0 ≤ x := by
  intro x hx
  simp only [sizesL, List.mem_map] at hx
  obtain ⟨s, _, rfl⟩ := hx
  omega
theorem fitsB_of {l : List Int} (h1 : 1 ≤ l.length) (h2 : l.length ≤ 16) (h3 : 1 ≤ l.getD 0 0) (h4 : ∀ x ∈ l, 0 ≤ x) (h5 : l.sum ≤ 4096) : fitsB l = true := by
  have : l.all (fun x => decide (0 ≤ x)) = true := List.all_eq_true.2 fun x hx => by simpa using h4 x hx
  simp only [fitsB, restB, Bool.and_eq_true, decide_eq_true_eq]
  exact ⟨⟨⟨h1, h2⟩, h3⟩, this, by omega⟩
theorem arenaC_length (c : List Int) : ∀ m i k, (arenaC c m i k).length = m
  | 0, _, _ => rfl
  | m + 1, i, k => by simp [arenaC, arenaC_length c m]
theorem arenaC_words (c : List Int) : ∀ m i k, wordsL (arenaC c m i k) ≤ 12 * m
  | 0, _, _ => by simp [arenaC, wordsL]
  | m + 1, i, k => by
    have := arenaC_words c m (i + 1) (k + sizeC c i)
    have := sizeC_le c i
    rw [arenaC, wordsL_cons, segC_length]; omega
theorem wordC_u64 {c : List Int} (hc : bytesB c = true) (k : Nat) (hk : k ≤ 1000000000) : u64B (wordC c k) = true := by
  have h : 0 ≤ c.getD (k % c.length) 0 ∧ c.getD (k % c.length) 0 ≤ 255 := by
    by_cases hl : k % c.length < c.length
    · rw [List.getD_eq_getElem?_getD, List.getElem?_eq_getElem hl]; exact bytesB_at hc _ (List.getElem_mem hl)
    · rw [List.getD_eq_getElem?_getD, List.getElem?_eq_none (by omega)]; simp
  have e : u64B (wordC c k) = (decide (0 ≤ wordC c k) && decide (wordC c k < 18446744073709551616)) := rfl
  rw [e, wordC, decide_eq_true (by omega), decide_eq_true (by omega)]
  rfl
theorem arenaC_u64 {c : List Int} (hc : bytesB c = true) : ∀ m i k, k + 12 * m ≤ 1000000000 → ∀ s ∈ arenaC c m i k, ∀ x ∈ s, u64B x = true
  | 0, _, _, _ => by simp [arenaC]
  | m + 1, i, k, hk => by
    have hz := sizeC_le c i
    have := arenaC_u64 hc m (i + 1) (k + sizeC c i) (by omega)
    intro s hs
    rw [arenaC, List.mem_cons] at hs
    rcases hs with rfl | hs
    · intro x hx
      simp only [segC, List.mem_map, List.mem_range] at hx
      obtain ⟨j, hj, rfl⟩ := hx
      exact wordC_u64 hc _ (by omega)
    · exact this s hs
theorem arenaL_length (c : List Int) {n : Int} (h0 : 0 ≤ n) : 1 ≤ (arenaL c n).length ∧ (arenaL c n).length ≤ 5 := by
  unfold arenaL; rw [arenaC_length]; omega
theorem arenaL_words (c : List Int) {n : Int} (h0 : 0 ≤ n) : wordsL (arenaL c n) ≤ 60 := by
  have := arenaC_words c (1 + (n % 5)).toNat 0 0
  unfold arenaL; omega
theorem arenaL_u64 {c : List Int} (hc : bytesB c = true) {n : Int} (h0 : 0 ≤ n) : ∀ s ∈ arenaL c n, ∀ x ∈ s, u64B x = true :=
  arenaC_u64 hc _ _ _ (by omega)
theorem arenaL_first (c : List Int) {n : Int} (h0 : 0 ≤ n) : 1 ≤ (sizesL (arenaL c n)).getD 0 0 := by
  unfold arenaL
  rw [show (1 + (n % 5)).toNat = (n % 5).toNat + 1 from by omega, arenaC, sizesL_cons, segC_length]
  have := sizeC_pos c
  simp; omega
theorem arenaL_fits (c : List Int) {n : Int} (h0 : 0 ≤ n) : fitsB (sizesL (arenaL c n)) = true := by
  have h1 := arenaL_length c h0
  have h2 := arenaL_words c h0
  exact fitsB_of (by rw [sizesL_length]; omega) (by rw [sizesL_length]; omega) (arenaL_first c h0) (sizesL_nonneg _) (by rw [sizesL_sum]; omega)
theorem arenaL_cut {c : List Int} (hc : bytesB c = true) {n : Int} (h0 : 0 ≤ n) : cutL (sizesL (arenaL c n)) (bytesL (arenaL c n)) = (arenaL c n, 0) :=
  cutL_bytes _ (arenaL_fits c h0) (arenaL_u64 hc h0)
theorem mem_wordsL {a : List (List Int)} {s : List Int} (h : s ∈ a) : s.length ≤ wordsL a := by
  induction a with
  | nil => simp at h
  | cons t a ih =>
    rw [wordsL_cons]
    rcases List.mem_cons.1 h with rfl | h
    · omega
    · have := ih h; omega
theorem arenaL_small (c : List Int) {n : Int} (h0 : 0 ≤ n) : smallA (arenaL c n) = true := by
  have h1 := arenaL_length c h0
  have h2 := arenaL_words c h0
  simp only [smallA, Bool.and_eq_true, decide_eq_true_eq, List.all_eq_true]
  exact ⟨by omega, fun s hs => by have := mem_wordsL hs; omega⟩
theorem okA_of {a : List (List Int)} (h1 : a.length ≤ 1000000) (h2 : wordsL a ≤ 1000000) (h3 : ∀ s ∈ a, ∀ x ∈ s, u64B x = true) : okA a = true := by
  simp only [okA, Bool.and_eq_true, decide_eq_true_eq, List.all_eq_true]
  exact ⟨⟨h1, h2⟩, h3⟩
theorem arenaL_ok {c : List Int} (hc : bytesB c = true) {n : Int} (h0 : 0 ≤ n) : okA (arenaL c n) = true :=
  okA_of (by have := arenaL_length c h0; omega) (by have := arenaL_words c h0; omega) (arenaL_u64 hc h0)
theorem cutWords_u64 : ∀ (s b : List Int), bytesB b = true → ∀ t ∈ cutWords s b, ∀ x ∈ t, u64B x = true
  | [], _, _ => by simp [cutWords]
  | n :: ss, b, hb => by
    have hseg : ∀ (m : Nat) (b : List Int), bytesB b = true → ∀ x ∈ segL m b, u64B x = true := by
      intro m
      induction m with
      | zero => intro b _ x hx; simp [segL] at hx
      | succ m ih =>
        intro b hb x hx
        rw [segL, List.mem_cons] at hx
        rcases hx with rfl | hx
        · have := getL_bound 8 (b.take 8) (by simp; omega) (bytesB_at (bytesB_take hb 8))
          simp only [u64B, Bool.and_eq_true, decide_eq_true_eq]; omega
        · exact ih _ (bytesB_drop hb 8) x hx
    intro t ht
    rw [cutWords, List.mem_cons] at ht
    rcases ht with rfl | ht
    · exact hseg _ _ hb
    · exact cutWords_u64 ss _ (bytesB_drop hb _) t ht
end Go.Proofs.Ythlhnodedofibaa.H
end

section
/- Plain facts that several laws of the arena layer need. -/
namespace Go.Proofs.Ythlhnodedofibaa.Pure
open Go.RowKit Go.Proofs.Ythlhnodedofibaa.F Go.Proofs.Ythlhnodedofibaa.H
theorem known07 : scullerlaw07_known.f = some true := by decide +kernel
theorem byte_wf {x : Int} (h : (Lit.int .u8 x).wf = true) : 0 ≤ x ∧ x ≤ 255 := by
  simp [Lit.wf, IntKind.min, IntKind.max, IntKind.signed, IntKind.bits] at h
  omega
theorem bytes_wf {l : List Int} (h : ∀ x ∈ l, (Lit.int .u8 x).wf = true) : bytesB l = true := bytesB_of fun x hx => byte_wf (h x hx)
end Go.Proofs.Ythlhnodedofibaa.Pure
end

section
/- An arena's word is found at its place in the bytes. -/
namespace Go.Proofs.Ythlhnodedofibaa.Pure
open Go.RowKit Go.Proofs.Ythlhnodedofibaa.F Go.Proofs.Ythlhnodedofibaa.H Go.Proofs.YthlhnodedofibaaW.PrintWords Go.Proofs.YthlhnodedofibaaW.PrintLast
theorem flat8_at (s : List Int) : ∀ (j : Nat) (h : j < s.length), ((s.flatMap fun w => putL w 8).drop (8 * j)).take 8 = putL (s[j]'h) 8 := by
  induction s with
  | nil => intro j h; simp at h
  | cons x s ih =>
    intro j h
    have hl := putL_length x 8
    match j with
    | 0 =>
      rw [List.flatMap_cons, Nat.mul_zero, List.drop_zero, List.take_append_of_le_length (by omega), List.take_of_length_le (by omega)]
      rfl
    | j + 1 =>
      have e : ((x :: s).flatMap fun w => putL w 8).drop (8 * (j + 1)) = (s.flatMap fun w => putL w 8).drop (8 * j) := by
        rw [List.flatMap_cons, List.drop_append, List.drop_of_length_le (by omega), List.nil_append, hl]
        congr 1
      rw [e]
      exact ih j (by simpa using h)
theorem flat_at : ∀ (a : List (List Int)) (i j : Nat) (hi : i < a.length) (hj : j < (a[i]'hi).length),
    ∃ h : ((sizesL a).take i).sum.toNat + j < a.flatten.length, a.flatten[((sizesL a).take i).sum.toNat + j]'h = (a[i]'hi)[j]'hj
  | s :: a, 0, j, _, hj => by
    refine ⟨by simp at hj ⊢; omega, ?_⟩
    simp only [List.take_zero, List.sum_nil, Int.toNat_zero, Nat.zero_add, List.flatten_cons, List.getElem_cons_zero]
    rw [List.getElem_append_left]
  | s :: a, i + 1, j, hi, hj => by
    obtain ⟨h, e⟩ := flat_at a i j (by simpa using hi) (by simpa using hj)
    have hn := sum_nonneg' (l := (sizesL a).take i) (fun y hy => sizesL_nonneg a y (List.mem_of_mem_take hy))
    have hs : (((sizesL (s :: a)).take (i + 1)).sum).toNat + j = s.length + (((sizesL a).take i).sum.toNat + j) := by
      rw [sizesL_cons, List.take_succ_cons, List.sum_cons]; omega
    refine ⟨by rw [hs, List.flatten_cons, List.length_append]; omega, ?_⟩
    simp only [hs, List.flatten_cons]
    rw [List.getElem_append_right (by omega)]
    simp only [Nat.add_sub_cancel_left, List.getElem_cons_succ]
    exact e
theorem back_l0 (a : List (List Int)) (b : List Int) (i j : Nat) (p : Int) (hi : i < a.length) (hj : j < (a[i]'hi).length) (h1 : a.length ≤ 1000000) (h2 : wordsL a ≤ 1000000) (hsm : smallA a = true) (hb : b = bytesL a) (hp0 : 0 ≤ p) (hp : 8 * p + 8 ≤ b.length)
    (hrow : ∀ x ∈ a[i]'hi, u64B x = true) (hat : (b.drop (8 * p.toNat)).take 8 = putL ((a[i]'hi)[j]'hj) 8) : ∀ (d : Nat) (x : Int), d ≤ 8 → x = getL (((b.drop (8 * p.toNat)).take 8).drop d) →
      ∃ k, scullerlaw07_ArenaBack.l0 k a b a 0 i j p x ((d : Int) - 1) = some true
  | 0, x, hd, hx => by
    refine ⟨1, ?_⟩
    have hlb := bytesL_length a
    have hu := hrow _ (List.getElem_mem hj)
    simp only [u64B, Bool.and_eq_true, decide_eq_true_eq] at hu
    rw [List.drop_zero, hat, getL_putL 8 _ hu.1 (by omega)] at hx
    rw [scullerlaw07_ArenaBack.l0, if_neg (by omega), known07, Option.bind_some, if_pos rfl, if_pos rfl, arena_Same.f, if_pos hsm, Option.bind_some, if_pos (by simp), if_pos (by omega), if_pos (by omega), if_pos (by omega)]
    rw [show rd_L1 a (i : Int) = a[i]'hi from getD_toNat a [] i hi, show rd (a[i]'hi) (j : Int) = (a[i]'hi)[j]'hj from getD_toNat _ 0 j hj, if_pos (by omega), if_pos hx, arena_Words.f, if_pos ⟨h1, h2⟩, Option.bind_some]
    rw [hb, hlb, show wrap64 (8 * (wordsL a : Int)) = ((8 * wordsL a : Nat) : Int) from by unfold wrap64; omega, beq_self_eq_true]
  | d + 1, x, hd, hx => by
    have hby : ∀ c ∈ b, 0 ≤ c ∧ c ≤ 255 := by rw [hb]; exact bytesL_byte a
    have hlb := bytesL_length a
    have hlt : 8 * p.toNat + d < b.length := by omega
    have hrd : rd b (8 * p + d) = b[8 * p.toNat + d]'hlt := by
      rw [show 8 * p + (d : Int) = ((8 * p.toNat + d : Nat) : Int) from by omega]
      exact getD_toNat b 0 _ hlt
    have hbd := hby _ (List.getElem_mem hlt)
    have htk : (((b.drop (8 * p.toNat)).take 8).drop d) = b[8 * p.toNat + d]'hlt :: (((b.drop (8 * p.toNat)).take 8).drop (d + 1)) := by
      rw [drop_at _ d (by simp; omega)]
      simp
    have hgb := getL_bound 7 (((b.drop (8 * p.toNat)).take 8).drop (d + 1)) (by simp; omega) (fun c hc => hby c (List.mem_of_mem_drop (List.mem_of_mem_take (List.mem_of_mem_drop hc))))
    rw [← hx] at hgb
    obtain ⟨k, hk⟩ := back_l0 a b i j p hi hj h1 h2 hsm hb hp0 hp hrow hat d (b[8 * p.toNat + d]'hlt + 256 * x) (by omega) (by rw [htk, getL, ← hx])
    refine ⟨k + 1, ?_⟩
    have hB : b.length ≤ 8000000 := by rw [hb]; omega
    have e1 : wrap64 (8 * p) = 8 * p := by unfold wrap64; omega
    have e2 : ((d + 1 : Nat) : Int) - 1 = (d : Int) := by omega
    have e3 : wrap64 (8 * p + (d : Int)) = 8 * p + d := by unfold wrap64; omega
    have wu : ∀ z : Int, 0 ≤ z → z < 18446744073709551616 → IntKind.u64.wrap z = z := fun z hz hz2 => wrapu hz hz2
    rw [scullerlaw07_ArenaBack.l0, if_pos (by omega), e2, e1, e3, if_pos (by omega), if_pos (by omega), hrd, wu (256 * x) (by omega) (by omega), wu (b[8 * p.toNat + d]'hlt) (by omega) (by omega), wu _ (by omega) (by omega), show wrap64 ((d : Int) - 1) = (d : Int) - 1 from by unfold wrap64; omega, Int.add_comm (256 * x)]
    exact hk
theorem placeL_in {a : List (List Int)} (hf : fitsB (sizesL a) = true) (i j : Nat) (hi : i < a.length) (hj : j < (a[i]'hi).length) : placeL (sizesL a) i j = (j : Int) + ((sizesL a).take i).sum := by
  have hg : (sizesL a).getD i 0 = ((a[i]'hi).length : Int) := by
    rw [List.getD_eq_getElem?_getD, List.getElem?_eq_getElem (by rw [sizesL_length]; omega)]; simp [sizesL]
  have hw : withinB (sizesL a) i j 1 = true := by
    simp only [withinB, Bool.and_eq_true, decide_eq_true_eq, Int.toNat_natCast, hg, sizesL_length]; omega
  unfold placeL
  rw [if_pos ⟨hf, hw⟩, Int.toNat_natCast]
theorem placeL_out {a : List (List Int)} (i : Nat) (hi : i < a.length) (h0 : (a[i]'hi).length = 0) : placeL (sizesL a) i 0 = -1 := by
  have hg : (sizesL a).getD i 0 = ((a[i]'hi).length : Int) := by
    rw [List.getD_eq_getElem?_getD, List.getElem?_eq_getElem (by rw [sizesL_length]; omega)]; simp [sizesL]
  unfold placeL
  rw [if_neg]
  rintro ⟨_, hw⟩
  simp only [withinB, Bool.and_eq_true, decide_eq_true_eq, Int.toNat_natCast, hg] at hw
  omega
theorem ArenaBack : scullerlaw07_ArenaBack.Pure := by
  intro l0 a1 a2 a3 h1 h2 h3 h4 h5 h6
  have hb := bytes_wf h3
  have hn := byte_wf h4
  have h5 := byte_wf h5
  have h6 := byte_wf h6
  have hA := arenaL_length l0 hn.1
  have hW := arenaL_words l0 hn.1
  have hfit := arenaL_fits l0 hn.1
  have hcut := arenaL_cut hb hn.1
  have hsm := arenaL_small l0 hn.1
  have hu := arenaL_u64 hb hn.1
  have hstart : scullerlaw07_Arena_c.f l0 a1 = some (arenaL l0 a1) := if_pos ⟨hb, by omega, hn.1, hn.2⟩
  have hf : ∀ k, scullerlaw07_ArenaBack.f k l0 a1 a2 a3 = scullerlaw07_ArenaBack.f k l0 a1 a2 a3 := fun _ => rfl
  conv at hf => intro k; rhs; rw [scullerlaw07_ArenaBack.f, hstart, Option.bind_some]
  clear hstart
  revert hf
  generalize arenaL l0 a1 = a at hA hW hfit hcut hsm hu ⊢
  intro hf
  have hlb := bytesL_length a
  have hS : arena_Sizes_c.f a = some (sizesL a) := if_pos (by omega)
  have hB : arena_Bytes.f a = some (bytesL a) := if_pos ⟨by omega, by omega⟩
  have hC : arena_Cut.f (sizesL a) (bytesL a) = some (a, 0) := by rw [arena_Cut.f, if_pos ⟨bytesB_of (bytesL_byte _), by omega⟩, hcut]
  obtain ⟨i, hi, ei⟩ : ∃ i : Nat, i < a.length ∧ Int.tmod (wrap64 a2) (a.length : Int) = i := by
    refine ⟨(a2 % a.length).toNat, ?_, ?_⟩
    · have := Int.emod_lt_of_pos a2 (show (0 : Int) < a.length by omega)
      have := Int.emod_nonneg a2 (show (a.length : Int) ≠ 0 by omega)
      omega
    · have := Int.emod_nonneg a2 (show (a.length : Int) ≠ 0 by omega)
      rw [show wrap64 a2 = a2 from by unfold wrap64; omega, Int.tmod_eq_emod_of_nonneg h5.1]
      omega
  have hr : rd_L1 a (i : Int) = a[i]'hi := getD_toNat a [] i hi
  have hwl := mem_wordsL (List.getElem_mem hi)
  simp only [hS, hB, hC, Option.bind_some, ei, hr, if_neg (show ¬ (a.length : Int) = 0 by omega), if_pos (show 0 ≤ (i : Int) by omega), if_pos (show (i : Int) < a.length by omega)] at hf
  by_cases h0 : (a[i]'hi).length = 0
  · refine ⟨0, ?_⟩
    rw [hf, if_pos (by omega), known07, Option.bind_some, if_pos rfl, if_pos trivial, arena_Same.f, if_pos hsm, Option.bind_some, if_pos (by simp), arena_Place.f, Option.bind_some, placeL_out i hi h0]
    rfl
  · obtain ⟨j, hj, ej⟩ : ∃ j : Nat, j < (a[i]'hi).length ∧ Int.tmod (wrap64 a3) ((a[i]'hi).length : Int) = j := by
      refine ⟨(a3 % (a[i]'hi).length).toNat, ?_, ?_⟩
      · have := Int.emod_lt_of_pos a3 (show (0 : Int) < (a[i]'hi).length by omega)
        have := Int.emod_nonneg a3 (show ((a[i]'hi).length : Int) ≠ 0 by omega)
        omega
      · have := Int.emod_nonneg a3 (show ((a[i]'hi).length : Int) ≠ 0 by omega)
        rw [show wrap64 a3 = a3 from by unfold wrap64; omega, Int.tmod_eq_emod_of_nonneg h6.1]
        omega
    simp only [ej, if_neg (show ¬ ((a[i]'hi).length : Int) = 0 by omega), arena_Place.f, Option.bind_some, placeL_in hfit i j hi hj] at hf
    have hn0 := sum_nonneg' (l := (sizesL a).take i) (fun y hy => sizesL_nonneg a y (List.mem_of_mem_take hy))
    obtain ⟨hlt, hat⟩ := flat_at a i j hi hj
    have hwd : a.flatten.length = wordsL a := rfl
    have hd := flat8_at a.flatten _ hlt
    rw [hat] at hd
    obtain ⟨p, hp, ep⟩ : ∃ p : Int, 0 ≤ p ∧ (j : Int) + ((sizesL a).take i).sum = p := ⟨_, by omega, rfl⟩
    rw [ep] at hf
    rw [show ((sizesL a).take i).sum.toNat + j = p.toNat from by omega] at hd hlt
    have hp2 : wrap64 (wrap64 (8 * p) + 8) = 8 * p + 8 := by unfold wrap64; omega
    obtain ⟨k, hk⟩ := back_l0 a (bytesL a) i j p hi hj (by omega) (by omega) hsm rfl hp (by omega) (hu _ (List.getElem_mem hi)) hd 8 0 (by omega) (by
      rw [List.drop_of_length_le (by rw [List.length_take]; omega), getL])
    refine ⟨k + 1, ?_⟩
    rw [hf, if_neg (by omega), hp2, scullerlaw07_ArenaBack.j0, decide_eq_false (by omega), if_neg (by simp)]
    exact hk
end Go.Proofs.Ythlhnodedofibaa.Pure
end
