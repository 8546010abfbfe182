/- Proved: at every input in bounds the statement TokenCut of the token layer answers yes: cut off, even with a sum of its own, a token is none; nor is it with a segment more.
Text 3 of 5; functions told as plain ones, with the contracts of their calls. -/
import Derived.Test.YtbijnfhcbanhdaaQTokenCut1
import Derived.Test.YtbijnfhcbanhdaaQTokenCut2
section
namespace Go.Proofs.Ytbijnfhcbanhdaa.F
open Go.RowKit Go.Proofs.YtbijnfhcbanhdaaW.PrintWords Go.Proofs.YtbijnfhcbanhdaaW.PrintLast Go.Proofs.YtbijnfhcbanhdaaW.PrintMore
attribute [local go_sem] max2_int min2_int max_two min_two max_three min_three max_four min_four   -- for this text's walks alone
set_option linter.unusedVariables false
set_option linter.unusedSimpArgs false

/-! ### scullerref12_Words: function 51 -/
def scullerref12_Words.l0 : Nat → Int → Int → Int → List Int → Int → Option (Int)
 | 0, _, _, _, _, _ => none
 | k + 1, x3, x4, x102000, x102001, x102002 => if x4 < (x102001.length : Int) then (if 0 ≤ x4 then (scullerref12_Words.l0 k (wrap64 (x3 + (rd x102001 x4))) (wrap64 (x4 + 1)) x102000 x102001 x102002) else (none)) else (some x3)
def scullerref12_Words.f (k : Nat) (a0_0 : Int) (l0_1 : List Int) (a0_2 : Int) : Option (Int) := (scullerref12_Right.f a0_0 l0_1 a0_2).bind fun t102 => (if t102 = true then (scullerref12_Words.l0 k 0 0 a0_0 l0_1 a0_2) else (some 0))
theorem scullerref12_Words.mono_l : ∀ k, (∀ y0 y1 y2 y3 y4, LeO (scullerref12_Words.l0 k y0 y1 y2 y3 y4) (scullerref12_Words.l0 (k + 1) y0 y1 y2 y3 y4))
 | 0 => fun _ _ _ _ _ r h => by simp [scullerref12_Words.l0] at h
 | k + 1 => by
   have ih0 := scullerref12_Words.mono_l k
   · intro y0 y1 y2 y3 y4
     unfold scullerref12_Words.l0
     repeat' first
     | (with_reducible exact ih0 _ _ _ _ _)
     | (with_reducible exact LeO.refl _)
     | (with_reducible exact LeO.none _)
     | (with_reducible refine LeO.ite ?_ ?_)
     | (with_reducible refine LeO.bind ?_ (fun _ => ?_))
     | exact ih0 _ _ _ _ _
     | exact LeO.none _
     | refine LeO.ite ?_ ?_
     | refine LeO.bind ?_ (fun _ => ?_)
theorem scullerref12_Words.mono : ∀ a0 a1 a2 k, LeO (scullerref12_Words.f k a0 a1 a2) (scullerref12_Words.f (k + 1) a0 a1 a2) := by
 intro a0 a1 a2 k
 have ih0 := scullerref12_Words.mono_l k
 unfold scullerref12_Words.f
 repeat' first
  | (with_reducible exact ih0 _ _ _ _ _)
  | (with_reducible exact LeO.refl _)
  | (with_reducible exact LeO.none _)
  | (with_reducible refine LeO.ite ?_ ?_)
  | (with_reducible refine LeO.bind ?_ (fun _ => ?_))
  | exact ih0 _ _ _ _ _
  | exact LeO.none _
  | refine LeO.ite ?_ ?_
  | refine LeO.bind ?_ (fun _ => ?_)
set_option maxHeartbeats 8000000 in
set_option maxRecDepth 100000 in
theorem scullerref12_Words.calls (k : Nat) (a0_0 : Int) (A0_1 : Option Addr) (c0_1 : Nat) (l0_1 : List Int) (a0_2 : Int) (r : Int) (w : World) (hr0_1 : Kd.C (Kd.int .i64) w A0_1 l0_1.length l0_1) (hc0_1 : l0_1.length ≤ c0_1) (h : scullerref12_Words.f k a0_0 l0_1 a0_2 = some r) :
 Calls Try.prog 51 #[.agg #[.int .u64 a0_0, .slice A0_1 l0_1.length c0_1, .int .u32 a0_2]] w fun e w' => e = .returned (.int .i64 r) ∧ Below w.heap.size w w' := by
 have hu26 := Try.underlying26
 have HR0_1 := Aside0.mk hr0_1
 have HC0_1 := Aside0.mk hc0_1
 clear hr0_1 hc0_1
 have HB := Aside0.mk (Below.refl w.heap.size w)
 have H : ((scullerref12_Right.f a0_0 l0_1 a0_2).bind fun t102 => (if t102 = true then (scullerref12_Words.l0 k 0 0 a0_0 l0_1 a0_2) else (some 0))) = some r := h
 clear h
 replace H := Option.bind_eq_some_iff.mp H
 obtain ⟨t102, A20, H⟩ := H
 replace H : (if t102 = true then (scullerref12_Words.l0 k 0 0 a0_0 l0_1 a0_2) else (some 0)) = some r := H
 have A2 := Aside0.mk A20
 clear A20
 by_cases c3 : t102 = true
 · subst c3
   have H1 : (scullerref12_Words.l0 k 0 0 a0_0 l0_1 a0_2) = some r := by rw [if_pos rfl] at H; exact H
   clear H
   have H := H1
   clear H1
   have H' := Aside0.mk H
   clear H
   go_enter Try.func51, Try.ntmps51
   go_wp2_with (first | ((with_reducible refine gate_dst (N := 1) rfl ?_); refine box_event ?hg (N := 1) ?hd (cs := #[.int .u64 a0_0, .slice A0_1 l0_1.length c0_1, .int .u32 a0_2]) (t := 26) ?hr ?_; (case hd => rfl); (case hg => rfl); (case hr => first | (go_simp; done) | (go_simp; rfl)); intro gb101 hg w4 hbox hb; have n0_ := Aside0.mk (below_step (by repeat (first | (with_reducible first | exact HB.out | apply below_alloc | apply pw_below_drewN | apply below_drew1) | exact HB.out)) hb); have n1_ := Aside0.mk (hbox); have n2_ := Aside0.mk ((by rw [hg]; exact (below_size (by repeat (first | (with_reducible first | exact HB.out | apply below_alloc | apply pw_below_drewN | apply below_drew1) | exact HB.out))) : w.heap.size ≤ gb101)); have n3_ := Aside0.mk ((by rw [hg]; exact (below_size (by repeat (first | (with_reducible first | exact HB.out | apply below_alloc | apply pw_below_drewN | apply below_drew1) | exact HB.out))) : w.heap.size ≤ gb101)); clear HB; have HB := n0_; have BK101 := n1_; have GW101 := n2_; have GE101 := n3_; clear n0_ n1_ n2_ n3_; clear hb hbox hg; have hcz5_0 : w4.cell? ⟨gb101, 0, none⟩ = some (.int .u64 a0_0) := (blk_cell BK101.out 0).trans rfl; have hcz5_1 : w4.cell? ⟨gb101, 1, none⟩ = some (.slice A0_1 l0_1.length c0_1) := (blk_cell BK101.out 1).trans rfl; have hcz5_2 : w4.cell? ⟨gb101, 2, none⟩ = some (.int .u32 a0_2) := (blk_cell BK101.out 2).trans rfl; have hfz5_0 := blk_frozen BK101.out 0; have hfz5_1 := blk_frozen BK101.out 1; have hfz5_2 := blk_frozen BK101.out 2) | ((with_reducible refine gate_callee (f := 75) rfl ?_); refine goesL_ (some 6) rfl rfl Try.func75 (by kernel_rfl) rfl #[.agg #[.int .u64 a0_0, .slice A0_1 l0_1.length c0_1, .int .u32 a0_2]] rfl (by (try simp only [List.map_toArray, List.map_cons, List.map_nil]); first | done | rfl | (simp only [List.length_drop, List.length_take]; rfl)) ?_; (with_reducible refine (scullerref12_Right.calls a0_0 _ _ l0_1 a0_2 true _ ?side1 ?side2 A2.out).mono ?_); (case side1 => repeat (first | exact (Kd.C_below HR0_1.out HB.out) | (with_reducible refine Kd.C_alloc ?_ _) | (with_reducible refine Kd.C_drewN ?_ _) | (with_reducible refine Kd.C_drew ?_))); (case side2 => exact HC0_1.out); rintro e w6 ⟨rfl, hb⟩; refine ⟨_, rfl, ?_⟩; have n0_ := Aside0.mk (blk_below (g := gb101) (o := .cells #[.int .u64 a0_0, .slice A0_1 l0_1.length c0_1, .int .u32 a0_2] 26 (0, 0)) (by (with_reducible repeat (first | refine blk_drewN ?_ _ | refine blk_drew ?_ | refine blk_alloc ?_ _)); exact BK101.out) hb); have n1_ := Aside0.mk (below_step (by repeat (first | (with_reducible first | exact HB.out | apply below_alloc | apply pw_below_drewN | apply below_drew1 | refine below_set ?_ GE101.out) | exact HB.out)) hb); clear BK101; clear HB; have BK101 := n0_; have HB := n1_; clear n0_ n1_; (try clear hb); (try clear hb2); (try clear hk); (try clear hi)))
   go_loopg [3, 4] k (fun kq v3 v4 w' => ∃ (x3_1 : Int) (x4_1 : Int), v3 = .int .i64 x3_1 ∧ v4 = .int .i64 x4_1 ∧ Aside0 (scullerref12_Words.l0 kq x3_1 x4_1 a0_0 l0_1 a0_2 = some r) ∧ Aside0 (kq ≤ k) ∧ Aside0 (w'.heap[gb101]? = some (.cells #[.int .u64 a0_0, (.slice A0_1 l0_1.length c0_1), .int .u32 a0_2] 26 (0, 0))) ∧ Aside0 (Below w.heap.size w w'))
   case atStart => exact ⟨(0), (0), (by first | rfl | (simp; done) | (simp [*]; done)), (by first | rfl | (simp; done) | (simp [*]; done)), H', ⟨Nat.le_refl _⟩, ⟨by (with_reducible repeat (first | refine blk_drewN ?_ _ | refine blk_drew ?_ | refine blk_alloc ?_ _)); exact BK101.out⟩, ⟨by repeat (first | (with_reducible first | exact HB.out | apply below_alloc | apply pw_below_drewN | apply below_drew1 | refine below_set ?_ GE101.out) | exact HB.out)⟩⟩
   case round =>
    clear H'
    try clear p2
    try clear c3
    try clear c5
    try clear hcz5_0
    try clear hcz5_1
    try clear hcz5_2
    try clear hfz5_0
    try clear hfz5_1
    try clear hfz5_2
    obtain ⟨x3_1, x4_1, rfl, rfl, HA, HK1, BK101, HB⟩ := hrel
    cases gk with
    | zero => exact absurd HA.out (by simp [scullerref12_Words.l0])
    | succ k1 =>
      have H := HA.out
      clear HA
      simp only [scullerref12_Words.l0] at H
      by_cases c7 : x4_1 < (l0_1.length : Int)
      · rw [if_pos c7] at H
        have c7b0 : decide (x4_1 < (l0_1.length : Int)) = true := decide_eq_true c7
        clear c7
        by_cases c8 : 0 ≤ x4_1
        · rw [if_pos c8] at H
          have c8b0 : decide (0 ≤ x4_1) = true := decide_eq_true c8
          clear c8
          have H' := Aside0.mk H
          clear H
          have hcz9_0 : wr.cell? ⟨gb101, 0, none⟩ = some (.int .u64 a0_0) := (blk_cell BK101.out 0).trans rfl
          have hcz9_1 : wr.cell? ⟨gb101, 1, none⟩ = some (.slice A0_1 l0_1.length c0_1) := (blk_cell BK101.out 1).trans rfl
          have hcz9_2 : wr.cell? ⟨gb101, 2, none⟩ = some (.int .u32 a0_2) := (blk_cell BK101.out 2).trans rfl
          have hfz9_0 := blk_frozen BK101.out 0
          have hfz9_1 := blk_frozen BK101.out 1
          have hfz9_2 := blk_frozen BK101.out 2
          have p103 : 0 ≤ (x4_1 : Int) := of_decide_eq_true (by first | (with_reducible assumption) | assumption)
          have q103 : x4_1 < (l0_1.length : Int) := of_decide_eq_true (by first | (with_reducible assumption) | assumption)
          obtain ⟨ad103, e103, hx103_0⟩ := Kd.at_int HR0_1.out x4_1 p103 q103
          cases e103
          replace hx103_0 := (HB.out.cell (World.block_lt_of_cell? w _ hx103_0)).trans hx103_0
          replace p103 := eq_true p103
          replace q103 := eq_true q103
          go_wp2
          go_roundg k1
          case measure => have := HK1.out; omega
          case rel => exact ⟨(wrap64 (x3_1 + (rd l0_1 x4_1))), (wrap64 (x4_1 + 1)), (by first | rfl | (simp; done) | (simp [*]; done)), (by first | rfl | (simp; done) | (simp [*]; done)), H', ⟨by have := HK1.out; omega⟩, ⟨by (with_reducible repeat (first | refine blk_drewN ?_ _ | refine blk_drew ?_ | refine blk_alloc ?_ _)); exact BK101.out⟩, ⟨by repeat (first | (with_reducible first | exact HB.out | apply below_alloc | apply pw_below_drewN | apply below_drew1 | refine below_set ?_ GE101.out) | exact HB.out)⟩⟩
        · rw [if_neg c8] at H
          exact absurd H (by simp)
      · rw [if_neg c7] at H
        have c7b0 : decide (x4_1 < (l0_1.length : Int)) = false := decide_eq_false c7
        clear c7
        obtain rfl := Option.some.inj H
        have hcz10_0 : wr.cell? ⟨gb101, 0, none⟩ = some (.int .u64 a0_0) := (blk_cell BK101.out 0).trans rfl
        have hcz10_1 : wr.cell? ⟨gb101, 1, none⟩ = some (.slice A0_1 l0_1.length c0_1) := (blk_cell BK101.out 1).trans rfl
        have hcz10_2 : wr.cell? ⟨gb101, 2, none⟩ = some (.int .u32 a0_2) := (blk_cell BK101.out 2).trans rfl
        have hfz10_0 := blk_frozen BK101.out 0
        have hfz10_1 := blk_frozen BK101.out 1
        have hfz10_2 := blk_frozen BK101.out 2
        go_wp2
        go_ret
        exact ⟨by first | rfl | (simp [errW_none, errW_some] <;> rfl) | (simp [*, errW_none, errW_some] <;> rfl), by repeat (first | (with_reducible first | exact HB.out | apply below_alloc | apply pw_below_drewN | apply below_drew1 | refine below_set ?_ GE101.out) | exact HB.out)⟩
 · replace c3 := Bool.eq_false_iff.mpr c3
   subst c3
   have H1 : (some 0) = some r := by rw [if_neg (show ¬ (false = true) by decide)] at H; exact H
   clear H
   have H := H1
   clear H1
   obtain rfl := Option.some.inj H
   go_enter Try.func51, Try.ntmps51
   go_wp2_with (first | ((with_reducible refine gate_dst (N := 1) rfl ?_); refine box_event ?hg (N := 1) ?hd (cs := #[.int .u64 a0_0, .slice A0_1 l0_1.length c0_1, .int .u32 a0_2]) (t := 26) ?hr ?_; (case hd => rfl); (case hg => rfl); (case hr => first | (go_simp; done) | (go_simp; rfl)); intro gb101 hg w11 hbox hb; have n0_ := Aside0.mk (below_step (by repeat (first | (with_reducible first | exact HB.out | apply below_alloc | apply pw_below_drewN | apply below_drew1) | exact HB.out)) hb); have n1_ := Aside0.mk (hbox); have n2_ := Aside0.mk ((by rw [hg]; exact (below_size (by repeat (first | (with_reducible first | exact HB.out | apply below_alloc | apply pw_below_drewN | apply below_drew1) | exact HB.out))) : w.heap.size ≤ gb101)); have n3_ := Aside0.mk ((by rw [hg]; exact (below_size (by repeat (first | (with_reducible first | exact HB.out | apply below_alloc | apply pw_below_drewN | apply below_drew1) | exact HB.out))) : w.heap.size ≤ gb101)); clear HB; have HB := n0_; have BK101 := n1_; have GW101 := n2_; have GE101 := n3_; clear n0_ n1_ n2_ n3_; clear hb hbox hg; have hcz12_0 : w11.cell? ⟨gb101, 0, none⟩ = some (.int .u64 a0_0) := (blk_cell BK101.out 0).trans rfl; have hcz12_1 : w11.cell? ⟨gb101, 1, none⟩ = some (.slice A0_1 l0_1.length c0_1) := (blk_cell BK101.out 1).trans rfl; have hcz12_2 : w11.cell? ⟨gb101, 2, none⟩ = some (.int .u32 a0_2) := (blk_cell BK101.out 2).trans rfl; have hfz12_0 := blk_frozen BK101.out 0; have hfz12_1 := blk_frozen BK101.out 1; have hfz12_2 := blk_frozen BK101.out 2) | ((with_reducible refine gate_callee (f := 75) rfl ?_); refine goesL_ (some 6) rfl rfl Try.func75 (by kernel_rfl) rfl #[.agg #[.int .u64 a0_0, .slice A0_1 l0_1.length c0_1, .int .u32 a0_2]] rfl (by (try simp only [List.map_toArray, List.map_cons, List.map_nil]); first | done | rfl | (simp only [List.length_drop, List.length_take]; rfl)) ?_; (with_reducible refine (scullerref12_Right.calls a0_0 _ _ l0_1 a0_2 false _ ?side1 ?side2 A2.out).mono ?_); (case side1 => repeat (first | exact (Kd.C_below HR0_1.out HB.out) | (with_reducible refine Kd.C_alloc ?_ _) | (with_reducible refine Kd.C_drewN ?_ _) | (with_reducible refine Kd.C_drew ?_))); (case side2 => exact HC0_1.out); rintro e w13 ⟨rfl, hb⟩; refine ⟨_, rfl, ?_⟩; have n0_ := Aside0.mk (blk_below (g := gb101) (o := .cells #[.int .u64 a0_0, .slice A0_1 l0_1.length c0_1, .int .u32 a0_2] 26 (0, 0)) (by (with_reducible repeat (first | refine blk_drewN ?_ _ | refine blk_drew ?_ | refine blk_alloc ?_ _)); exact BK101.out) hb); have n1_ := Aside0.mk (below_step (by repeat (first | (with_reducible first | exact HB.out | apply below_alloc | apply pw_below_drewN | apply below_drew1 | refine below_set ?_ GE101.out) | exact HB.out)) hb); clear BK101; clear HB; have BK101 := n0_; have HB := n1_; clear n0_ n1_; (try clear hb); (try clear hb2); (try clear hk); (try clear hi)))
   go_ret
   exact ⟨by first | rfl | (simp [errW_none, errW_some] <;> rfl) | (simp [*, errW_none, errW_some] <;> rfl), by repeat (first | (with_reducible first | exact HB.out | apply below_alloc | apply pw_below_drewN | apply below_drew1 | refine below_set ?_ GE101.out) | exact HB.out)⟩

end Go.Proofs.Ytbijnfhcbanhdaa.F
end

section
namespace Go.Proofs.Ytbijnfhcbanhdaa.F
open Go.RowKit Go.Proofs.YtbijnfhcbanhdaaW.PrintWords Go.Proofs.YtbijnfhcbanhdaaW.PrintLast Go.Proofs.YtbijnfhcbanhdaaW.PrintMore
attribute [local go_sem] max2_int min2_int max_two min_two max_three min_three max_four min_four   -- for this text's walks alone
set_option linter.unusedVariables false
set_option linter.unusedSimpArgs false

open Go.Proofs.Ytbijnfhcbanhdaa.H
def scullerref12_Words_c.f (a0_0 : Int) (l0_1 : List Int) (a0_2 : Int) : Option Int := some (wordsM l0_1)
theorem scullerref12_Words.l0_to (a0 : Int) (l : List Int) (a2 : Int) (hf : fitsB l = true) : ∀ (d i : Nat), l.length - i = d → i ≤ l.length → ∃ k, scullerref12_Words.l0 k (l.take i).sum (i : Int) a0 l a2 = some l.sum
 | 0, i, hd, hi => ⟨1, by rw [scullerref12_Words.l0, if_neg (by omega), List.take_of_length_le (by omega)]⟩
 | d + 1, i, hd, hi => by
   have hfit := fitsB_at hf
   have hlt : i < l.length := by omega
   obtain ⟨k, hk⟩ := scullerref12_Words.l0_to a0 l a2 hf d (i + 1) (by omega) (by omega)
   refine ⟨k + 1, ?_⟩
   have h1 := sum_take_le hfit.2.2.2.1 (i + 1)
   have h2 := sum_nonneg' (l := l.take (i + 1)) (fun y hy => hfit.2.2.2.1 y (List.mem_of_mem_take hy))
   rw [sum_take_succ l i hlt] at hk h1 h2
   rw [scullerref12_Words.l0, if_pos (by omega), if_pos (by omega), show rd l (i : Int) = l[i] from getD_toNat l 0 i hlt, show wrap64 ((l.take i).sum + l[i]) = (l.take i).sum + l[i] from by unfold wrap64; omega, show wrap64 ((i : Int) + 1) = ((i + 1 : Nat) : Int) from by unfold wrap64; omega]
   exact hk
theorem scullerref12_Words_c.to {a0_0 : Int} {l0_1 : List Int} {a0_2 : Int} {r : Int} (h : scullerref12_Words_c.f a0_0 l0_1 a0_2 = some r) : ∃ k, scullerref12_Words.f k a0_0 l0_1 a0_2 = some r := by
 obtain rfl := Option.some.inj h
 by_cases hf : fitsB l0_1 = true
 · obtain ⟨k, hk⟩ := scullerref12_Words.l0_to a0_0 l0_1 a0_2 hf l0_1.length 0 (by omega) (by omega)
   refine ⟨k, ?_⟩
   rw [scullerref12_Words.f, scullerref12_Right.f, scullerref07_Fits_c.f, Option.bind_some, Option.bind_some, if_pos hf, wordsM, if_pos hf]
   exact hk
 · refine ⟨0, ?_⟩
   rw [scullerref12_Words.f, scullerref12_Right.f, scullerref07_Fits_c.f, Option.bind_some, Option.bind_some, if_neg hf, wordsM, if_neg hf]

theorem scullerref12_Words_c.calls (a0_0 : Int) (A0_1 : Option Addr) (c0_1 : Nat) (l0_1 : List Int) (a0_2 : Int) (r : Int) (w : World) (hr0_1 : Kd.C (Kd.int .i64) w A0_1 l0_1.length l0_1) (hc0_1 : l0_1.length ≤ c0_1) (h : scullerref12_Words_c.f a0_0 l0_1 a0_2 = some r) :
 Calls Try.prog 51 #[.agg #[.int .u64 a0_0, .slice A0_1 l0_1.length c0_1, .int .u32 a0_2]] w fun e w' => e = .returned (.int .i64 r) ∧ Below w.heap.size w w' := by
 obtain ⟨k_, hk_⟩ := scullerref12_Words_c.to h
 exact scullerref12_Words.calls k_ a0_0 A0_1 c0_1 l0_1 a0_2 r w hr0_1 hc0_1 hk_

end Go.Proofs.Ytbijnfhcbanhdaa.F
end

section
namespace Go.Proofs.Ytbijnfhcbanhdaa.F
open Go.RowKit Go.Proofs.YtbijnfhcbanhdaaW.PrintWords Go.Proofs.YtbijnfhcbanhdaaW.PrintLast Go.Proofs.YtbijnfhcbanhdaaW.PrintMore
attribute [local go_sem] max2_int min2_int max_two min_two max_three min_three max_four min_four   -- for this text's walks alone
set_option linter.unusedVariables false
set_option linter.unusedSimpArgs false

/-! ### scullerref12_Chunks: function 21 -/
def scullerref12_Chunks.f (a0_0 : Int) (l0_1 : List Int) (a0_2 : Int) : Option (Int) := (scullerref12_Words_c.f a0_0 l0_1 a0_2).bind fun t102 => (some (wrap64 (Int.tdiv (wrap64 (t102 + 7)) 8)))
set_option maxHeartbeats 8000000 in
set_option maxRecDepth 100000 in
theorem scullerref12_Chunks.calls (a0_0 : Int) (A0_1 : Option Addr) (c0_1 : Nat) (l0_1 : List Int) (a0_2 : Int) (r : Int) (w : World) (hr0_1 : Kd.C (Kd.int .i64) w A0_1 l0_1.length l0_1) (hc0_1 : l0_1.length ≤ c0_1) (h : scullerref12_Chunks.f a0_0 l0_1 a0_2 = some r) :
 Calls Try.prog 21 #[.agg #[.int .u64 a0_0, .slice A0_1 l0_1.length c0_1, .int .u32 a0_2]] w fun e w' => e = .returned (.int .i64 r) ∧ Below w.heap.size w w' := by
 have hu26 := Try.underlying26
 have HR0_1 := Aside0.mk hr0_1
 have HC0_1 := Aside0.mk hc0_1
 clear hr0_1 hc0_1
 have HB := Aside0.mk (Below.refl w.heap.size w)
 have H : ((scullerref12_Words_c.f a0_0 l0_1 a0_2).bind fun t102 => (some (wrap64 (Int.tdiv (wrap64 (t102 + 7)) 8)))) = some r := h
 clear h
 replace H := Option.bind_eq_some_iff.mp H
 obtain ⟨t102, A20, H⟩ := H
 replace H : (some (wrap64 (Int.tdiv (wrap64 (t102 + 7)) 8))) = some r := H
 have A2 := Aside0.mk A20
 clear A20
 obtain rfl := Option.some.inj H
 go_enter Try.func21, Try.ntmps21
 go_wp2_with (first | ((with_reducible refine gate_dst (N := 1) rfl ?_); refine box_event ?hg (N := 1) ?hd (cs := #[.int .u64 a0_0, .slice A0_1 l0_1.length c0_1, .int .u32 a0_2]) (t := 26) ?hr ?_; (case hd => rfl); (case hg => rfl); (case hr => first | (go_simp; done) | (go_simp; rfl)); intro gb101 hg w3 hbox hb; have n0_ := Aside0.mk (below_step (by repeat (first | (with_reducible first | exact HB.out | apply below_alloc | apply pw_below_drewN | apply below_drew1) | exact HB.out)) hb); have n1_ := Aside0.mk (hbox); have n2_ := Aside0.mk ((by rw [hg]; exact (below_size (by repeat (first | (with_reducible first | exact HB.out | apply below_alloc | apply pw_below_drewN | apply below_drew1) | exact HB.out))) : w.heap.size ≤ gb101)); have n3_ := Aside0.mk ((by rw [hg]; exact (below_size (by repeat (first | (with_reducible first | exact HB.out | apply below_alloc | apply pw_below_drewN | apply below_drew1) | exact HB.out))) : w.heap.size ≤ gb101)); clear HB; have HB := n0_; have BK101 := n1_; have GW101 := n2_; have GE101 := n3_; clear n0_ n1_ n2_ n3_; clear hb hbox hg; have hcz4_0 : w3.cell? ⟨gb101, 0, none⟩ = some (.int .u64 a0_0) := (blk_cell BK101.out 0).trans rfl; have hcz4_1 : w3.cell? ⟨gb101, 1, none⟩ = some (.slice A0_1 l0_1.length c0_1) := (blk_cell BK101.out 1).trans rfl; have hcz4_2 : w3.cell? ⟨gb101, 2, none⟩ = some (.int .u32 a0_2) := (blk_cell BK101.out 2).trans rfl; have hfz4_0 := blk_frozen BK101.out 0; have hfz4_1 := blk_frozen BK101.out 1; have hfz4_2 := blk_frozen BK101.out 2) | ((with_reducible refine gate_callee (f := 51) rfl ?_); refine goesL_ (some 4) rfl rfl Try.func51 (by kernel_rfl) rfl #[.agg #[.int .u64 a0_0, .slice A0_1 l0_1.length c0_1, .int .u32 a0_2]] rfl (by (try simp only [List.map_toArray, List.map_cons, List.map_nil]); first | done | rfl | (simp only [List.length_drop, List.length_take]; rfl)) ?_; (with_reducible refine (scullerref12_Words_c.calls a0_0 _ _ l0_1 a0_2 t102 _ ?side1 ?side2 A2.out).mono ?_); (case side1 => repeat (first | exact (Kd.C_below HR0_1.out HB.out) | (with_reducible refine Kd.C_alloc ?_ _) | (with_reducible refine Kd.C_drewN ?_ _) | (with_reducible refine Kd.C_drew ?_))); (case side2 => exact HC0_1.out); rintro e w5 ⟨rfl, hb⟩; refine ⟨_, rfl, ?_⟩; have n0_ := Aside0.mk (blk_below (g := gb101) (o := .cells #[.int .u64 a0_0, .slice A0_1 l0_1.length c0_1, .int .u32 a0_2] 26 (0, 0)) (by (with_reducible repeat (first | refine blk_drewN ?_ _ | refine blk_drew ?_ | refine blk_alloc ?_ _)); exact BK101.out) hb); have n1_ := Aside0.mk (below_step (by repeat (first | (with_reducible first | exact HB.out | apply below_alloc | apply pw_below_drewN | apply below_drew1 | refine below_set ?_ GE101.out) | exact HB.out)) hb); clear BK101; clear HB; have BK101 := n0_; have HB := n1_; clear n0_ n1_; (try clear hb); (try clear hb2); (try clear hk); (try clear hi)))
 go_ret
 exact ⟨by first | rfl | (simp [errW_none, errW_some] <;> rfl) | (simp [*, errW_none, errW_some] <;> rfl), by repeat (first | (with_reducible first | exact HB.out | apply below_alloc | apply pw_below_drewN | apply below_drew1 | refine below_set ?_ GE101.out) | exact HB.out)⟩

end Go.Proofs.Ytbijnfhcbanhdaa.F
end

section
namespace Go.Proofs.Ytbijnfhcbanhdaa.F
open Go.RowKit Go.Proofs.YtbijnfhcbanhdaaW.PrintWords Go.Proofs.YtbijnfhcbanhdaaW.PrintLast Go.Proofs.YtbijnfhcbanhdaaW.PrintMore
attribute [local go_sem] max2_int min2_int max_two min_two max_three min_three max_four min_four   -- for this text's walks alone
set_option linter.unusedVariables false
set_option linter.unusedSimpArgs false

/-! ### scullerref01_Ceil: function 52 -/
def scullerref01_Ceil.j0 : Nat → Int → Int → Bool → Option (Int)
 | 0, _, _, _ => none
 | k + 1, x0, x1, x19 => if x19 = true then (some 0) else (if x1 = 0 then (none) else (if (wrap64 ((wrap64 (Int.tdiv x0 x1)) * x1)) < x0 then (some (wrap64 ((wrap64 (Int.tdiv x0 x1)) + 1))) else (some (wrap64 (Int.tdiv x0 x1)))))
def scullerref01_Ceil.f (k : Nat) (a0 : Int) (a1 : Int) : Option (Int) := if a0 < 0 then (scullerref01_Ceil.j0 k a0 a1 true) else (if a0 > 9007199254740992 then (scullerref01_Ceil.j0 k a0 a1 true) else (if a1 < 1 then (scullerref01_Ceil.j0 k a0 a1 true) else (scullerref01_Ceil.j0 k a0 a1 (decide (a1 > 9007199254740992)))))
theorem scullerref01_Ceil.mono_l : ∀ k, (∀ y0 y1 y2, LeO (scullerref01_Ceil.j0 k y0 y1 y2) (scullerref01_Ceil.j0 (k + 1) y0 y1 y2))
 | 0 => fun _ _ _ r h => by simp [scullerref01_Ceil.j0] at h
 | k + 1 => by
   have ih0 := scullerref01_Ceil.mono_l k
   · intro y0 y1 y2
     unfold scullerref01_Ceil.j0
     repeat' first
     | (with_reducible exact ih0 _ _ _)
     | (with_reducible exact LeO.refl _)
     | (with_reducible exact LeO.none _)
     | (with_reducible refine LeO.ite ?_ ?_)
     | (with_reducible refine LeO.bind ?_ (fun _ => ?_))
     | exact ih0 _ _ _
     | exact LeO.none _
     | refine LeO.ite ?_ ?_
     | refine LeO.bind ?_ (fun _ => ?_)
theorem scullerref01_Ceil.mono : ∀ a0 a1 k, LeO (scullerref01_Ceil.f k a0 a1) (scullerref01_Ceil.f (k + 1) a0 a1) := by
 intro a0 a1 k
 have ih0 := scullerref01_Ceil.mono_l k
 unfold scullerref01_Ceil.f
 repeat' first
  | (with_reducible exact ih0 _ _ _)
  | (with_reducible exact LeO.refl _)
  | (with_reducible exact LeO.none _)
  | (with_reducible refine LeO.ite ?_ ?_)
  | (with_reducible refine LeO.bind ?_ (fun _ => ?_))
  | exact ih0 _ _ _
  | exact LeO.none _
  | refine LeO.ite ?_ ?_
  | refine LeO.bind ?_ (fun _ => ?_)
set_option maxHeartbeats 8000000 in
set_option maxRecDepth 100000 in
theorem scullerref01_Ceil.calls (k : Nat) (a0 : Int) (a1 : Int) (r : Int) (w : World) (h : scullerref01_Ceil.f k a0 a1 = some r) :
 Calls Try.prog 52 #[.int .i64 a0, .int .i64 a1] w fun e w' => e = .returned (.int .i64 r) ∧ Drawn0 w w' := by
 have H : (if a0 < 0 then (scullerref01_Ceil.j0 k a0 a1 true) else (if a0 > 9007199254740992 then (scullerref01_Ceil.j0 k a0 a1 true) else (if a1 < 1 then (scullerref01_Ceil.j0 k a0 a1 true) else (scullerref01_Ceil.j0 k a0 a1 (decide (a1 > 9007199254740992)))))) = some r := h
 clear h
 have HC3 := Aside0.mk H
 clear H
 go_enter Try.func52, Try.ntmps52
 go_upto_region 1 with (fail)
 go_cut [19] (fun v19 wc => ∃ (kq : Nat) (x19_2 : Bool), v19 = .bool x19_2 ∧ Aside0 (scullerref01_Ceil.j0 kq a0 a1 x19_2 = some r) ∧ Aside0 (kq ≤ k) ∧ Drawn0 w wc)
 case first =>
  have H := HC3.out
  clear HC3
  by_cases c4 : a0 < 0
  · rw [if_pos c4] at H
    have c4b0 : decide (a0 < 0) = true := decide_eq_true c4
    clear c4
    (first | rw [c4b0] | (simp only [i64_w, i32_w]; rw [c4b0]) | skip)
    have H' := Aside0.mk H
    clear H
    go_wp2
    go_meet
    case rel => exact ⟨_, (true), (by first | rfl | (simp; done) | (simp [*]; done)), H', ⟨by first | omega | exact Nat.le_refl _⟩, by repeat (first | exact Drawn0.refl _ | apply Drawn0.step)⟩
  · rw [if_neg c4] at H
    have c4b0 : decide (a0 < 0) = false := decide_eq_false c4
    clear c4
    (first | rw [c4b0] | (simp only [i64_w, i32_w]; rw [c4b0]) | skip)
    by_cases c5 : a0 > 9007199254740992
    · rw [if_pos c5] at H
      have c5b0 : decide (9007199254740992 < a0) = true := decide_eq_true c5
      clear c5
      have H' := Aside0.mk H
      clear H
      go_wp2
      go_meet
      case rel => exact ⟨_, (true), (by first | rfl | (simp; done) | (simp [*]; done)), H', ⟨by first | omega | exact Nat.le_refl _⟩, by repeat (first | exact Drawn0.refl _ | apply Drawn0.step)⟩
    · rw [if_neg c5] at H
      have c5b0 : decide (9007199254740992 < a0) = false := decide_eq_false c5
      clear c5
      by_cases c6 : a1 < 1
      · rw [if_pos c6] at H
        have c6b0 : decide (a1 < 1) = true := decide_eq_true c6
        clear c6
        have H' := Aside0.mk H
        clear H
        go_wp2
        go_meet
        case rel => exact ⟨_, (true), (by first | rfl | (simp; done) | (simp [*]; done)), H', ⟨by first | omega | exact Nat.le_refl _⟩, by repeat (first | exact Drawn0.refl _ | apply Drawn0.step)⟩
      · rw [if_neg c6] at H
        have c6b0 : decide (a1 < 1) = false := decide_eq_false c6
        clear c6
        have H' := Aside0.mk H
        clear H
        go_wp2
        go_meet
        case rel => exact ⟨_, (decide (a1 > 9007199254740992)), (by first | rfl | (simp; done) | (simp [*]; done)), H', ⟨by first | omega | exact Nat.le_refl _⟩, by repeat (first | exact Drawn0.refl _ | apply Drawn0.step)⟩
 case rest =>
  clear HC3
  try clear p2
  try clear c4
  try clear c4b0
  try clear c5
  try clear c5b0
  try clear c6
  try clear c6b0
  obtain ⟨kq, x19_2, rfl, HA, HJ2, ⟨mc2, rfl⟩⟩ := hcut
  cases kq with
  | zero => exact absurd HA.out (by simp [scullerref01_Ceil.j0])
  | succ kj2 =>
    have H := HA.out
    clear HA
    simp only [scullerref01_Ceil.j0] at H
    by_cases c7 : x19_2 = true
    · subst c7
      have H1 : (some 0) = some r := by rw [if_pos rfl] at H; exact H
      clear H
      have H := H1
      clear H1
      obtain rfl := Option.some.inj H
      go_wp2
      go_ret
      exact ⟨by first | rfl | (simp; done) | (simp [*]; done), by repeat (first | exact Drawn0.refl _ | apply Drawn0.step)⟩
    · replace c7 := Bool.eq_false_iff.mpr c7
      subst c7
      have H1 : (if a1 = 0 then (none) else (if (wrap64 ((wrap64 (Int.tdiv a0 a1)) * a1)) < a0 then (some (wrap64 ((wrap64 (Int.tdiv a0 a1)) + 1))) else (some (wrap64 (Int.tdiv a0 a1))))) = some r := by rw [if_neg (show ¬ (false = true) by decide)] at H; exact H
      clear H
      have H := H1
      clear H1
      by_cases c8 : a1 = 0
      · rw [if_pos c8] at H
        exact absurd H (by simp)
      · rw [if_neg c8] at H
        have c8b0 : (a1 == 0) = false := beq_eq_false_iff_ne.mpr c8
        have c8b1 : (a1 != 0) = true := bne_iff_ne.mpr c8
        by_cases c9 : (wrap64 ((wrap64 (Int.tdiv a0 a1)) * a1)) < a0
        · rw [if_pos c9] at H
          have c9b0 : decide ((wrap64 ((wrap64 (Int.tdiv a0 a1)) * a1)) < a0) = true := decide_eq_true c9
          clear c9
          obtain rfl := Option.some.inj H
          go_wp2
          go_ret
          exact ⟨by first | rfl | (simp; done) | (simp [*]; done), by repeat (first | exact Drawn0.refl _ | apply Drawn0.step)⟩
        · rw [if_neg c9] at H
          have c9b0 : decide ((wrap64 ((wrap64 (Int.tdiv a0 a1)) * a1)) < a0) = false := decide_eq_false c9
          clear c9
          obtain rfl := Option.some.inj H
          go_wp2
          go_ret
          exact ⟨by first | rfl | (simp; done) | (simp [*]; done), by repeat (first | exact Drawn0.refl _ | apply Drawn0.step)⟩

end Go.Proofs.Ytbijnfhcbanhdaa.F
end

section
namespace Go.Proofs.Ytbijnfhcbanhdaa.F
open Go.RowKit Go.Proofs.YtbijnfhcbanhdaaW.PrintWords Go.Proofs.YtbijnfhcbanhdaaW.PrintLast Go.Proofs.YtbijnfhcbanhdaaW.PrintMore
attribute [local go_sem] max2_int min2_int max_two min_two max_three min_three max_four min_four   -- for this text's walks alone
set_option linter.unusedVariables false
set_option linter.unusedSimpArgs false

open Go.Proofs.Ytbijnfhcbanhdaa.H
def scullerref01_Ceil_c.f (a0 : Int) (a1 : Int) : Option Int := some (ceilL a0 a1)
theorem scullerref01_Ceil_c.to {a0 a1 r : Int} (h : scullerref01_Ceil_c.f a0 a1 = some r) : ∃ k, scullerref01_Ceil.f k a0 a1 = some r := by
 obtain rfl := Option.some.inj h
 refine ⟨1, ?_⟩
 rw [scullerref01_Ceil.f]
 by_cases h0 : a0 < 0
 · rw [if_pos h0, scullerref01_Ceil.j0, if_pos rfl, ceilL, if_neg (by omega)]
 · rw [if_neg h0]
   by_cases h1 : a0 > 9007199254740992
   · rw [if_pos h1, scullerref01_Ceil.j0, if_pos rfl, ceilL, if_neg (by omega)]
   · rw [if_neg h1]
     by_cases h2 : a1 < 1
     · rw [if_pos h2, scullerref01_Ceil.j0, if_pos rfl, ceilL, if_neg (by omega)]
     · rw [if_neg h2, scullerref01_Ceil.j0]
       by_cases h3 : a1 > 9007199254740992
       · rw [decide_eq_true h3, if_pos rfl, ceilL, if_neg (by omega)]
       · have hc : ceilL a0 a1 = (a0 + a1 - 1) / a1 := if_pos (by omega)
         rw [decide_eq_false h3, if_neg (by simp), if_neg (by omega), hc]
         have hq0 : 0 ≤ a0 / a1 := Int.ediv_nonneg (by omega) (by omega)
         have hq1 : a0 / a1 ≤ a0 := Int.ediv_le_self a1 (by omega)
         have hm := Int.emod_add_mul_ediv a0 a1
         have hm0 := Int.emod_nonneg a0 (show a1 ≠ 0 by omega)
         have hm1 := Int.emod_lt_of_pos a0 (show 0 < a1 by omega)
         have e1 : wrap64 (Int.tdiv a0 a1) = a0 / a1 := by rw [Int.tdiv_eq_ediv_of_nonneg (by omega)]; unfold wrap64; omega
         have hcm : a0 / a1 * a1 = a1 * (a0 / a1) := Int.mul_comm _ _
         have e2 : wrap64 (a0 / a1 * a1) = a0 / a1 * a1 := by rw [hcm]; unfold wrap64; omega
         rw [e1, e2, hcm]
         split
         · rename_i hlt
           have : (a0 + a1 - 1) / a1 = a0 / a1 + 1 := by
            rw [show a0 + a1 - 1 = (a0 % a1 - 1) + a1 * (a0 / a1 + 1) from by rw [Int.mul_add]; omega, Int.add_mul_ediv_left _ _ (by omega), Int.ediv_eq_zero_of_lt (by omega) (by omega)]; omega
           rw [this, show wrap64 (a0 / a1 + 1) = a0 / a1 + 1 from by unfold wrap64; omega]
         · rename_i hlt
           have : (a0 + a1 - 1) / a1 = a0 / a1 := by
            rw [show a0 + a1 - 1 = (a1 - 1) + a1 * (a0 / a1) from by omega, Int.add_mul_ediv_left _ _ (by omega), Int.ediv_eq_zero_of_lt (by omega) (by omega)]; omega
           rw [this]

theorem scullerref01_Ceil_c.calls (a0 : Int) (a1 : Int) (r : Int) (w : World) (h : scullerref01_Ceil_c.f a0 a1 = some r) :
 Calls Try.prog 52 #[.int .i64 a0, .int .i64 a1] w fun e w' => e = .returned (.int .i64 r) ∧ Drawn0 w w' := by
 obtain ⟨k_, hk_⟩ := scullerref01_Ceil_c.to h
 exact scullerref01_Ceil.calls k_ a0 a1 r w hk_

end Go.Proofs.Ytbijnfhcbanhdaa.F
end

section
namespace Go.Proofs.Ytbijnfhcbanhdaa.F
open Go.RowKit Go.Proofs.YtbijnfhcbanhdaaW.PrintWords Go.Proofs.YtbijnfhcbanhdaaW.PrintLast Go.Proofs.YtbijnfhcbanhdaaW.PrintMore
attribute [local go_sem] max2_int min2_int max_two min_two max_three min_three max_four min_four   -- for this text's walks alone
set_option linter.unusedVariables false
set_option linter.unusedSimpArgs false

/-! ### scullerref03_Make: function 22 -/
def scullerref03_Make.f (a0 : Int) : Option (List Int) := (scullerref01_Ceil_c.f (mx 0 (mn a0 65536)) 8).bind fun t101 => (if 0 ≤ t101 then (if (t101 : Int).toNat ≤ 281474976710656 then (some (List.replicate (t101 : Int).toNat 0)) else (none)) else (none))
set_option maxHeartbeats 8000000 in
set_option maxRecDepth 100000 in
theorem scullerref03_Make.calls (a0 : Int) (r : List Int) (w : World) (h : scullerref03_Make.f a0 = some r) :
 Calls Try.prog 22 #[.int .i64 a0] w fun e w' => ∃ v0_ : Value, e = .returned (v0_) ∧ Kd.R (Kd.int .u8) 5 w' w.heap.size (fun _ => True) v0_ r ∧ Below w.heap.size w w' := by
 have HB := Aside0.mk (Below.refl w.heap.size w)
 have H : ((scullerref01_Ceil_c.f (mx 0 (mn a0 65536)) 8).bind fun t101 => (if 0 ≤ t101 then (if (t101 : Int).toNat ≤ 281474976710656 then (some (List.replicate (t101 : Int).toNat 0)) else (none)) else (none))) = some r := h
 clear h
 obtain ⟨ji2, hji2⟩ : ∃ j_ : Int, (mn a0 65536) = j_ := ⟨_, rfl⟩
 replace H : ((scullerref01_Ceil_c.f (mx 0 (ji2)) 8).bind fun t101 => (if 0 ≤ t101 then (if (t101 : Int).toNat ≤ 281474976710656 then (some (List.replicate (t101 : Int).toNat 0)) else (none)) else (none))) = some r := by first | (rw [hji2] at H; exact H) | (simp only [hji2] at H ⊢; exact H)
 (try (have hji2h : ji2 ≤ 65536 := by (rw [← hji2]; unfold mn; (repeat' split) <;> omega)))
 (try (have hji2g : ji2 ≤ 64 := by omega))
 have hji2_ : (if 65536 < a0 then 65536 else a0) = ji2 := hji2
 obtain ⟨ji3, hji3⟩ : ∃ j_ : Int, (mx 0 (ji2)) = j_ := ⟨_, rfl⟩
 replace H : ((scullerref01_Ceil_c.f (ji3) 8).bind fun t101 => (if 0 ≤ t101 then (if (t101 : Int).toNat ≤ 281474976710656 then (some (List.replicate (t101 : Int).toNat 0)) else (none)) else (none))) = some r := by first | (rw [hji3] at H; exact H) | (simp only [hji3] at H ⊢; exact H)
 have hji3_ : (if 0 < (ji2) then (ji2) else 0) = ji3 := hji3
 replace H := Option.bind_eq_some_iff.mp H
 obtain ⟨t101, A40, H⟩ := H
 replace H : (if 0 ≤ t101 then (if (t101 : Int).toNat ≤ 281474976710656 then (some (List.replicate (t101 : Int).toNat 0)) else (none)) else (none)) = some r := H
 have A4 := Aside0.mk A40
 clear A40
 by_cases c5 : 0 ≤ t101
 · rw [if_pos c5] at H
   have c5b0 := eq_true c5
   have c5b1 : decide (0 ≤ t101) = true := decide_eq_true c5
   clear c5
   by_cases c6 : (t101 : Int).toNat ≤ 281474976710656
   · rw [if_pos c6] at H
     have c6b0 := eq_true c6
     have c6b1 : decide ((t101 : Int).toNat ≤ 281474976710656) = true := decide_eq_true c6
     clear c6
     obtain ⟨y102, hy102⟩ : ∃ y_ : List Int, y_ = (List.replicate (t101 : Int).toNat 0) := ⟨_, rfl⟩
     replace H : (some y102) = some r := by first | (rw [hy102]; with_reducible exact H) | (have H2_ := (Option.bind_some _ _).symm.trans H; rw [hy102]; with_reducible exact H2_) | (have H2_ := (Option.bind_some _ _).symm.trans H; with_reducible exact H2_) | with_reducible exact H | (rw [hy102]; exact H) | exact H
     have Ny102 := Aside0.mk hy102
     clear hy102
     obtain rfl := Option.some.inj H
     go_enter Try.func22, Try.ntmps22
     go_wp2_with (first | ((with_reducible refine gate_callee (f := 52) rfl ?_); refine goesL_ (some 6) rfl rfl Try.func52 (by kernel_rfl) rfl #[.int .i64 ji3, .int .i64 8] rfl (by (try simp only [List.map_toArray, List.map_cons, List.map_nil]); first | done | (simp only [hji3]; rfl) | rfl | (simp only [List.length_drop, List.length_take]; rfl)) ?_; (with_reducible refine (scullerref01_Ceil_c.calls ji3 8 t101 _ A4.out).mono ?_); rintro e w' ⟨rfl, ⟨nd, rfl⟩⟩; refine ⟨_, rfl, ?_⟩) | ((with_reducible refine gate_dst (N := 7) rfl ?_); refine Kd.R_make (Kd.int .u8) _ 5 rfl (N := 7) rfl 27 _ _ rfl t101 rfl rfl Try.underlying27 (.int .u8 0) 1 info5 rfl (by decide) (by omega) 0 (ok := fun _ => True) (okp := fun _ => True) rfl (fun _ hk => hk) trivial (of_decide_eq_true (by first | (with_reducible assumption) | assumption)) (Nat.le_trans (Nat.mul_le_mul_right _ (of_decide_eq_true (by first | (with_reducible assumption) | assumption) : t101.toNat ≤ 281474976710656)) (by omega)) (Below.refl _ _) (Nat.le_refl _) ?_; intro v103 w7 ho8 hb hg_ hnew_; clear hg_ hnew_; (first | rw [← Ny102.out] at ho8 | (simp only [Int.reduceToNat] at ho8; rw [← Ny102.out] at ho8)); have n0_ := Aside0.mk (Kd.R_lower ho8 (below_size (by repeat (first | (with_reducible first | exact HB.out | apply below_alloc | apply pw_below_drewN | apply below_drew1) | exact HB.out)))); have n1_ := Aside0.mk (below_step (by repeat (first | (with_reducible first | exact HB.out | apply below_alloc | apply pw_below_drewN | apply below_drew1) | exact HB.out)) hb); clear HB; have HO104 := n0_; have HB := n1_; clear n0_ n1_; clear hb ho8))
     go_ret
     exact ⟨_, by first | rfl | (simp [errW_none, errW_some] <;> rfl) | (simp only [← hji2, ← hji3]; first | rfl | (simp [errW_none, errW_some] <;> rfl)) | (simp [*, errW_none, errW_some] <;> rfl), by (with_reducible repeat (first | apply Kd.R_alloc | apply Kd.R_drewN | apply Kd.R_drew)); exact HO104.out, by repeat (first | (with_reducible first | exact HB.out | apply below_alloc | apply pw_below_drewN | apply below_drew1) | exact HB.out)⟩
   · rw [if_neg c6] at H
     exact absurd H (by simp)
 · rw [if_neg c5] at H
   exact absurd H (by simp)

end Go.Proofs.Ytbijnfhcbanhdaa.F
end

section
namespace Go.Proofs.Ytbijnfhcbanhdaa.F
open Go.RowKit Go.Proofs.YtbijnfhcbanhdaaW.PrintWords Go.Proofs.YtbijnfhcbanhdaaW.PrintLast Go.Proofs.YtbijnfhcbanhdaaW.PrintMore
attribute [local go_sem] max2_int min2_int max_two min_two max_three min_three max_four min_four   -- for this text's walks alone
set_option linter.unusedVariables false
set_option linter.unusedSimpArgs false

/-! ### scullerref03_Get: function 53 -/
mutual
def scullerref03_Get.j0 : Nat → List Int → Int → Bool → Option (Bool)
 | 0, _, _, _ => none
 | k + 1, x0, x1, x15 => if x15 = true then (some false) else (if 0 ≤ (wrap64 (Int.tdiv x1 8)) then (if (wrap64 (Int.tdiv x1 8)) < (x0.length : Int) then (scullerref03_Get.l0 k x1 (wrap64 (rd x0 (wrap64 (Int.tdiv x1 8)))) 0) else (none)) else (none))
def scullerref03_Get.l0 : Nat → Int → Int → Int → Option (Bool)
 | 0, _, _, _ => none
 | k + 1, x1, x5, x6 => if x6 < (Int.tmod x1 8) then (scullerref03_Get.l0 k x1 (wrap64 (Int.tdiv x5 2)) (wrap64 (x6 + 1))) else (some ((Int.tmod x5 2) == 1))
end
def scullerref03_Get.f (k : Nat) (l0 : List Int) (a1 : Int) : Option (Bool) := if a1 < 0 then (scullerref03_Get.j0 k l0 a1 true) else (scullerref03_Get.j0 k l0 a1 (decide ((wrap64 (Int.tdiv a1 8)) ≥ (l0.length : Int))))
theorem scullerref03_Get.mono_l : ∀ k, (∀ y0 y1 y2, LeO (scullerref03_Get.j0 k y0 y1 y2) (scullerref03_Get.j0 (k + 1) y0 y1 y2)) ∧ (∀ y0 y1 y2, LeO (scullerref03_Get.l0 k y0 y1 y2) (scullerref03_Get.l0 (k + 1) y0 y1 y2))
 | 0 => ⟨fun _ _ _ r h => by simp [scullerref03_Get.j0] at h, fun _ _ _ r h => by simp [scullerref03_Get.l0] at h⟩
 | k + 1 => by
   obtain ⟨ih0, ih1⟩ := scullerref03_Get.mono_l k
   refine ⟨?_, ?_⟩
   · intro y0 y1 y2
     unfold scullerref03_Get.j0
     repeat' first
     | (with_reducible exact ih0 _ _ _)
     | (with_reducible exact ih1 _ _ _)
     | (with_reducible exact LeO.refl _)
     | (with_reducible exact LeO.none _)
     | (with_reducible refine LeO.ite ?_ ?_)
     | (with_reducible refine LeO.bind ?_ (fun _ => ?_))
     | exact ih0 _ _ _
     | exact ih1 _ _ _
     | exact LeO.none _
     | refine LeO.ite ?_ ?_
     | refine LeO.bind ?_ (fun _ => ?_)
   · intro y0 y1 y2
     unfold scullerref03_Get.l0
     repeat' first
     | (with_reducible exact ih0 _ _ _)
     | (with_reducible exact ih1 _ _ _)
     | (with_reducible exact LeO.refl _)
     | (with_reducible exact LeO.none _)
     | (with_reducible refine LeO.ite ?_ ?_)
     | (with_reducible refine LeO.bind ?_ (fun _ => ?_))
     | exact ih0 _ _ _
     | exact ih1 _ _ _
     | exact LeO.none _
     | refine LeO.ite ?_ ?_
     | refine LeO.bind ?_ (fun _ => ?_)
theorem scullerref03_Get.mono : ∀ a0 a1 k, LeO (scullerref03_Get.f k a0 a1) (scullerref03_Get.f (k + 1) a0 a1) := by
 intro a0 a1 k
 obtain ⟨ih0, ih1⟩ := scullerref03_Get.mono_l k
 unfold scullerref03_Get.f
 repeat' first
  | (with_reducible exact ih0 _ _ _)
  | (with_reducible exact ih1 _ _ _)
  | (with_reducible exact LeO.refl _)
  | (with_reducible exact LeO.none _)
  | (with_reducible refine LeO.ite ?_ ?_)
  | (with_reducible refine LeO.bind ?_ (fun _ => ?_))
  | exact ih0 _ _ _
  | exact ih1 _ _ _
  | exact LeO.none _
  | refine LeO.ite ?_ ?_
  | refine LeO.bind ?_ (fun _ => ?_)
set_option maxHeartbeats 8000000 in
set_option maxRecDepth 100000 in
theorem scullerref03_Get.calls (k : Nat) (A0 : Option Addr) (c0 : Nat) (l0 : List Int) (a1 : Int) (r : Bool) (w : World) (hr0 : Kd.C (Kd.int .u8) w A0 l0.length l0) (hc0 : l0.length ≤ c0) (h : scullerref03_Get.f k l0 a1 = some r) :
 Calls Try.prog 53 #[.slice A0 l0.length c0, .int .i64 a1] w fun e w' => e = .returned (.bool r) ∧ Drawn0 w w' := by
 have HR0 := Aside0.mk hr0
 have HC0 := Aside0.mk hc0
 clear hr0 hc0
 have H : (if a1 < 0 then (scullerref03_Get.j0 k l0 a1 true) else (scullerref03_Get.j0 k l0 a1 (decide ((wrap64 (Int.tdiv a1 8)) ≥ (l0.length : Int))))) = some r := h
 clear h
 have HC3 := Aside0.mk H
 clear H
 go_enter Try.func53, Try.ntmps53
 go_upto_region 1 with (fail)
 go_cut [15] (fun v15 wc => ∃ (kq : Nat) (x15_2 : Bool), v15 = .bool x15_2 ∧ Aside0 (scullerref03_Get.j0 kq l0 a1 x15_2 = some r) ∧ Aside0 (kq ≤ k) ∧ Drawn0 w wc)
 case first =>
  have H := HC3.out
  clear HC3
  by_cases c4 : a1 < 0
  · rw [if_pos c4] at H
    have c4b0 : decide (a1 < 0) = true := decide_eq_true c4
    clear c4
    (first | rw [c4b0] | (simp only [i64_w, i32_w]; rw [c4b0]) | skip)
    have H' := Aside0.mk H
    clear H
    go_wp2
    go_meet
    case rel => exact ⟨_, (true), (by first | rfl | (simp; done) | (simp [*]; done)), H', ⟨by first | omega | exact Nat.le_refl _⟩, by repeat (first | exact Drawn0.refl _ | apply Drawn0.step)⟩
  · rw [if_neg c4] at H
    have c4b0 : decide (a1 < 0) = false := decide_eq_false c4
    clear c4
    (first | rw [c4b0] | (simp only [i64_w, i32_w]; rw [c4b0]) | skip)
    have H' := Aside0.mk H
    clear H
    go_wp2
    go_meet
    case rel => exact ⟨_, (decide ((wrap64 (Int.tdiv a1 8)) ≥ (l0.length : Int))), (by first | rfl | (simp; done) | (simp [*]; done)), H', ⟨by first | omega | exact Nat.le_refl _⟩, by repeat (first | exact Drawn0.refl _ | apply Drawn0.step)⟩
 case rest =>
  clear HC3
  try clear p2
  try clear c4
  try clear c4b0
  obtain ⟨kq, x15_2, rfl, HA, HJ2, ⟨mc2, rfl⟩⟩ := hcut
  cases kq with
  | zero => exact absurd HA.out (by simp [scullerref03_Get.j0])
  | succ kj2 =>
    have H := HA.out
    clear HA
    simp only [scullerref03_Get.j0] at H
    by_cases c5 : x15_2 = true
    · subst c5
      have H1 : (some false) = some r := by rw [if_pos rfl] at H; exact H
      clear H
      have H := H1
      clear H1
      obtain rfl := Option.some.inj H
      go_wp2
      go_ret
      exact ⟨by first | rfl | (simp; done) | (simp [*]; done), by repeat (first | exact Drawn0.refl _ | apply Drawn0.step)⟩
    · replace c5 := Bool.eq_false_iff.mpr c5
      subst c5
      have H1 : (if 0 ≤ (wrap64 (Int.tdiv a1 8)) then (if (wrap64 (Int.tdiv a1 8)) < (l0.length : Int) then (scullerref03_Get.l0 kj2 a1 (wrap64 (rd l0 (wrap64 (Int.tdiv a1 8)))) 0) else (none)) else (none)) = some r := by rw [if_neg (show ¬ (false = true) by decide)] at H; exact H
      clear H
      have H := H1
      clear H1
      obtain ⟨ji6, hji6⟩ : ∃ j_ : Int, (wrap64 (Int.tdiv a1 8)) = j_ := ⟨_, rfl⟩
      replace H : (if 0 ≤ (ji6) then (if (ji6) < (l0.length : Int) then (scullerref03_Get.l0 kj2 a1 (wrap64 (rd l0 (ji6))) 0) else (none)) else (none)) = some r := by first | (rw [hji6] at H; exact H) | (simp only [hji6] at H ⊢; exact H)
      have hji6w : (IntKind.i64.wrap (Int.tdiv a1 8)) = ji6 := (i64_w _).trans hji6
      by_cases c7 : 0 ≤ (ji6)
      · rw [if_pos c7] at H
        have c7b0 : decide (0 ≤ (ji6)) = true := decide_eq_true c7
        clear c7
        by_cases c8 : (ji6) < (l0.length : Int)
        · rw [if_pos c8] at H
          have c8b0 : decide ((ji6) < (l0.length : Int)) = true := decide_eq_true c8
          clear c8
          have H' := Aside0.mk H
          clear H
          have p101 : 0 ≤ ((ji6) : Int) := of_decide_eq_true (by first | (with_reducible assumption) | assumption)
          have q101 : (ji6) < (l0.length : Int) := of_decide_eq_true (by first | (with_reducible assumption) | assumption)
          obtain ⟨ad101, e101, hx101_0⟩ := Kd.at_int HR0.out (ji6) p101 q101
          cases e101
          replace p101 := eq_true p101
          replace q101 := eq_true q101
          go_wp2
          go_loopg [5, 6] kj2 (fun kq v5 v6 w' => ∃ (x5_2 : Int) (x6_2 : Int), v5 = .int .i64 x5_2 ∧ v6 = .int .i64 x6_2 ∧ Aside0 (scullerref03_Get.l0 kq a1 x5_2 x6_2 = some r) ∧ Aside0 (kq ≤ kj2) ∧ Drawn0 w w')
          case atStart => exact ⟨(wrap64 (rd l0 (ji6))), (0), (by first | rfl | (simp; done) | (simp only [← hji6] <;> (first | rfl | simp)) | (simp [*]; done)), (by first | rfl | (simp; done) | (simp [*]; done)), H', ⟨Nat.le_refl _⟩, by repeat (first | exact Drawn0.refl _ | apply Drawn0.step)⟩
          case round =>
           clear H'
           try clear p1
           try clear q1
           try clear hx1
           try clear c2
           try clear p2
           try clear c4
           try clear c4b0
           try clear c5
           try clear p6
           try clear c7
           try clear c7b0
           try clear c8
           try clear c8b0
           try clear hx101_0
           try clear p101
           try clear p2
           try clear q101
           obtain ⟨x5_2, x6_2, rfl, rfl, HA, HK2, ⟨m2, rfl⟩⟩ := hrel
           cases gk with
           | zero => exact absurd HA.out (by simp [scullerref03_Get.l0])
           | succ k2 =>
             have H := HA.out
             clear HA
             simp only [scullerref03_Get.l0] at H
             by_cases c9 : x6_2 < (Int.tmod a1 8)
             · rw [if_pos c9] at H
               have c9b0 : decide (x6_2 < (Int.tmod a1 8)) = true := decide_eq_true c9
               clear c9
               have H' := Aside0.mk H
               clear H
               go_wp2
               go_roundg k2
               case measure => have := HJ2.out; have := HK2.out; omega
               case rel => exact ⟨(wrap64 (Int.tdiv x5_2 2)), (wrap64 (x6_2 + 1)), (by first | rfl | (simp; done) | (simp [*]; done)), (by first | rfl | (simp; done) | (simp [*]; done)), H', ⟨by have := HJ2.out; have := HK2.out; omega⟩, by repeat (first | exact Drawn0.refl _ | apply Drawn0.step)⟩
             · rw [if_neg c9] at H
               have c9b0 : decide (x6_2 < (Int.tmod a1 8)) = false := decide_eq_false c9
               clear c9
               obtain rfl := Option.some.inj H
               go_wp2
               go_ret
               exact ⟨by first | rfl | (simp; done) | (simp only [← hji6] <;> (first | rfl | simp)) | (simp [*]; done), by repeat (first | exact Drawn0.refl _ | apply Drawn0.step)⟩
        · rw [if_neg c8] at H
          exact absurd H (by simp)
      · rw [if_neg c7] at H
        exact absurd H (by simp)

end Go.Proofs.Ytbijnfhcbanhdaa.F
end

section
/- One byte another one: the checksum is another one. No program in sight. -/
namespace Go.Proofs.Ytbijnfhcbanhdaa.H
set_option linter.unusedVariables false
theorem sealL_length (l : List Int) : (sealL l).length = l.length + 4 := by rw [sealL, List.length_append, putL_length]
theorem rightC_seal (l : List Int) : rightC (sealL l) = true := by
 have e : (sealL l).take ((sealL l).length - 4) = l := by rw [sealL_length, Nat.add_sub_cancel, sealL, List.take_left]
 unfold rightC
 rw [e, decide_eq_true (show 4 ≤ (sealL l).length by rw [sealL_length]; omega)]
 simp
theorem bytesB_set {l : List Int} (hb : bytesB l = true) (i : Nat) (v : Int) (hv : 0 ≤ v ∧ v ≤ 255) : bytesB (l.set i v) = true := bytesB_of fun c hc => by
 rcases List.mem_or_eq_of_mem_set hc with h | rfl
 · exact bytesB_at hb c h
 · exact hv
end Go.Proofs.Ytbijnfhcbanhdaa.H
end

section
/- The statements' own arenas: they fit, and what is cut from their bytes is they again. No program in sight. -/
namespace Go.Proofs.Ytbijnfhcbanhdaa.H
set_option linter.unusedVariables false
set_option linter.unusedSimpArgs false
theorem sizesL_sum (a : List (List Int)) : (sizesL a).sum = (wordsL a : Int) := by
 induction a with
 | nil => rfl
 | cons s a ih => rw [sizesL_cons, List.sum_cons, ih, wordsL_cons]; omega
theorem sizesL_nonneg (a : List (List Int)) : ∀ x ∈ sizesL a, 0 ≤ x := by
 intro x hx
 simp only [sizesL, List.mem_map] at hx
 obtain ⟨s, _, rfl⟩ := hx
 omega
theorem fitsB_of {l : List Int} (h1 : 1 ≤ l.length) (h2 : l.length ≤ 16) (h3 : 1 ≤ l.getD 0 0) (h4 : ∀ x ∈ l, 0 ≤ x) (h5 : l.sum ≤ 4096) : fitsB l = true := by
 have : l.all (fun x => decide (0 ≤ x)) = true := List.all_eq_true.2 fun x hx => by simpa using h4 x hx
 simp only [fitsB, restB, Bool.and_eq_true, decide_eq_true_eq]
 exact ⟨⟨⟨h1, h2⟩, h3⟩, this, by omega⟩
theorem arenaC_length (c : List Int) : ∀ m i k, (arenaC c m i k).length = m
 | 0, _, _ => rfl
 | m + 1, i, k => by simp [arenaC, arenaC_length c m]
theorem arenaC_words (c : List Int) : ∀ m i k, wordsL (arenaC c m i k) ≤ 12 * m
 | 0, _, _ => by simp [arenaC, wordsL]
 | m + 1, i, k => by
   have := arenaC_words c m (i + 1) (k + sizeC c i)
   have := sizeC_le c i
   rw [arenaC, wordsL_cons, segC_length]; omega
theorem wordC_u64 {c : List Int} (hc : bytesB c = true) (k : Nat) (hk : k ≤ 1000000000) : u64B (wordC c k) = true := by
 have h : 0 ≤ c.getD (k % c.length) 0 ∧ c.getD (k % c.length) 0 ≤ 255 := by
  by_cases hl : k % c.length < c.length
  · rw [List.getD_eq_getElem?_getD, List.getElem?_eq_getElem hl]; exact bytesB_at hc _ (List.getElem_mem hl)
  · rw [List.getD_eq_getElem?_getD, List.getElem?_eq_none (by omega)]; simp
 have e : u64B (wordC c k) = (decide (0 ≤ wordC c k) && decide (wordC c k < 18446744073709551616)) := rfl
 rw [e, wordC, decide_eq_true (by omega), decide_eq_true (by omega)]
 rfl
theorem arenaC_u64 {c : List Int} (hc : bytesB c = true) : ∀ m i k, k + 12 * m ≤ 1000000000 → ∀ s ∈ arenaC c m i k, ∀ x ∈ s, u64B x = true
 | 0, _, _, _ => by simp [arenaC]
 | m + 1, i, k, hk => by
   have hz := sizeC_le c i
   have := arenaC_u64 hc m (i + 1) (k + sizeC c i) (by omega)
   intro s hs
   rw [arenaC, List.mem_cons] at hs
   rcases hs with rfl | hs
   · intro x hx
     simp only [segC, List.mem_map, List.mem_range] at hx
     obtain ⟨j, hj, rfl⟩ := hx
     exact wordC_u64 hc _ (by omega)
   · exact this s hs
theorem arenaL_length (c : List Int) {n : Int} (h0 : 0 ≤ n) : 1 ≤ (arenaL c n).length ∧ (arenaL c n).length ≤ 5 := by
 unfold arenaL; rw [arenaC_length]; omega
theorem arenaL_words (c : List Int) {n : Int} (h0 : 0 ≤ n) : wordsL (arenaL c n) ≤ 60 := by
 have := arenaC_words c (1 + (n % 5)).toNat 0 0
 unfold arenaL; omega
theorem arenaL_u64 {c : List Int} (hc : bytesB c = true) {n : Int} (h0 : 0 ≤ n) : ∀ s ∈ arenaL c n, ∀ x ∈ s, u64B x = true :=
 arenaC_u64 hc _ _ _ (by omega)
theorem arenaL_first (c : List Int) {n : Int} (h0 : 0 ≤ n) : 1 ≤ (sizesL (arenaL c n)).getD 0 0 := by
 unfold arenaL
 rw [show (1 + (n % 5)).toNat = (n % 5).toNat + 1 from by omega, arenaC, sizesL_cons, segC_length]
 have := sizeC_pos c
 simp; omega
theorem okA_of {a : List (List Int)} (h1 : a.length ≤ 1000000) (h2 : wordsL a ≤ 1000000) (h3 : ∀ s ∈ a, ∀ x ∈ s, u64B x = true) : okA a = true := by
 simp only [okA, Bool.and_eq_true, decide_eq_true_eq, List.all_eq_true]
 exact ⟨⟨h1, h2⟩, h3⟩
end Go.Proofs.Ytbijnfhcbanhdaa.H
end

section
/- The statements' own arenas of chapter 12: they fit. No program in sight. -/
namespace Go.Proofs.Ytbijnfhcbanhdaa.H
set_option linter.unusedVariables false
set_option linter.unusedSimpArgs false
def addC (n : Int) (k : Nat) : List Int := (List.range k).map fun (i : Nat) => (i : Int) * n
def zerosC (k : Nat) : List (List Int) := (List.range k).map fun i => List.replicate i (0 : Int)
def arena12L (c : List Int) (n m : Int) : List (List Int) :=
 (arenaL c n).dropLast ++ [(arenaL c n).getLastD [] ++ addC n (m % 40).toNat] ++ zerosC (m % 7).toNat
theorem addC_succ (n : Int) (k : Nat) : addC n (k + 1) = addC n k ++ [(k : Int) * n] := by simp [addC, List.range_succ]
theorem addC_length (n : Int) (k : Nat) : (addC n k).length = k := by simp [addC]
theorem zerosC_succ (k : Nat) : zerosC (k + 1) = zerosC k ++ [List.replicate k 0] := by simp [zerosC, List.range_succ]
theorem zerosC_length (k : Nat) : (zerosC k).length = k := by simp [zerosC]
theorem wordsL_append (a b : List (List Int)) : wordsL (a ++ b) = wordsL a + wordsL b := by simp [wordsL]
theorem wordsL_one (s : List Int) : wordsL [s] = s.length := by simp [wordsL]
theorem wordsL_zeros : ∀ k, k ≤ 7 → wordsL (zerosC k) ≤ 6 * k
 | 0, _ => by simp [zerosC, wordsL]
 | k + 1, h => by
   have := wordsL_zeros k (by omega)
   rw [zerosC_succ, wordsL_append, wordsL_one, List.length_replicate]; omega
theorem arenaL_last (c : List Int) {n : Int} (h0 : 0 ≤ n) : (arenaL c n).dropLast ++ [(arenaL c n).getLastD []] = arenaL c n := by
 have h := arenaL_length c h0
 generalize arenaL c n = a at *
 have hne : a ≠ [] := by rintro rfl; simp at h
 rw [List.getLastD_eq_getLast?, List.getLast?_eq_some_getLast hne]
 simpa using List.dropLast_concat_getLast hne
theorem arena12L_length (c : List Int) {n m : Int} (h0 : 0 ≤ n) (hm : 0 ≤ m) : 1 ≤ (arena12L c n m).length ∧ (arena12L c n m).length ≤ 11 := by
 have h := arenaL_length c h0
 unfold arena12L
 simp only [List.length_append, List.length_dropLast, List.length_singleton, zerosC_length]
 omega
theorem arena12L_words (c : List Int) {n m : Int} (h0 : 0 ≤ n) (hm : 0 ≤ m) : wordsL (arena12L c n m) ≤ 141 := by
 have h := arenaL_words c h0
 have hz := wordsL_zeros (m % 7).toNat (by omega)
 rw [← arenaL_last c h0, wordsL_append, wordsL_one] at h
 unfold arena12L
 rw [wordsL_append, wordsL_append, wordsL_one, List.length_append, addC_length]
 omega
theorem u64B_mk {x : Int} (h0 : 0 ≤ x) (h1 : x < 18446744073709551616) : u64B x = true := by
 have e : u64B x = (decide (0 ≤ x) && decide (x < 18446744073709551616)) := rfl
 rw [e, decide_eq_true h0, decide_eq_true h1]
 rfl
theorem arena12L_u64 {c : List Int} (hc : bytesB c = true) {n m : Int} (h0 : 0 ≤ n) (h1 : n ≤ 255) (hm : 0 ≤ m) : ∀ s ∈ arena12L c n m, ∀ x ∈ s, u64B x = true := by
 have hu := arenaL_u64 hc h0
 rw [← arenaL_last c h0] at hu
 intro s hs x hx
 simp only [arena12L, List.mem_append, List.mem_singleton] at hs
 rcases hs with (hs | rfl) | hs
 · exact hu s (by simp [hs]) x hx
 · rcases List.mem_append.1 hx with hx | hx
   · exact hu _ (by simp) x hx
   · simp only [addC, List.mem_map, List.mem_range] at hx
     obtain ⟨i, hi, rfl⟩ := hx
     have h2 : (i : Int) * n ≤ 40 * 255 := Int.mul_le_mul (by omega) (by omega) (by omega) (by omega)
     have h3 : 0 ≤ (i : Int) * n := Int.mul_nonneg (by omega) (by omega)
     exact u64B_mk h3 (by omega)
 · simp only [zerosC, List.mem_map, List.mem_range] at hs
   obtain ⟨i, hi, rfl⟩ := hs
   rw [(List.mem_replicate.1 hx).2]
   rfl
theorem arena12L_first (c : List Int) {n m : Int} (h0 : 0 ≤ n) (hm : 0 ≤ m) : 1 ≤ (sizesL (arena12L c n m)).getD 0 0 := by
 have h := arenaL_first c h0
 have hlen := arenaL_length c h0
 rw [← arenaL_last c h0] at h
 unfold arena12L
 generalize (arenaL c n).dropLast = d at *
 generalize (arenaL c n).getLastD [] = e at *
 match d with
 | [] => simp [sizesL] at h ⊢; omega
 | s :: d => simpa [sizesL] using h
theorem arena12L_fits (c : List Int) {n m : Int} (h0 : 0 ≤ n) (hm : 0 ≤ m) : fitsB (sizesL (arena12L c n m)) = true := by
 have h1 := arena12L_length c h0 hm
 have h2 := arena12L_words c h0 hm
 exact fitsB_of (by rw [sizesL_length]; omega) (by rw [sizesL_length]; omega) (arena12L_first c h0 hm) (sizesL_nonneg _) (by rw [sizesL_sum]; omega)
theorem arena12L_ok {c : List Int} (hc : bytesB c = true) {n m : Int} (h0 : 0 ≤ n) (h1 : n ≤ 255) (hm : 0 ≤ m) : okA (arena12L c n m) = true :=
 okA_of (by have := arena12L_length c h0 hm; omega) (by have := arena12L_words c h0 hm; omega) (arena12L_u64 hc h0 h1 hm)
end Go.Proofs.Ytbijnfhcbanhdaa.H
end

section
/- What tells manifests apart. No program in sight. -/
namespace Go.Proofs.Ytbijnfhcbanhdaa.H
set_option linter.unusedVariables false
end Go.Proofs.Ytbijnfhcbanhdaa.H
end

section
/- Bits as plain lists of bytes; a statement's own token. No program in sight. -/
namespace Go.Proofs.Ytbijnfhcbanhdaa.H
set_option linter.unusedVariables false
def getB (l : List Int) (i : Nat) : Bool := decide (l.getD (i / 8) 0 / 2 ^ (i % 8) % 2 = 1)
def setB (l : List Int) (i : Int) : List Int := if 0 ≤ i ∧ i / 8 < l.length ∧ getB l i.toNat = false then l.set (i.toNat / 8) (l.getD (i.toNat / 8) 0 + 2 ^ (i.toNat % 8)) else l
theorem setB_length (l : List Int) (i : Int) : (setB l i).length = l.length := by unfold setB; split <;> simp
theorem byte_set : ∀ b : Fin 256, ∀ j : Fin 8, (b.val / 2 ^ j.val) % 2 = 0 → b.val + 2 ^ j.val < 256 := by decide +kernel
theorem byte_top : ∀ m : Fin 8, ∀ b : Fin 256, ∀ j : Fin 8, j.val < m.val → b.val / 2 ^ m.val = 0 → (b.val / 2 ^ j.val) % 2 = 0 → (b.val + 2 ^ j.val) / 2 ^ m.val = 0 := by decide +kernel
theorem getB_nat {b : Nat} {j : Nat} : ((b : Int) / 2 ^ j % 2 = 1) ↔ (b / 2 ^ j % 2 = 1) := by
 have e : (b : Int) / 2 ^ j % 2 = ((b / 2 ^ j % 2 : Nat) : Int) := by simp
 rw [e]; omega
theorem getD_byte {l : List Int} (h : bytesB l = true) (i : Nat) : ∃ b : Nat, b < 256 ∧ l.getD i 0 = b := by
 rcases Nat.lt_or_ge i l.length with hi | hi
 · rw [List.getD_eq_getElem?_getD, List.getElem?_eq_getElem hi, Option.getD_some]
   have := bytesB_at h _ (List.getElem_mem hi)
   exact ⟨(l[i]).toNat, by omega, by omega⟩
 · rw [List.getD_eq_getElem?_getD, List.getElem?_eq_none hi]
   exact ⟨0, by omega, rfl⟩
theorem setB_byte {l : List Int} (h : bytesB l = true) (i : Int) : bytesB (setB l i) = true := by
 unfold setB
 split
 · rename_i hc
   obtain ⟨b, hb, e⟩ := getD_byte h (i.toNat / 8)
   have hg := hc.2.2
   simp only [getB, decide_eq_false_iff_not] at hg
   rw [e, getB_nat] at hg
   have h0 : b / 2 ^ (i.toNat % 8) % 2 = 0 := by omega
   have h1 := byte_set ⟨b, hb⟩ ⟨i.toNat % 8, by omega⟩ h0
   simp only at h1
   rw [e]
   have e2 : (b : Int) + 2 ^ (i.toNat % 8) = ((b + 2 ^ (i.toNat % 8) : Nat) : Int) := by simp
   refine bytesB_set h _ _ ?_
   rw [e2]
   obtain ⟨q, hq⟩ : ∃ q, b + 2 ^ (i.toNat % 8) = q := ⟨_, rfl⟩
   rw [hq] at h1 ⊢
   omega
 · exact h
/-- A bit below n set: still n bits. -/
theorem rightBits_set {l : List Int} (hb : bytesB l = true) {n : Int} (hn : 0 ≤ n) (h : rightBits l n = true) {i : Int} (h0 : 0 ≤ i) (hi : i < n) : rightBits (setB l i) n = true := by
 simp only [rightBits, Bool.and_eq_true, Bool.or_eq_true, decide_eq_true_eq] at h ⊢
 rw [setB_length]
 refine ⟨h.1, ?_⟩
 rcases h.2 with h2 | h2
 · exact .inl h2
 · by_cases hz : n % 8 = 0
   · exact .inl hz
   refine .inr ?_
   unfold setB
   split
   · rename_i hc
     have hl : (l.length : Int) = (n + 7) / 8 := h.1
     rcases Nat.lt_or_ge (i.toNat / 8) (l.length - 1) with hlt | hge
     · rw [List.getD_eq_getElem?_getD, List.getElem?_set_ne (by omega), ← List.getD_eq_getElem?_getD]
       exact h2
     · have e8 : i.toNat / 8 = l.length - 1 := by have := hc.2.1; omega
       rw [e8, List.getD_eq_getElem?_getD, List.getElem?_set_self (by omega), Option.getD_some]
       obtain ⟨b, hb8, e⟩ := getD_byte hb (l.length - 1)
       have hg := hc.2.2
       simp only [getB, decide_eq_false_iff_not, e8] at hg
       rw [e] at hg h2 ⊢
       rw [getB_nat] at hg
       have hm : i.toNat % 8 < (n % 8).toNat := by omega
       have h3 : b / 2 ^ (n % 8).toNat = 0 := by
        have e3 : (b : Int) / 2 ^ (n % 8).toNat = ((b / 2 ^ (n % 8).toNat : Nat) : Int) := by simp
        rw [e3] at h2
        omega
       have h4 := byte_top ⟨(n % 8).toNat, by omega⟩ ⟨b, hb8⟩ ⟨i.toNat % 8, by omega⟩ hm h3 (by simp only; omega)
       simp only at h4
       have e2 : ((b : Int) + 2 ^ (i.toNat % 8)) / 2 ^ (n % 8).toNat = (((b + 2 ^ (i.toNat % 8)) / 2 ^ (n % 8).toNat : Nat) : Int) := by simp
       rw [e2, h4]
       rfl
   · exact h2
def zerosB (n : Int) : List Int := List.replicate ((n + 7) / 8).toNat 0
theorem zerosB_right {n : Int} (hn : 0 ≤ n) : rightBits (zerosB n) n = true := by
 have hl : ((zerosB n).length : Int) = (n + 7) / 8 := by
  unfold zerosB
  rw [List.length_replicate]
  have : 0 ≤ (n + 7) / 8 := by omega
  omega
 have hz : (zerosB n).getD ((zerosB n).length - 1) 0 = 0 := by
  unfold zerosB
  rw [List.getD_eq_getElem?_getD, List.getElem?_replicate]
  split <;> rfl
 unfold rightBits
 rw [hl, hz, decide_eq_true rfl]
 simp
theorem zerosB_byte (n : Int) : bytesB (zerosB n) = true := bytesB_of fun c hc => by rw [(List.mem_replicate.1 hc).2]; omega
/-- The bits that choices set. -/
def knownL (c : List Int) (n : Int) : List Int := c.foldl (fun k x => if x < n then setB k x else k) (zerosB n)
theorem foldl_known {n : Int} (hn : 0 ≤ n) : ∀ (c k : List Int), bytesB c = true → bytesB k = true → rightBits k n = true → bytesB (c.foldl (fun k x => if x < n then setB k x else k) k) = true ∧ rightBits (c.foldl (fun k x => if x < n then setB k x else k) k) n = true
 | [], k, _, hk, hr => ⟨hk, hr⟩
 | x :: c, k, hc, hk, hr => by
   have hx := bytesB_at hc x (by simp)
   have hc2 : bytesB c = true := bytesB_of fun y hy => bytesB_at hc y (by simp [hy])
   rw [List.foldl_cons]
   split
   · rename_i hlt
     exact foldl_known hn c _ hc2 (setB_byte hk x) (rightBits_set hk hn hr hx.1 hlt)
   · exact foldl_known hn c _ hc2 hk hr
theorem knownL_right {c : List Int} (hc : bytesB c = true) {n : Int} (hn : 0 ≤ n) : bytesB (knownL c n) = true ∧ rightBits (knownL c n) n = true := foldl_known hn c _ hc (zerosB_byte n) (zerosB_right hn)
def sumA (s : Int) (a : List (List Int)) : Int := moreL 0 (ofBytes s a a.length ++ bytesL a)
def chunksL (a : List (List Int)) : Int := (wordsM (sizesL a) + 7) / 8
/-- The statements' token. -/
def tokenC (s : Int) (c : List Int) (n m : Int) : Int × List Int × Int × List Int := (s, sizesL (arena12L c n m), sumA s (arena12L c n m), knownL c (chunksL (arena12L c n m)))
theorem chunksL_range (a : List (List Int)) : 0 ≤ chunksL a ∧ chunksL a ≤ 512 := by
 have h := wordsM_range (sizesL a)
 unfold chunksL
 omega
theorem tokenC_right {c : List Int} (hc : bytesB c = true) {n m : Int} (hn : 0 ≤ n) (hm : 0 ≤ m) : rightT (sizesL (arena12L c n m)) (knownL c (chunksL (arena12L c n m))) = true := by
 unfold rightT
 rw [arena12L_fits c hn hm]
 have h := (knownL_right hc (chunksL_range (arena12L c n m)).1).2
 unfold chunksL at h
 rw [show knownL c (chunksL (arena12L c n m)) = knownL c ((wordsM (sizesL (arena12L c n m)) + 7) / 8) from rfl, h]
 rfl
theorem rightBits_length {l : List Int} {n : Int} (h : rightBits l n = true) : (l.length : Int) = (n + 7) / 8 := by
 simp only [rightBits, Bool.and_eq_true, decide_eq_true_eq] at h
 exact h.1
end Go.Proofs.Ytbijnfhcbanhdaa.H
end

section
namespace Go.Proofs.Ytbijnfhcbanhdaa.F
open Go.RowKit Go.Proofs.YtbijnfhcbanhdaaW.PrintWords Go.Proofs.YtbijnfhcbanhdaaW.PrintLast Go.Proofs.YtbijnfhcbanhdaaW.PrintMore
attribute [local go_sem] max2_int min2_int max_two min_two max_three min_three max_four min_four   -- for this text's walks alone
set_option linter.unusedVariables false
set_option linter.unusedSimpArgs false

open Go.Proofs.Ytbijnfhcbanhdaa.H
def scullerref03_Get_c.f (l0 : List Int) (a1 : Int) : Option Bool := if bytesB l0 = true ∧ l0.length ≤ 140737488355328 ∧ a1 ≤ 9223372036854775807 then some (decide (0 ≤ a1) && getB l0 a1.toNat) else none
theorem beq_dec_ (a b : Int) : (a == b) = decide (a = b) := by
 by_cases h : a = b <;> simp [h]
theorem scullerref03_Get.l0_to (a c : Nat) (ha : a ≤ 9223372036854775807) (hc : c < 256) : ∀ (d i : Nat), a % 8 - i = d → i ≤ a % 8 → ∃ k, scullerref03_Get.l0 k (a : Int) ((c / 2 ^ i : Nat) : Int) (i : Int) = some (decide ((c : Int) / 2 ^ (a % 8) % 2 = 1))
 | 0, i, hd, hi => ⟨1, by
   obtain rfl : i = a % 8 := by omega
   have e : (c : Int) / 2 ^ (a % 8) % 2 = ((c / 2 ^ (a % 8) % 2 : Nat) : Int) := by simp
   rw [scullerref03_Get.l0, Int.tmod_eq_emod_of_nonneg (Int.natCast_nonneg a), if_neg (by omega), Int.tmod_eq_emod_of_nonneg (Int.natCast_nonneg (c / 2 ^ (a % 8))), e]
   exact congrArg some (beq_dec_ _ _)⟩
 | d + 1, i, hd, hi => by
   obtain ⟨k, hk⟩ := scullerref03_Get.l0_to a c ha hc d (i + 1) (by omega) (by omega)
   refine ⟨k + 1, ?_⟩
   have h1 : c / 2 ^ i ≤ c := Nat.div_le_self _ _
   have e : c / 2 ^ (i + 1) = c / 2 ^ i / 2 := by rw [Nat.pow_succ, Nat.div_div_eq_div_mul]
   rw [e] at hk
   obtain ⟨q, hq⟩ : ∃ q, c / 2 ^ i = q := ⟨_, rfl⟩
   rw [hq] at hk h1 ⊢
   rw [scullerref03_Get.l0, Int.tmod_eq_emod_of_nonneg (by omega), if_pos (by omega), Int.tdiv_eq_ediv_of_nonneg (by omega), show wrap64 ((q : Int) / 2) = ((q / 2 : Nat) : Int) from by unfold wrap64; omega, show wrap64 ((i : Int) + 1) = ((i + 1 : Nat) : Int) from by unfold wrap64; omega]
   exact hk
theorem scullerref03_Get_c.to {l0 : List Int} {a1 : Int} {r : Bool} (h : scullerref03_Get_c.f l0 a1 = some r) : ∃ k, scullerref03_Get.f k l0 a1 = some r := by
 unfold scullerref03_Get_c.f at h
 split at h
 case isFalse => cases h
 case isTrue hb =>
 obtain rfl := Option.some.inj h
 obtain ⟨hb, hl, ha⟩ := hb
 by_cases h0 : a1 < 0
 · refine ⟨1, ?_⟩
   rw [scullerref03_Get.f, if_pos h0, scullerref03_Get.j0, if_pos rfl, decide_eq_false (by omega)]
   rfl
 · obtain ⟨a, rfl⟩ := Int.eq_ofNat_of_zero_le (by omega : 0 ≤ a1)
   have ew : wrap64 (Int.tdiv (a : Int) 8) = ((a / 8 : Nat) : Int) := by rw [Int.tdiv_eq_ediv_of_nonneg (by omega)]; unfold wrap64; omega
   obtain ⟨b, hb8, e⟩ := getD_byte hb (a / 8)
   by_cases hlt : a / 8 < l0.length
   · obtain ⟨k, hk⟩ := scullerref03_Get.l0_to a b (by omega) hb8 (a % 8) 0 (by omega) (by omega)
     refine ⟨k + 1, ?_⟩
     have er : rd l0 ((a / 8 : Nat) : Int) = b := by unfold rd; rw [Int.toNat_natCast]; exact e
     rw [Nat.pow_zero, Nat.div_one] at hk
     rw [scullerref03_Get.f, if_neg h0, ew, decide_eq_false (by omega), scullerref03_Get.j0, if_neg (by decide), ew, if_pos (by omega), if_pos (by omega), er, show wrap64 (b : Int) = b from by unfold wrap64; omega]
     rw [show ((0 : Nat) : Int) = 0 from rfl] at hk
     rw [hk, decide_eq_true (by omega : (0 : Int) ≤ (a : Int)), Bool.true_and, Int.toNat_natCast, getB, e]
   · refine ⟨1, ?_⟩
     rw [scullerref03_Get.f, if_neg h0, ew, decide_eq_true (by omega), scullerref03_Get.j0, if_pos rfl, Int.toNat_natCast, getB]
     have e0 : l0.getD (a / 8) 0 = 0 := by rw [List.getD_eq_getElem?_getD, List.getElem?_eq_none (by omega)]; rfl
     rw [e0]
     simp

theorem scullerref03_Get_c.calls (A0 : Option Addr) (c0 : Nat) (l0 : List Int) (a1 : Int) (r : Bool) (w : World) (hr0 : Kd.C (Kd.int .u8) w A0 l0.length l0) (hc0 : l0.length ≤ c0) (h : scullerref03_Get_c.f l0 a1 = some r) :
 Calls Try.prog 53 #[.slice A0 l0.length c0, .int .i64 a1] w fun e w' => e = .returned (.bool r) ∧ Drawn0 w w' := by
 obtain ⟨k_, hk_⟩ := scullerref03_Get_c.to h
 exact scullerref03_Get.calls k_ A0 c0 l0 a1 r w hr0 hc0 hk_

end Go.Proofs.Ytbijnfhcbanhdaa.F
end

section
namespace Go.Proofs.Ytbijnfhcbanhdaa.F
open Go.RowKit Go.Proofs.YtbijnfhcbanhdaaW.PrintWords Go.Proofs.YtbijnfhcbanhdaaW.PrintLast Go.Proofs.YtbijnfhcbanhdaaW.PrintMore
attribute [local go_sem] max2_int min2_int max_two min_two max_three min_three max_four min_four   -- for this text's walks alone
set_option linter.unusedVariables false
set_option linter.unusedSimpArgs false

/-! ### scullerref03_Set: function 23 -/
def scullerref03_Set.f (l0 : List Int) (a1 : Int) : Option (List Int) := if ([] : List Int).length + l0.length < 140737488355328 then ((some (([] : List Int) ++ l0 : List Int)).bind fun y101 => (if a1 ≥ 0 then (if (wrap64 (Int.tdiv a1 8)) < (l0.length : Int) then ((scullerref03_Get_c.f l0 a1).bind fun t104 => (if t104 = true then (some y101) else (if 0 ≤ (wrap64 (Int.tdiv a1 8)) then (if (wrap64 (Int.tdiv a1 8)) < (y101.length : Int) then (if 0 ≤ (IntKind.u64.wrap (Int.tmod a1 8)) then (some (y101.set ((wrap64 (Int.tdiv a1 8)) : Int).toNat (((rd y101 (wrap64 (Int.tdiv a1 8))) + (shl .u8 1 (IntKind.u64.wrap (Int.tmod a1 8)))) % 256))) else (none)) else (none)) else (none)))) else (some y101)) else (some y101))) else (none)
set_option maxHeartbeats 8000000 in
set_option maxRecDepth 100000 in
theorem scullerref03_Set.calls (A0 : Option Addr) (c0 : Nat) (l0 : List Int) (a1 : Int) (r : List Int) (w : World) (hr0 : Kd.C (Kd.int .u8) w A0 l0.length l0) (hc0 : l0.length ≤ c0) (h : scullerref03_Set.f l0 a1 = some r) :
 Calls Try.prog 23 #[.slice A0 l0.length c0, .int .i64 a1] w fun e w' => ∃ v0_ : Value, e = .returned (v0_) ∧ Kd.R (Kd.int .u8) 5 w' w.heap.size (fun _ => True) v0_ r ∧ Below w.heap.size w w' := by
 have HR0 := Aside0.mk hr0
 have HC0 := Aside0.mk hc0
 clear hr0 hc0
 have HB := Aside0.mk (Below.refl w.heap.size w)
 have H : (if ([] : List Int).length + l0.length < 140737488355328 then ((some (([] : List Int) ++ l0 : List Int)).bind fun y101 => (if a1 ≥ 0 then (if (wrap64 (Int.tdiv a1 8)) < (l0.length : Int) then ((scullerref03_Get_c.f l0 a1).bind fun t104 => (if t104 = true then (some y101) else (if 0 ≤ (wrap64 (Int.tdiv a1 8)) then (if (wrap64 (Int.tdiv a1 8)) < (y101.length : Int) then (if 0 ≤ (IntKind.u64.wrap (Int.tmod a1 8)) then (some (y101.set ((wrap64 (Int.tdiv a1 8)) : Int).toNat (((rd y101 (wrap64 (Int.tdiv a1 8))) + (shl .u8 1 (IntKind.u64.wrap (Int.tmod a1 8)))) % 256))) else (none)) else (none)) else (none)))) else (some y101)) else (some y101))) else (none)) = some r := h
 clear h
 by_cases c3 : ([] : List Int).length + l0.length < 140737488355328
 · rw [if_pos c3] at H
   have LMc3 := Aside0.mk c3
   clear c3
   obtain ⟨y101, hy101⟩ : ∃ y_ : List Int, y_ = (([] : List Int) ++ l0) := ⟨_, rfl⟩
   replace H : (if a1 ≥ 0 then (if (wrap64 (Int.tdiv a1 8)) < (l0.length : Int) then ((scullerref03_Get_c.f l0 a1).bind fun t104 => (if t104 = true then (some y101) else (if 0 ≤ (wrap64 (Int.tdiv a1 8)) then (if (wrap64 (Int.tdiv a1 8)) < (y101.length : Int) then (if 0 ≤ (IntKind.u64.wrap (Int.tmod a1 8)) then (some (y101.set ((wrap64 (Int.tdiv a1 8)) : Int).toNat (((rd y101 (wrap64 (Int.tdiv a1 8))) + (shl .u8 1 (IntKind.u64.wrap (Int.tmod a1 8)))) % 256))) else (none)) else (none)) else (none)))) else (some y101)) else (some y101)) = some r := by first | (rw [hy101]; with_reducible exact H) | (have H2_ := (Option.bind_some _ _).symm.trans H; rw [hy101]; with_reducible exact H2_) | (have H2_ := (Option.bind_some _ _).symm.trans H; with_reducible exact H2_) | with_reducible exact H | (rw [hy101]; exact H) | exact H
   have Ny101 := Aside0.mk hy101
   clear hy101
   by_cases c4 : a1 ≥ 0
   · rw [if_pos c4] at H
     have c4b0 : decide (0 ≤ a1) = true := decide_eq_true c4
     clear c4
     by_cases c5 : (wrap64 (Int.tdiv a1 8)) < (l0.length : Int)
     · rw [if_pos c5] at H
       have c5b0 : decide ((wrap64 (Int.tdiv a1 8)) < (l0.length : Int)) = true := decide_eq_true c5
       clear c5
       replace H := Option.bind_eq_some_iff.mp H
       obtain ⟨t104, A60, H⟩ := H
       replace H : (if t104 = true then (some y101) else (if 0 ≤ (wrap64 (Int.tdiv a1 8)) then (if (wrap64 (Int.tdiv a1 8)) < (y101.length : Int) then (if 0 ≤ (IntKind.u64.wrap (Int.tmod a1 8)) then (some (y101.set ((wrap64 (Int.tdiv a1 8)) : Int).toNat (((rd y101 (wrap64 (Int.tdiv a1 8))) + (shl .u8 1 (IntKind.u64.wrap (Int.tmod a1 8)))) % 256))) else (none)) else (none)) else (none))) = some r := H
       have A6 := Aside0.mk A60
       clear A60
       by_cases c7 : t104 = true
       · subst c7
         have H1 : (some y101) = some r := by rw [if_pos rfl] at H; exact H
         clear H
         have H := H1
         clear H1
         obtain rfl := Option.some.inj H
         go_enter Try.func23, Try.ntmps23
         go_wp2_with (first | ((with_reducible refine gate_builtin (b := .append) (xs := #[.tmp 6, .tmp 7]) rfl ?_); (try (refine gate_guard (by rfl) ?_; dsimp only)); at_builtin; refine Kd.R_append_rows (Kd.int .u8) (w0 := w) w.heap.size rfl (.tmp 6) (.tmp 7) 27 5 (.int .u8 0) 1 rfl Try.underlying27 info5 rfl (by decide) (by omega) (.slice none 0 0) ([] : List Int) l0 _ _ _ (fun _ => True) (fun _ => False) rfl rfl ?aO ?aR (fun _ _ h => h) (fun _ h => h.elim) ?aF ?aB ?aS ?aL ?_; (case aR => repeat (first | exact HR0.out | (with_reducible refine Kd.C_alloc ?_ _) | (with_reducible refine Kd.C_drewN ?_ _) | (with_reducible refine Kd.C_drew ?_))); (case aB => exact (by repeat (first | (with_reducible first | exact HB.out | apply below_alloc | apply pw_below_drewN | apply below_drew1) | exact HB.out))); (case aF => exact (fun _ _ => trivial)); (case aO => exact ((Kd.R_nil _ _ _ _ (fun _ => True)))); (case aS => exact (below_size (by repeat (first | (with_reducible first | exact HB.out | apply below_alloc | apply pw_below_drewN | apply below_drew1) | exact HB.out)))); (case aL => have := LMc3.out; omega); intro v102 w8 ho hb hg hat; rw [← Ny101.out] at ho; have n0_ := Aside0.mk (hb); have n1_ := Aside0.mk (ho); clear HB; have HB := n0_; have HO103 := n1_; clear n0_ n1_; clear ho hb hg hat) | (go_at_call 53; (with_reducible refine (scullerref03_Get_c.calls _ _ l0 a1 true _ ?side1 ?side2 A6.out).mono ?_); (case side1 => repeat (first | exact (Kd.C_below HR0.out HB.out) | (with_reducible refine Kd.C_alloc ?_ _) | (with_reducible refine Kd.C_drewN ?_ _) | (with_reducible refine Kd.C_drew ?_))); (case side2 => exact HC0.out); rintro e w' ⟨rfl, ⟨nd, rfl⟩⟩))
         go_ret
         exact ⟨_, by first | rfl | (simp [errW_none, errW_some] <;> rfl) | (simp [*, errW_none, errW_some] <;> rfl), by (with_reducible repeat (first | apply Kd.R_alloc | apply Kd.R_drewN | apply Kd.R_drew)); exact HO103.out, by repeat (first | (with_reducible first | exact HB.out | apply below_alloc | apply pw_below_drewN | apply below_drew1) | exact HB.out)⟩
       · replace c7 := Bool.eq_false_iff.mpr c7
         subst c7
         have H1 : (if 0 ≤ (wrap64 (Int.tdiv a1 8)) then (if (wrap64 (Int.tdiv a1 8)) < (y101.length : Int) then (if 0 ≤ (IntKind.u64.wrap (Int.tmod a1 8)) then (some (y101.set ((wrap64 (Int.tdiv a1 8)) : Int).toNat (((rd y101 (wrap64 (Int.tdiv a1 8))) + (shl .u8 1 (IntKind.u64.wrap (Int.tmod a1 8)))) % 256))) else (none)) else (none)) else (none)) = some r := by rw [if_neg (show ¬ (false = true) by decide)] at H; exact H
         clear H
         have H := H1
         clear H1
         obtain ⟨ji9, hji9⟩ : ∃ j_ : Int, (wrap64 (Int.tdiv a1 8)) = j_ := ⟨_, rfl⟩
         replace H : (if 0 ≤ (ji9) then (if (ji9) < (y101.length : Int) then (if 0 ≤ (IntKind.u64.wrap (Int.tmod a1 8)) then (some (y101.set ((ji9) : Int).toNat (((rd y101 (ji9)) + (shl .u8 1 (IntKind.u64.wrap (Int.tmod a1 8)))) % 256))) else (none)) else (none)) else (none)) = some r := by first | (rw [hji9] at H; exact H) | (simp only [hji9] at H ⊢; exact H)
         (try rw [hji9] at c5b0)
         (try rw [hji9] at A6)
         have hji9w : (IntKind.i64.wrap (Int.tdiv a1 8)) = ji9 := (i64_w _).trans hji9
         by_cases c10 : 0 ≤ (ji9)
         · rw [if_pos c10] at H
           have c10b0 : decide (0 ≤ (ji9)) = true := decide_eq_true c10
           clear c10
           by_cases c11 : (ji9) < (y101.length : Int)
           · rw [if_pos c11] at H
             have c11b0 : decide ((ji9) < (y101.length : Int)) = true := decide_eq_true c11
             clear c11
             obtain ⟨ji12, hji12⟩ : ∃ j_ : Int, (IntKind.u64.wrap (Int.tmod a1 8)) = j_ := ⟨_, rfl⟩
             replace H : (if 0 ≤ (ji12) then (some (y101.set ((ji9) : Int).toNat (((rd y101 (ji9)) + (shl .u8 1 (ji12))) % 256))) else (none)) = some r := by first | (rw [hji12] at H; exact H) | (simp only [hji12] at H ⊢; exact H)
             (try rw [hji12] at A6)
             by_cases c13 : 0 ≤ (ji12)
             · rw [if_pos c13] at H
               have c13b0 := eq_true c13
               have c13b1 : decide (0 ≤ (ji12)) = true := decide_eq_true c13
               clear c13
               obtain ⟨ji14, hji14⟩ : ∃ j_ : Int, (shl .u8 1 (ji12)) = j_ := ⟨_, rfl⟩
               replace H : (some (y101.set ((ji9) : Int).toNat (((rd y101 (ji9)) + (ji14)) % 256))) = some r := by first | (rw [hji14] at H; exact H) | (simp only [hji14] at H ⊢; exact H)
               (try rw [hji14] at A6)
               have hji14_ : (IntKind.u8.wrap (1 * 2 ^ min (ji12).toNat 8)) = ji14 := hji14
               have hji14z : (ji12) ≤ 8 → (IntKind.u8.wrap (1 * 2 ^ (ji12).toNat)) = ji14 := shl_small hji14
               have hji14u : (IntKind.u8.wrap (2 ^ min (ji12).toNat 8)) = ji14 := by have h_ := hji14_; rw [Int.one_mul] at h_; exact h_
               have hji14v : (ji12) ≤ 8 → (IntKind.u8.wrap (2 ^ (ji12).toNat)) = ji14 := fun hle_ => by have h_ := hji14z hle_; rw [Int.one_mul] at h_; exact h_
               obtain ⟨y106, hy106⟩ : ∃ y_ : List Int, y_ = (y101.set ((ji9) : Int).toNat (((rd y101 (ji9)) + (ji14)) % 256)) := ⟨_, rfl⟩
               replace H : (some y106) = some r := by first | (rw [hy106]; with_reducible exact H) | (have H2_ := (Option.bind_some _ _).symm.trans H; rw [hy106]; with_reducible exact H2_) | (have H2_ := (Option.bind_some _ _).symm.trans H; with_reducible exact H2_) | with_reducible exact H | (rw [hy106]; exact H) | exact H
               have Ny106 := Aside0.mk hy106
               clear hy106
               obtain rfl := Option.some.inj H
               go_enter Try.func23, Try.ntmps23
               go_wp2_with (first | ((with_reducible refine gate_builtin (b := .append) (xs := #[.tmp 6, .tmp 7]) rfl ?_); (try (refine gate_guard (by rfl) ?_; dsimp only)); at_builtin; refine Kd.R_append_rows (Kd.int .u8) (w0 := w) w.heap.size rfl (.tmp 6) (.tmp 7) 27 5 (.int .u8 0) 1 rfl Try.underlying27 info5 rfl (by decide) (by omega) (.slice none 0 0) ([] : List Int) l0 _ _ _ (fun _ => True) (fun _ => False) rfl rfl ?aO ?aR (fun _ _ h => h) (fun _ h => h.elim) ?aF ?aB ?aS ?aL ?_; (case aR => repeat (first | exact HR0.out | (with_reducible refine Kd.C_alloc ?_ _) | (with_reducible refine Kd.C_drewN ?_ _) | (with_reducible refine Kd.C_drew ?_))); (case aB => exact (by repeat (first | (with_reducible first | exact HB.out | apply below_alloc | apply pw_below_drewN | apply below_drew1) | exact HB.out))); (case aF => exact (fun _ _ => trivial)); (case aO => exact ((Kd.R_nil _ _ _ _ (fun _ => True)))); (case aS => exact (below_size (by repeat (first | (with_reducible first | exact HB.out | apply below_alloc | apply pw_below_drewN | apply below_drew1) | exact HB.out)))); (case aL => have := LMc3.out; omega); intro v102 w16 ho hb hg hat; rw [← Ny101.out] at ho; have n0_ := Aside0.mk (hb); have n1_ := Aside0.mk (ho); clear HB; have HB := n0_; have HO103 := n1_; clear n0_ n1_; clear ho hb hg hat) | (go_at_call 53; (with_reducible refine (scullerref03_Get_c.calls _ _ l0 a1 false _ ?side1 ?side2 A6.out).mono ?_); (case side1 => repeat (first | exact (Kd.C_below HR0.out HB.out) | (with_reducible refine Kd.C_alloc ?_ _) | (with_reducible refine Kd.C_drewN ?_ _) | (with_reducible refine Kd.C_drew ?_))); (case side2 => exact HC0.out); rintro e w' ⟨rfl, ⟨nd, rfl⟩⟩; (try (rw [drewN_self w16]; generalize hq_ : World.drewN w16 _ = w16; have n0_ : Aside0 (Kd.R (Kd.int .u8) 5 w16 w.heap.size (fun _ => True) v102 y101) := ⟨by rw [← hq_]; exact (by (with_reducible repeat (first | apply Kd.R_alloc | apply Kd.R_drewN | apply Kd.R_drew)); exact HO103.out)⟩; have n1_ : Aside0 (Below w.heap.size w w16) := ⟨by rw [← hq_]; exact (by repeat (first | (with_reducible first | exact HB.out | apply below_alloc | apply pw_below_drewN | apply below_drew1) | exact HB.out))⟩; clear HO103 HB hq_; have HO103 := n0_; have HB := n1_; clear n0_ n1_)); obtain ⟨Ao17, co17, eo17⟩ := Kd.R_slice HO103.out; subst eo17; have p105 : 0 ≤ ((ji9) : Int) := of_decide_eq_true (by first | (with_reducible assumption) | assumption); have q105 : (ji9) < (y101.length : Int) := of_decide_eq_true (by first | (with_reducible assumption) | assumption); obtain ⟨ad105, e105, hx105_0⟩ := Kd.at_int (Kd.R_reads' HO103.out).2.2 (ji9) p105 q105; cases e105; replace p105 := eq_true p105; replace q105 := eq_true q105; have p15 : 0 ≤ ((ji9) : Int) := of_decide_eq_true (by first | (with_reducible assumption) | assumption); have q15 : ((ji9) : Int) < ((y101.length : Int) : Int) := of_decide_eq_true (by first | (with_reducible assumption) | assumption); obtain ⟨go15, co15, eo15, gb15, gl15, cl15, HG15⟩ := Kd.R_form HO103.out (by omega); (first | cases eo15 | (injection eo15 with ea_ en_ ec_; (first | subst ea_ | (injection ea_ with ea_; subst ea_)); subst ec_; clear en_)); have GB15 := Aside0.mk gb15; have GG15 := Aside0.mk HG15; clear gb15 gl15 HG15; (first | simp only [add_plain] at hx105_0 | skip); obtain ⟨hx15_0, hf15_0⟩ := Kd.R_celln 0 HO103.out ((ji9) : Int) p15 q15; replace p15 := eq_true p15; replace q15 := eq_true q15; obtain ⟨hy18_, hz18_⟩ := Kd.R_celln 0 HO103.out ((ji9) : Int) (of_decide_eq_true (by first | (with_reducible assumption) | assumption)) (of_decide_eq_true (by first | (with_reducible assumption) | assumption)); have HP18 := Kd.R_putg HO103.out ((ji9) : Int) (((rd y101 (ji9)) + (ji14)) % 256)) | ((with_reducible refine gate_store (t := 5) (p := 34) rfl ?_); refine store_event (t := 5) (p := 34) (v := ?vo_w19) (w1 := (w16.setCell ⟨go15, ((ji9) : Int).toNat, none⟩ (.int .u8 (((rd y101 (ji9)) + (ji14)) % 256)))) ?hg ?ho ?hn ?hr ?_; (case ho => rfl); (case hg => rfl); (case hn => rfl); (case hr => first | (go_simp; done) | (go_simp; rfl)); intro w19 hw; have hg : w16.grownBy w19 (some go15) := (by rw [hw]; exact HP18.2); have hp_ : Kd.R (Kd.int .u8) 5 w19 w.heap.size (fun _ => True) (.slice (some ⟨go15, 0, none⟩) y101.length co17) y106 := (by rw [hw, Ny106.out]; exact HP18.1); clear HP18; have n0_ := Aside0.mk (hp_); have n1_ := Aside0.mk ((by rw [hw]; exact below_set (HB.out) GB15.out : Below w.heap.size w w19)); clear HO103; clear HB; have HO103 := n0_; have HB := n1_; clear n0_ n1_; clear hg hw hp_))
               go_ret
               exact ⟨_, by first | rfl | (simp [errW_none, errW_some] <;> rfl) | (simp only [← hji9, ← hji12, ← hji14]; first | rfl | (simp [errW_none, errW_some] <;> rfl)) | (simp [*, errW_none, errW_some] <;> rfl), by (with_reducible repeat (first | apply Kd.R_alloc | apply Kd.R_drewN | apply Kd.R_drew)); exact HO103.out, by repeat (first | (with_reducible first | exact HB.out | apply below_alloc | apply pw_below_drewN | apply below_drew1) | exact HB.out)⟩
             · rw [if_neg c13] at H
               exact absurd H (by simp)
           · rw [if_neg c11] at H
             exact absurd H (by simp)
         · rw [if_neg c10] at H
           exact absurd H (by simp)
     · rw [if_neg c5] at H
       have c5b0 : decide ((wrap64 (Int.tdiv a1 8)) < (l0.length : Int)) = false := decide_eq_false c5
       clear c5
       obtain rfl := Option.some.inj H
       go_enter Try.func23, Try.ntmps23
       go_wp2_with (first | ((with_reducible refine gate_builtin (b := .append) (xs := #[.tmp 6, .tmp 7]) rfl ?_); (try (refine gate_guard (by rfl) ?_; dsimp only)); at_builtin; refine Kd.R_append_rows (Kd.int .u8) (w0 := w) w.heap.size rfl (.tmp 6) (.tmp 7) 27 5 (.int .u8 0) 1 rfl Try.underlying27 info5 rfl (by decide) (by omega) (.slice none 0 0) ([] : List Int) l0 _ _ _ (fun _ => True) (fun _ => False) rfl rfl ?aO ?aR (fun _ _ h => h) (fun _ h => h.elim) ?aF ?aB ?aS ?aL ?_; (case aR => repeat (first | exact HR0.out | (with_reducible refine Kd.C_alloc ?_ _) | (with_reducible refine Kd.C_drewN ?_ _) | (with_reducible refine Kd.C_drew ?_))); (case aB => exact (by repeat (first | (with_reducible first | exact HB.out | apply below_alloc | apply pw_below_drewN | apply below_drew1) | exact HB.out))); (case aF => exact (fun _ _ => trivial)); (case aO => exact ((Kd.R_nil _ _ _ _ (fun _ => True)))); (case aS => exact (below_size (by repeat (first | (with_reducible first | exact HB.out | apply below_alloc | apply pw_below_drewN | apply below_drew1) | exact HB.out)))); (case aL => have := LMc3.out; omega); intro v102 w20 ho hb hg hat; rw [← Ny101.out] at ho; have n0_ := Aside0.mk (hb); have n1_ := Aside0.mk (ho); clear HB; have HB := n0_; have HO103 := n1_; clear n0_ n1_; clear ho hb hg hat))
       go_ret
       exact ⟨_, by first | rfl | (simp [errW_none, errW_some] <;> rfl) | (simp [*, errW_none, errW_some] <;> rfl), by (with_reducible repeat (first | apply Kd.R_alloc | apply Kd.R_drewN | apply Kd.R_drew)); exact HO103.out, by repeat (first | (with_reducible first | exact HB.out | apply below_alloc | apply pw_below_drewN | apply below_drew1) | exact HB.out)⟩
   · rw [if_neg c4] at H
     have c4b0 : decide (0 ≤ a1) = false := decide_eq_false c4
     clear c4
     obtain rfl := Option.some.inj H
     go_enter Try.func23, Try.ntmps23
     go_wp2_with (first | ((with_reducible refine gate_builtin (b := .append) (xs := #[.tmp 6, .tmp 7]) rfl ?_); (try (refine gate_guard (by rfl) ?_; dsimp only)); at_builtin; refine Kd.R_append_rows (Kd.int .u8) (w0 := w) w.heap.size rfl (.tmp 6) (.tmp 7) 27 5 (.int .u8 0) 1 rfl Try.underlying27 info5 rfl (by decide) (by omega) (.slice none 0 0) ([] : List Int) l0 _ _ _ (fun _ => True) (fun _ => False) rfl rfl ?aO ?aR (fun _ _ h => h) (fun _ h => h.elim) ?aF ?aB ?aS ?aL ?_; (case aR => repeat (first | exact HR0.out | (with_reducible refine Kd.C_alloc ?_ _) | (with_reducible refine Kd.C_drewN ?_ _) | (with_reducible refine Kd.C_drew ?_))); (case aB => exact (by repeat (first | (with_reducible first | exact HB.out | apply below_alloc | apply pw_below_drewN | apply below_drew1) | exact HB.out))); (case aF => exact (fun _ _ => trivial)); (case aO => exact ((Kd.R_nil _ _ _ _ (fun _ => True)))); (case aS => exact (below_size (by repeat (first | (with_reducible first | exact HB.out | apply below_alloc | apply pw_below_drewN | apply below_drew1) | exact HB.out)))); (case aL => have := LMc3.out; omega); intro v102 w21 ho hb hg hat; rw [← Ny101.out] at ho; have n0_ := Aside0.mk (hb); have n1_ := Aside0.mk (ho); clear HB; have HB := n0_; have HO103 := n1_; clear n0_ n1_; clear ho hb hg hat))
     go_ret
     exact ⟨_, by first | rfl | (simp [errW_none, errW_some] <;> rfl) | (simp [*, errW_none, errW_some] <;> rfl), by (with_reducible repeat (first | apply Kd.R_alloc | apply Kd.R_drewN | apply Kd.R_drew)); exact HO103.out, by repeat (first | (with_reducible first | exact HB.out | apply below_alloc | apply pw_below_drewN | apply below_drew1) | exact HB.out)⟩
 · rw [if_neg c3] at H
   exact absurd H (by simp)

end Go.Proofs.Ytbijnfhcbanhdaa.F
end

section
namespace Go.Proofs.Ytbijnfhcbanhdaa.F
open Go.RowKit Go.Proofs.YtbijnfhcbanhdaaW.PrintWords Go.Proofs.YtbijnfhcbanhdaaW.PrintLast Go.Proofs.YtbijnfhcbanhdaaW.PrintMore
attribute [local go_sem] max2_int min2_int max_two min_two max_three min_three max_four min_four   -- for this text's walks alone
set_option linter.unusedVariables false
set_option linter.unusedSimpArgs false

open Go.Proofs.Ytbijnfhcbanhdaa.H
def scullerref03_Set_c.f (l0 : List Int) (a1 : Int) : Option (List Int) := if bytesB l0 = true ∧ l0.length < 140737488355328 ∧ a1 ≤ 9223372036854775807 then some (setB l0 a1) else none
theorem scullerref03_Set_c.to {l0 : List Int} {a1 : Int} {r : List Int} (h : scullerref03_Set_c.f l0 a1 = some r) : scullerref03_Set.f l0 a1 = some r := by
 unfold scullerref03_Set_c.f at h
 split at h
 case isFalse => cases h
 case isTrue hb =>
 obtain rfl := Option.some.inj h
 obtain ⟨hb, hl, ha⟩ := hb
 rw [scullerref03_Set.f, if_pos (by simpa using hl), List.nil_append, Option.bind_some]
 by_cases h0 : a1 ≥ 0
 · obtain ⟨a, rfl⟩ := Int.eq_ofNat_of_zero_le h0
   have ew : wrap64 (Int.tdiv (a : Int) 8) = ((a / 8 : Nat) : Int) := by rw [Int.tdiv_eq_ediv_of_nonneg (by omega)]; unfold wrap64; omega
   have em : IntKind.u64.wrap (Int.tmod (a : Int) 8) = ((a % 8 : Nat) : Int) := by
    rw [Int.tmod_eq_emod_of_nonneg (by omega)]
    simp only [IntKind.wrap, IntKind.signed, IntKind.bits]; simp; omega
   obtain ⟨b, hb8, e⟩ := getD_byte hb (a / 8)
   rw [if_pos h0, ew]
   by_cases hlt : a / 8 < l0.length
   · rw [if_pos (by omega), scullerref03_Get_c.f, if_pos ⟨hb, by omega, by omega⟩, Option.bind_some, decide_eq_true (by omega : (0 : Int) ≤ (a : Int)), Bool.true_and, Int.toNat_natCast]
     by_cases hg : getB l0 a = true
     · rw [if_pos hg]
       unfold setB
       rw [if_neg (by rw [Int.toNat_natCast]; intro h; rw [hg] at h; exact absurd h.2.2 (by decide))]
     · rw [if_neg hg, if_pos (by omega), if_pos (by omega), em, if_pos (by omega)]
       have hgf : getB l0 a = false := by simpa using hg
       unfold setB
       rw [if_pos ⟨by omega, by omega, by rw [Int.toNat_natCast]; exact hgf⟩, Int.toNat_natCast, Int.toNat_natCast]
       have er : rd l0 ((a / 8 : Nat) : Int) = l0.getD (a / 8) 0 := by unfold rd; rw [Int.toNat_natCast]
       have hg2 := hgf
       simp only [getB, decide_eq_false_iff_not] at hg2
       rw [e, getB_nat] at hg2
       have h1 := byte_set ⟨b, hb8⟩ ⟨a % 8, by omega⟩ (by simp only; omega)
       simp only at h1
       have e2 : (b : Int) + 2 ^ (a % 8) = ((b + 2 ^ (a % 8) : Nat) : Int) := by simp
       have es : shl .u8 1 ((a % 8 : Nat) : Int) = (2 : Int) ^ (a % 8) := by
        have h8 : a % 8 < 8 := by omega
        unfold shl
        rw [Int.toNat_natCast, Nat.min_eq_left (by simp [IntKind.bits]; omega)]
        have : ∀ j : Fin 8, IntKind.u8.wrap (1 * 2 ^ j.val) = 2 ^ j.val := by decide
        exact this ⟨a % 8, h8⟩
       obtain ⟨q, hq⟩ : ∃ q, b + 2 ^ (a % 8) = q := ⟨_, rfl⟩
       rw [er, es, e, e2, hq]
       rw [hq] at h1
       congr 2
       omega
   · rw [if_neg (by omega)]
     unfold setB
     rw [if_neg (by omega)]
 · rw [if_neg h0]
   unfold setB
   rw [if_neg (by omega)]

theorem scullerref03_Set_c.calls (A0 : Option Addr) (c0 : Nat) (l0 : List Int) (a1 : Int) (r : List Int) (w : World) (hr0 : Kd.C (Kd.int .u8) w A0 l0.length l0) (hc0 : l0.length ≤ c0) (h : scullerref03_Set_c.f l0 a1 = some r) :
 Calls Try.prog 23 #[.slice A0 l0.length c0, .int .i64 a1] w fun e w' => ∃ v0_ : Value, e = .returned (v0_) ∧ Kd.R (Kd.int .u8) 5 w' w.heap.size (fun _ => True) v0_ r ∧ Below w.heap.size w w' := by
 exact scullerref03_Set.calls A0 c0 l0 a1 r w hr0 hc0 (scullerref03_Set_c.to h)

end Go.Proofs.Ytbijnfhcbanhdaa.F
end

section
namespace Go.Proofs.Ytbijnfhcbanhdaa.F
open Go.RowKit Go.Proofs.YtbijnfhcbanhdaaW.PrintWords Go.Proofs.YtbijnfhcbanhdaaW.PrintLast Go.Proofs.YtbijnfhcbanhdaaW.PrintMore
attribute [local go_sem] max2_int min2_int max_two min_two max_three min_three max_four min_four   -- for this text's walks alone
set_option linter.unusedVariables false
set_option linter.unusedSimpArgs false

/-! ### scullerref07_Sizes: function 72 -/
def scullerref07_Sizes.l0 : Nat → List (List Int) → List Int → Int → Option (List Int)
 | 0, _, _, _ => none
 | k + 1, x0, x3, x4 => if x4 < (x0.length : Int) then (if 0 ≤ x4 then (if x3.length < 17592186044416 then (scullerref07_Sizes.l0 k x0 (x3 ++ [((rd_L8 x0 x4).length : Int)]) (wrap64 (x4 + 1))) else (none)) else (none)) else (some x3)
def scullerref07_Sizes.f (k : Nat) (l0 : List (List Int)) : Option (List Int) := scullerref07_Sizes.l0 k l0 ([] : List Int) 0
theorem scullerref07_Sizes.mono_l : ∀ k, (∀ y0 y1 y2, LeO (scullerref07_Sizes.l0 k y0 y1 y2) (scullerref07_Sizes.l0 (k + 1) y0 y1 y2))
 | 0 => fun _ _ _ r h => by simp [scullerref07_Sizes.l0] at h
 | k + 1 => by
   have ih0 := scullerref07_Sizes.mono_l k
   · intro y0 y1 y2
     unfold scullerref07_Sizes.l0
     repeat' first
     | (with_reducible exact ih0 _ _ _)
     | (with_reducible exact LeO.refl _)
     | (with_reducible exact LeO.none _)
     | (with_reducible refine LeO.ite ?_ ?_)
     | (with_reducible refine LeO.bind ?_ (fun _ => ?_))
     | exact ih0 _ _ _
     | exact LeO.none _
     | refine LeO.ite ?_ ?_
     | refine LeO.bind ?_ (fun _ => ?_)
theorem scullerref07_Sizes.mono : ∀ a0 k, LeO (scullerref07_Sizes.f k a0) (scullerref07_Sizes.f (k + 1) a0) := by
 intro a0 k
 have ih0 := scullerref07_Sizes.mono_l k
 unfold scullerref07_Sizes.f
 repeat' first
  | (with_reducible exact ih0 _ _ _)
  | (with_reducible exact LeO.refl _)
  | (with_reducible exact LeO.none _)
  | (with_reducible refine LeO.ite ?_ ?_)
  | (with_reducible refine LeO.bind ?_ (fun _ => ?_))
  | exact ih0 _ _ _
  | exact LeO.none _
  | refine LeO.ite ?_ ?_
  | refine LeO.bind ?_ (fun _ => ?_)
set_option maxHeartbeats 8000000 in
set_option maxRecDepth 100000 in
theorem scullerref07_Sizes.calls (k : Nat) (A0 : Option Addr) (c0 : Nat) (l0 : List (List Int)) (r : List Int) (w : World) (hr0 : Kd.C (Kd.slice 22 (Kd.int .u64)) w A0 l0.length l0) (hc0 : l0.length ≤ c0) (h : scullerref07_Sizes.f k l0 = some r) :
 Calls Try.prog 72 #[.slice A0 l0.length c0] w fun e w' => ∃ v0_ : Value, e = .returned (v0_) ∧ Kd.R (Kd.int .i64) 3 w' w.heap.size (fun _ => True) v0_ r ∧ Below w.heap.size w w' := by
 have HR0 := Aside0.mk hr0
 have HC0 := Aside0.mk hc0
 clear hr0 hc0
 have HB := Aside0.mk (Below.refl w.heap.size w)
 have H : (scullerref07_Sizes.l0 k l0 ([] : List Int) 0) = some r := h
 clear h
 have H' := Aside0.mk H
 clear H
 go_enter Try.func72, Try.ntmps72
 go_wp2
 go_loopg [3, 4] k (fun kq v3 v4 w' => ∃ (x3_1 : List Int) (x4_1 : Int), v4 = .int .i64 x4_1 ∧ Aside0 (scullerref07_Sizes.l0 kq l0 x3_1 x4_1 = some r) ∧ Aside0 (kq ≤ k) ∧ Aside0 (Kd.R (Kd.int .i64) 3 w' w.heap.size (fun _ => True) v3 x3_1) ∧ Aside0 (Below w.heap.size w w'))
 case atStart => exact ⟨(([] : List Int)), (0), (by first | rfl | (simp; done) | (simp [*]; done)), H', ⟨Nat.le_refl _⟩, ⟨by first | exact Kd.R_nil _ _ _ _ _ | exact Kd.N_nil _ _ _ _ _ | exact Kd.V_nil _ _ _ _ _ | exact Kd.Q_nil _ _ _ _ _ | exact Kd.S_nil _ _ _ _ _⟩, ⟨by repeat (first | (with_reducible first | exact HB.out | apply below_alloc | apply pw_below_drewN | apply below_drew1) | exact HB.out)⟩⟩
 case round =>
  clear H'
  obtain ⟨x3_1, x4_1, rfl, HA, HK1, HO_3, HB⟩ := hrel
  cases gk with
  | zero => exact absurd HA.out (by simp [scullerref07_Sizes.l0])
  | succ k1 =>
    have H := HA.out
    clear HA
    simp only [scullerref07_Sizes.l0] at H
    by_cases c2 : x4_1 < (l0.length : Int)
    · rw [if_pos c2] at H
      have c2b0 : decide (x4_1 < (l0.length : Int)) = true := decide_eq_true c2
      clear c2
      by_cases c3 : 0 ≤ x4_1
      · rw [if_pos c3] at H
        have c3b0 : decide (0 ≤ x4_1) = true := decide_eq_true c3
        clear c3
        by_cases c4 : x3_1.length < 17592186044416
        · rw [if_pos c4] at H
          have LMc4 := Aside0.mk c4
          clear c4
          obtain ⟨y102, hy102⟩ : ∃ y_ : List Int, y_ = (x3_1 ++ [((rd_L8 l0 x4_1).length : Int)]) := ⟨_, rfl⟩
          replace H : (scullerref07_Sizes.l0 k1 l0 y102 (wrap64 (x4_1 + 1))) = some r := by first | (rw [hy102]; with_reducible exact H) | (have H2_ := (Option.bind_some _ _).symm.trans H; rw [hy102]; with_reducible exact H2_) | (have H2_ := (Option.bind_some _ _).symm.trans H; with_reducible exact H2_) | with_reducible exact H | (rw [hy102]; exact H) | exact H
          have Ny102 := Aside0.mk hy102
          clear hy102
          have H' := Aside0.mk H
          clear H
          have p101 : 0 ≤ (x4_1 : Int) := of_decide_eq_true (by first | (with_reducible assumption) | assumption)
          have q101 : x4_1 < (l0.length : Int) := of_decide_eq_true (by first | (with_reducible assumption) | assumption)
          obtain ⟨ad101, A101_0, c101_0, e101, hx101_0, hl101_0, hi101_0⟩ := at_L8 HR0.out x4_1 p101 q101
          cases e101
          replace hx101_0 := (HB.out.cell (World.block_lt_of_cell? w _ hx101_0)).trans hx101_0
          have HR101_0 := Aside0.mk hi101_0
          have HC101_0 := Aside0.mk hl101_0
          clear hi101_0 hl101_0
          replace p101 := eq_true p101
          replace q101 := eq_true q101
          go_wp2_with (first | ((with_reducible refine gate_builtin (b := .append) (xs := #[.tmp 11, .tmp 17]) rfl ?_); at_builtin; refine Kd.R_append (Kd.int .i64) (w0 := w) w.heap.size rfl (.tmp 11) (.tmp 17) 23 3 (.int .i64 0) 8 rfl Try.underlying23 info3 rfl (by decide) (by omega) u3 x3_1 ((rd_L8 l0 x4_1).length : Int) [.int .i64 ((rd_L8 l0 x4_1).length : Int)] (fun _ => True) (fun _ => False) rfl rfl ?aP (fun _ hk => hk.elim) ?aF ?aO ?aB ?aS ?aL ?_; (case aP => exact rfl); (case aB => exact (by repeat (first | (with_reducible first | exact HB.out | apply below_alloc | apply pw_below_drewN | apply below_drew1) | exact HB.out))); (case aF => exact (fun _ _ => trivial)); (case aO => exact (by (with_reducible repeat (first | apply Kd.R_alloc | apply Kd.R_drewN | apply Kd.R_drew)); exact HO_3.out)); (case aS => exact (below_size (by repeat (first | (with_reducible first | exact HB.out | apply below_alloc | apply pw_below_drewN | apply below_drew1) | exact HB.out)))); (case aL => have := LMc4.out; omega); intro v103 w5 ho hb hg hat; rw [← Ny102.out] at ho; have n0_ := Aside0.mk (hb); have n1_ := Aside0.mk (ho); clear HB; clear HO_3; have HB := n0_; have HO104 := n1_; clear n0_ n1_; clear ho hb hg hat))
          go_roundg k1
          case measure => have := HK1.out; omega
          case rel => exact ⟨(y102), (wrap64 (x4_1 + 1)), (by first | rfl | (simp; done) | (simp [*]; done)), H', ⟨by have := HK1.out; omega⟩, ⟨by (with_reducible repeat (first | apply Kd.R_alloc | apply Kd.R_drewN | apply Kd.R_drew)); exact HO104.out⟩, ⟨by repeat (first | (with_reducible first | exact HB.out | apply below_alloc | apply pw_below_drewN | apply below_drew1) | exact HB.out)⟩⟩
        · rw [if_neg c4] at H
          exact absurd H (by simp)
      · rw [if_neg c3] at H
        exact absurd H (by simp)
    · rw [if_neg c2] at H
      have c2b0 : decide (x4_1 < (l0.length : Int)) = false := decide_eq_false c2
      clear c2
      obtain rfl := Option.some.inj H
      go_wp2
      go_ret
      exact ⟨_, by first | rfl | (simp [errW_none, errW_some] <;> rfl) | (simp [*, errW_none, errW_some] <;> rfl), by (with_reducible repeat (first | apply Kd.R_alloc | apply Kd.R_drewN | apply Kd.R_drew)); exact HO_3.out, by repeat (first | (with_reducible first | exact HB.out | apply below_alloc | apply pw_below_drewN | apply below_drew1) | exact HB.out)⟩

end Go.Proofs.Ytbijnfhcbanhdaa.F
end

section
namespace Go.Proofs.Ytbijnfhcbanhdaa.F
open Go.RowKit Go.Proofs.YtbijnfhcbanhdaaW.PrintWords Go.Proofs.YtbijnfhcbanhdaaW.PrintLast Go.Proofs.YtbijnfhcbanhdaaW.PrintMore
attribute [local go_sem] max2_int min2_int max_two min_two max_three min_three max_four min_four   -- for this text's walks alone
set_option linter.unusedVariables false
set_option linter.unusedSimpArgs false

open Go.Proofs.Ytbijnfhcbanhdaa.H
def scullerref07_Sizes_c.f (l0 : List (List Int)) : Option (List Int) := if l0.length ≤ 1000000 then some (sizesL l0) else none
theorem scullerref07_Sizes.l0_to (l : List (List Int)) (hl : l.length ≤ 1000000) : ∀ (d i : Nat) (acc : List Int), l.length - i = d → i ≤ l.length → acc.length = i → ∃ k, scullerref07_Sizes.l0 k l acc (i : Int) = some (acc ++ sizesL (l.drop i))
 | 0, i, acc, hd, hi, ha => ⟨1, by simp only [scullerref07_Sizes.l0]; rw [if_neg (by omega)]; rw [List.drop_of_length_le (by omega)]; simp [sizesL]⟩
 | d + 1, i, acc, hd, hi, ha => by
   obtain ⟨k, hk⟩ := scullerref07_Sizes.l0_to l hl d (i + 1) (acc ++ [((rd_L8 l i).length : Int)]) (by omega) (by omega) (by simp [ha])
   refine ⟨k + 1, ?_⟩
   simp only [scullerref07_Sizes.l0]
   rw [if_pos (by omega), if_pos (by omega), if_pos (by omega), show wrap64 ((i : Int) + 1) = ((i + 1 : Nat) : Int) from by unfold wrap64; omega, hk]
   rw [drop_at l i (by omega), sizesL_cons]
   simp only [rd_L8, getD_toNat l _ i (show i < l.length by omega), List.append_assoc, List.cons_append, List.nil_append]
theorem scullerref07_Sizes_c.to {l0 : List (List Int)} {r : List Int} (h : scullerref07_Sizes_c.f l0 = some r) : ∃ k, scullerref07_Sizes.f k l0 = some r := by
 unfold scullerref07_Sizes_c.f at h
 split at h
 case isFalse => cases h
 case isTrue hl =>
 obtain rfl := Option.some.inj h
 obtain ⟨k, hk⟩ := scullerref07_Sizes.l0_to l0 hl l0.length 0 [] (by omega) (by omega) rfl
 exact ⟨k, by unfold scullerref07_Sizes.f; simpa using hk⟩

theorem scullerref07_Sizes_c.calls (A0 : Option Addr) (c0 : Nat) (l0 : List (List Int)) (r : List Int) (w : World) (hr0 : Kd.C (Kd.slice 22 (Kd.int .u64)) w A0 l0.length l0) (hc0 : l0.length ≤ c0) (h : scullerref07_Sizes_c.f l0 = some r) :
 Calls Try.prog 72 #[.slice A0 l0.length c0] w fun e w' => ∃ v0_ : Value, e = .returned (v0_) ∧ Kd.R (Kd.int .i64) 3 w' w.heap.size (fun _ => True) v0_ r ∧ Below w.heap.size w w' := by
 obtain ⟨k_, hk_⟩ := scullerref07_Sizes_c.to h
 exact scullerref07_Sizes.calls k_ A0 c0 l0 r w hr0 hc0 hk_

end Go.Proofs.Ytbijnfhcbanhdaa.F
end

section
namespace Go.Proofs.Ytbijnfhcbanhdaa.F
open Go.RowKit Go.Proofs.YtbijnfhcbanhdaaW.PrintWords Go.Proofs.YtbijnfhcbanhdaaW.PrintLast Go.Proofs.YtbijnfhcbanhdaaW.PrintMore
attribute [local go_sem] max2_int min2_int max_two min_two max_three min_three max_four min_four   -- for this text's walks alone
set_option linter.unusedVariables false
set_option linter.unusedSimpArgs false

/-! ### scullerref07_Right: function 71 -/
def scullerref07_Right.f (l0 : List (List Int)) : Option (Bool) := (scullerref07_Sizes_c.f l0).bind fun t101 => ((scullerref07_Fits_c.f t101).bind fun t104 => (some t104))
set_option maxHeartbeats 8000000 in
set_option maxRecDepth 100000 in
theorem scullerref07_Right.calls (A0 : Option Addr) (c0 : Nat) (l0 : List (List Int)) (r : Bool) (w : World) (hr0 : Kd.C (Kd.slice 22 (Kd.int .u64)) w A0 l0.length l0) (hc0 : l0.length ≤ c0) (h : scullerref07_Right.f l0 = some r) :
 Calls Try.prog 71 #[.slice A0 l0.length c0] w fun e w' => e = .returned (.bool r) ∧ Below w.heap.size w w' := by
 have HR0 := Aside0.mk hr0
 have HC0 := Aside0.mk hc0
 clear hr0 hc0
 have HB := Aside0.mk (Below.refl w.heap.size w)
 have H : ((scullerref07_Sizes_c.f l0).bind fun t101 => ((scullerref07_Fits_c.f t101).bind fun t104 => (some t104))) = some r := h
 clear h
 replace H := Option.bind_eq_some_iff.mp H
 obtain ⟨t101, A20, H⟩ := H
 replace H : ((scullerref07_Fits_c.f t101).bind fun t104 => (some t104)) = some r := H
 have A2 := Aside0.mk A20
 clear A20
 replace H := Option.bind_eq_some_iff.mp H
 obtain ⟨t104, A30, H⟩ := H
 replace H : (some t104) = some r := H
 have A3 := Aside0.mk A30
 clear A30
 obtain rfl := Option.some.inj H
 go_enter Try.func71, Try.ntmps71
 go_wp2_with (first | ((with_reducible refine gate_callee (f := 72) rfl ?_); refine goesL_ (some 4) rfl rfl Try.func72 (by kernel_rfl) rfl #[.slice A0 l0.length c0] rfl (by (try simp only [List.map_toArray, List.map_cons, List.map_nil]); first | done | rfl | (simp only [List.length_drop, List.length_take]; rfl)) ?_; (with_reducible refine (scullerref07_Sizes_c.calls _ _ l0 t101 _ ?side1 ?side2 A2.out).mono ?_); (case side1 => repeat (first | exact HR0.out | (with_reducible refine Kd.C_alloc ?_ _) | (with_reducible refine Kd.C_drewN ?_ _) | (with_reducible refine Kd.C_drew ?_))); (case side2 => exact HC0.out); rintro e w4 ⟨v102, rfl, ho0, hb⟩; refine ⟨_, rfl, ?_⟩; have n0_ := Aside0.mk (Kd.R_lower ho0 (below_size (by repeat (first | (with_reducible first | exact HB.out | apply below_alloc | apply pw_below_drewN | apply below_drew1) | exact HB.out)))); have n1_ := Aside0.mk (below_step (by repeat (first | (with_reducible first | exact HB.out | apply below_alloc | apply pw_below_drewN | apply below_drew1) | exact HB.out)) hb); clear HB; have HO103 := n0_; have HB := n1_; clear n0_ n1_; (try clear hb); (try clear hb2); (try clear hk); (try clear hi); (try clear ho0); obtain ⟨Ao5, co5, eo5⟩ := Kd.R_slice HO103.out; subst eo5) | ((with_reducible refine gate_callee (f := 92) rfl ?_); refine goesL_ (some 5) rfl rfl Try.func92 (by kernel_rfl) rfl #[.slice Ao5 t101.length co5] rfl (by (try simp only [List.map_toArray, List.map_cons, List.map_nil]); first | done | rfl | (simp only [List.length_drop, List.length_take]; rfl)) ?_; (with_reducible refine (scullerref07_Fits_c.calls _ _ t101 t104 _ ?side1 ?side2 A3.out).mono ?_); (case side1 => repeat (first | exact (Kd.R_reads' HO103.out).2.2 | (with_reducible refine Kd.C_alloc ?_ _) | (with_reducible refine Kd.C_drewN ?_ _) | (with_reducible refine Kd.C_drew ?_))); (case side2 => exact (Kd.R_reads' HO103.out).2.1); rintro e w' ⟨rfl, ⟨nd, rfl⟩⟩; refine ⟨_, rfl, ?_⟩))
 go_ret
 exact ⟨by first | rfl | (simp [errW_none, errW_some] <;> rfl) | (simp [*, errW_none, errW_some] <;> rfl), by repeat (first | (with_reducible first | exact HB.out | apply below_alloc | apply pw_below_drewN | apply below_drew1) | exact HB.out)⟩

end Go.Proofs.Ytbijnfhcbanhdaa.F
end

section
namespace Go.Proofs.Ytbijnfhcbanhdaa.F
open Go.RowKit Go.Proofs.YtbijnfhcbanhdaaW.PrintWords Go.Proofs.YtbijnfhcbanhdaaW.PrintLast Go.Proofs.YtbijnfhcbanhdaaW.PrintMore
attribute [local go_sem] max2_int min2_int max_two min_two max_three min_three max_four min_four   -- for this text's walks alone
set_option linter.unusedVariables false
set_option linter.unusedSimpArgs false

open Go.Proofs.Ytbijnfhcbanhdaa.H
def scullerref07_Right_c.f (l0 : List (List Int)) : Option Bool := if l0.length ≤ 1000000 then some (rightB l0) else none
theorem scullerref07_Right_c.to {l0 : List (List Int)} {r : Bool} (h : scullerref07_Right_c.f l0 = some r) : scullerref07_Right.f l0 = some r := by
 unfold scullerref07_Right_c.f at h
 split at h
 case isFalse => cases h
 case isTrue hl =>
 obtain rfl := Option.some.inj h
 unfold scullerref07_Right.f scullerref07_Sizes_c.f scullerref07_Fits_c.f
 rw [if_pos hl]
 rfl

theorem scullerref07_Right_c.calls (A0 : Option Addr) (c0 : Nat) (l0 : List (List Int)) (r : Bool) (w : World) (hr0 : Kd.C (Kd.slice 22 (Kd.int .u64)) w A0 l0.length l0) (hc0 : l0.length ≤ c0) (h : scullerref07_Right_c.f l0 = some r) :
 Calls Try.prog 71 #[.slice A0 l0.length c0] w fun e w' => e = .returned (.bool r) ∧ Below w.heap.size w w' := by
 exact scullerref07_Right.calls A0 c0 l0 r w hr0 hc0 (scullerref07_Right_c.to h)

end Go.Proofs.Ytbijnfhcbanhdaa.F
end

section
namespace Go.Proofs.Ytbijnfhcbanhdaa.F
open Go.RowKit Go.Proofs.YtbijnfhcbanhdaaW.PrintWords Go.Proofs.YtbijnfhcbanhdaaW.PrintLast Go.Proofs.YtbijnfhcbanhdaaW.PrintMore
attribute [local go_sem] max2_int min2_int max_two min_two max_three min_three max_four min_four   -- for this text's walks alone
set_option linter.unusedVariables false
set_option linter.unusedSimpArgs false

/-! ### scullerref07_Bytes: function 73 -/
mutual
def scullerref07_Bytes.l0 : Nat → List (List Int) → List Int → Int → Option (List Int)
 | 0, _, _, _ => none
 | k + 1, x0, x3, x4 => if x4 < (x0.length : Int) then (scullerref07_Bytes.l1 k x0 x3 x4 0) else (some x3)
def scullerref07_Bytes.l1 : Nat → List (List Int) → List Int → Int → Int → Option (List Int)
 | 0, _, _, _, _ => none
 | k + 1, x0, x3, x4, x5 => if 0 ≤ x4 then (if x4 < (x0.length : Int) then (if x5 < ((rd_L8 x0 x4).length : Int) then (if 0 ≤ x5 then ((scullerref01_Put_c.f (rd (rd_L8 x0 x4) x5) 8).bind fun t104 => (if x3.length + t104.length < 140737488355328 then (scullerref07_Bytes.l1 k x0 (x3 ++ t104) x4 (wrap64 (x5 + 1))) else (none))) else (none)) else (scullerref07_Bytes.l0 k x0 x3 (wrap64 (x4 + 1)))) else (none)) else (none)
end
def scullerref07_Bytes.f (k : Nat) (l0 : List (List Int)) : Option (List Int) := scullerref07_Bytes.l0 k l0 ([] : List Int) 0
theorem scullerref07_Bytes.mono_l : ∀ k, (∀ y0 y1 y2, LeO (scullerref07_Bytes.l0 k y0 y1 y2) (scullerref07_Bytes.l0 (k + 1) y0 y1 y2)) ∧ (∀ y0 y1 y2 y3, LeO (scullerref07_Bytes.l1 k y0 y1 y2 y3) (scullerref07_Bytes.l1 (k + 1) y0 y1 y2 y3))
 | 0 => ⟨fun _ _ _ r h => by simp [scullerref07_Bytes.l0] at h, fun _ _ _ _ r h => by simp [scullerref07_Bytes.l1] at h⟩
 | k + 1 => by
   obtain ⟨ih0, ih1⟩ := scullerref07_Bytes.mono_l k
   refine ⟨?_, ?_⟩
   · intro y0 y1 y2
     unfold scullerref07_Bytes.l0
     repeat' first
     | (with_reducible exact ih0 _ _ _)
     | (with_reducible exact ih1 _ _ _ _)
     | (with_reducible exact LeO.refl _)
     | (with_reducible exact LeO.none _)
     | (with_reducible refine LeO.ite ?_ ?_)
     | (with_reducible refine LeO.bind ?_ (fun _ => ?_))
     | exact ih0 _ _ _
     | exact ih1 _ _ _ _
     | exact LeO.none _
     | refine LeO.ite ?_ ?_
     | refine LeO.bind ?_ (fun _ => ?_)
   · intro y0 y1 y2 y3
     unfold scullerref07_Bytes.l1
     repeat' first
     | (with_reducible exact ih0 _ _ _)
     | (with_reducible exact ih1 _ _ _ _)
     | (with_reducible exact LeO.refl _)
     | (with_reducible exact LeO.none _)
     | (with_reducible refine LeO.ite ?_ ?_)
     | (with_reducible refine LeO.bind ?_ (fun _ => ?_))
     | exact ih0 _ _ _
     | exact ih1 _ _ _ _
     | exact LeO.none _
     | refine LeO.ite ?_ ?_
     | refine LeO.bind ?_ (fun _ => ?_)
theorem scullerref07_Bytes.mono : ∀ a0 k, LeO (scullerref07_Bytes.f k a0) (scullerref07_Bytes.f (k + 1) a0) := by
 intro a0 k
 obtain ⟨ih0, ih1⟩ := scullerref07_Bytes.mono_l k
 unfold scullerref07_Bytes.f
 repeat' first
  | (with_reducible exact ih0 _ _ _)
  | (with_reducible exact ih1 _ _ _ _)
  | (with_reducible exact LeO.refl _)
  | (with_reducible exact LeO.none _)
  | (with_reducible refine LeO.ite ?_ ?_)
  | (with_reducible refine LeO.bind ?_ (fun _ => ?_))
  | exact ih0 _ _ _
  | exact ih1 _ _ _ _
  | exact LeO.none _
  | refine LeO.ite ?_ ?_
  | refine LeO.bind ?_ (fun _ => ?_)
set_option maxHeartbeats 8000000 in
set_option maxRecDepth 100000 in
theorem scullerref07_Bytes.calls (k : Nat) (A0 : Option Addr) (c0 : Nat) (l0 : List (List Int)) (r : List Int) (w : World) (hr0 : Kd.C (Kd.slice 22 (Kd.int .u64)) w A0 l0.length l0) (hc0 : l0.length ≤ c0) (h : scullerref07_Bytes.f k l0 = some r) :
 Calls Try.prog 73 #[.slice A0 l0.length c0] w fun e w' => ∃ v0_ : Value, e = .returned (v0_) ∧ Kd.R (Kd.int .u8) 5 w' w.heap.size (fun _ => True) v0_ r ∧ Below w.heap.size w w' := by
 have HR0 := Aside0.mk hr0
 have HC0 := Aside0.mk hc0
 clear hr0 hc0
 have HB := Aside0.mk (Below.refl w.heap.size w)
 have H : (scullerref07_Bytes.l0 k l0 ([] : List Int) 0) = some r := h
 clear h
 have H' := Aside0.mk H
 clear H
 go_enter Try.func73, Try.ntmps73
 go_wp2
 go_loopg [3, 4] k (fun kq v3 v4 w' => ∃ (x3_1 : List Int) (x4_1 : Int), v4 = .int .i64 x4_1 ∧ Aside0 (scullerref07_Bytes.l0 kq l0 x3_1 x4_1 = some r) ∧ Aside0 (kq ≤ k) ∧ Aside0 (Kd.R (Kd.int .u8) 5 w' w.heap.size (fun _ => True) v3 x3_1) ∧ Aside0 (Below w.heap.size w w'))
 case atStart => exact ⟨(([] : List Int)), (0), (by first | rfl | (simp; done) | (simp [*]; done)), H', ⟨Nat.le_refl _⟩, ⟨by first | exact Kd.R_nil _ _ _ _ _ | exact Kd.N_nil _ _ _ _ _ | exact Kd.V_nil _ _ _ _ _ | exact Kd.Q_nil _ _ _ _ _ | exact Kd.S_nil _ _ _ _ _⟩, ⟨by repeat (first | (with_reducible first | exact HB.out | apply below_alloc | apply pw_below_drewN | apply below_drew1) | exact HB.out)⟩⟩
 case round =>
  clear H'
  obtain ⟨x3_1, x4_1, rfl, HA, HK1, HO_3, HB⟩ := hrel
  cases gk with
  | zero => exact absurd HA.out (by simp [scullerref07_Bytes.l0])
  | succ k1 =>
    have H := HA.out
    clear HA
    simp only [scullerref07_Bytes.l0] at H
    by_cases c2 : x4_1 < (l0.length : Int)
    · rw [if_pos c2] at H
      have c2b0 : decide (x4_1 < (l0.length : Int)) = true := decide_eq_true c2
      clear c2
      have H' := Aside0.mk H
      clear H
      go_wp2
      go_loopg [3, 5] k1 (fun kq v3 v5 w' => ∃ (x3_2 : List Int) (x5_2 : Int), v5 = .int .i64 x5_2 ∧ Aside0 (scullerref07_Bytes.l1 kq l0 x3_2 x4_1 x5_2 = some r) ∧ Aside0 (kq ≤ k1) ∧ Aside0 (Kd.R (Kd.int .u8) 5 w' w.heap.size (fun _ => True) v3 x3_2) ∧ Aside0 (Below w.heap.size w w'))
      case atStart => exact ⟨(x3_1), (0), (by first | rfl | (simp; done) | (simp [*]; done)), H', ⟨Nat.le_refl _⟩, ⟨by (with_reducible repeat (first | apply Kd.R_alloc | apply Kd.R_drewN | apply Kd.R_drew)); exact HO_3.out⟩, ⟨by repeat (first | (with_reducible first | exact HB.out | apply below_alloc | apply pw_below_drewN | apply below_drew1) | exact HB.out)⟩⟩
      case round =>
       clear H'
       try clear c2
       try clear c2b0
       try clear p2
       obtain ⟨x3_2, x5_2, rfl, HA, HK2, HO_3, HB⟩ := hrel
       cases gk with
       | zero => exact absurd HA.out (by simp [scullerref07_Bytes.l1])
       | succ k2 =>
         have H := HA.out
         clear HA
         simp only [scullerref07_Bytes.l1] at H
         by_cases c3 : 0 ≤ x4_1
         · rw [if_pos c3] at H
           have c3b0 : decide (0 ≤ x4_1) = true := decide_eq_true c3
           clear c3
           by_cases c4 : x4_1 < (l0.length : Int)
           · rw [if_pos c4] at H
             have c4b0 : decide (x4_1 < (l0.length : Int)) = true := decide_eq_true c4
             clear c4
             by_cases c5 : x5_2 < ((rd_L8 l0 x4_1).length : Int)
             · rw [if_pos c5] at H
               have c5b0 : decide (x5_2 < ((rd_L8 l0 x4_1).length : Int)) = true := decide_eq_true c5
               clear c5
               by_cases c6 : 0 ≤ x5_2
               · rw [if_pos c6] at H
                 have c6b0 : decide (0 ≤ x5_2) = true := decide_eq_true c6
                 clear c6
                 replace H := Option.bind_eq_some_iff.mp H
                 obtain ⟨t104, A70, H⟩ := H
                 replace H : (if x3_2.length + t104.length < 140737488355328 then (scullerref07_Bytes.l1 k2 l0 (x3_2 ++ t104) x4_1 (wrap64 (x5_2 + 1))) else (none)) = some r := H
                 have A7 := Aside0.mk A70
                 clear A70
                 by_cases c8 : x3_2.length + t104.length < 140737488355328
                 · rw [if_pos c8] at H
                   have LMc8 := Aside0.mk c8
                   clear c8
                   obtain ⟨y107, hy107⟩ : ∃ y_ : List Int, y_ = (x3_2 ++ t104) := ⟨_, rfl⟩
                   replace H : (scullerref07_Bytes.l1 k2 l0 y107 x4_1 (wrap64 (x5_2 + 1))) = some r := by first | (rw [hy107]; with_reducible exact H) | (have H2_ := (Option.bind_some _ _).symm.trans H; rw [hy107]; with_reducible exact H2_) | (have H2_ := (Option.bind_some _ _).symm.trans H; with_reducible exact H2_) | with_reducible exact H | (rw [hy107]; exact H) | exact H
                   have Ny107 := Aside0.mk hy107
                   clear hy107
                   have H' := Aside0.mk H
                   clear H
                   have p101 : 0 ≤ (x4_1 : Int) := of_decide_eq_true (by first | (with_reducible assumption) | assumption)
                   have q101 : x4_1 < (l0.length : Int) := of_decide_eq_true (by first | (with_reducible assumption) | assumption)
                   obtain ⟨ad101, A101_0, c101_0, e101, hx101_0, hl101_0, hi101_0⟩ := at_L8 HR0.out x4_1 p101 q101
                   cases e101
                   replace hx101_0 := (HB.out.cell (World.block_lt_of_cell? w _ hx101_0)).trans hx101_0
                   have HR101_0 := Aside0.mk hi101_0
                   have HC101_0 := Aside0.mk hl101_0
                   clear hi101_0 hl101_0
                   replace p101 := eq_true p101
                   replace q101 := eq_true q101
                   have p102 : 0 ≤ (x4_1 : Int) := of_decide_eq_true (by first | (with_reducible assumption) | assumption)
                   have q102 : x4_1 < (l0.length : Int) := of_decide_eq_true (by first | (with_reducible assumption) | assumption)
                   obtain ⟨ad102, A102_0, c102_0, e102, hx102_0, hl102_0, hi102_0⟩ := at_L8 HR0.out x4_1 p102 q102
                   obtain rfl : ad101 = ad102 := (by injection e102)
                   replace hx102_0 := (HB.out.cell (World.block_lt_of_cell? w _ hx102_0)).trans hx102_0
                   have HR102_0 := Aside0.mk hi102_0
                   have HC102_0 := Aside0.mk hl102_0
                   clear hi102_0 hl102_0
                   replace p102 := eq_true p102
                   replace q102 := eq_true q102
                   have ea_ := Option.some.inj (hx101_0.symm.trans hx102_0)
                   injection ea_ with ea_ en_ ec_
                   subst ea_
                   subst ec_
                   clear en_
                   have p103 : 0 ≤ (x5_2 : Int) := of_decide_eq_true (by first | (with_reducible assumption) | assumption)
                   have q103 : x5_2 < ((rd_L8 l0 x4_1).length : Int) := of_decide_eq_true (by first | (with_reducible assumption) | assumption)
                   obtain ⟨ad103, e103, hx103_0⟩ := Kd.at_int HR102_0.out x5_2 p103 q103
                   cases e103
                   replace hx103_0 := (HB.out.cell (World.block_lt_of_cell? w _ hx103_0)).trans hx103_0
                   replace p103 := eq_true p103
                   replace q103 := eq_true q103
                   go_wp2_with (first | ((with_reducible refine gate_callee (f := 41) rfl ?_); refine goesL_ (some 29) rfl rfl Try.func41 (by kernel_rfl) rfl #[.int .u64 (rd (rd_L8 l0 x4_1) x5_2), .int .i64 8] rfl (by (try simp only [List.map_toArray, List.map_cons, List.map_nil]); first | done | rfl | (simp only [List.length_drop, List.length_take]; rfl)) ?_; (with_reducible refine (scullerref01_Put_c.calls (rd (rd_L8 l0 x4_1) x5_2) 8 t104 _ A7.out).mono ?_); rintro e w9 ⟨v105, rfl, ho0, hb⟩; refine ⟨_, rfl, ?_⟩; have n0_ := Aside0.mk (Kd.R_elder' (by (with_reducible repeat (first | apply Kd.R_alloc | apply Kd.R_drewN | apply Kd.R_drew)); exact HO_3.out) (Kd.R_base ho0) hb); have n1_ := Aside0.mk (Kd.R_lower (Kd.R_new' ho0 (Kd.R_lt (by (with_reducible repeat (first | apply Kd.R_alloc | apply Kd.R_drewN | apply Kd.R_drew)); exact HO_3.out))) (below_size (by repeat (first | (with_reducible first | exact HB.out | apply below_alloc | apply pw_below_drewN | apply below_drew1) | exact HB.out)))); have n2_ := Aside0.mk (below_step (by repeat (first | (with_reducible first | exact HB.out | apply below_alloc | apply pw_below_drewN | apply below_drew1) | exact HB.out)) hb); clear HO_3; clear HB; have HO_3 := n0_; have HO106 := n1_; have HB := n2_; clear n0_ n1_ n2_; (try clear hb); (try clear hb2); (try clear hk); (try clear hi); (try clear ho0); obtain ⟨Ao11, co11, eo11⟩ := Kd.R_slice HO106.out; subst eo11) | ((with_reducible refine gate_builtin (b := .append) (xs := #[.tmp 30, .tmp 31]) rfl ?_); at_builtin; refine Kd.R_append_rows (Kd.int .u8) (w0 := w) w.heap.size rfl (.tmp 30) (.tmp 31) 27 5 (.int .u8 0) 1 rfl Try.underlying27 info5 rfl (by decide) (by omega) u3 x3_2 t104 _ _ _ (fun k_ => some k_ ≠ (.slice Ao11 t104.length co11 : Value).ownBlock) (fun _ => False) rfl rfl ?aO ?aR (fun _ _ h => h) (fun _ h => h.elim) ?aF ?aB ?aS ?aL ?_; (case aR => repeat (first | exact (Kd.R_reads' HO106.out).2.2 | (with_reducible refine Kd.C_alloc ?_ _) | (with_reducible refine Kd.C_drewN ?_ _) | (with_reducible refine Kd.C_drew ?_))); (case aB => exact (by repeat (first | (with_reducible first | exact HB.out | apply below_alloc | apply pw_below_drewN | apply below_drew1) | exact HB.out))); (case aF => exact (fun k_ hk => Kd.fresh' (Kd.R_lt (by (with_reducible repeat (first | apply Kd.R_alloc | apply Kd.R_drewN | apply Kd.R_drew)); exact HO106.out)) k_ hk)); (case aO => exact (by (with_reducible repeat (first | apply Kd.R_alloc | apply Kd.R_drewN | apply Kd.R_drew)); exact Kd.R_mono HO_3.out (fun _ hk => hk.2))); (case aS => exact (below_size (by repeat (first | (with_reducible first | exact HB.out | apply below_alloc | apply pw_below_drewN | apply below_drew1) | exact HB.out)))); (case aL => have := LMc8.out; omega); intro v108 w10 ho hb hg hat; rw [← Ny107.out] at ho; have n0_ := Aside0.mk (Kd.R_after (ok := (fun _ => True)) (by (with_reducible repeat (first | apply Kd.R_alloc | apply Kd.R_drewN | apply Kd.R_drew)); exact HO106.out) hg hat); have n1_ := Aside0.mk (hb); have n2_ := Aside0.mk (ho); clear HO106; clear HB; clear HO_3; have HO106 := n0_; have HB := n1_; have HO109 := n2_; clear n0_ n1_ n2_; clear ho hb hg hat))
                   go_roundg k2
                   case measure => have := HK1.out; have := HK2.out; omega
                   case rel => exact ⟨(y107), (wrap64 (x5_2 + 1)), (by first | rfl | (simp; done) | (simp [*]; done)), H', ⟨by have := HK1.out; have := HK2.out; omega⟩, ⟨by (with_reducible repeat (first | apply Kd.R_alloc | apply Kd.R_drewN | apply Kd.R_drew)); exact Kd.R_mono HO109.out (fun _ hk => trivial)⟩, ⟨by repeat (first | (with_reducible first | exact HB.out | apply below_alloc | apply pw_below_drewN | apply below_drew1) | exact HB.out)⟩⟩
                 · rw [if_neg c8] at H
                   exact absurd H (by simp)
               · rw [if_neg c6] at H
                 exact absurd H (by simp)
             · rw [if_neg c5] at H
               have c5b0 : decide (x5_2 < ((rd_L8 l0 x4_1).length : Int)) = false := decide_eq_false c5
               clear c5
               have H' := Aside0.mk H
               clear H
               have p101 : 0 ≤ (x4_1 : Int) := of_decide_eq_true (by first | (with_reducible assumption) | assumption)
               have q101 : x4_1 < (l0.length : Int) := of_decide_eq_true (by first | (with_reducible assumption) | assumption)
               obtain ⟨ad101, A101_0, c101_0, e101, hx101_0, hl101_0, hi101_0⟩ := at_L8 HR0.out x4_1 p101 q101
               cases e101
               replace hx101_0 := (HB.out.cell (World.block_lt_of_cell? w _ hx101_0)).trans hx101_0
               have HR101_0 := Aside0.mk hi101_0
               have HC101_0 := Aside0.mk hl101_0
               clear hi101_0 hl101_0
               replace p101 := eq_true p101
               replace q101 := eq_true q101
               go_wp2
               go_roundg k2
               case measure => have := HK1.out; have := HK2.out; omega
               case rel => exact ⟨(x3_2), (wrap64 (x4_1 + 1)), (by first | rfl | (simp; done) | (simp [*]; done)), H', ⟨by have := HK1.out; have := HK2.out; omega⟩, ⟨by (with_reducible repeat (first | apply Kd.R_alloc | apply Kd.R_drewN | apply Kd.R_drew)); exact HO_3.out⟩, ⟨by repeat (first | (with_reducible first | exact HB.out | apply below_alloc | apply pw_below_drewN | apply below_drew1) | exact HB.out)⟩⟩
           · rw [if_neg c4] at H
             exact absurd H (by simp)
         · rw [if_neg c3] at H
           exact absurd H (by simp)
    · rw [if_neg c2] at H
      have c2b0 : decide (x4_1 < (l0.length : Int)) = false := decide_eq_false c2
      clear c2
      obtain rfl := Option.some.inj H
      go_wp2
      go_ret
      exact ⟨_, by first | rfl | (simp [errW_none, errW_some] <;> rfl) | (simp [*, errW_none, errW_some] <;> rfl), by (with_reducible repeat (first | apply Kd.R_alloc | apply Kd.R_drewN | apply Kd.R_drew)); exact HO_3.out, by repeat (first | (with_reducible first | exact HB.out | apply below_alloc | apply pw_below_drewN | apply below_drew1) | exact HB.out)⟩

end Go.Proofs.Ytbijnfhcbanhdaa.F
end

section
namespace Go.Proofs.Ytbijnfhcbanhdaa.F
open Go.RowKit Go.Proofs.YtbijnfhcbanhdaaW.PrintWords Go.Proofs.YtbijnfhcbanhdaaW.PrintLast Go.Proofs.YtbijnfhcbanhdaaW.PrintMore
attribute [local go_sem] max2_int min2_int max_two min_two max_three min_three max_four min_four   -- for this text's walks alone
set_option linter.unusedVariables false
set_option linter.unusedSimpArgs false

open Go.Proofs.Ytbijnfhcbanhdaa.H
def scullerref07_Bytes_c.f (l0 : List (List Int)) : Option (List Int) := if okA l0 = true then some (bytesL l0) else none
theorem scullerref07_Bytes.l1_to (a : List (List Int)) (ha : a.length ≤ 1000000) (i : Nat) (hi : i < a.length) (hs : (a[i]).all u64B = true) (hs2 : (a[i]).length ≤ 1000000) (r : List Int) (K : ∀ acc : List Int, acc = r → ∃ k, scullerref07_Bytes.l0 k a acc ((i + 1 : Nat) : Int) = some (r ++ bytesL (a.drop (i + 1)))) :
 ∀ (d j : Nat) (acc : List Int), (a[i]).length - j = d → j ≤ (a[i]).length → acc.length + 8 * d ≤ 10000000 → acc ++ ((a[i]).drop j).flatMap (fun w => putL w 8) = r → ∃ k, scullerref07_Bytes.l1 k a acc (i : Int) (j : Int) = some (r ++ bytesL (a.drop (i + 1)))
 | 0, j, acc, hd, hj, hl, hr => by
   rw [List.drop_of_length_le (by omega)] at hr
   obtain ⟨k, hk⟩ := K acc (by simpa using hr)
   refine ⟨k + 1, ?_⟩
   have e : rd_L8 a i = a[i] := getD_toNat a [] i hi
   simp only [scullerref07_Bytes.l1]
   rw [if_pos (by omega), if_pos (by omega), e, if_neg (by omega), show wrap64 ((i : Int) + 1) = ((i + 1 : Nat) : Int) from by unfold wrap64; omega, hk]
 | d + 1, j, acc, hd, hj, hl, hr => by
   have hlt : j < (a[i]).length := by omega
   have e : rd_L8 a i = a[i] := getD_toNat a [] i hi
   have e2 : rd (a[i]) j = (a[i])[j] := getD_toNat (a[i]) 0 j hlt
   rw [drop_at _ j hlt, List.flatMap_cons, ← List.append_assoc] at hr
   obtain ⟨k, hk⟩ := scullerref07_Bytes.l1_to a ha i hi hs hs2 r K d (j + 1) (acc ++ putL ((a[i])[j]) 8) (by omega) (by omega) (by rw [List.length_append, putL_length]; omega) hr
   have hu : u64B ((a[i])[j]) = true := List.all_eq_true.1 hs _ (List.getElem_mem hlt)
   refine ⟨k + 1, ?_⟩
   simp only [scullerref07_Bytes.l1]
   rw [if_pos (by omega), if_pos (by omega), e, if_pos (by omega), if_pos (by omega), e2]
   unfold scullerref01_Put_c.f
   rw [if_pos hu]
   simp only [Option.bind_some]
   rw [if_pos (by rw [putL_length]; have : putN 8 = 8 := rfl; omega), show wrap64 ((j : Int) + 1) = ((j + 1 : Nat) : Int) from by unfold wrap64; omega]
   exact hk
theorem scullerref07_Bytes.l0_to (a : List (List Int)) (ha : a.length ≤ 1000000) (hs : ∀ s ∈ a, s.all u64B = true) : ∀ (d i : Nat) (acc : List Int), a.length - i = d → i ≤ a.length → acc.length + 8 * wordsL (a.drop i) ≤ 8000000 → ∃ k, scullerref07_Bytes.l0 k a acc (i : Int) = some (acc ++ bytesL (a.drop i))
 | 0, i, acc, hd, hi, hw => ⟨1, by simp only [scullerref07_Bytes.l0]; rw [if_neg (by omega), List.drop_of_length_le (by omega)]; simp [bytesL]⟩
 | d + 1, i, acc, hd, hi, hw => by
   have hlt : i < a.length := by omega
   rw [drop_at a i hlt] at hw ⊢
   have hw2 : wordsL (a[i] :: a.drop (i + 1)) = (a[i]).length + wordsL (a.drop (i + 1)) := wordsL_cons _ _
   rw [bytesL_cons, ← List.append_assoc]
   have hlen : (acc ++ (a[i]).flatMap fun w => putL w 8).length = acc.length + 8 * (a[i]).length := by rw [List.length_append, flat8_length]
   obtain ⟨k, hk⟩ := scullerref07_Bytes.l1_to a ha i hlt (hs _ (List.getElem_mem hlt)) (by omega) (acc ++ (a[i]).flatMap fun w => putL w 8)
    (fun acc' e => by subst e; exact scullerref07_Bytes.l0_to a ha hs d (i + 1) _ (by omega) (by omega) (by omega)) (a[i]).length 0 acc (by omega) (by omega) (by omega) (by simp)
   exact ⟨k + 1, by simp only [scullerref07_Bytes.l0]; rw [if_pos (by omega)]; simpa using hk⟩
theorem okA_at {a : List (List Int)} (h : okA a = true) : a.length ≤ 1000000 ∧ wordsL a ≤ 1000000 ∧ ∀ s ∈ a, s.all u64B = true := by
 simp only [okA, Bool.and_eq_true, decide_eq_true_eq] at h
 exact ⟨h.1.1, h.1.2, fun s hs => List.all_eq_true.1 h.2 s hs⟩
theorem scullerref07_Bytes_c.to {l0 : List (List Int)} {r : List Int} (h : scullerref07_Bytes_c.f l0 = some r) : ∃ k, scullerref07_Bytes.f k l0 = some r := by
 unfold scullerref07_Bytes_c.f at h
 split at h
 case isFalse => cases h
 case isTrue hl =>
 obtain rfl := Option.some.inj h
 obtain ⟨h1, h2, h3⟩ := okA_at hl
 obtain ⟨k, hk⟩ := scullerref07_Bytes.l0_to l0 h1 h3 l0.length 0 [] (by omega) (by omega) (by simp; omega)
 exact ⟨k, by unfold scullerref07_Bytes.f; simpa using hk⟩

theorem scullerref07_Bytes_c.calls (A0 : Option Addr) (c0 : Nat) (l0 : List (List Int)) (r : List Int) (w : World) (hr0 : Kd.C (Kd.slice 22 (Kd.int .u64)) w A0 l0.length l0) (hc0 : l0.length ≤ c0) (h : scullerref07_Bytes_c.f l0 = some r) :
 Calls Try.prog 73 #[.slice A0 l0.length c0] w fun e w' => ∃ v0_ : Value, e = .returned (v0_) ∧ Kd.R (Kd.int .u8) 5 w' w.heap.size (fun _ => True) v0_ r ∧ Below w.heap.size w w' := by
 obtain ⟨k_, hk_⟩ := scullerref07_Bytes_c.to h
 exact scullerref07_Bytes.calls k_ A0 c0 l0 r w hr0 hc0 hk_

end Go.Proofs.Ytbijnfhcbanhdaa.F
end

section
namespace Go.Proofs.Ytbijnfhcbanhdaa.F
open Go.RowKit Go.Proofs.YtbijnfhcbanhdaaW.PrintWords Go.Proofs.YtbijnfhcbanhdaaW.PrintLast Go.Proofs.YtbijnfhcbanhdaaW.PrintMore
attribute [local go_sem] max2_int min2_int max_two min_two max_three min_three max_four min_four   -- for this text's walks alone
set_option linter.unusedVariables false
set_option linter.unusedSimpArgs false

/-! ### scullerref12_Of: function 36 -/
def scullerref12_Of.l0 : Nat → List (List Int) → List Int → Int → Int → List Int → Int → Option (Int × List Int × Int × Int)
 | 0, _, _, _, _, _, _ => none
 | k + 1, x1, x7, x8, x107000, x107001, x107002 => if x8 < (x107001.length : Int) then (if 0 ≤ x8 then ((scullerref01_Put_c.f (IntKind.u64.wrap (rd x107001 x8)) 2).bind fun t111 => (if x7.length + t111.length < 140737488355328 then (scullerref12_Of.l0 k x1 (x7 ++ t111) (wrap64 (x8 + 1)) x107000 x107001 x107002) else (none))) else (none)) else ((scullerref07_Bytes_c.f x1).bind fun t117 => (if x7.length + t117.length < 140737488355328 then ((scullerref02_Sum.f (x7 ++ t117)).bind fun t123 => (some (x107000, x107001, t123, 0))) else (none)))
def scullerref12_Of.f (k : Nat) (a0 : Int) (l1 : List (List Int)) : Option (Int × List Int × Int × Int) := (scullerref07_Right_c.f l1).bind fun t102 => (if t102 = true then ((scullerref07_Sizes_c.f l1).bind fun t103 => ((scullerref01_Put_c.f a0 8).bind fun t107 => (scullerref12_Of.l0 k l1 t107 0 a0 t103 0))) else (some (0, ([] : List Int), 0, 1)))
theorem scullerref12_Of.mono_l : ∀ k, (∀ y0 y1 y2 y3 y4 y5, LeO (scullerref12_Of.l0 k y0 y1 y2 y3 y4 y5) (scullerref12_Of.l0 (k + 1) y0 y1 y2 y3 y4 y5))
 | 0 => fun _ _ _ _ _ _ r h => by simp [scullerref12_Of.l0] at h
 | k + 1 => by
   have ih0 := scullerref12_Of.mono_l k
   · intro y0 y1 y2 y3 y4 y5
     unfold scullerref12_Of.l0
     repeat' first
     | (with_reducible exact ih0 _ _ _ _ _ _)
     | (with_reducible exact LeO.refl _)
     | (with_reducible exact LeO.none _)
     | (with_reducible refine LeO.ite ?_ ?_)
     | (with_reducible refine LeO.bind ?_ (fun _ => ?_))
     | exact ih0 _ _ _ _ _ _
     | exact LeO.none _
     | refine LeO.ite ?_ ?_
     | refine LeO.bind ?_ (fun _ => ?_)
theorem scullerref12_Of.mono : ∀ a0 a1 k, LeO (scullerref12_Of.f k a0 a1) (scullerref12_Of.f (k + 1) a0 a1) := by
 intro a0 a1 k
 have ih0 := scullerref12_Of.mono_l k
 unfold scullerref12_Of.f
 repeat' first
  | (with_reducible exact ih0 _ _ _ _ _ _)
  | (with_reducible exact LeO.refl _)
  | (with_reducible exact LeO.none _)
  | (with_reducible refine LeO.ite ?_ ?_)
  | (with_reducible refine LeO.bind ?_ (fun _ => ?_))
  | exact ih0 _ _ _ _ _ _
  | exact LeO.none _
  | refine LeO.ite ?_ ?_
  | refine LeO.bind ?_ (fun _ => ?_)
set_option maxHeartbeats 8000000 in
set_option maxRecDepth 100000 in
theorem scullerref12_Of.calls (k : Nat) (a0 : Int) (A1 : Option Addr) (c1 : Nat) (l1 : List (List Int)) (r1 : Int) (r2 : List Int) (r3 : Int) (r4 : Int) (w : World) (hr1 : Kd.C (Kd.slice 22 (Kd.int .u64)) w A1 l1.length l1) (hc1 : l1.length ≤ c1) (h : scullerref12_Of.f k a0 l1 = some (r1, r2, r3, r4)) :
 Calls Try.prog 36 #[.int .u64 a0, .slice A1 l1.length c1] w fun e w' => ∃ v1_ : Value, e = .returned (.tuple #[.agg #[.int .u64 r1, v1_, .int .u32 r3], .int .i64 r4]) ∧ Kd.R (Kd.int .i64) 3 w' w.heap.size (fun _ => True) v1_ r2 ∧ Below w.heap.size w w' := by
 have hu26 := Try.underlying26
 have HR1 := Aside0.mk hr1
 have HC1 := Aside0.mk hc1
 clear hr1 hc1
 have HB := Aside0.mk (Below.refl w.heap.size w)
 have H : ((scullerref07_Right_c.f l1).bind fun t102 => (if t102 = true then ((scullerref07_Sizes_c.f l1).bind fun t103 => ((scullerref01_Put_c.f a0 8).bind fun t107 => (scullerref12_Of.l0 k l1 t107 0 a0 t103 0))) else (some (0, ([] : List Int), 0, 1)))) = some (r1, r2, r3, r4) := h
 clear h
 replace H := Option.bind_eq_some_iff.mp H
 obtain ⟨t102, A30, H⟩ := H
 replace H : (if t102 = true then ((scullerref07_Sizes_c.f l1).bind fun t103 => ((scullerref01_Put_c.f a0 8).bind fun t107 => (scullerref12_Of.l0 k l1 t107 0 a0 t103 0))) else (some (0, ([] : List Int), 0, 1))) = some (r1, r2, r3, r4) := H
 have A3 := Aside0.mk A30
 clear A30
 by_cases c4 : t102 = true
 · subst c4
   have H1 : ((scullerref07_Sizes_c.f l1).bind fun t103 => ((scullerref01_Put_c.f a0 8).bind fun t107 => (scullerref12_Of.l0 k l1 t107 0 a0 t103 0))) = some (r1, r2, r3, r4) := by rw [if_pos rfl] at H; exact H
   clear H
   have H := H1
   clear H1
   replace H := Option.bind_eq_some_iff.mp H
   obtain ⟨t103, A50, H⟩ := H
   replace H : ((scullerref01_Put_c.f a0 8).bind fun t107 => (scullerref12_Of.l0 k l1 t107 0 a0 t103 0)) = some (r1, r2, r3, r4) := H
   have A5 := Aside0.mk A50
   clear A50
   replace H := Option.bind_eq_some_iff.mp H
   obtain ⟨t107, A60, H⟩ := H
   replace H : (scullerref12_Of.l0 k l1 t107 0 a0 t103 0) = some (r1, r2, r3, r4) := H
   have A6 := Aside0.mk A60
   clear A60
   have H' := Aside0.mk H
   clear H
   go_enter Try.func36, Try.ntmps36
   go_wp2_with (first | ((with_reducible refine gate_dst (N := 4) rfl ?_); refine box_event ?hg (N := 4) ?hd (cs := #[.int .u64 0, .slice none 0 0, .int .u32 0]) (t := 26) ?hr ?_; (case hd => rfl); (case hg => rfl); (case hr => first | (go_simp; done) | (go_simp; rfl)); intro gb101 hg w7 hbox hb; have n0_ := Aside0.mk (below_step (by repeat (first | (with_reducible first | exact HB.out | apply below_alloc | apply pw_below_drewN | apply below_drew1) | exact HB.out)) hb); have n1_ := Aside0.mk (hbox); have n2_ := Aside0.mk ((by rw [hg]; exact (below_size (by repeat (first | (with_reducible first | exact HB.out | apply below_alloc | apply pw_below_drewN | apply below_drew1) | exact HB.out))) : w.heap.size ≤ gb101)); have n3_ := Aside0.mk ((by rw [hg]; exact (below_size (by repeat (first | (with_reducible first | exact HB.out | apply below_alloc | apply pw_below_drewN | apply below_drew1) | exact HB.out))) : w.heap.size ≤ gb101)); clear HB; have HB := n0_; have BK101 := n1_; have GW101 := n2_; have GE101 := n3_; clear n0_ n1_ n2_ n3_; clear hb hbox hg) | ((with_reducible refine gate_callee (f := 71) rfl ?_); refine goesL_ (some 12) rfl rfl Try.func71 (by kernel_rfl) rfl #[.slice A1 l1.length c1] rfl (by (try simp only [List.map_toArray, List.map_cons, List.map_nil]); first | done | rfl | (simp only [List.length_drop, List.length_take]; rfl)) ?_; (with_reducible refine (scullerref07_Right_c.calls _ _ l1 true _ ?side1 ?side2 A3.out).mono ?_); (case side1 => repeat (first | exact (Kd.C_below HR1.out HB.out) | (with_reducible refine Kd.C_alloc ?_ _) | (with_reducible refine Kd.C_drewN ?_ _) | (with_reducible refine Kd.C_drew ?_))); (case side2 => exact HC1.out); rintro e w8 ⟨rfl, hb⟩; refine ⟨_, rfl, ?_⟩; have n0_ := Aside0.mk (blk_below (g := gb101) (o := .cells #[.int .u64 0, .slice none 0 0, .int .u32 0] 26 (0, 0)) (by (with_reducible repeat (first | refine blk_drewN ?_ _ | refine blk_drew ?_ | refine blk_alloc ?_ _)); exact BK101.out) hb); have n1_ := Aside0.mk (below_step (by repeat (first | (with_reducible first | exact HB.out | apply below_alloc | apply pw_below_drewN | apply below_drew1 | refine below_set ?_ GE101.out) | exact HB.out)) hb); clear BK101; clear HB; have BK101 := n0_; have HB := n1_; clear n0_ n1_; (try clear hb); (try clear hb2); (try clear hk); (try clear hi)) | ((with_reducible refine gate_callee (f := 72) rfl ?_); refine goesL_ (some 17) rfl rfl Try.func72 (by kernel_rfl) rfl #[.slice A1 l1.length c1] rfl (by (try simp only [List.map_toArray, List.map_cons, List.map_nil]); first | done | rfl | (simp only [List.length_drop, List.length_take]; rfl)) ?_; (with_reducible refine (scullerref07_Sizes_c.calls _ _ l1 t103 _ ?side1 ?side2 A5.out).mono ?_); (case side1 => repeat (first | exact (Kd.C_below HR1.out HB.out) | (with_reducible refine Kd.C_alloc ?_ _) | (with_reducible refine Kd.C_drewN ?_ _) | (with_reducible refine Kd.C_drew ?_))); (case side2 => exact HC1.out); rintro e w9 ⟨v104, rfl, ho0, hb⟩; refine ⟨_, rfl, ?_⟩; have n0_ := Aside0.mk (Kd.R_lower ho0 (below_size (by repeat (first | (with_reducible first | exact HB.out | apply below_alloc | apply pw_below_drewN | apply below_drew1 | refine below_set ?_ GE101.out) | exact HB.out)))); have n1_ := Aside0.mk (blk_below (g := gb101) (o := .cells #[.int .u64 0, .slice none 0 0, .int .u32 0] 26 (0, 0)) (by (with_reducible repeat (first | refine blk_drewN ?_ _ | refine blk_drew ?_ | refine blk_alloc ?_ _)); exact BK101.out) hb); have n2_ := Aside0.mk (below_step (by repeat (first | (with_reducible first | exact HB.out | apply below_alloc | apply pw_below_drewN | apply below_drew1 | refine below_set ?_ GE101.out) | exact HB.out)) hb); clear BK101; clear HB; have HO105 := n0_; have BK101 := n1_; have HB := n2_; clear n0_ n1_ n2_; (try clear hb); (try clear hb2); (try clear hk); (try clear hi); (try clear ho0); obtain ⟨Ao10, co10, eo10⟩ := Kd.R_slice HO105.out; subst eo10) | ((with_reducible refine gate_dst (N := 6) rfl ?_); refine box_event ?hg (N := 6) ?hd (cs := #[.int .u64 0, .slice none 0 0, .int .u32 0]) (t := 26) ?hr ?_; (case hd => rfl); (case hg => rfl); (case hr => first | (go_simp; done) | (go_simp; rfl)); intro gb106 hg w11 hbox hb; have n0_ := Aside0.mk (Kd.R_below (by (with_reducible repeat (first | apply Kd.R_alloc | apply Kd.R_drewN | apply Kd.R_drew)); exact HO105.out) hb); have n1_ := Aside0.mk (blk_below (g := gb101) (o := .cells #[.int .u64 0, .slice none 0 0, .int .u32 0] 26 (0, 0)) (by (with_reducible repeat (first | refine blk_drewN ?_ _ | refine blk_drew ?_ | refine blk_alloc ?_ _)); exact BK101.out) hb); have n2_ := Aside0.mk (below_step (by repeat (first | (with_reducible first | exact HB.out | apply below_alloc | apply pw_below_drewN | apply below_drew1 | refine below_set ?_ GE101.out) | exact HB.out)) hb); have n3_ := Aside0.mk (hbox); have n4_ := Aside0.mk ((by rw [hg]; exact (below_size (by repeat (first | (with_reducible first | exact HB.out | apply below_alloc | apply pw_below_drewN | apply below_drew1 | refine below_set ?_ GE101.out) | exact HB.out))) : w.heap.size ≤ gb106)); have n5_ := Aside0.mk ((by rw [hg]; exact (below_size (by repeat (first | (with_reducible first | exact HB.out | apply below_alloc | apply pw_below_drewN | apply below_drew1 | refine below_set ?_ GE101.out) | exact HB.out))) : w.heap.size ≤ gb106)); have n6_ := Aside0.mk ((by rw [hg]; exact Nat.ne_of_lt (blk_lt (g := gb101) (o := .cells #[.int .u64 0, .slice none 0 0, .int .u32 0] 26 (0, 0)) (by (with_reducible repeat (first | refine blk_drewN ?_ _ | refine blk_drew ?_ | refine blk_alloc ?_ _)); exact BK101.out)) : gb101 ≠ gb106)); have n7_ := Aside0.mk ((by rw [hg]; exact Nat.ne_of_gt (blk_lt (g := gb101) (o := .cells #[.int .u64 0, .slice none 0 0, .int .u32 0] 26 (0, 0)) (by (with_reducible repeat (first | refine blk_drewN ?_ _ | refine blk_drew ?_ | refine blk_alloc ?_ _)); exact BK101.out)) : gb106 ≠ gb101)); clear HO105; clear BK101; clear HB; have HO105 := n0_; have BK101 := n1_; have HB := n2_; have BK106 := n3_; have GW106 := n4_; have GE106 := n5_; have NB101_106 := n6_; have NB106_101 := n7_; clear n0_ n1_ n2_ n3_ n4_ n5_ n6_ n7_; clear hb hbox hg; have hnb12 := NB106_101.out; have hnc12 := NB101_106.out; have hcz13_0 : w11.cell? ⟨gb106, 0, none⟩ = some (.int .u64 0) := (blk_cell BK106.out 0).trans rfl; have hcz13_1 : w11.cell? ⟨gb106, 1, none⟩ = some (.slice none 0 0) := (blk_cell BK106.out 1).trans rfl; have hcz13_2 : w11.cell? ⟨gb106, 2, none⟩ = some (.int .u32 0) := (blk_cell BK106.out 2).trans rfl; have hfz13_0 := blk_frozen BK106.out 0; have hfz13_1 := blk_frozen BK106.out 1; have hfz13_2 := blk_frozen BK106.out 2) | ((with_reducible refine gate_callee (f := 41) rfl ?_); refine goesL_ (some 20) rfl rfl Try.func41 (by kernel_rfl) rfl #[.int .u64 a0, .int .i64 8] rfl (by (try simp only [List.map_toArray, List.map_cons, List.map_nil]); first | done | rfl | (simp only [List.length_drop, List.length_take]; rfl)) ?_; (with_reducible refine (scullerref01_Put_c.calls a0 8 t107 _ A6.out).mono ?_); rintro e w14 ⟨v108, rfl, ho0, hb⟩; refine ⟨_, rfl, ?_⟩; have n0_ := Aside0.mk (Kd.R_below (by (with_reducible repeat (first | apply Kd.R_alloc | apply Kd.R_drewN | apply Kd.R_drew)); exact (Kd.R_mono (Kd.R_far (p := ⟨gb106, 2, none⟩) (Kd.R_far (p := ⟨gb106, 1, none⟩) (Kd.R_far (p := ⟨gb106, 0, none⟩) (Kd.R_types HO105.out BK106.out (by decide)) (fun _ hk => hk.2) (.int .u64 a0)) (fun _ hk => hk.2) (.slice Ao10 t103.length co10)) (fun _ hk => hk.2) (.int .u32 0)) (fun _ h_ => h_.1))) hb); have n1_ := Aside0.mk (Kd.R_lower ho0 (below_size (by repeat (first | (with_reducible first | exact HB.out | apply below_alloc | apply pw_below_drewN | apply below_drew1 | refine below_set ?_ GE101.out | refine below_set ?_ GE106.out) | exact HB.out)))); have n2_ := Aside0.mk (blk_below (g := gb101) (o := .cells #[.int .u64 0, .slice none 0 0, .int .u32 0] 26 (0, 0)) (by (with_reducible repeat (first | refine blk_drewN ?_ _ | refine blk_drew ?_ | refine blk_alloc ?_ _)); refine blk_far ?_ NB101_106.out _; (with_reducible repeat (first | refine blk_drewN ?_ _ | refine blk_drew ?_ | refine blk_alloc ?_ _)); refine blk_far ?_ NB101_106.out _; (with_reducible repeat (first | refine blk_drewN ?_ _ | refine blk_drew ?_ | refine blk_alloc ?_ _)); refine blk_far ?_ NB101_106.out _; (with_reducible repeat (first | refine blk_drewN ?_ _ | refine blk_drew ?_ | refine blk_alloc ?_ _)); exact BK101.out) hb); have n3_ := Aside0.mk (blk_below (g := gb106) (o := .cells #[.int .u64 a0, .slice Ao10 t103.length co10, .int .u32 0] 26 (0, 0)) (by (with_reducible repeat (first | refine blk_drewN ?_ _ | refine blk_drew ?_ | refine blk_alloc ?_ _)); refine blk_put (cs := #[.int .u64 a0, .slice Ao10 t103.length co10, .int .u32 0]) ?_ 2 _ rfl; (with_reducible repeat (first | refine blk_drewN ?_ _ | refine blk_drew ?_ | refine blk_alloc ?_ _)); refine blk_put (cs := #[.int .u64 a0, .slice none 0 0, .int .u32 0]) ?_ 1 _ rfl; (with_reducible repeat (first | refine blk_drewN ?_ _ | refine blk_drew ?_ | refine blk_alloc ?_ _)); refine blk_put (cs := #[.int .u64 0, .slice none 0 0, .int .u32 0]) ?_ 0 _ rfl; (with_reducible repeat (first | refine blk_drewN ?_ _ | refine blk_drew ?_ | refine blk_alloc ?_ _)); exact BK106.out) hb); have n4_ := Aside0.mk (below_step (by repeat (first | (with_reducible first | exact HB.out | apply below_alloc | apply pw_below_drewN | apply below_drew1 | refine below_set ?_ GE101.out | refine below_set ?_ GE106.out) | exact HB.out)) hb); clear HO105; clear BK101; clear BK106; clear HB; have HO105 := n0_; have HO109 := n1_; have BK101 := n2_; have BK106 := n3_; have HB := n4_; clear n0_ n1_ n2_ n3_ n4_; (try clear hb); (try clear hb2); (try clear hk); (try clear hi); (try clear ho0)))
   go_loopg [7, 8] k (fun kq v7 v8 w' => ∃ (x7_1 : List Int) (x8_1 : Int), v8 = .int .i64 x8_1 ∧ Aside0 (scullerref12_Of.l0 kq l1 x7_1 x8_1 a0 t103 0 = some (r1, r2, r3, r4)) ∧ Aside0 (kq ≤ k) ∧ Aside0 (Kd.R (Kd.int .u8) 5 w' w.heap.size (fun _ => True) v7 x7_1) ∧ Aside0 (Kd.R (Kd.int .i64) 3 w' w.heap.size (fun _ => True) (.slice Ao10 t103.length co10) t103) ∧ Aside0 (w'.heap[gb101]? = some (.cells #[.int .u64 0, (.slice none 0 0), .int .u32 0] 26 (0, 0))) ∧ Aside0 (w'.heap[gb106]? = some (.cells #[.int .u64 a0, (.slice Ao10 t103.length co10), .int .u32 0] 26 (0, 0))) ∧ Aside0 (Below w.heap.size w w'))
   case atStart => exact ⟨(t107), (0), (by first | rfl | (simp; done) | (simp [*]; done)), H', ⟨Nat.le_refl _⟩, ⟨by (with_reducible repeat (first | apply Kd.R_alloc | apply Kd.R_drewN | apply Kd.R_drew)); exact HO109.out⟩, ⟨by (with_reducible repeat (first | apply Kd.R_alloc | apply Kd.R_drewN | apply Kd.R_drew)); exact HO105.out⟩, ⟨by (with_reducible repeat (first | refine blk_drewN ?_ _ | refine blk_drew ?_ | refine blk_alloc ?_ _)); exact BK101.out⟩, ⟨by (with_reducible repeat (first | refine blk_drewN ?_ _ | refine blk_drew ?_ | refine blk_alloc ?_ _)); exact BK106.out⟩, ⟨by repeat (first | (with_reducible first | exact HB.out | apply below_alloc | apply pw_below_drewN | apply below_drew1 | refine below_set ?_ GE101.out | refine below_set ?_ GE106.out) | exact HB.out)⟩⟩
   case round =>
    clear H'
    try clear c1
    try clear p2
    try clear c3
    try clear c4
    try clear c7
    try clear c12
    try clear hcz13_0
    try clear hcz13_1
    try clear hcz13_2
    try clear hfz13_0
    try clear hfz13_1
    try clear hfz13_2
    obtain ⟨x7_1, x8_1, rfl, HA, HK1, HO_7, HO_107001, BK101, BK106, HB⟩ := hrel
    cases gk with
    | zero => exact absurd HA.out (by simp [scullerref12_Of.l0])
    | succ k1 =>
      have H := HA.out
      clear HA
      simp only [scullerref12_Of.l0] at H
      by_cases c15 : x8_1 < (t103.length : Int)
      · rw [if_pos c15] at H
        have c15b0 : decide (x8_1 < (t103.length : Int)) = true := decide_eq_true c15
        clear c15
        by_cases c16 : 0 ≤ x8_1
        · rw [if_pos c16] at H
          have c16b0 : decide (0 ≤ x8_1) = true := decide_eq_true c16
          clear c16
          replace H := Option.bind_eq_some_iff.mp H
          obtain ⟨t111, A170, H⟩ := H
          replace H : (if x7_1.length + t111.length < 140737488355328 then (scullerref12_Of.l0 k1 l1 (x7_1 ++ t111) (wrap64 (x8_1 + 1)) a0 t103 0) else (none)) = some (r1, r2, r3, r4) := H
          have A17 := Aside0.mk A170
          clear A170
          by_cases c18 : x7_1.length + t111.length < 140737488355328
          · rw [if_pos c18] at H
            have LMc18 := Aside0.mk c18
            clear c18
            obtain ⟨y114, hy114⟩ : ∃ y_ : List Int, y_ = (x7_1 ++ t111) := ⟨_, rfl⟩
            replace H : (scullerref12_Of.l0 k1 l1 y114 (wrap64 (x8_1 + 1)) a0 t103 0) = some (r1, r2, r3, r4) := by first | (rw [hy114]; with_reducible exact H) | (have H2_ := (Option.bind_some _ _).symm.trans H; rw [hy114]; with_reducible exact H2_) | (have H2_ := (Option.bind_some _ _).symm.trans H; with_reducible exact H2_) | with_reducible exact H | (rw [hy114]; exact H) | exact H
            have Ny114 := Aside0.mk hy114
            clear hy114
            have H' := Aside0.mk H
            clear H
            have hnb19 := NB106_101.out
            have hnc19 := NB101_106.out
            have hcz20_0 : wr.cell? ⟨gb106, 0, none⟩ = some (.int .u64 a0) := (blk_cell BK106.out 0).trans rfl
            have hcz20_1 : wr.cell? ⟨gb106, 1, none⟩ = some (.slice Ao10 t103.length co10) := (blk_cell BK106.out 1).trans rfl
            have hcz20_2 : wr.cell? ⟨gb106, 2, none⟩ = some (.int .u32 0) := (blk_cell BK106.out 2).trans rfl
            have hfz20_0 := blk_frozen BK106.out 0
            have hfz20_1 := blk_frozen BK106.out 1
            have hfz20_2 := blk_frozen BK106.out 2
            have p110 : 0 ≤ (x8_1 : Int) := of_decide_eq_true (by first | (with_reducible assumption) | assumption)
            have q110 : x8_1 < (t103.length : Int) := of_decide_eq_true (by first | (with_reducible assumption) | assumption)
            (try (obtain ⟨Az110, cz110, ez110⟩ := Kd.R_slice HO_107001.out; subst ez110))
            obtain ⟨ad110, e110, hx110_0⟩ := Kd.at_int (Kd.R_reads' HO_107001.out).2.2 x8_1 p110 q110
            cases e110
            replace p110 := eq_true p110
            replace q110 := eq_true q110
            go_wp2_with (first | ((with_reducible refine gate_callee (f := 41) rfl ?_); refine goesL_ (some 34) rfl rfl Try.func41 (by kernel_rfl) rfl #[.int .u64 (IntKind.u64.wrap (rd t103 x8_1)), .int .i64 2] rfl (by (try simp only [List.map_toArray, List.map_cons, List.map_nil]); first | done | rfl | (simp only [List.length_drop, List.length_take]; rfl)) ?_; (with_reducible refine (scullerref01_Put_c.calls (IntKind.u64.wrap (rd t103 x8_1)) 2 t111 _ A17.out).mono ?_); rintro e w21 ⟨v112, rfl, ho0, hb⟩; refine ⟨_, rfl, ?_⟩; have n0_ := Aside0.mk (Kd.R_elder' (by (with_reducible repeat (first | apply Kd.R_alloc | apply Kd.R_drewN | apply Kd.R_drew)); exact HO_7.out) (Kd.R_base ho0) hb); have n1_ := Aside0.mk (Kd.R_below (by (with_reducible repeat (first | apply Kd.R_alloc | apply Kd.R_drewN | apply Kd.R_drew)); exact HO_107001.out) hb); have n2_ := Aside0.mk (Kd.R_lower (Kd.R_new' ho0 (Kd.R_lt (by (with_reducible repeat (first | apply Kd.R_alloc | apply Kd.R_drewN | apply Kd.R_drew)); exact HO_7.out))) (below_size (by repeat (first | (with_reducible first | exact HB.out | apply below_alloc | apply pw_below_drewN | apply below_drew1 | refine below_set ?_ GE101.out | refine below_set ?_ GE106.out) | exact HB.out)))); have n3_ := Aside0.mk (blk_below (g := gb101) (o := .cells #[.int .u64 0, .slice none 0 0, .int .u32 0] 26 (0, 0)) (by (with_reducible repeat (first | refine blk_drewN ?_ _ | refine blk_drew ?_ | refine blk_alloc ?_ _)); exact BK101.out) hb); have n4_ := Aside0.mk (blk_below (g := gb106) (o := .cells #[.int .u64 a0, .slice (some ad110) t103.length co10, .int .u32 0] 26 (0, 0)) (by (with_reducible repeat (first | refine blk_drewN ?_ _ | refine blk_drew ?_ | refine blk_alloc ?_ _)); exact BK106.out) hb); have n5_ := Aside0.mk (below_step (by repeat (first | (with_reducible first | exact HB.out | apply below_alloc | apply pw_below_drewN | apply below_drew1 | refine below_set ?_ GE101.out | refine below_set ?_ GE106.out) | exact HB.out)) hb); clear HO_7; clear HO_107001; clear BK101; clear BK106; clear HB; have HO_7 := n0_; have HO_107001 := n1_; have HO113 := n2_; have BK101 := n3_; have BK106 := n4_; have HB := n5_; clear n0_ n1_ n2_ n3_ n4_ n5_; (try clear hb); (try clear hb2); (try clear hk); (try clear hi); (try clear ho0); obtain ⟨Ao23, co23, eo23⟩ := Kd.R_slice HO113.out; subst eo23) | ((with_reducible refine gate_builtin (b := .append) (xs := #[.tmp 35, .tmp 36]) rfl ?_); at_builtin; refine Kd.R_append_rows (Kd.int .u8) (w0 := w) w.heap.size rfl (.tmp 35) (.tmp 36) 27 5 (.int .u8 0) 1 rfl Try.underlying27 info5 rfl (by decide) (by omega) u7 x7_1 t111 _ _ _ (fun k_ => some k_ ≠ (.slice Ao23 t111.length co23 : Value).ownBlock) (fun _ => False) rfl rfl ?aO ?aR (fun _ _ h => h) (fun _ h => h.elim) ?aF ?aB ?aS ?aL ?_; (case aR => repeat (first | exact (Kd.R_reads' HO113.out).2.2 | (with_reducible refine Kd.C_alloc ?_ _) | (with_reducible refine Kd.C_drewN ?_ _) | (with_reducible refine Kd.C_drew ?_))); (case aB => exact (by repeat (first | (with_reducible first | exact HB.out | apply below_alloc | apply pw_below_drewN | apply below_drew1 | refine below_set ?_ GE101.out | refine below_set ?_ GE106.out) | exact HB.out))); (case aF => exact (fun k_ hk => Kd.fresh' (Kd.R_lt (by (with_reducible repeat (first | apply Kd.R_alloc | apply Kd.R_drewN | apply Kd.R_drew)); exact HO113.out)) k_ hk)); (case aO => exact (by (with_reducible repeat (first | apply Kd.R_alloc | apply Kd.R_drewN | apply Kd.R_drew)); exact Kd.R_mono HO_7.out (fun _ hk => hk.2))); (case aS => exact (below_size (by repeat (first | (with_reducible first | exact HB.out | apply below_alloc | apply pw_below_drewN | apply below_drew1 | refine below_set ?_ GE101.out | refine below_set ?_ GE106.out) | exact HB.out)))); (case aL => have := LMc18.out; omega); intro v115 w22 ho hb hg hat; rw [← Ny114.out] at ho; have n0_ := Aside0.mk (Kd.R_over' (by (with_reducible repeat (first | apply Kd.R_alloc | apply Kd.R_drewN | apply Kd.R_drew)); exact HO_107001.out) (Kd.R_typed (by (with_reducible repeat (first | apply Kd.R_alloc | apply Kd.R_drewN | apply Kd.R_drew)); exact HO_7.out)) (by decide) hg); have n1_ := Aside0.mk (blk_grown (g := gb101) (o := .cells #[.int .u64 0, .slice none 0 0, .int .u32 0] 26 (0, 0)) (by (with_reducible repeat (first | refine blk_drewN ?_ _ | refine blk_drew ?_ | refine blk_alloc ?_ _)); exact BK101.out) hg (Kd.R_ne HO_7.out BK101.out (by decide))); have n2_ := Aside0.mk (blk_grown (g := gb106) (o := .cells #[.int .u64 a0, .slice (some ad110) t103.length co10, .int .u32 0] 26 (0, 0)) (by (with_reducible repeat (first | refine blk_drewN ?_ _ | refine blk_drew ?_ | refine blk_alloc ?_ _)); exact BK106.out) hg (Kd.R_ne HO_7.out BK106.out (by decide))); have n3_ := Aside0.mk (Kd.R_after (ok := (fun _ => True)) (by (with_reducible repeat (first | apply Kd.R_alloc | apply Kd.R_drewN | apply Kd.R_drew)); exact HO113.out) hg hat); have n4_ := Aside0.mk (hb); have n5_ := Aside0.mk (ho); clear HO_107001; clear BK101; clear BK106; clear HO113; clear HB; clear HO_7; have HO_107001 := n0_; have BK101 := n1_; have BK106 := n2_; have HO113 := n3_; have HB := n4_; have HO116 := n5_; clear n0_ n1_ n2_ n3_ n4_ n5_; clear ho hb hg hat))
            go_roundg k1
            case measure => have := HK1.out; omega
            case rel => exact ⟨(y114), (wrap64 (x8_1 + 1)), (by first | rfl | (simp; done) | (simp [*]; done)), H', ⟨by have := HK1.out; omega⟩, ⟨by (with_reducible repeat (first | apply Kd.R_alloc | apply Kd.R_drewN | apply Kd.R_drew)); exact Kd.R_mono HO116.out (fun _ hk => trivial)⟩, ⟨by (with_reducible repeat (first | apply Kd.R_alloc | apply Kd.R_drewN | apply Kd.R_drew)); exact HO_107001.out⟩, ⟨by (with_reducible repeat (first | refine blk_drewN ?_ _ | refine blk_drew ?_ | refine blk_alloc ?_ _)); exact BK101.out⟩, ⟨by (with_reducible repeat (first | refine blk_drewN ?_ _ | refine blk_drew ?_ | refine blk_alloc ?_ _)); exact BK106.out⟩, ⟨by repeat (first | (with_reducible first | exact HB.out | apply below_alloc | apply pw_below_drewN | apply below_drew1 | refine below_set ?_ GE101.out | refine below_set ?_ GE106.out) | exact HB.out)⟩⟩
          · rw [if_neg c18] at H
            exact absurd H (by simp)
        · rw [if_neg c16] at H
          exact absurd H (by simp)
      · rw [if_neg c15] at H
        have c15b0 : decide (x8_1 < (t103.length : Int)) = false := decide_eq_false c15
        clear c15
        replace H := Option.bind_eq_some_iff.mp H
        obtain ⟨t117, A240, H⟩ := H
        replace H : (if x7_1.length + t117.length < 140737488355328 then ((scullerref02_Sum.f (x7_1 ++ t117)).bind fun t123 => (some (a0, t103, t123, 0))) else (none)) = some (r1, r2, r3, r4) := H
        have A24 := Aside0.mk A240
        clear A240
        by_cases c25 : x7_1.length + t117.length < 140737488355328
        · rw [if_pos c25] at H
          have LMc25 := Aside0.mk c25
          clear c25
          obtain ⟨y120, hy120⟩ : ∃ y_ : List Int, y_ = (x7_1 ++ t117) := ⟨_, rfl⟩
          replace H : ((scullerref02_Sum.f y120).bind fun t123 => (some (a0, t103, t123, 0))) = some (r1, r2, r3, r4) := by first | (rw [hy120]; with_reducible exact H) | (have H2_ := (Option.bind_some _ _).symm.trans H; rw [hy120]; with_reducible exact H2_) | (have H2_ := (Option.bind_some _ _).symm.trans H; with_reducible exact H2_) | with_reducible exact H | (rw [hy120]; exact H) | exact H
          have Ny120 := Aside0.mk hy120
          clear hy120
          replace H := Option.bind_eq_some_iff.mp H
          obtain ⟨t123, A260, H⟩ := H
          replace H : (some (a0, t103, t123, 0)) = some (r1, r2, r3, r4) := H
          have A26 := Aside0.mk A260
          clear A260
          simp only [Option.some.injEq, Prod.mk.injEq] at H
          obtain ⟨rfl, rfl, rfl, rfl⟩ := H
          have hnb27 := NB106_101.out
          have hnc27 := NB101_106.out
          have hcz28_0 : wr.cell? ⟨gb106, 0, none⟩ = some (.int .u64 a0) := (blk_cell BK106.out 0).trans rfl
          have hcz28_1 : wr.cell? ⟨gb106, 1, none⟩ = some (.slice Ao10 t103.length co10) := (blk_cell BK106.out 1).trans rfl
          have hcz28_2 : wr.cell? ⟨gb106, 2, none⟩ = some (.int .u32 0) := (blk_cell BK106.out 2).trans rfl
          have hfz28_0 := blk_frozen BK106.out 0
          have hfz28_1 := blk_frozen BK106.out 1
          have hfz28_2 := blk_frozen BK106.out 2
          go_wp2_with (first | ((with_reducible refine gate_callee (f := 73) rfl ?_); refine goesL_ (some 39) rfl rfl Try.func73 (by kernel_rfl) rfl #[.slice A1 l1.length c1] rfl (by (try simp only [List.map_toArray, List.map_cons, List.map_nil]); first | done | rfl | (simp only [List.length_drop, List.length_take]; rfl)) ?_; (with_reducible refine (scullerref07_Bytes_c.calls _ _ l1 t117 _ ?side1 ?side2 A24.out).mono ?_); (case side1 => repeat (first | exact (Kd.C_below HR1.out HB.out) | (with_reducible refine Kd.C_alloc ?_ _) | (with_reducible refine Kd.C_drewN ?_ _) | (with_reducible refine Kd.C_drew ?_))); (case side2 => exact HC1.out); rintro e w29 ⟨v118, rfl, ho0, hb⟩; refine ⟨_, rfl, ?_⟩; have n0_ := Aside0.mk (Kd.R_elder' (by (with_reducible repeat (first | apply Kd.R_alloc | apply Kd.R_drewN | apply Kd.R_drew)); exact HO_7.out) (Kd.R_base ho0) hb); have n1_ := Aside0.mk (Kd.R_below (by (with_reducible repeat (first | apply Kd.R_alloc | apply Kd.R_drewN | apply Kd.R_drew)); exact HO_107001.out) hb); have n2_ := Aside0.mk (Kd.R_lower (Kd.R_new' ho0 (Kd.R_lt (by (with_reducible repeat (first | apply Kd.R_alloc | apply Kd.R_drewN | apply Kd.R_drew)); exact HO_7.out))) (below_size (by repeat (first | (with_reducible first | exact HB.out | apply below_alloc | apply pw_below_drewN | apply below_drew1 | refine below_set ?_ GE101.out | refine below_set ?_ GE106.out) | exact HB.out)))); have n3_ := Aside0.mk (blk_below (g := gb101) (o := .cells #[.int .u64 0, .slice none 0 0, .int .u32 0] 26 (0, 0)) (by (with_reducible repeat (first | refine blk_drewN ?_ _ | refine blk_drew ?_ | refine blk_alloc ?_ _)); exact BK101.out) hb); have n4_ := Aside0.mk (blk_below (g := gb106) (o := .cells #[.int .u64 a0, .slice Ao10 t103.length co10, .int .u32 0] 26 (0, 0)) (by (with_reducible repeat (first | refine blk_drewN ?_ _ | refine blk_drew ?_ | refine blk_alloc ?_ _)); exact BK106.out) hb); have n5_ := Aside0.mk (below_step (by repeat (first | (with_reducible first | exact HB.out | apply below_alloc | apply pw_below_drewN | apply below_drew1 | refine below_set ?_ GE101.out | refine below_set ?_ GE106.out) | exact HB.out)) hb); clear HO_7; clear HO_107001; clear BK101; clear BK106; clear HB; have HO_7 := n0_; have HO_107001 := n1_; have HO119 := n2_; have BK101 := n3_; have BK106 := n4_; have HB := n5_; clear n0_ n1_ n2_ n3_ n4_ n5_; (try clear hb); (try clear hb2); (try clear hk); (try clear hi); (try clear ho0); obtain ⟨Ao31, co31, eo31⟩ := Kd.R_slice HO119.out; subst eo31) | ((with_reducible refine gate_builtin (b := .append) (xs := #[.tmp 40, .tmp 41]) rfl ?_); at_builtin; refine Kd.R_append_rows (Kd.int .u8) (w0 := w) w.heap.size rfl (.tmp 40) (.tmp 41) 27 5 (.int .u8 0) 1 rfl Try.underlying27 info5 rfl (by decide) (by omega) u7 x7_1 t117 _ _ _ (fun k_ => some k_ ≠ (.slice Ao31 t117.length co31 : Value).ownBlock) (fun _ => False) rfl rfl ?aO ?aR (fun _ _ h => h) (fun _ h => h.elim) ?aF ?aB ?aS ?aL ?_; (case aR => repeat (first | exact (Kd.R_reads' HO119.out).2.2 | (with_reducible refine Kd.C_alloc ?_ _) | (with_reducible refine Kd.C_drewN ?_ _) | (with_reducible refine Kd.C_drew ?_))); (case aB => exact (by repeat (first | (with_reducible first | exact HB.out | apply below_alloc | apply pw_below_drewN | apply below_drew1 | refine below_set ?_ GE101.out | refine below_set ?_ GE106.out) | exact HB.out))); (case aF => exact (fun k_ hk => Kd.fresh' (Kd.R_lt (by (with_reducible repeat (first | apply Kd.R_alloc | apply Kd.R_drewN | apply Kd.R_drew)); exact HO119.out)) k_ hk)); (case aO => exact (by (with_reducible repeat (first | apply Kd.R_alloc | apply Kd.R_drewN | apply Kd.R_drew)); exact Kd.R_mono HO_7.out (fun _ hk => hk.2))); (case aS => exact (below_size (by repeat (first | (with_reducible first | exact HB.out | apply below_alloc | apply pw_below_drewN | apply below_drew1 | refine below_set ?_ GE101.out | refine below_set ?_ GE106.out) | exact HB.out)))); (case aL => have := LMc25.out; omega); intro v121 w30 ho hb hg hat; rw [← Ny120.out] at ho; have n0_ := Aside0.mk (Kd.R_over' (by (with_reducible repeat (first | apply Kd.R_alloc | apply Kd.R_drewN | apply Kd.R_drew)); exact HO_107001.out) (Kd.R_typed (by (with_reducible repeat (first | apply Kd.R_alloc | apply Kd.R_drewN | apply Kd.R_drew)); exact HO_7.out)) (by decide) hg); have n1_ := Aside0.mk (blk_grown (g := gb101) (o := .cells #[.int .u64 0, .slice none 0 0, .int .u32 0] 26 (0, 0)) (by (with_reducible repeat (first | refine blk_drewN ?_ _ | refine blk_drew ?_ | refine blk_alloc ?_ _)); exact BK101.out) hg (Kd.R_ne HO_7.out BK101.out (by decide))); have n2_ := Aside0.mk (blk_grown (g := gb106) (o := .cells #[.int .u64 a0, .slice Ao10 t103.length co10, .int .u32 0] 26 (0, 0)) (by (with_reducible repeat (first | refine blk_drewN ?_ _ | refine blk_drew ?_ | refine blk_alloc ?_ _)); exact BK106.out) hg (Kd.R_ne HO_7.out BK106.out (by decide))); have n3_ := Aside0.mk (Kd.R_after (ok := (fun _ => True)) (by (with_reducible repeat (first | apply Kd.R_alloc | apply Kd.R_drewN | apply Kd.R_drew)); exact HO119.out) hg hat); have n4_ := Aside0.mk (hb); have n5_ := Aside0.mk (ho); clear HO_107001; clear BK101; clear BK106; clear HO119; clear HB; clear HO_7; have HO_107001 := n0_; have BK101 := n1_; have BK106 := n2_; have HO119 := n3_; have HB := n4_; have HO122 := n5_; clear n0_ n1_ n2_ n3_ n4_ n5_; clear ho hb hg hat; obtain ⟨Ao32, co32, eo32⟩ := Kd.R_slice HO122.out; subst eo32) | ((with_reducible refine gate_callee (f := 42) rfl ?_); refine goesL_ (some 44) rfl rfl Try.func42 (by kernel_rfl) rfl #[.slice Ao32 y120.length co32] rfl (by (try simp only [List.map_toArray, List.map_cons, List.map_nil]); first | done | rfl | (simp only [List.length_drop, List.length_take]; rfl)) ?_; (with_reducible refine (scullerref02_Sum.calls _ _ y120 t123 _ ?side1 ?side2 A26.out).mono ?_); (case side1 => repeat (first | exact (Kd.R_reads' HO122.out).2.2 | (with_reducible refine Kd.C_alloc ?_ _) | (with_reducible refine Kd.C_drewN ?_ _) | (with_reducible refine Kd.C_drew ?_))); (case side2 => exact (Kd.R_reads' HO122.out).2.1); rintro e w' ⟨rfl, ⟨nd, rfl⟩⟩; refine ⟨_, rfl, ?_⟩; (try (rw [drewN_self w30]; generalize hq_ : World.drewN w30 _ = w30; have n0_ : Aside0 (Kd.R (Kd.int .u8) 5 w30 w.heap.size (fun k_ => some k_ ≠ (.slice Ao32 y120.length co32 : Value).ownBlock) (.slice Ao31 t117.length co31) t117) := ⟨by rw [← hq_]; exact (by (with_reducible repeat (first | apply Kd.R_alloc | apply Kd.R_drewN | apply Kd.R_drew)); exact Kd.R_mono HO119.out (fun _ hk => hk.2))⟩; have n1_ : Aside0 (Kd.R (Kd.int .u8) 5 w30 w.heap.size (fun k_ => some k_ ≠ (.slice Ao31 t117.length co31 : Value).ownBlock) (.slice Ao32 y120.length co32) y120) := ⟨by rw [← hq_]; exact (by (with_reducible repeat (first | apply Kd.R_alloc | apply Kd.R_drewN | apply Kd.R_drew)); exact HO122.out)⟩; have n2_ : Aside0 (Kd.R (Kd.int .i64) 3 w30 w.heap.size (fun _ => True) (.slice Ao10 t103.length co10) t103) := ⟨by rw [← hq_]; exact (by (with_reducible repeat (first | apply Kd.R_alloc | apply Kd.R_drewN | apply Kd.R_drew)); exact HO_107001.out)⟩; have n3_ : Aside0 (w30.heap[gb101]? = some (.cells #[.int .u64 0, .slice none 0 0, .int .u32 0] 26 (0, 0))) := ⟨by rw [← hq_]; exact (by (with_reducible repeat (first | refine blk_drewN ?_ _ | refine blk_drew ?_ | refine blk_alloc ?_ _)); exact BK101.out)⟩; have n4_ : Aside0 (w30.heap[gb106]? = some (.cells #[.int .u64 a0, .slice Ao10 t103.length co10, .int .u32 0] 26 (0, 0))) := ⟨by rw [← hq_]; exact (by (with_reducible repeat (first | refine blk_drewN ?_ _ | refine blk_drew ?_ | refine blk_alloc ?_ _)); exact BK106.out)⟩; have n5_ : Aside0 (Below w.heap.size w w30) := ⟨by rw [← hq_]; exact (by repeat (first | (with_reducible first | exact HB.out | apply below_alloc | apply pw_below_drewN | apply below_drew1 | refine below_set ?_ GE101.out | refine below_set ?_ GE106.out) | exact HB.out))⟩; clear HO119 HO122 HO_107001 BK101 BK106 HB hq_; have HO119 := n0_; have HO122 := n1_; have HO_107001 := n2_; have BK101 := n3_; have BK106 := n4_; have HB := n5_; clear n0_ n1_ n2_ n3_ n4_ n5_)); have hcz33_0 : w30.cell? ⟨gb106, 0, none⟩ = some (.int .u64 a0) := (blk_cell BK106.out 0).trans rfl; have hcz33_1 : w30.cell? ⟨gb106, 1, none⟩ = some (.slice Ao10 t103.length co10) := (blk_cell BK106.out 1).trans rfl; have hcz33_2 : w30.cell? ⟨gb106, 2, none⟩ = some (.int .u32 0) := (blk_cell BK106.out 2).trans rfl; have hfz33_0 := blk_frozen BK106.out 0; have hfz33_1 := blk_frozen BK106.out 1; have hfz33_2 := blk_frozen BK106.out 2; have hcz34_0 : w30.cell? ⟨gb101, 0, none⟩ = some (.int .u64 0) := (blk_cell BK101.out 0).trans rfl; have hcz34_1 : w30.cell? ⟨gb101, 1, none⟩ = some (.slice none 0 0) := (blk_cell BK101.out 1).trans rfl; have hcz34_2 : w30.cell? ⟨gb101, 2, none⟩ = some (.int .u32 0) := (blk_cell BK101.out 2).trans rfl; have hfz34_0 := blk_frozen BK101.out 0; have hfz34_1 := blk_frozen BK101.out 1; have hfz34_2 := blk_frozen BK101.out 2))
          refine bodyPost_ret (results_ct rfl _ _ gb101 26 #[.int .u64 a0, .slice Ao10 t103.length co10, .int .u32 t123] (0, 0) _ rfl (by (with_reducible repeat (first | refine blk_drewN ?_ _ | refine blk_drew ?_ | refine blk_alloc ?_ _)); refine blk_put (cs := #[.int .u64 a0, .slice Ao10 t103.length co10, .int .u32 0]) ?_ 2 _ rfl; (with_reducible repeat (first | refine blk_drewN ?_ _ | refine blk_drew ?_ | refine blk_alloc ?_ _)); refine blk_put (cs := #[.int .u64 a0, .slice none 0 0, .int .u32 0]) ?_ 1 _ rfl; (with_reducible repeat (first | refine blk_drewN ?_ _ | refine blk_drew ?_ | refine blk_alloc ?_ _)); refine blk_put (cs := #[.int .u64 0, .slice none 0 0, .int .u32 0]) ?_ 0 _ rfl; (with_reducible repeat (first | refine blk_drewN ?_ _ | refine blk_drew ?_ | refine blk_alloc ?_ _)); refine blk_far ?_ NB101_106.out _; (with_reducible repeat (first | refine blk_drewN ?_ _ | refine blk_drew ?_ | refine blk_alloc ?_ _)); exact BK101.out) Try.underlying26 rfl (by kernel_rfl)) rfl ?_
          exact ⟨_, by first | rfl | (simp [errW_none, errW_some] <;> rfl) | (simp [*, errW_none, errW_some] <;> rfl), by (with_reducible repeat (first | apply Kd.R_alloc | apply Kd.R_drewN | apply Kd.R_drew)); exact Kd.R_mono (Kd.R_far (p := ⟨gb101, 2, none⟩) (Kd.R_far (p := ⟨gb101, 1, none⟩) (Kd.R_far (p := ⟨gb101, 0, none⟩) (Kd.R_far (p := ⟨gb106, 2, none⟩) (Kd.R_types (Kd.R_types HO_107001.out BK106.out (by decide)) BK101.out (by decide)) (fun _ hk => hk.1.2) (.int .u32 t123)) (fun _ hk => hk.2) (.int .u64 a0)) (fun _ hk => hk.2) (.slice Ao10 t103.length co10)) (fun _ hk => hk.2) (.int .u32 t123)) (fun _ hk => trivial), by repeat (first | (with_reducible first | exact HB.out | apply below_alloc | apply pw_below_drewN | apply below_drew1 | refine below_set ?_ GE101.out | refine below_set ?_ GE106.out) | exact HB.out)⟩
        · rw [if_neg c25] at H
          exact absurd H (by simp)
 · replace c4 := Bool.eq_false_iff.mpr c4
   subst c4
   have H1 : (some (0, ([] : List Int), 0, 1)) = some (r1, r2, r3, r4) := by rw [if_neg (show ¬ (false = true) by decide)] at H; exact H
   clear H
   have H := H1
   clear H1
   simp only [Option.some.injEq, Prod.mk.injEq] at H
   obtain ⟨rfl, rfl, rfl, rfl⟩ := H
   go_enter Try.func36, Try.ntmps36
   go_wp2_with (first | ((with_reducible refine gate_dst (N := 4) rfl ?_); refine box_event ?hg (N := 4) ?hd (cs := #[.int .u64 0, .slice none 0 0, .int .u32 0]) (t := 26) ?hr ?_; (case hd => rfl); (case hg => rfl); (case hr => first | (go_simp; done) | (go_simp; rfl)); intro gb101 hg w35 hbox hb; have n0_ := Aside0.mk (below_step (by repeat (first | (with_reducible first | exact HB.out | apply below_alloc | apply pw_below_drewN | apply below_drew1) | exact HB.out)) hb); have n1_ := Aside0.mk (hbox); have n2_ := Aside0.mk ((by rw [hg]; exact (below_size (by repeat (first | (with_reducible first | exact HB.out | apply below_alloc | apply pw_below_drewN | apply below_drew1) | exact HB.out))) : w.heap.size ≤ gb101)); have n3_ := Aside0.mk ((by rw [hg]; exact (below_size (by repeat (first | (with_reducible first | exact HB.out | apply below_alloc | apply pw_below_drewN | apply below_drew1) | exact HB.out))) : w.heap.size ≤ gb101)); clear HB; have HB := n0_; have BK101 := n1_; have GW101 := n2_; have GE101 := n3_; clear n0_ n1_ n2_ n3_; clear hb hbox hg) | ((with_reducible refine gate_callee (f := 71) rfl ?_); refine goesL_ (some 12) rfl rfl Try.func71 (by kernel_rfl) rfl #[.slice A1 l1.length c1] rfl (by (try simp only [List.map_toArray, List.map_cons, List.map_nil]); first | done | rfl | (simp only [List.length_drop, List.length_take]; rfl)) ?_; (with_reducible refine (scullerref07_Right_c.calls _ _ l1 false _ ?side1 ?side2 A3.out).mono ?_); (case side1 => repeat (first | exact (Kd.C_below HR1.out HB.out) | (with_reducible refine Kd.C_alloc ?_ _) | (with_reducible refine Kd.C_drewN ?_ _) | (with_reducible refine Kd.C_drew ?_))); (case side2 => exact HC1.out); rintro e w36 ⟨rfl, hb⟩; refine ⟨_, rfl, ?_⟩; have n0_ := Aside0.mk (blk_below (g := gb101) (o := .cells #[.int .u64 0, .slice none 0 0, .int .u32 0] 26 (0, 0)) (by (with_reducible repeat (first | refine blk_drewN ?_ _ | refine blk_drew ?_ | refine blk_alloc ?_ _)); exact BK101.out) hb); have n1_ := Aside0.mk (below_step (by repeat (first | (with_reducible first | exact HB.out | apply below_alloc | apply pw_below_drewN | apply below_drew1 | refine below_set ?_ GE101.out) | exact HB.out)) hb); clear BK101; clear HB; have BK101 := n0_; have HB := n1_; clear n0_ n1_; (try clear hb); (try clear hb2); (try clear hk); (try clear hi); have hcz37_0 : w36.cell? ⟨gb101, 0, none⟩ = some (.int .u64 0) := (blk_cell BK101.out 0).trans rfl; have hcz37_1 : w36.cell? ⟨gb101, 1, none⟩ = some (.slice none 0 0) := (blk_cell BK101.out 1).trans rfl; have hcz37_2 : w36.cell? ⟨gb101, 2, none⟩ = some (.int .u32 0) := (blk_cell BK101.out 2).trans rfl; have hfz37_0 := blk_frozen BK101.out 0; have hfz37_1 := blk_frozen BK101.out 1; have hfz37_2 := blk_frozen BK101.out 2))
   refine bodyPost_ret (results_ct rfl _ _ gb101 26 #[.int .u64 0, .slice none 0 0, .int .u32 0] (0, 0) _ rfl (by (with_reducible repeat (first | refine blk_drewN ?_ _ | refine blk_drew ?_ | refine blk_alloc ?_ _)); refine blk_put (cs := #[.int .u64 0, .slice none 0 0, .int .u32 0]) ?_ 2 _ rfl; (with_reducible repeat (first | refine blk_drewN ?_ _ | refine blk_drew ?_ | refine blk_alloc ?_ _)); refine blk_put (cs := #[.int .u64 0, .slice none 0 0, .int .u32 0]) ?_ 1 _ rfl; (with_reducible repeat (first | refine blk_drewN ?_ _ | refine blk_drew ?_ | refine blk_alloc ?_ _)); refine blk_put (cs := #[.int .u64 0, .slice none 0 0, .int .u32 0]) ?_ 0 _ rfl; (with_reducible repeat (first | refine blk_drewN ?_ _ | refine blk_drew ?_ | refine blk_alloc ?_ _)); exact BK101.out) Try.underlying26 rfl (by kernel_rfl)) rfl ?_
   exact ⟨_, by first | rfl | (simp [errW_none, errW_some] <;> rfl) | (simp [*, errW_none, errW_some] <;> rfl), by first | exact Kd.R_nil _ _ _ _ _ | exact Kd.N_nil _ _ _ _ _ | exact Kd.V_nil _ _ _ _ _ | exact Kd.Q_nil _ _ _ _ _ | exact Kd.S_nil _ _ _ _ _, by repeat (first | (with_reducible first | exact HB.out | apply below_alloc | apply pw_below_drewN | apply below_drew1 | refine below_set ?_ GE101.out) | exact HB.out)⟩

end Go.Proofs.Ytbijnfhcbanhdaa.F
end

section
namespace Go.Proofs.Ytbijnfhcbanhdaa.F
open Go.RowKit Go.Proofs.YtbijnfhcbanhdaaW.PrintWords Go.Proofs.YtbijnfhcbanhdaaW.PrintLast Go.Proofs.YtbijnfhcbanhdaaW.PrintMore
attribute [local go_sem] max2_int min2_int max_two min_two max_three min_three max_four min_four   -- for this text's walks alone
set_option linter.unusedVariables false
set_option linter.unusedSimpArgs false

open Go.Proofs.Ytbijnfhcbanhdaa.H
def scullerref12_Of_c.f (a0 : Int) (l1 : List (List Int)) : Option (Int × List Int × Int × Int) := if u64B a0 = true ∧ okA l1 = true then some (ofL a0 l1) else none
theorem ofBytes_length (a0 : Int) (l1 : List (List Int)) : ∀ k, k ≤ l1.length → (ofBytes a0 l1 k).length = 8 + 2 * k
 | 0, _ => by simp [ofBytes, putL_length]
 | k + 1, h => by
   rw [ofBytes_succ a0 l1 k (by rw [sizesL_length]; omega), List.length_append, putL_length, ofBytes_length a0 l1 k (by omega)]; omega
theorem scullerref12_Of.l0_to (a0 : Int) (h0 : u64B a0 = true) (l1 : List (List Int)) (hok : okA l1 = true) (hf : rightB l1 = true) : ∀ (d i : Nat), l1.length - i = d → i ≤ l1.length →
 ∃ k, scullerref12_Of.l0 k l1 (ofBytes a0 l1 i) (i : Int) a0 (sizesL l1) 0 = some (ofL a0 l1)
 | 0, i, hd, hi => by
   have hfit := fitsB_at (l := sizesL l1) hf
   rw [sizesL_length] at hfit
   have hsum := sizesL_sum l1
   have hl := ofBytes_length a0 l1 i hi
   have hbl := bytesL_length l1
   have hb : bytesB (ofBytes a0 l1 i ++ bytesL l1) = true := by rw [bytesB_append, ofBytes_byte, bytesB_of (bytesL_byte l1)]; rfl
   obtain rfl : i = l1.length := by omega
   refine ⟨1, ?_⟩
   rw [scullerref12_Of.l0, sizesL_length, if_neg (by omega), scullerref07_Bytes_c.f, if_pos hok, Option.bind_some, if_pos (by omega), scullerref02_Sum.f, scullerref02_More_c.f, if_pos ⟨by omega, by omega, hb, by rw [List.length_append]; omega⟩, Option.bind_some, Option.bind_some, ofL, if_pos hf]
 | d + 1, i, hd, hi => by
   have hfit := fitsB_at (l := sizesL l1) hf
   rw [sizesL_length] at hfit
   obtain ⟨k, hk⟩ := scullerref12_Of.l0_to a0 h0 l1 hok hf d (i + 1) (by omega) (by omega)
   have hlt : i < (sizesL l1).length := by rw [sizesL_length]; omega
   have hx0 := hfit.2.2.2.1 _ (List.getElem_mem hlt)
   have hx1 := mem_le_sum hfit.2.2.2.1 i hlt
   have hr : rd (sizesL l1) (i : Int) = (sizesL l1)[i] := getD_toNat (sizesL l1) 0 i hlt
   have hl := ofBytes_length a0 l1 i (by omega)
   refine ⟨k + 1, ?_⟩
   rw [ofBytes_succ a0 l1 i hlt] at hk
   have hux : u64B (sizesL l1)[i] = true := by
    have e : u64B (sizesL l1)[i] = (decide (0 ≤ (sizesL l1)[i]) && decide ((sizesL l1)[i] < 18446744073709551616)) := rfl
    rw [e, decide_eq_true (by omega), decide_eq_true (by omega)]
    rfl
   have hw : IntKind.u64.wrap (sizesL l1)[i] = (sizesL l1)[i] := by simp only [IntKind.wrap, IntKind.signed, IntKind.bits]; simp; omega
   rw [scullerref12_Of.l0, sizesL_length, if_pos (by omega), if_pos (by omega), hr, hw, scullerref01_Put_c.f, if_pos hux, Option.bind_some, show putN 2 = 2 from rfl, if_pos (by rw [putL_length]; omega), show wrap64 ((i : Int) + 1) = ((i + 1 : Nat) : Int) from by unfold wrap64; omega]
   exact hk
theorem scullerref12_Of_c.to {a0 : Int} {l1 : List (List Int)} {r : Int × List Int × Int × Int} (h : scullerref12_Of_c.f a0 l1 = some r) : ∃ k, scullerref12_Of.f k a0 l1 = some r := by
 unfold scullerref12_Of_c.f at h
 split at h
 case isFalse => cases h
 case isTrue hb =>
 obtain rfl := Option.some.inj h
 have hlen : l1.length ≤ 1000000 := by
  have := hb.2
  simp only [okA, Bool.and_eq_true, decide_eq_true_eq] at this
  exact this.1.1
 by_cases hf : rightB l1 = true
 · obtain ⟨k, hk⟩ := scullerref12_Of.l0_to a0 hb.1 l1 hb.2 hf l1.length 0 (by omega) (by omega)
   refine ⟨k, ?_⟩
   rw [scullerref12_Of.f, scullerref07_Right_c.f, if_pos hlen, Option.bind_some, if_pos hf, scullerref07_Sizes_c.f, if_pos hlen, Option.bind_some, scullerref01_Put_c.f, if_pos hb.1, Option.bind_some, show putN 8 = 8 from rfl]
   rw [show ofBytes a0 l1 0 = putL a0 8 from by simp [ofBytes]] at hk
   exact hk
 · refine ⟨0, ?_⟩
   rw [scullerref12_Of.f, scullerref07_Right_c.f, if_pos hlen, Option.bind_some, if_neg hf, ofL, if_neg hf]

theorem scullerref12_Of_c.calls (a0 : Int) (A1 : Option Addr) (c1 : Nat) (l1 : List (List Int)) (r1 : Int) (r2 : List Int) (r3 : Int) (r4 : Int) (w : World) (hr1 : Kd.C (Kd.slice 22 (Kd.int .u64)) w A1 l1.length l1) (hc1 : l1.length ≤ c1) (h : scullerref12_Of_c.f a0 l1 = some (r1, r2, r3, r4)) :
 Calls Try.prog 36 #[.int .u64 a0, .slice A1 l1.length c1] w fun e w' => ∃ v1_ : Value, e = .returned (.tuple #[.agg #[.int .u64 r1, v1_, .int .u32 r3], .int .i64 r4]) ∧ Kd.R (Kd.int .i64) 3 w' w.heap.size (fun _ => True) v1_ r2 ∧ Below w.heap.size w w' := by
 obtain ⟨k_, hk_⟩ := scullerref12_Of_c.to h
 exact scullerref12_Of.calls k_ a0 A1 c1 l1 r1 r2 r3 r4 w hr1 hc1 hk_

end Go.Proofs.Ytbijnfhcbanhdaa.F
end

section
namespace Go.Proofs.Ytbijnfhcbanhdaa.F
open Go.RowKit Go.Proofs.YtbijnfhcbanhdaaW.PrintWords Go.Proofs.YtbijnfhcbanhdaaW.PrintLast Go.Proofs.YtbijnfhcbanhdaaW.PrintMore
attribute [local go_sem] max2_int min2_int max_two min_two max_three min_three max_four min_four   -- for this text's walks alone
set_option linter.unusedVariables false
set_option linter.unusedSimpArgs false

/-! ### scullerlaw07_Arena: function 74 -/
mutual
def scullerlaw07_Arena.l0 : Nat → List Int → Int → List (List Int) → Int → Int → Option ((List (List Int)))
 | 0, _, _, _, _, _ => none
 | k + 1, x0, x1, x5, x6, x7 => if x7 < (wrap64 (1 + (wrap64 (Int.tmod x1 5)))) then (if x7 < (x0.length : Int) then (if 0 ≤ x7 then (scullerlaw07_Arena.j1 k x0 x1 x5 x6 x7 ([] : List Int) (wrap64 (Int.tmod (rd x0 x7) 12))) else (none)) else (scullerlaw07_Arena.j1 k x0 x1 x5 x6 x7 ([] : List Int) 1)) else (some x5)
def scullerlaw07_Arena.j1 : Nat → List Int → Int → List (List Int) → Int → Int → List Int → Int → Option ((List (List Int)))
 | 0, _, _, _, _, _, _, _ => none
 | k + 1, x0, x1, x5, x6, x7, x8, x9 => if x7 = 0 then (scullerlaw07_Arena.j2 k x0 x1 x5 x6 x7 x8 (wrap64 (x9 + 1))) else (scullerlaw07_Arena.j2 k x0 x1 x5 x6 x7 x8 x9)
def scullerlaw07_Arena.j2 : Nat → List Int → Int → List (List Int) → Int → Int → List Int → Int → Option ((List (List Int)))
 | 0, _, _, _, _, _, _, _ => none
 | k + 1, x0, x1, x5, x6, x7, x8, x9 => scullerlaw07_Arena.l1 k x0 x1 x5 x6 x7 x8 x9 0
def scullerlaw07_Arena.l1 : Nat → List Int → Int → List (List Int) → Int → Int → List Int → Int → Int → Option ((List (List Int)))
 | 0, _, _, _, _, _, _, _, _ => none
 | k + 1, x0, x1, x5, x6, x7, x8, x9, x10 => if x10 < x9 then (if (x0.length : Int) > 0 then (if (x0.length : Int) = 0 then (none) else (if 0 ≤ (Int.tmod x6 (x0.length : Int)) then (if (Int.tmod x6 (x0.length : Int)) < (x0.length : Int) then (if x8.length < 17592186044416 then (scullerlaw07_Arena.l1 k x0 x1 x5 (wrap64 (x6 + 1)) x7 (x8 ++ [IntKind.u64.wrap ((IntKind.u64.wrap ((IntKind.u64.wrap (rd x0 (Int.tmod x6 (x0.length : Int)))) * 4311810305)) + (IntKind.u64.wrap (x6)))]) x9 (wrap64 (x10 + 1))) else (none)) else (none)) else (none))) else (if x8.length < 17592186044416 then (scullerlaw07_Arena.l1 k x0 x1 x5 (wrap64 (x6 + 1)) x7 (x8 ++ [IntKind.u64.wrap (x6)]) x9 (wrap64 (x10 + 1))) else (none))) else (if x5.length < 5864062014805 then (scullerlaw07_Arena.l0 k x0 x1 (x5 ++ [x8]) x6 (wrap64 (x7 + 1))) else (none))
end
def scullerlaw07_Arena.f (k : Nat) (l0 : List Int) (a1 : Int) : Option ((List (List Int))) := scullerlaw07_Arena.l0 k l0 a1 ([] : List (List Int)) 0 0
theorem scullerlaw07_Arena.mono_l : ∀ k, (∀ y0 y1 y2 y3 y4, LeO (scullerlaw07_Arena.l0 k y0 y1 y2 y3 y4) (scullerlaw07_Arena.l0 (k + 1) y0 y1 y2 y3 y4)) ∧ (∀ y0 y1 y2 y3 y4 y5 y6, LeO (scullerlaw07_Arena.j1 k y0 y1 y2 y3 y4 y5 y6) (scullerlaw07_Arena.j1 (k + 1) y0 y1 y2 y3 y4 y5 y6)) ∧ (∀ y0 y1 y2 y3 y4 y5 y6, LeO (scullerlaw07_Arena.j2 k y0 y1 y2 y3 y4 y5 y6) (scullerlaw07_Arena.j2 (k + 1) y0 y1 y2 y3 y4 y5 y6)) ∧ (∀ y0 y1 y2 y3 y4 y5 y6 y7, LeO (scullerlaw07_Arena.l1 k y0 y1 y2 y3 y4 y5 y6 y7) (scullerlaw07_Arena.l1 (k + 1) y0 y1 y2 y3 y4 y5 y6 y7))
 | 0 => ⟨fun _ _ _ _ _ r h => by simp [scullerlaw07_Arena.l0] at h, fun _ _ _ _ _ _ _ r h => by simp [scullerlaw07_Arena.j1] at h, fun _ _ _ _ _ _ _ r h => by simp [scullerlaw07_Arena.j2] at h, fun _ _ _ _ _ _ _ _ r h => by simp [scullerlaw07_Arena.l1] at h⟩
 | k + 1 => by
   obtain ⟨ih0, ih1, ih2, ih3⟩ := scullerlaw07_Arena.mono_l k
   refine ⟨?_, ?_, ?_, ?_⟩
   · intro y0 y1 y2 y3 y4
     unfold scullerlaw07_Arena.l0
     repeat' first
     | (with_reducible exact ih0 _ _ _ _ _)
     | (with_reducible exact ih1 _ _ _ _ _ _ _)
     | (with_reducible exact ih2 _ _ _ _ _ _ _)
     | (with_reducible exact ih3 _ _ _ _ _ _ _ _)
     | (with_reducible exact LeO.refl _)
     | (with_reducible exact LeO.none _)
     | (with_reducible refine LeO.ite ?_ ?_)
     | (with_reducible refine LeO.bind ?_ (fun _ => ?_))
     | exact ih0 _ _ _ _ _
     | exact ih1 _ _ _ _ _ _ _
     | exact ih2 _ _ _ _ _ _ _
     | exact ih3 _ _ _ _ _ _ _ _
     | exact LeO.none _
     | refine LeO.ite ?_ ?_
     | refine LeO.bind ?_ (fun _ => ?_)
   · intro y0 y1 y2 y3 y4 y5 y6
     unfold scullerlaw07_Arena.j1
     repeat' first
     | (with_reducible exact ih0 _ _ _ _ _)
     | (with_reducible exact ih1 _ _ _ _ _ _ _)
     | (with_reducible exact ih2 _ _ _ _ _ _ _)
     | (with_reducible exact ih3 _ _ _ _ _ _ _ _)
     | (with_reducible exact LeO.refl _)
     | (with_reducible exact LeO.none _)
     | (with_reducible refine LeO.ite ?_ ?_)
     | (with_reducible refine LeO.bind ?_ (fun _ => ?_))
     | exact ih0 _ _ _ _ _
     | exact ih1 _ _ _ _ _ _ _
     | exact ih2 _ _ _ _ _ _ _
     | exact ih3 _ _ _ _ _ _ _ _
     | exact LeO.none _
     | refine LeO.ite ?_ ?_
     | refine LeO.bind ?_ (fun _ => ?_)
   · intro y0 y1 y2 y3 y4 y5 y6
     unfold scullerlaw07_Arena.j2
     repeat' first
     | (with_reducible exact ih0 _ _ _ _ _)
     | (with_reducible exact ih1 _ _ _ _ _ _ _)
     | (with_reducible exact ih2 _ _ _ _ _ _ _)
     | (with_reducible exact ih3 _ _ _ _ _ _ _ _)
     | (with_reducible exact LeO.refl _)
     | (with_reducible exact LeO.none _)
     | (with_reducible refine LeO.ite ?_ ?_)
     | (with_reducible refine LeO.bind ?_ (fun _ => ?_))
     | exact ih0 _ _ _ _ _
     | exact ih1 _ _ _ _ _ _ _
     | exact ih2 _ _ _ _ _ _ _
     | exact ih3 _ _ _ _ _ _ _ _
     | exact LeO.none _
     | refine LeO.ite ?_ ?_
     | refine LeO.bind ?_ (fun _ => ?_)
   · intro y0 y1 y2 y3 y4 y5 y6 y7
     unfold scullerlaw07_Arena.l1
     repeat' first
     | (with_reducible exact ih0 _ _ _ _ _)
     | (with_reducible exact ih1 _ _ _ _ _ _ _)
     | (with_reducible exact ih2 _ _ _ _ _ _ _)
     | (with_reducible exact ih3 _ _ _ _ _ _ _ _)
     | (with_reducible exact LeO.refl _)
     | (with_reducible exact LeO.none _)
     | (with_reducible refine LeO.ite ?_ ?_)
     | (with_reducible refine LeO.bind ?_ (fun _ => ?_))
     | exact ih0 _ _ _ _ _
     | exact ih1 _ _ _ _ _ _ _
     | exact ih2 _ _ _ _ _ _ _
     | exact ih3 _ _ _ _ _ _ _ _
     | exact LeO.none _
     | refine LeO.ite ?_ ?_
     | refine LeO.bind ?_ (fun _ => ?_)
theorem scullerlaw07_Arena.mono : ∀ a0 a1 k, LeO (scullerlaw07_Arena.f k a0 a1) (scullerlaw07_Arena.f (k + 1) a0 a1) := by
 intro a0 a1 k
 obtain ⟨ih0, ih1, ih2, ih3⟩ := scullerlaw07_Arena.mono_l k
 unfold scullerlaw07_Arena.f
 repeat' first
  | (with_reducible exact ih0 _ _ _ _ _)
  | (with_reducible exact ih1 _ _ _ _ _ _ _)
  | (with_reducible exact ih2 _ _ _ _ _ _ _)
  | (with_reducible exact ih3 _ _ _ _ _ _ _ _)
  | (with_reducible exact LeO.refl _)
  | (with_reducible exact LeO.none _)
  | (with_reducible refine LeO.ite ?_ ?_)
  | (with_reducible refine LeO.bind ?_ (fun _ => ?_))
  | exact ih0 _ _ _ _ _
  | exact ih1 _ _ _ _ _ _ _
  | exact ih2 _ _ _ _ _ _ _
  | exact ih3 _ _ _ _ _ _ _ _
  | exact LeO.none _
  | refine LeO.ite ?_ ?_
  | refine LeO.bind ?_ (fun _ => ?_)
set_option maxHeartbeats 8000000 in
set_option maxRecDepth 100000 in
theorem scullerlaw07_Arena.calls (k : Nat) (A0 : Option Addr) (c0 : Nat) (l0 : List Int) (a1 : Int) (r : List (List Int)) (w : World) (hr0 : Kd.C (Kd.int .u8) w A0 l0.length l0) (hc0 : l0.length ≤ c0) (h : scullerlaw07_Arena.f k l0 a1 = some r) :
 Calls Try.prog 74 #[.slice A0 l0.length c0, .int .u8 a1] w fun e w' => ∃ v0_ : Value, e = .returned (v0_) ∧ Kd.S (Kd.slice 22 (Kd.int .u64)) 123 w' w.heap.size (fun _ => True) v0_ r ∧ Below w.heap.size w w' := by
 have HR0 := Aside0.mk hr0
 have HC0 := Aside0.mk hc0
 clear hr0 hc0
 have HB := Aside0.mk (Below.refl w.heap.size w)
 have H : (scullerlaw07_Arena.l0 k l0 a1 ([] : List (List Int)) 0 0) = some r := h
 clear h
 have H' := Aside0.mk H
 clear H
 go_enter Try.func74, Try.ntmps74
 go_wp2
 go_loopg [5, 6, 7] k (fun kq v5 v6 v7 w' => ∃ (x5_1 : List (List Int)) (x6_1 : Int) (x7_1 : Int), v6 = .int .i64 x6_1 ∧ v7 = .int .i64 x7_1 ∧ Aside0 (scullerlaw07_Arena.l0 kq l0 a1 x5_1 x6_1 x7_1 = some r) ∧ Aside0 (kq ≤ k) ∧ Aside0 (Kd.S (Kd.slice 22 (Kd.int .u64)) 123 w' w.heap.size (fun _ => True) v5 x5_1) ∧ Aside0 (Below w.heap.size w w'))
 case atStart => exact ⟨(([] : List (List Int))), (0), (0), (by first | rfl | (simp; done) | (simp [*]; done)), (by first | rfl | (simp; done) | (simp [*]; done)), H', ⟨Nat.le_refl _⟩, ⟨by first | exact Kd.S_nil _ _ _ _ _ | exact Kd.N_nil _ _ _ _ _ | exact Kd.V_nil _ _ _ _ _ | exact Kd.Q_nil _ _ _ _ _ | exact Kd.R_nil _ _ _ _ _⟩, ⟨by repeat (first | (with_reducible first | exact HB.out | apply below_alloc | apply pw_below_drewN | apply below_drew1) | exact HB.out)⟩⟩
 case round =>
  clear H'
  try clear p2
  obtain ⟨x5_1, x6_1, x7_1, rfl, rfl, HA, HK1, HO_5, HB⟩ := hrel
  cases gk with
  | zero => exact absurd HA.out (by simp [scullerlaw07_Arena.l0])
  | succ k1 =>
    have H := HA.out
    clear HA
    simp only [scullerlaw07_Arena.l0] at H
    by_cases c3 : x7_1 < (wrap64 (1 + (wrap64 (Int.tmod a1 5))))
    · rw [if_pos c3] at H
      have c3b0 : decide (x7_1 < (wrap64 (1 + (wrap64 (Int.tmod a1 5))))) = true := decide_eq_true c3
      clear c3
      have HC4 := Aside0.mk H
      clear H
      go_upto_if 23 with (fail)
      go_cut [9] (fun v9 wc => ∃ (kq : Nat) (x9_3 : Int), v9 = .int .i64 x9_3 ∧ Aside0 (scullerlaw07_Arena.j1 kq l0 a1 x5_1 x6_1 x7_1 ([] : List Int) x9_3 = some r) ∧ Aside0 (kq ≤ k1) ∧ Aside0 (Kd.S (Kd.slice 22 (Kd.int .u64)) 123 wc w.heap.size (fun k_ => some k_ ≠ ((.slice none 0 0) : Value).ownBlock) u5 x5_1) ∧ Aside0 (Kd.R (Kd.int .u64) 22 wc w.heap.size (fun _ => True) (.slice none 0 0) ([] : List Int)) ∧ Aside0 (Below w.heap.size w wc))
      case first =>
       have H := HC4.out
       clear HC4
       by_cases c5 : x7_1 < (l0.length : Int)
       · rw [if_pos c5] at H
         have c5b0 : decide (x7_1 < (l0.length : Int)) = true := decide_eq_true c5
         clear c5
         (first | rw [c5b0] | (simp only [i64_w, i32_w]; rw [c5b0]) | skip)
         by_cases c6 : 0 ≤ x7_1
         · rw [if_pos c6] at H
           have c6b0 : decide (0 ≤ x7_1) = true := decide_eq_true c6
           clear c6
           have H' := Aside0.mk H
           clear H
           have p101 : 0 ≤ (x7_1 : Int) := of_decide_eq_true (by first | (with_reducible assumption) | assumption)
           have q101 : x7_1 < (l0.length : Int) := of_decide_eq_true (by first | (with_reducible assumption) | assumption)
           obtain ⟨ad101, e101, hx101_0⟩ := Kd.at_int HR0.out x7_1 p101 q101
           cases e101
           replace hx101_0 := (HB.out.cell (World.block_lt_of_cell? w _ hx101_0)).trans hx101_0
           replace p101 := eq_true p101
           replace q101 := eq_true q101
           go_wp2
           go_meet
           case rel => exact ⟨_, (wrap64 (Int.tmod (rd l0 x7_1) 12)), (by first | rfl | (simp; done) | (simp [*]; done)), H', ⟨by have := HK1.out; first | omega | exact Nat.le_refl _⟩, ⟨by (with_reducible repeat (first | apply Kd.S_alloc | apply Kd.S_drewN | apply Kd.S_drew)); exact Kd.S_mono HO_5.out (fun _ hk => (by simp [Value.ownBlock]))⟩, ⟨by first | exact Kd.R_nil _ _ _ _ _ | exact Kd.N_nil _ _ _ _ _ | exact Kd.V_nil _ _ _ _ _ | exact Kd.Q_nil _ _ _ _ _ | exact Kd.S_nil _ _ _ _ _⟩, ⟨by repeat (first | (with_reducible first | exact HB.out | apply below_alloc | apply pw_below_drewN | apply below_drew1) | exact HB.out)⟩⟩
         · rw [if_neg c6] at H
           exact absurd H (by simp)
       · rw [if_neg c5] at H
         have c5b0 : decide (x7_1 < (l0.length : Int)) = false := decide_eq_false c5
         clear c5
         (first | rw [c5b0] | (simp only [i64_w, i32_w]; rw [c5b0]) | skip)
         have H' := Aside0.mk H
         clear H
         go_wp2
         go_meet
         case rel => exact ⟨_, (1), (by first | rfl | (simp; done) | (simp [*]; done)), H', ⟨by have := HK1.out; first | omega | exact Nat.le_refl _⟩, ⟨by (with_reducible repeat (first | apply Kd.S_alloc | apply Kd.S_drewN | apply Kd.S_drew)); exact Kd.S_mono HO_5.out (fun _ hk => (by simp [Value.ownBlock]))⟩, ⟨by first | exact Kd.R_nil _ _ _ _ _ | exact Kd.N_nil _ _ _ _ _ | exact Kd.V_nil _ _ _ _ _ | exact Kd.Q_nil _ _ _ _ _ | exact Kd.S_nil _ _ _ _ _⟩, ⟨by repeat (first | (with_reducible first | exact HB.out | apply below_alloc | apply pw_below_drewN | apply below_drew1) | exact HB.out)⟩⟩
      case rest =>
       clear HC4
       try clear p1
       try clear q1
       try clear hx1
       try clear p2
       try clear c3
       try clear c3b0
       try clear c5
       try clear c5b0
       try clear c6
       try clear c6b0
       try clear p6
       try clear hx101_0
       try clear p101
       try clear p2
       try clear q101
       obtain ⟨kq, x9_3, rfl, HA, HJ3, HO_5, HO_8, HB⟩ := hcut
       cases kq with
       | zero => exact absurd HA.out (by simp [scullerlaw07_Arena.j1])
       | succ kj3 =>
         have H := HA.out
         clear HA
         simp only [scullerlaw07_Arena.j1] at H
         have HC7 := Aside0.mk H
         clear H
         go_upto_if 31 with (fail)
         go_cut [9] (fun v9 wc => ∃ (kq : Nat) (x9_6 : Int), v9 = .int .i64 x9_6 ∧ Aside0 (scullerlaw07_Arena.j2 kq l0 a1 x5_1 x6_1 x7_1 ([] : List Int) x9_6 = some r) ∧ Aside0 (kq ≤ kj3) ∧ Aside0 (Kd.S (Kd.slice 22 (Kd.int .u64)) 123 wc w.heap.size (fun k_ => some k_ ≠ ((.slice none 0 0) : Value).ownBlock) u5 x5_1) ∧ Aside0 (Kd.R (Kd.int .u64) 22 wc w.heap.size (fun _ => True) (.slice none 0 0) ([] : List Int)) ∧ Aside0 (Below w.heap.size w wc))
         case first =>
          have H := HC7.out
          clear HC7
          by_cases c8 : x7_1 = 0
          · rw [if_pos c8] at H
            have c8b0 : (x7_1 == 0) = true := beq_iff_eq.mpr c8
            have c8b1 : (x7_1 != 0) = false := bne_eq_false_iff_eq.mpr c8
            clear c8
            (first | rw [c8b0] | (simp only [i64_w, i32_w]; rw [c8b0]) | skip)
            have H' := Aside0.mk H
            clear H
            go_wp2
            go_meet
            case rel => exact ⟨_, (wrap64 (x9_3 + 1)), (by first | rfl | (simp; done) | (simp [*]; done)), H', ⟨by have := HK1.out; have := HJ3.out; first | omega | exact Nat.le_refl _⟩, ⟨by (with_reducible repeat (first | apply Kd.S_alloc | apply Kd.S_drewN | apply Kd.S_drew)); exact HO_5.out⟩, ⟨by (with_reducible repeat (first | apply Kd.R_alloc | apply Kd.R_drewN | apply Kd.R_drew)); exact HO_8.out⟩, ⟨by repeat (first | (with_reducible first | exact HB.out | apply below_alloc | apply pw_below_drewN | apply below_drew1) | exact HB.out)⟩⟩
          · rw [if_neg c8] at H
            have c8b0 : (x7_1 == 0) = false := beq_eq_false_iff_ne.mpr c8
            have c8b1 : (x7_1 != 0) = true := bne_iff_ne.mpr c8
            (first | rw [c8b0] | (simp only [i64_w, i32_w]; rw [c8b0]) | skip)
            have H' := Aside0.mk H
            clear H
            go_wp2
            go_meet
            case rel => exact ⟨_, (x9_3), (by first | rfl | (simp; done) | (simp [*]; done)), H', ⟨by have := HK1.out; have := HJ3.out; first | omega | exact Nat.le_refl _⟩, ⟨by (with_reducible repeat (first | apply Kd.S_alloc | apply Kd.S_drewN | apply Kd.S_drew)); exact HO_5.out⟩, ⟨by (with_reducible repeat (first | apply Kd.R_alloc | apply Kd.R_drewN | apply Kd.R_drew)); exact HO_8.out⟩, ⟨by repeat (first | (with_reducible first | exact HB.out | apply below_alloc | apply pw_below_drewN | apply below_drew1) | exact HB.out)⟩⟩
         case rest =>
          clear HC7
          try clear p1
          try clear q1
          try clear hx1
          try clear p2
          try clear c3
          try clear c3b0
          try clear c5
          try clear c5b0
          try clear c6
          try clear c6b0
          try clear p6
          try clear c7
          try clear c8
          try clear c8b0
          try clear c8b1
          try clear hx101_0
          try clear p1
          try clear p101
          try clear p2
          try clear p6
          try clear q1
          try clear q101
          obtain ⟨kq, x9_6, rfl, HA, HJ6, HO_5, HO_8, HB⟩ := hcut
          cases kq with
          | zero => exact absurd HA.out (by simp [scullerlaw07_Arena.j2])
          | succ kj6 =>
            have H := HA.out
            clear HA
            simp only [scullerlaw07_Arena.j2] at H
            have H' := Aside0.mk H
            clear H
            go_wp2
            go_loopg [6, 8, 10] kj6 (fun kq v6 v8 v10 w' => ∃ (x6_4 : Int) (x8_4 : List Int) (x10_4 : Int), v6 = .int .i64 x6_4 ∧ v10 = .int .i64 x10_4 ∧ Aside0 (scullerlaw07_Arena.l1 kq l0 a1 x5_1 x6_4 x7_1 x8_4 x9_6 x10_4 = some r) ∧ Aside0 (kq ≤ kj6) ∧ Aside0 (Kd.S (Kd.slice 22 (Kd.int .u64)) 123 w' w.heap.size (fun k_ => some k_ ≠ (v8 : Value).ownBlock) u5 x5_1) ∧ Aside0 (Kd.R (Kd.int .u64) 22 w' w.heap.size (fun _ => True) v8 x8_4) ∧ Aside0 (Below w.heap.size w w'))
            case atStart => exact ⟨(x6_1), (([] : List Int)), (0), (by first | rfl | (simp; done) | (simp [*]; done)), (by first | rfl | (simp; done) | (simp [*]; done)), H', ⟨Nat.le_refl _⟩, ⟨by (with_reducible repeat (first | apply Kd.S_alloc | apply Kd.S_drewN | apply Kd.S_drew)); exact HO_5.out⟩, ⟨by (with_reducible repeat (first | apply Kd.R_alloc | apply Kd.R_drewN | apply Kd.R_drew)); exact HO_8.out⟩, ⟨by repeat (first | (with_reducible first | exact HB.out | apply below_alloc | apply pw_below_drewN | apply below_drew1) | exact HB.out)⟩⟩
            case round =>
             clear H'
             try clear p1
             try clear q1
             try clear hx1
             try clear p2
             try clear c3
             try clear c3b0
             try clear c5
             try clear c5b0
             try clear c6
             try clear c6b0
             try clear p6
             try clear c7
             try clear c8
             try clear c8b0
             try clear c8b1
             try clear hx101_0
             try clear p1
             try clear p101
             try clear p2
             try clear p6
             try clear q1
             try clear q101
             obtain ⟨x6_4, x8_4, x10_4, rfl, rfl, HA, HK4, HO_5, HO_8, HB⟩ := hrel
             cases gk with
             | zero => exact absurd HA.out (by simp [scullerlaw07_Arena.l1])
             | succ k4 =>
               have H := HA.out
               clear HA
               simp only [scullerlaw07_Arena.l1] at H
               by_cases c9 : x10_4 < x9_6
               · rw [if_pos c9] at H
                 have c9b0 : decide (x10_4 < x9_6) = true := decide_eq_true c9
                 clear c9
                 by_cases c10 : (l0.length : Int) > 0
                 · rw [if_pos c10] at H
                   have c10b0 : decide (0 < (l0.length : Int)) = true := decide_eq_true c10
                   have c10b1 : decide (0 < l0.length) = true := decide_eq_true (by omega)
                   clear c10
                   by_cases c11 : (l0.length : Int) = 0
                   · rw [if_pos c11] at H
                     exact absurd H (by simp)
                   · rw [if_neg c11] at H
                     have c11b0 : ((l0.length : Int) == 0) = false := beq_eq_false_iff_ne.mpr c11
                     have c11b1 : ((l0.length : Int) != 0) = true := bne_iff_ne.mpr c11
                     have c11b2 : ¬ (l0 = []) := fun h_ => c11 (by rw [h_]; rfl)
                     obtain ⟨ji12, hji12⟩ : ∃ j_ : Int, (Int.tmod x6_4 (l0.length : Int)) = j_ := ⟨_, rfl⟩
                     replace H : (if 0 ≤ (ji12) then (if (ji12) < (l0.length : Int) then (if x8_4.length < 17592186044416 then (scullerlaw07_Arena.l1 k4 l0 a1 x5_1 (wrap64 (x6_4 + 1)) x7_1 (x8_4 ++ [IntKind.u64.wrap ((IntKind.u64.wrap ((IntKind.u64.wrap (rd l0 (ji12))) * 4311810305)) + (IntKind.u64.wrap (x6_4)))]) x9_6 (wrap64 (x10_4 + 1))) else (none)) else (none)) else (none)) = some r := by first | (rw [hji12] at H; exact H) | (simp only [hji12] at H ⊢; exact H)
                     by_cases c13 : 0 ≤ (ji12)
                     · rw [if_pos c13] at H
                       have c13b0 : decide (0 ≤ (ji12)) = true := decide_eq_true c13
                       clear c13
                       by_cases c14 : (ji12) < (l0.length : Int)
                       · rw [if_pos c14] at H
                         have c14b0 : decide ((ji12) < (l0.length : Int)) = true := decide_eq_true c14
                         clear c14
                         by_cases c15 : x8_4.length < 17592186044416
                         · rw [if_pos c15] at H
                           have LMc15 := Aside0.mk c15
                           clear c15
                           obtain ⟨y103, hy103⟩ : ∃ y_ : List Int, y_ = (x8_4 ++ [IntKind.u64.wrap ((IntKind.u64.wrap ((IntKind.u64.wrap (rd l0 (ji12))) * 4311810305)) + (IntKind.u64.wrap (x6_4)))]) := ⟨_, rfl⟩
                           replace H : (scullerlaw07_Arena.l1 k4 l0 a1 x5_1 (wrap64 (x6_4 + 1)) x7_1 y103 x9_6 (wrap64 (x10_4 + 1))) = some r := by first | (rw [hy103]; with_reducible exact H) | (have H2_ := (Option.bind_some _ _).symm.trans H; rw [hy103]; with_reducible exact H2_) | (have H2_ := (Option.bind_some _ _).symm.trans H; with_reducible exact H2_) | with_reducible exact H | (rw [hy103]; exact H) | exact H
                           have Ny103 := Aside0.mk hy103
                           clear hy103
                           have H' := Aside0.mk H
                           clear H
                           have p102 : 0 ≤ ((ji12) : Int) := of_decide_eq_true (by first | (with_reducible assumption) | assumption)
                           have q102 : (ji12) < (l0.length : Int) := of_decide_eq_true (by first | (with_reducible assumption) | assumption)
                           obtain ⟨ad102, e102, hx102_0⟩ := Kd.at_int HR0.out (ji12) p102 q102
                           cases e102
                           replace hx102_0 := (HB.out.cell (World.block_lt_of_cell? w _ hx102_0)).trans hx102_0
                           replace p102 := eq_true p102
                           replace q102 := eq_true q102
                           go_wp2_with (first | ((with_reducible refine gate_builtin (b := .append) (xs := #[.tmp 56, .tmp 58]) rfl ?_); at_builtin; refine Kd.R_append (Kd.int .u64) (w0 := w) w.heap.size rfl (.tmp 56) (.tmp 58) 123 22 (.int .u64 0) 8 rfl Try.underlying123 info22 rfl (by decide) (by omega) u8 x8_4 (IntKind.u64.wrap ((IntKind.u64.wrap ((IntKind.u64.wrap (rd l0 (ji12))) * 4311810305)) + (IntKind.u64.wrap (x6_4)))) [.int .u64 (IntKind.u64.wrap ((IntKind.u64.wrap ((IntKind.u64.wrap (rd l0 (ji12))) * 4311810305)) + (IntKind.u64.wrap (x6_4))))] (fun _ => True) (fun _ => False) rfl rfl ?aP (fun _ hk => hk.elim) ?aF ?aO ?aB ?aS ?aL ?_; (case aP => exact rfl); (case aB => exact (by repeat (first | (with_reducible first | exact HB.out | apply below_alloc | apply pw_below_drewN | apply below_drew1) | exact HB.out))); (case aF => exact (fun _ _ => trivial)); (case aO => exact (by (with_reducible repeat (first | apply Kd.R_alloc | apply Kd.R_drewN | apply Kd.R_drew)); exact HO_8.out)); (case aS => exact (below_size (by repeat (first | (with_reducible first | exact HB.out | apply below_alloc | apply pw_below_drewN | apply below_drew1) | exact HB.out)))); (case aL => have := LMc15.out; omega); intro v104 w16 ho hb hg hat; rw [← Ny103.out] at ho; have n0_ := Aside0.mk (Kd.S_after (ok := (fun _ => True)) (by (with_reducible repeat (first | apply Kd.S_alloc | apply Kd.S_drewN | apply Kd.S_drew)); exact Kd.S_mono HO_5.out (fun _ hk => ⟨trivial, hk⟩)) hg hat); have n1_ := Aside0.mk (hb); have n2_ := Aside0.mk (ho); clear HO_5; clear HB; clear HO_8; have HO_5 := n0_; have HB := n1_; have HO105 := n2_; clear n0_ n1_ n2_; clear ho hb hg hat))
                           go_roundg k4
                           case measure => have := HK1.out; have := HJ3.out; have := HJ6.out; have := HK4.out; omega
                           case rel => exact ⟨(wrap64 (x6_4 + 1)), (y103), (wrap64 (x10_4 + 1)), (by first | rfl | (simp; done) | (simp [*]; done)), (by first | rfl | (simp; done) | (simp [*]; done)), H', ⟨by have := HK1.out; have := HJ3.out; have := HJ6.out; have := HK4.out; omega⟩, ⟨by (with_reducible repeat (first | apply Kd.S_alloc | apply Kd.S_drewN | apply Kd.S_drew)); exact Kd.S_mono HO_5.out (fun _ hk => hk.2)⟩, ⟨by (with_reducible repeat (first | apply Kd.R_alloc | apply Kd.R_drewN | apply Kd.R_drew)); exact HO105.out⟩, ⟨by repeat (first | (with_reducible first | exact HB.out | apply below_alloc | apply pw_below_drewN | apply below_drew1) | exact HB.out)⟩⟩
                         · rw [if_neg c15] at H
                           exact absurd H (by simp)
                       · rw [if_neg c14] at H
                         exact absurd H (by simp)
                     · rw [if_neg c13] at H
                       exact absurd H (by simp)
                 · rw [if_neg c10] at H
                   have c10b0 : decide (0 < (l0.length : Int)) = false := decide_eq_false c10
                   have c10b1 : decide (0 < l0.length) = false := decide_eq_false (by omega)
                   clear c10
                   by_cases c17 : x8_4.length < 17592186044416
                   · rw [if_pos c17] at H
                     have LMc17 := Aside0.mk c17
                     clear c17
                     obtain ⟨y106, hy106⟩ : ∃ y_ : List Int, y_ = (x8_4 ++ [IntKind.u64.wrap (x6_4)]) := ⟨_, rfl⟩
                     replace H : (scullerlaw07_Arena.l1 k4 l0 a1 x5_1 (wrap64 (x6_4 + 1)) x7_1 y106 x9_6 (wrap64 (x10_4 + 1))) = some r := by first | (rw [hy106]; with_reducible exact H) | (have H2_ := (Option.bind_some _ _).symm.trans H; rw [hy106]; with_reducible exact H2_) | (have H2_ := (Option.bind_some _ _).symm.trans H; with_reducible exact H2_) | with_reducible exact H | (rw [hy106]; exact H) | exact H
                     have Ny106 := Aside0.mk hy106
                     clear hy106
                     have H' := Aside0.mk H
                     clear H
                     go_wp2_with (first | ((with_reducible refine gate_builtin (b := .append) (xs := #[.tmp 56, .tmp 58]) rfl ?_); at_builtin; refine Kd.R_append (Kd.int .u64) (w0 := w) w.heap.size rfl (.tmp 56) (.tmp 58) 123 22 (.int .u64 0) 8 rfl Try.underlying123 info22 rfl (by decide) (by omega) u8 x8_4 (IntKind.u64.wrap (x6_4)) [.int .u64 (IntKind.u64.wrap (x6_4))] (fun _ => True) (fun _ => False) rfl rfl ?aP (fun _ hk => hk.elim) ?aF ?aO ?aB ?aS ?aL ?_; (case aP => exact rfl); (case aB => exact (by repeat (first | (with_reducible first | exact HB.out | apply below_alloc | apply pw_below_drewN | apply below_drew1) | exact HB.out))); (case aF => exact (fun _ _ => trivial)); (case aO => exact (by (with_reducible repeat (first | apply Kd.R_alloc | apply Kd.R_drewN | apply Kd.R_drew)); exact HO_8.out)); (case aS => exact (below_size (by repeat (first | (with_reducible first | exact HB.out | apply below_alloc | apply pw_below_drewN | apply below_drew1) | exact HB.out)))); (case aL => have := LMc17.out; omega); intro v107 w18 ho hb hg hat; rw [← Ny106.out] at ho; have n0_ := Aside0.mk (Kd.S_after (ok := (fun _ => True)) (by (with_reducible repeat (first | apply Kd.S_alloc | apply Kd.S_drewN | apply Kd.S_drew)); exact Kd.S_mono HO_5.out (fun _ hk => ⟨trivial, hk⟩)) hg hat); have n1_ := Aside0.mk (hb); have n2_ := Aside0.mk (ho); clear HO_5; clear HB; clear HO_8; have HO_5 := n0_; have HB := n1_; have HO108 := n2_; clear n0_ n1_ n2_; clear ho hb hg hat))
                     go_roundg k4
                     case measure => have := HK1.out; have := HJ3.out; have := HJ6.out; have := HK4.out; omega
                     case rel => exact ⟨(wrap64 (x6_4 + 1)), (y106), (wrap64 (x10_4 + 1)), (by first | rfl | (simp; done) | (simp [*]; done)), (by first | rfl | (simp; done) | (simp [*]; done)), H', ⟨by have := HK1.out; have := HJ3.out; have := HJ6.out; have := HK4.out; omega⟩, ⟨by (with_reducible repeat (first | apply Kd.S_alloc | apply Kd.S_drewN | apply Kd.S_drew)); exact Kd.S_mono HO_5.out (fun _ hk => hk.2)⟩, ⟨by (with_reducible repeat (first | apply Kd.R_alloc | apply Kd.R_drewN | apply Kd.R_drew)); exact HO108.out⟩, ⟨by repeat (first | (with_reducible first | exact HB.out | apply below_alloc | apply pw_below_drewN | apply below_drew1) | exact HB.out)⟩⟩
                   · rw [if_neg c17] at H
                     exact absurd H (by simp)
               · rw [if_neg c9] at H
                 have c9b0 : decide (x10_4 < x9_6) = false := decide_eq_false c9
                 clear c9
                 by_cases c19 : x5_1.length < 5864062014805
                 · rw [if_pos c19] at H
                   have LMc19 := Aside0.mk c19
                   clear c19
                   obtain ⟨y109, hy109⟩ : ∃ y_ : List (List Int), y_ = (x5_1 ++ [x8_4]) := ⟨_, rfl⟩
                   replace H : (scullerlaw07_Arena.l0 k4 l0 a1 y109 x6_4 (wrap64 (x7_1 + 1))) = some r := by first | (rw [hy109]; with_reducible exact H) | (have H2_ := (Option.bind_some _ _).symm.trans H; rw [hy109]; with_reducible exact H2_) | (have H2_ := (Option.bind_some _ _).symm.trans H; with_reducible exact H2_) | with_reducible exact H | (rw [hy109]; exact H) | exact H
                   have Ny109 := Aside0.mk hy109
                   clear hy109
                   have H' := Aside0.mk H
                   clear H
                   obtain ⟨Ao21, co21, eo21⟩ := Kd.R_slice HO_8.out
                   subst eo21
                   go_wp2_with (first | ((with_reducible refine gate_builtin (b := .append) (xs := #[.tmp 62, .tmp 64]) rfl ?_); at_builtin; refine Kd.S_append (Kd.slice 22 (Kd.int .u64)) (w0 := w) w.heap.size rfl (.tmp 62) (.tmp 64) 76 123 (.slice none 0 0) 24 rfl Try.underlying76 info123 rfl (by decide) (by omega) u5 x5_1 x8_4 [.slice Ao21 x8_4.length co21] (fun _ => True) (fun k_ => some k_ = (.slice Ao21 x8_4.length co21 : Value).ownBlock) rfl rfl ?aP (fun k_ hk_ => ((Kd.R_mono (ok' := fun k_ => ((fun _ => True)) k_ ∧ some k_ ≠ (u5 : Value).ownBlock) (Kd.R_apart' (HO_8.out) (Kd.S_typed HO_5.out) (by decide)) (fun k_ hk => ⟨trivial, hk.2⟩))).1 k_ hk_.symm) ?aF ?aO ?aB ?aS ?aL ?_; (case aP => exact Kd.M_row (Kd.R_mono (Kd.R_tight rfl (Kd.R_mono (ok' := fun k_ => ((fun _ => True)) k_ ∧ some k_ ≠ (u5 : Value).ownBlock) (Kd.R_apart' (HO_8.out) (Kd.S_typed HO_5.out) (by decide)) (fun k_ hk => ⟨trivial, hk.2⟩))) (fun _ h_ => h_))); (case aB => exact (by repeat (first | (with_reducible first | exact HB.out | apply below_alloc | apply pw_below_drewN | apply below_drew1) | exact HB.out))); (case aF => exact (fun _ _ => trivial)); (case aO => exact (by (with_reducible repeat (first | apply Kd.S_alloc | apply Kd.S_drewN | apply Kd.S_drew)); exact Kd.S_mono HO_5.out (fun k_ hk => ⟨trivial, fun e_ => hk e_⟩))); (case aS => exact (below_size (by repeat (first | (with_reducible first | exact HB.out | apply below_alloc | apply pw_below_drewN | apply below_drew1) | exact HB.out)))); (case aL => have := LMc19.out; omega); intro v110 w20 ho hb hg hat; rw [← Ny109.out] at ho; have n0_ := Aside0.mk (hb); have n1_ := Aside0.mk (ho); clear HB; clear HO_5; clear HO_8; have HB := n0_; have HO111 := n1_; clear n0_ n1_; clear ho hb hg hat))
                   go_roundg k4
                   case measure => have := HK1.out; have := HJ3.out; have := HJ6.out; have := HK4.out; omega
                   case rel => exact ⟨(y109), (x6_4), (wrap64 (x7_1 + 1)), (by first | rfl | (simp; done) | (simp [*]; done)), (by first | rfl | (simp; done) | (simp [*]; done)), H', ⟨by have := HK1.out; have := HJ3.out; have := HJ6.out; have := HK4.out; omega⟩, ⟨by (with_reducible repeat (first | apply Kd.S_alloc | apply Kd.S_drewN | apply Kd.S_drew)); exact HO111.out⟩, ⟨by repeat (first | (with_reducible first | exact HB.out | apply below_alloc | apply pw_below_drewN | apply below_drew1) | exact HB.out)⟩⟩
                 · rw [if_neg c19] at H
                   exact absurd H (by simp)
    · rw [if_neg c3] at H
      have c3b0 : decide (x7_1 < (wrap64 (1 + (wrap64 (Int.tmod a1 5))))) = false := decide_eq_false c3
      clear c3
      obtain rfl := Option.some.inj H
      go_wp2
      go_ret
      exact ⟨_, by first | rfl | (simp [errW_none, errW_some] <;> rfl) | (simp [*, errW_none, errW_some] <;> rfl), by (with_reducible repeat (first | apply Kd.S_alloc | apply Kd.S_drewN | apply Kd.S_drew)); exact HO_5.out, by repeat (first | (with_reducible first | exact HB.out | apply below_alloc | apply pw_below_drewN | apply below_drew1) | exact HB.out)⟩

end Go.Proofs.Ytbijnfhcbanhdaa.F
end

section
namespace Go.Proofs.Ytbijnfhcbanhdaa.F
open Go.RowKit Go.Proofs.YtbijnfhcbanhdaaW.PrintWords Go.Proofs.YtbijnfhcbanhdaaW.PrintLast Go.Proofs.YtbijnfhcbanhdaaW.PrintMore
attribute [local go_sem] max2_int min2_int max_two min_two max_three min_three max_four min_four   -- for this text's walks alone
set_option linter.unusedVariables false
set_option linter.unusedSimpArgs false

open Go.Proofs.Ytbijnfhcbanhdaa.H
def scullerlaw07_Arena_c.f (l0 : List Int) (a1 : Int) : Option (List (List Int)) := if bytesB l0 = true ∧ l0.length ≤ 140737488351232 ∧ 0 ≤ a1 ∧ a1 ≤ 255 then some (arenaL l0 a1) else none
theorem wrapu {z : Int} (hz : 0 ≤ z) (hz2 : z < 18446744073709551616) : IntKind.u64.wrap z = z := by
 simp [IntKind.wrap, IntKind.signed, IntKind.bits]
 omega
theorem scullerlaw07_Arena.l1_to (c : List Int) (hc : ∀ x ∈ c, 0 ≤ x ∧ x ≤ 255) (hcl : c.length ≤ 140737488351232) (n : Int) (acc : List (List Int)) (hacc : acc.length ≤ 100) (i k0 size : Nat) (hi : i ≤ 100) (hk0 : k0 ≤ 1000) (hsz : size ≤ 13) (R : Option (List (List Int)))
 (K : ∃ k, scullerlaw07_Arena.l0 k c n (acc ++ [segC c k0 size]) ((k0 + size : Nat) : Int) ((i + 1 : Nat) : Int) = R) :
 ∀ (d j : Nat), size - j = d → j ≤ size → ∃ k, scullerlaw07_Arena.l1 k c n acc ((k0 + j : Nat) : Int) (i : Int) (segC c k0 j) (size : Int) (j : Int) = R
 | 0, j, hd, hj => by
   obtain rfl : j = size := by omega
   obtain ⟨k, hk⟩ := K
   refine ⟨k + 1, ?_⟩
   simp only [scullerlaw07_Arena.l1]
   rw [if_neg (by omega), if_pos (by omega), show wrap64 ((i : Int) + 1) = ((i + 1 : Nat) : Int) from by unfold wrap64; omega, hk]
 | d + 1, j, hd, hj => by
   obtain ⟨k, hk⟩ := scullerlaw07_Arena.l1_to c hc hcl n acc hacc i k0 size hi hk0 hsz R K d (j + 1) (by omega) (by omega)
   refine ⟨k + 1, ?_⟩
   simp only [scullerlaw07_Arena.l1]
   have e1 : wrap64 (((k0 + j : Nat) : Int) + 1) = ((k0 + (j + 1) : Nat) : Int) := by unfold wrap64; omega
   have e2 : wrap64 ((j : Int) + 1) = ((j + 1 : Nat) : Int) := by unfold wrap64; omega
   rw [if_pos (by omega)]
   by_cases hc0 : (c.length : Int) > 0
   · have ht : Int.tmod ((k0 + j : Nat) : Int) (c.length : Int) = (((k0 + j) % c.length : Nat) : Int) := by
      rw [Int.tmod_eq_emod_of_nonneg (by omega)]; omega
     have hm : (k0 + j) % c.length < c.length := Nat.mod_lt _ (by omega)
     have hr : rd c (((k0 + j) % c.length : Nat) : Int) = c.getD ((k0 + j) % c.length) 0 := rfl
     have hx : 0 ≤ c.getD ((k0 + j) % c.length) 0 ∧ c.getD ((k0 + j) % c.length) 0 ≤ 255 := by
      rw [List.getD_eq_getElem?_getD, List.getElem?_eq_getElem hm]; exact hc _ (List.getElem_mem hm)
     rw [if_pos hc0, if_neg (by omega), ht, if_pos (by omega), if_pos (by omega), if_pos (by rw [segC_length]; omega), hr, wrapu hx.1 (by omega), wrapu (z := ((k0 + j : Nat) : Int)) (by omega) (by omega), wrapu (z := c.getD ((k0 + j) % c.length) 0 * 4311810305) (by omega) (by omega), wrapu (by omega) (by omega), e1, e2]
     rw [segC_succ] at hk
     exact hk
   · have hnil : c = [] := List.eq_nil_of_length_eq_zero (by omega)
     rw [if_neg hc0, if_pos (by rw [segC_length]; omega), wrapu (z := ((k0 + j : Nat) : Int)) (by omega) (by omega), e1, e2]
     rw [segC_succ] at hk
     have : wordC c (k0 + j) = ((k0 + j : Nat) : Int) := by simp [wordC, hnil]
     rw [this] at hk
     exact hk
theorem scullerlaw07_Arena.l0_to (c : List Int) (hc : ∀ x ∈ c, 0 ≤ x ∧ x ≤ 255) (hcl : c.length ≤ 140737488351232) (n : Int) (hn0 : 0 ≤ n) (hn : n ≤ 255) : ∀ (m i k0 : Nat) (acc : List (List Int)), i + m = (1 + n % 5).toNat → acc.length = i → k0 ≤ 13 * i →
 ∃ k, scullerlaw07_Arena.l0 k c n acc (k0 : Int) (i : Int) = some (acc ++ arenaC c m i k0)
 | 0, i, k0, acc, hm, ha, hk0 => ⟨1, by
   simp only [scullerlaw07_Arena.l0, arenaC, List.append_nil]
   rw [if_neg (by rw [Int.tmod_eq_emod_of_nonneg hn0]; unfold wrap64; omega)]⟩
 | m + 1, i, k0, acc, hm, ha, hk0 => by
   have hs := sizeC_le c i
   obtain ⟨k, hk⟩ := scullerlaw07_Arena.l0_to c hc hcl n hn0 hn m (i + 1) (k0 + sizeC c i) (acc ++ [segC c k0 (sizeC c i)]) (by omega) (by simp [ha]) (by omega)
   obtain ⟨k1, hk1⟩ := scullerlaw07_Arena.l1_to c hc hcl n acc (by omega) i k0 (sizeC c i) (by omega) (by omega) (by omega) _ ⟨k, hk⟩ (sizeC c i) 0 (by omega) (by omega)
   have hfin : ∃ q, scullerlaw07_Arena.j1 q c n acc (k0 : Int) (i : Int) [] (if i < c.length then c.getD i 0 % 12 else 1) = some (acc ++ arenaC c (m + 1) i k0) := by
    refine ⟨k1 + 1 + 1, ?_⟩
    have hnn : 0 ≤ (if i < c.length then c.getD i 0 % 12 else 1) ∧ (if i < c.length then c.getD i 0 % 12 else 1) < 12 := by split <;> omega
    have hsz : (sizeC c i : Int) = (if i < c.length then c.getD i 0 % 12 else 1) + (if i = 0 then 1 else 0) := by
     unfold sizeC; split <;> split <;> omega
    have hsz0 : i = 0 → (sizeC c i : Int) = (if i < c.length then c.getD i 0 % 12 else 1) + 1 := fun e => by rw [hsz, if_pos e]
    have hsz1 : ¬ i = 0 → (sizeC c i : Int) = (if i < c.length then c.getD i 0 % 12 else 1) := fun e => by rw [hsz, if_neg e]; omega
    clear hsz
    generalize (if i < c.length then c.getD i 0 % 12 else 1) = q0 at *
    simp only [scullerlaw07_Arena.j1, scullerlaw07_Arena.j2]
    rw [show segC c k0 0 = [] from rfl, List.append_assoc] at hk1
    by_cases e : (i : Int) = 0
    · rw [if_pos e, show wrap64 (q0 + 1) = (sizeC c i : Int) from by rw [hsz0 (by omega)]; unfold wrap64; omega]
      exact hk1
    · rw [if_neg e, show q0 = (sizeC c i : Int) from (hsz1 (by omega)).symm]
      exact hk1
   obtain ⟨q, hq⟩ := hfin
   refine ⟨q + 1, ?_⟩
   simp only [scullerlaw07_Arena.l0]
   rw [if_pos (by rw [Int.tmod_eq_emod_of_nonneg hn0]; unfold wrap64; omega)]
   by_cases hlt : (i : Int) < (c.length : Int)
   · have hr : rd c i = c.getD i 0 := rfl
     have hx : 0 ≤ c.getD i 0 ∧ c.getD i 0 ≤ 255 := by
      rw [List.getD_eq_getElem?_getD, List.getElem?_eq_getElem (show i < c.length by omega)]; exact hc _ (List.getElem_mem _)
     rw [if_pos hlt, if_pos (by omega), hr, Int.tmod_eq_emod_of_nonneg hx.1, show wrap64 (c.getD i 0 % 12) = c.getD i 0 % 12 from by unfold wrap64; omega]
     rw [if_pos (by omega)] at hq
     exact hq
   · rw [if_neg hlt]
     rw [if_neg (by omega)] at hq
     exact hq
theorem scullerlaw07_Arena_c.to {l0 : List Int} {a1 : Int} {r : List (List Int)} (h : scullerlaw07_Arena_c.f l0 a1 = some r) : ∃ k, scullerlaw07_Arena.f k l0 a1 = some r := by
 unfold scullerlaw07_Arena_c.f at h
 split at h
 case isFalse => cases h
 case isTrue hl =>
 obtain rfl := Option.some.inj h
 obtain ⟨hb, hl, h0, h1⟩ := hl
 obtain ⟨k, hk⟩ := scullerlaw07_Arena.l0_to l0 (bytesB_at hb) hl a1 h0 h1 (1 + (a1 % 5)).toNat 0 0 [] (by omega) rfl (by omega)
 exact ⟨k, by unfold scullerlaw07_Arena.f; simpa [arenaL] using hk⟩

theorem scullerlaw07_Arena_c.calls (A0 : Option Addr) (c0 : Nat) (l0 : List Int) (a1 : Int) (r : List (List Int)) (w : World) (hr0 : Kd.C (Kd.int .u8) w A0 l0.length l0) (hc0 : l0.length ≤ c0) (h : scullerlaw07_Arena_c.f l0 a1 = some r) :
 Calls Try.prog 74 #[.slice A0 l0.length c0, .int .u8 a1] w fun e w' => ∃ v0_ : Value, e = .returned (v0_) ∧ Kd.S (Kd.slice 22 (Kd.int .u64)) 123 w' w.heap.size (fun _ => True) v0_ r ∧ Below w.heap.size w w' := by
 obtain ⟨k_, hk_⟩ := scullerlaw07_Arena_c.to h
 exact scullerlaw07_Arena.calls k_ A0 c0 l0 a1 r w hr0 hc0 hk_

end Go.Proofs.Ytbijnfhcbanhdaa.F
end
