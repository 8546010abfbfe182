/- Proved: at every input in bounds the statement TokenBits of the token layer answers yes: a token with bits of more, or fewer, chunks than there are is none.
Text 2 of 5; functions told as plain ones, with the contracts of their calls. -/
import Derived.Test.YtbijnfhcbanhdaaQTokenBits1
import Derived.WalkSpells
import Derived.RangeFuncNested
import Derived.RangeFuncBound
import Derived.RangeFuncCalls
import Derived.RangeFuncLeaves
import Derived.Shelf.Abstract
import Derived.Shelf.RegionOpen
import Derived.WalkKit
import Derived.OwnWalkIn
import Derived.TacticsInMore
import Derived.LoopNIn
import Derived.LoopIn
import Derived.Deep.LoopGhost
import Derived.Laws.BitsAllLaws
import Derived.Laws.BitsLemmas
section
namespace Go.Proofs.Ytbijnfhcbanhdaa.F
open Go.RowKit Go.Proofs.YtbijnfhcbanhdaaW.PrintWords Go.Proofs.YtbijnfhcbanhdaaW.PrintLast Go.Proofs.YtbijnfhcbanhdaaW.PrintMore
attribute [local go_sem] max2_int min2_int max_two min_two max_three min_three max_four min_four   -- for this text's walks alone
set_option linter.unusedVariables false
set_option linter.unusedSimpArgs false

/-! ### token_Same: function 17 -/
def token_Same.f (a0_0 : Int) (l0_1 : List Int) (a0_2 : Int) (l0_3 : List Int) (a1_0 : Int) (l1_1 : List Int) (a1_2 : Int) (l1_3 : List Int) : Option (Bool) := (mani_Same.f a0_0 l0_1 a0_2 a1_0 l1_1 a1_2).bind fun t103 => (if t103 = true then ((bytes_Equal.f l0_3 l1_3).bind fun t104 => (some t104)) else (some false))
set_option maxHeartbeats 8000000 in
set_option maxRecDepth 100000 in
theorem token_Same.calls (a0_0 : Int) (A0_1 : Option Addr) (c0_1 : Nat) (l0_1 : List Int) (a0_2 : Int) (A0_3 : Option Addr) (c0_3 : Nat) (l0_3 : List Int) (a1_0 : Int) (A1_1 : Option Addr) (c1_1 : Nat) (l1_1 : List Int) (a1_2 : Int) (A1_3 : Option Addr) (c1_3 : Nat) (l1_3 : List Int) (r : Bool) (w : World) (hr0_1 : Kd.C (Kd.int .i64) w A0_1 l0_1.length l0_1) (hc0_1 : l0_1.length ≤ c0_1) (hr0_3 : Kd.C (Kd.int .u8) w A0_3 l0_3.length l0_3) (hc0_3 : l0_3.length ≤ c0_3) (hr1_1 : Kd.C (Kd.int .i64) w A1_1 l1_1.length l1_1) (hc1_1 : l1_1.length ≤ c1_1) (hr1_3 : Kd.C (Kd.int .u8) w A1_3 l1_3.length l1_3) (hc1_3 : l1_3.length ≤ c1_3) (h : token_Same.f a0_0 l0_1 a0_2 l0_3 a1_0 l1_1 a1_2 l1_3 = some r) :
 Calls Try.prog 17 #[.agg #[.int .u64 a0_0, .slice A0_1 l0_1.length c0_1, .int .u32 a0_2, .slice A0_3 l0_3.length c0_3], .agg #[.int .u64 a1_0, .slice A1_1 l1_1.length c1_1, .int .u32 a1_2, .slice A1_3 l1_3.length c1_3]] w fun e w' => e = .returned (.bool r) ∧ Below w.heap.size w w' := by
 have hu29 := Try.underlying29
 have hu26 := Try.underlying26
 have HR0_1 := Aside0.mk hr0_1
 have HC0_1 := Aside0.mk hc0_1
 clear hr0_1 hc0_1
 have HR0_3 := Aside0.mk hr0_3
 have HC0_3 := Aside0.mk hc0_3
 clear hr0_3 hc0_3
 have HR1_1 := Aside0.mk hr1_1
 have HC1_1 := Aside0.mk hc1_1
 clear hr1_1 hc1_1
 have HR1_3 := Aside0.mk hr1_3
 have HC1_3 := Aside0.mk hc1_3
 clear hr1_3 hc1_3
 have HB := Aside0.mk (Below.refl w.heap.size w)
 have H : ((mani_Same.f a0_0 l0_1 a0_2 a1_0 l1_1 a1_2).bind fun t103 => (if t103 = true then ((bytes_Equal.f l0_3 l1_3).bind fun t104 => (some t104)) else (some false))) = some r := h
 clear h
 replace H := Option.bind_eq_some_iff.mp H
 obtain ⟨t103, A30, H⟩ := H
 replace H : (if t103 = true then ((bytes_Equal.f l0_3 l1_3).bind fun t104 => (some t104)) else (some false)) = some r := H
 have A3 := Aside0.mk A30
 clear A30
 by_cases c4 : t103 = true
 · subst c4
   have H1 : ((bytes_Equal.f l0_3 l1_3).bind fun t104 => (some t104)) = some r := by rw [if_pos rfl] at H; exact H
   clear H
   have H := H1
   clear H1
   replace H := Option.bind_eq_some_iff.mp H
   obtain ⟨t104, A50, H⟩ := H
   replace H : (some t104) = some r := H
   have A5 := Aside0.mk A50
   clear A50
   obtain rfl := Option.some.inj H
   go_enter Try.func17, Try.ntmps17
   go_wp2_with (first | ((with_reducible refine gate_dst (N := 2) rfl ?_); refine box_event ?hg (N := 2) ?hd (cs := #[.int .u64 a0_0, .slice A0_1 l0_1.length c0_1, .int .u32 a0_2, .slice A0_3 l0_3.length c0_3]) (t := 29) ?hr ?_; (case hd => rfl); (case hg => rfl); (case hr => first | (go_simp; done) | (go_simp; rfl)); intro gb101 hg w6 hbox hb; have n0_ := Aside0.mk (below_step (by repeat (first | (with_reducible first | exact HB.out | apply below_alloc | apply pw_below_drewN | apply below_drew1) | exact HB.out)) hb); have n1_ := Aside0.mk (hbox); have n2_ := Aside0.mk ((by rw [hg]; exact (below_size (by repeat (first | (with_reducible first | exact HB.out | apply below_alloc | apply pw_below_drewN | apply below_drew1) | exact HB.out))) : w.heap.size ≤ gb101)); have n3_ := Aside0.mk ((by rw [hg]; exact (below_size (by repeat (first | (with_reducible first | exact HB.out | apply below_alloc | apply pw_below_drewN | apply below_drew1) | exact HB.out))) : w.heap.size ≤ gb101)); clear HB; have HB := n0_; have BK101 := n1_; have GW101 := n2_; have GE101 := n3_; clear n0_ n1_ n2_ n3_; clear hb hbox hg) | ((with_reducible refine gate_dst (N := 3) rfl ?_); refine box_event ?hg (N := 3) ?hd (cs := #[.int .u64 a1_0, .slice A1_1 l1_1.length c1_1, .int .u32 a1_2, .slice A1_3 l1_3.length c1_3]) (t := 29) ?hr ?_; (case hd => rfl); (case hg => rfl); (case hr => first | (go_simp; done) | (go_simp; rfl)); intro gb102 hg w7 hbox hb; have n0_ := Aside0.mk (blk_below (g := gb101) (o := .cells #[.int .u64 a0_0, .slice A0_1 l0_1.length c0_1, .int .u32 a0_2, .slice A0_3 l0_3.length c0_3] 29 (0, 0)) (by (with_reducible repeat (first | refine blk_drewN ?_ _ | refine blk_drew ?_ | refine blk_alloc ?_ _)); exact BK101.out) hb); have n1_ := Aside0.mk (below_step (by repeat (first | (with_reducible first | exact HB.out | apply below_alloc | apply pw_below_drewN | apply below_drew1 | refine below_set ?_ GE101.out) | exact HB.out)) hb); have n2_ := Aside0.mk (hbox); have n3_ := Aside0.mk ((by rw [hg]; exact (below_size (by repeat (first | (with_reducible first | exact HB.out | apply below_alloc | apply pw_below_drewN | apply below_drew1 | refine below_set ?_ GE101.out) | exact HB.out))) : w.heap.size ≤ gb102)); have n4_ := Aside0.mk ((by rw [hg]; exact (below_size (by repeat (first | (with_reducible first | exact HB.out | apply below_alloc | apply pw_below_drewN | apply below_drew1 | refine below_set ?_ GE101.out) | exact HB.out))) : w.heap.size ≤ gb102)); have n5_ := Aside0.mk ((by rw [hg]; exact Nat.ne_of_lt (blk_lt (g := gb101) (o := .cells #[.int .u64 a0_0, .slice A0_1 l0_1.length c0_1, .int .u32 a0_2, .slice A0_3 l0_3.length c0_3] 29 (0, 0)) (by (with_reducible repeat (first | refine blk_drewN ?_ _ | refine blk_drew ?_ | refine blk_alloc ?_ _)); exact BK101.out)) : gb101 ≠ gb102)); have n6_ := Aside0.mk ((by rw [hg]; exact Nat.ne_of_gt (blk_lt (g := gb101) (o := .cells #[.int .u64 a0_0, .slice A0_1 l0_1.length c0_1, .int .u32 a0_2, .slice A0_3 l0_3.length c0_3] 29 (0, 0)) (by (with_reducible repeat (first | refine blk_drewN ?_ _ | refine blk_drew ?_ | refine blk_alloc ?_ _)); exact BK101.out)) : gb102 ≠ gb101)); clear BK101; clear HB; have BK101 := n0_; have HB := n1_; have BK102 := n2_; have GW102 := n3_; have GE102 := n4_; have NB101_102 := n5_; have NB102_101 := n6_; clear n0_ n1_ n2_ n3_ n4_ n5_ n6_; clear hb hbox hg; have hnb8 := NB101_102.out; have hnc8 := NB102_101.out; have hcz9_0 : w7.cell? ⟨gb101, 0, none⟩ = some (.int .u64 a0_0) := (blk_cell BK101.out 0).trans rfl; have hcz9_1 : w7.cell? ⟨gb101, 1, none⟩ = some (.slice A0_1 l0_1.length c0_1) := (blk_cell BK101.out 1).trans rfl; have hcz9_2 : w7.cell? ⟨gb101, 2, none⟩ = some (.int .u32 a0_2) := (blk_cell BK101.out 2).trans rfl; have hcz9_3 : w7.cell? ⟨gb101, 3, none⟩ = some (.slice A0_3 l0_3.length c0_3) := (blk_cell BK101.out 3).trans rfl; have hfz9_0 := blk_frozen BK101.out 0; have hfz9_1 := blk_frozen BK101.out 1; have hfz9_2 := blk_frozen BK101.out 2; have hfz9_3 := blk_frozen BK101.out 3; have hcz10_0 : w7.cell? ⟨gb102, 0, none⟩ = some (.int .u64 a1_0) := (blk_cell BK102.out 0).trans rfl; have hcz10_1 : w7.cell? ⟨gb102, 1, none⟩ = some (.slice A1_1 l1_1.length c1_1) := (blk_cell BK102.out 1).trans rfl; have hcz10_2 : w7.cell? ⟨gb102, 2, none⟩ = some (.int .u32 a1_2) := (blk_cell BK102.out 2).trans rfl; have hcz10_3 : w7.cell? ⟨gb102, 3, none⟩ = some (.slice A1_3 l1_3.length c1_3) := (blk_cell BK102.out 3).trans rfl; have hfz10_0 := blk_frozen BK102.out 0; have hfz10_1 := blk_frozen BK102.out 1; have hfz10_2 := blk_frozen BK102.out 2; have hfz10_3 := blk_frozen BK102.out 3) | ((with_reducible refine gate_callee (f := 43) rfl ?_); refine goesL_ (some 9) rfl rfl Try.func43 (by kernel_rfl) rfl #[.agg #[.int .u64 a0_0, .slice A0_1 l0_1.length c0_1, .int .u32 a0_2], .agg #[.int .u64 a1_0, .slice A1_1 l1_1.length c1_1, .int .u32 a1_2]] rfl (by (try simp only [List.map_toArray, List.map_cons, List.map_nil]); first | done | rfl | (simp only [List.length_drop, List.length_take]; rfl)) ?_; (with_reducible refine (mani_Same.calls a0_0 _ _ l0_1 a0_2 a1_0 _ _ l1_1 a1_2 true _ ?side1 ?side2 ?side3 ?side4 A3.out).mono ?_); (case side1 => repeat (first | exact (Kd.C_below HR0_1.out HB.out) | (with_reducible refine Kd.C_alloc ?_ _) | (with_reducible refine Kd.C_drewN ?_ _) | (with_reducible refine Kd.C_drew ?_))); (case side2 => exact HC0_1.out); (case side3 => repeat (first | exact (Kd.C_below HR1_1.out HB.out) | (with_reducible refine Kd.C_alloc ?_ _) | (with_reducible refine Kd.C_drewN ?_ _) | (with_reducible refine Kd.C_drew ?_))); (case side4 => exact HC1_1.out); rintro e w11 ⟨rfl, hb⟩; refine ⟨_, rfl, ?_⟩; have n0_ := Aside0.mk (blk_below (g := gb101) (o := .cells #[.int .u64 a0_0, .slice A0_1 l0_1.length c0_1, .int .u32 a0_2, .slice A0_3 l0_3.length c0_3] 29 (0, 0)) (by (with_reducible repeat (first | refine blk_drewN ?_ _ | refine blk_drew ?_ | refine blk_alloc ?_ _)); exact BK101.out) hb); have n1_ := Aside0.mk (blk_below (g := gb102) (o := .cells #[.int .u64 a1_0, .slice A1_1 l1_1.length c1_1, .int .u32 a1_2, .slice A1_3 l1_3.length c1_3] 29 (0, 0)) (by (with_reducible repeat (first | refine blk_drewN ?_ _ | refine blk_drew ?_ | refine blk_alloc ?_ _)); exact BK102.out) hb); have n2_ := Aside0.mk (below_step (by repeat (first | (with_reducible first | exact HB.out | apply below_alloc | apply pw_below_drewN | apply below_drew1 | refine below_set ?_ GE101.out | refine below_set ?_ GE102.out) | exact HB.out)) hb); clear BK101; clear BK102; clear HB; have BK101 := n0_; have BK102 := n1_; have HB := n2_; clear n0_ n1_ n2_; (try clear hb); (try clear hb2); (try clear hk); (try clear hi); have hcz12_0 : w11.cell? ⟨gb101, 0, none⟩ = some (.int .u64 a0_0) := (blk_cell BK101.out 0).trans rfl; have hcz12_1 : w11.cell? ⟨gb101, 1, none⟩ = some (.slice A0_1 l0_1.length c0_1) := (blk_cell BK101.out 1).trans rfl; have hcz12_2 : w11.cell? ⟨gb101, 2, none⟩ = some (.int .u32 a0_2) := (blk_cell BK101.out 2).trans rfl; have hcz12_3 : w11.cell? ⟨gb101, 3, none⟩ = some (.slice A0_3 l0_3.length c0_3) := (blk_cell BK101.out 3).trans rfl; have hfz12_0 := blk_frozen BK101.out 0; have hfz12_1 := blk_frozen BK101.out 1; have hfz12_2 := blk_frozen BK101.out 2; have hfz12_3 := blk_frozen BK101.out 3; have hcz13_0 : w11.cell? ⟨gb102, 0, none⟩ = some (.int .u64 a1_0) := (blk_cell BK102.out 0).trans rfl; have hcz13_1 : w11.cell? ⟨gb102, 1, none⟩ = some (.slice A1_1 l1_1.length c1_1) := (blk_cell BK102.out 1).trans rfl; have hcz13_2 : w11.cell? ⟨gb102, 2, none⟩ = some (.int .u32 a1_2) := (blk_cell BK102.out 2).trans rfl; have hcz13_3 : w11.cell? ⟨gb102, 3, none⟩ = some (.slice A1_3 l1_3.length c1_3) := (blk_cell BK102.out 3).trans rfl; have hfz13_0 := blk_frozen BK102.out 0; have hfz13_1 := blk_frozen BK102.out 1; have hfz13_2 := blk_frozen BK102.out 2; have hfz13_3 := blk_frozen BK102.out 3) | (go_at_call 44; (with_reducible refine (bytes_Equal.calls _ _ l0_3 _ _ l1_3 t104 _ ?side1 ?side2 ?side3 ?side4 A5.out).mono ?_); (case side1 => repeat (first | exact (Kd.C_below HR0_3.out HB.out) | (with_reducible refine Kd.C_alloc ?_ _) | (with_reducible refine Kd.C_drewN ?_ _) | (with_reducible refine Kd.C_drew ?_))); (case side2 => exact HC0_3.out); (case side3 => repeat (first | exact (Kd.C_below HR1_3.out HB.out) | (with_reducible refine Kd.C_alloc ?_ _) | (with_reducible refine Kd.C_drewN ?_ _) | (with_reducible refine Kd.C_drew ?_))); (case side4 => exact HC1_3.out); rintro e w' ⟨rfl, ⟨nd, rfl⟩⟩))
   go_ret
   exact ⟨by first | rfl | (simp [errW_none, errW_some] <;> rfl) | (simp [*, errW_none, errW_some] <;> rfl), by repeat (first | (with_reducible first | exact HB.out | apply below_alloc | apply pw_below_drewN | apply below_drew1 | refine below_set ?_ GE101.out | refine below_set ?_ GE102.out) | exact HB.out)⟩
 · replace c4 := Bool.eq_false_iff.mpr c4
   subst c4
   have H1 : (some false) = some r := by rw [if_neg (show ¬ (false = true) by decide)] at H; exact H
   clear H
   have H := H1
   clear H1
   obtain rfl := Option.some.inj H
   go_enter Try.func17, Try.ntmps17
   go_wp2_with (first | ((with_reducible refine gate_dst (N := 2) rfl ?_); refine box_event ?hg (N := 2) ?hd (cs := #[.int .u64 a0_0, .slice A0_1 l0_1.length c0_1, .int .u32 a0_2, .slice A0_3 l0_3.length c0_3]) (t := 29) ?hr ?_; (case hd => rfl); (case hg => rfl); (case hr => first | (go_simp; done) | (go_simp; rfl)); intro gb101 hg w14 hbox hb; have n0_ := Aside0.mk (below_step (by repeat (first | (with_reducible first | exact HB.out | apply below_alloc | apply pw_below_drewN | apply below_drew1) | exact HB.out)) hb); have n1_ := Aside0.mk (hbox); have n2_ := Aside0.mk ((by rw [hg]; exact (below_size (by repeat (first | (with_reducible first | exact HB.out | apply below_alloc | apply pw_below_drewN | apply below_drew1) | exact HB.out))) : w.heap.size ≤ gb101)); have n3_ := Aside0.mk ((by rw [hg]; exact (below_size (by repeat (first | (with_reducible first | exact HB.out | apply below_alloc | apply pw_below_drewN | apply below_drew1) | exact HB.out))) : w.heap.size ≤ gb101)); clear HB; have HB := n0_; have BK101 := n1_; have GW101 := n2_; have GE101 := n3_; clear n0_ n1_ n2_ n3_; clear hb hbox hg) | ((with_reducible refine gate_dst (N := 3) rfl ?_); refine box_event ?hg (N := 3) ?hd (cs := #[.int .u64 a1_0, .slice A1_1 l1_1.length c1_1, .int .u32 a1_2, .slice A1_3 l1_3.length c1_3]) (t := 29) ?hr ?_; (case hd => rfl); (case hg => rfl); (case hr => first | (go_simp; done) | (go_simp; rfl)); intro gb102 hg w15 hbox hb; have n0_ := Aside0.mk (blk_below (g := gb101) (o := .cells #[.int .u64 a0_0, .slice A0_1 l0_1.length c0_1, .int .u32 a0_2, .slice A0_3 l0_3.length c0_3] 29 (0, 0)) (by (with_reducible repeat (first | refine blk_drewN ?_ _ | refine blk_drew ?_ | refine blk_alloc ?_ _)); exact BK101.out) hb); have n1_ := Aside0.mk (below_step (by repeat (first | (with_reducible first | exact HB.out | apply below_alloc | apply pw_below_drewN | apply below_drew1 | refine below_set ?_ GE101.out) | exact HB.out)) hb); have n2_ := Aside0.mk (hbox); have n3_ := Aside0.mk ((by rw [hg]; exact (below_size (by repeat (first | (with_reducible first | exact HB.out | apply below_alloc | apply pw_below_drewN | apply below_drew1 | refine below_set ?_ GE101.out) | exact HB.out))) : w.heap.size ≤ gb102)); have n4_ := Aside0.mk ((by rw [hg]; exact (below_size (by repeat (first | (with_reducible first | exact HB.out | apply below_alloc | apply pw_below_drewN | apply below_drew1 | refine below_set ?_ GE101.out) | exact HB.out))) : w.heap.size ≤ gb102)); have n5_ := Aside0.mk ((by rw [hg]; exact Nat.ne_of_lt (blk_lt (g := gb101) (o := .cells #[.int .u64 a0_0, .slice A0_1 l0_1.length c0_1, .int .u32 a0_2, .slice A0_3 l0_3.length c0_3] 29 (0, 0)) (by (with_reducible repeat (first | refine blk_drewN ?_ _ | refine blk_drew ?_ | refine blk_alloc ?_ _)); exact BK101.out)) : gb101 ≠ gb102)); have n6_ := Aside0.mk ((by rw [hg]; exact Nat.ne_of_gt (blk_lt (g := gb101) (o := .cells #[.int .u64 a0_0, .slice A0_1 l0_1.length c0_1, .int .u32 a0_2, .slice A0_3 l0_3.length c0_3] 29 (0, 0)) (by (with_reducible repeat (first | refine blk_drewN ?_ _ | refine blk_drew ?_ | refine blk_alloc ?_ _)); exact BK101.out)) : gb102 ≠ gb101)); clear BK101; clear HB; have BK101 := n0_; have HB := n1_; have BK102 := n2_; have GW102 := n3_; have GE102 := n4_; have NB101_102 := n5_; have NB102_101 := n6_; clear n0_ n1_ n2_ n3_ n4_ n5_ n6_; clear hb hbox hg; have hnb16 := NB101_102.out; have hnc16 := NB102_101.out; have hcz17_0 : w15.cell? ⟨gb101, 0, none⟩ = some (.int .u64 a0_0) := (blk_cell BK101.out 0).trans rfl; have hcz17_1 : w15.cell? ⟨gb101, 1, none⟩ = some (.slice A0_1 l0_1.length c0_1) := (blk_cell BK101.out 1).trans rfl; have hcz17_2 : w15.cell? ⟨gb101, 2, none⟩ = some (.int .u32 a0_2) := (blk_cell BK101.out 2).trans rfl; have hcz17_3 : w15.cell? ⟨gb101, 3, none⟩ = some (.slice A0_3 l0_3.length c0_3) := (blk_cell BK101.out 3).trans rfl; have hfz17_0 := blk_frozen BK101.out 0; have hfz17_1 := blk_frozen BK101.out 1; have hfz17_2 := blk_frozen BK101.out 2; have hfz17_3 := blk_frozen BK101.out 3; have hcz18_0 : w15.cell? ⟨gb102, 0, none⟩ = some (.int .u64 a1_0) := (blk_cell BK102.out 0).trans rfl; have hcz18_1 : w15.cell? ⟨gb102, 1, none⟩ = some (.slice A1_1 l1_1.length c1_1) := (blk_cell BK102.out 1).trans rfl; have hcz18_2 : w15.cell? ⟨gb102, 2, none⟩ = some (.int .u32 a1_2) := (blk_cell BK102.out 2).trans rfl; have hcz18_3 : w15.cell? ⟨gb102, 3, none⟩ = some (.slice A1_3 l1_3.length c1_3) := (blk_cell BK102.out 3).trans rfl; have hfz18_0 := blk_frozen BK102.out 0; have hfz18_1 := blk_frozen BK102.out 1; have hfz18_2 := blk_frozen BK102.out 2; have hfz18_3 := blk_frozen BK102.out 3) | ((with_reducible refine gate_callee (f := 43) rfl ?_); refine goesL_ (some 9) rfl rfl Try.func43 (by kernel_rfl) rfl #[.agg #[.int .u64 a0_0, .slice A0_1 l0_1.length c0_1, .int .u32 a0_2], .agg #[.int .u64 a1_0, .slice A1_1 l1_1.length c1_1, .int .u32 a1_2]] rfl (by (try simp only [List.map_toArray, List.map_cons, List.map_nil]); first | done | rfl | (simp only [List.length_drop, List.length_take]; rfl)) ?_; (with_reducible refine (mani_Same.calls a0_0 _ _ l0_1 a0_2 a1_0 _ _ l1_1 a1_2 false _ ?side1 ?side2 ?side3 ?side4 A3.out).mono ?_); (case side1 => repeat (first | exact (Kd.C_below HR0_1.out HB.out) | (with_reducible refine Kd.C_alloc ?_ _) | (with_reducible refine Kd.C_drewN ?_ _) | (with_reducible refine Kd.C_drew ?_))); (case side2 => exact HC0_1.out); (case side3 => repeat (first | exact (Kd.C_below HR1_1.out HB.out) | (with_reducible refine Kd.C_alloc ?_ _) | (with_reducible refine Kd.C_drewN ?_ _) | (with_reducible refine Kd.C_drew ?_))); (case side4 => exact HC1_1.out); rintro e w19 ⟨rfl, hb⟩; refine ⟨_, rfl, ?_⟩; have n0_ := Aside0.mk (blk_below (g := gb101) (o := .cells #[.int .u64 a0_0, .slice A0_1 l0_1.length c0_1, .int .u32 a0_2, .slice A0_3 l0_3.length c0_3] 29 (0, 0)) (by (with_reducible repeat (first | refine blk_drewN ?_ _ | refine blk_drew ?_ | refine blk_alloc ?_ _)); exact BK101.out) hb); have n1_ := Aside0.mk (blk_below (g := gb102) (o := .cells #[.int .u64 a1_0, .slice A1_1 l1_1.length c1_1, .int .u32 a1_2, .slice A1_3 l1_3.length c1_3] 29 (0, 0)) (by (with_reducible repeat (first | refine blk_drewN ?_ _ | refine blk_drew ?_ | refine blk_alloc ?_ _)); exact BK102.out) hb); have n2_ := Aside0.mk (below_step (by repeat (first | (with_reducible first | exact HB.out | apply below_alloc | apply pw_below_drewN | apply below_drew1 | refine below_set ?_ GE101.out | refine below_set ?_ GE102.out) | exact HB.out)) hb); clear BK101; clear BK102; clear HB; have BK101 := n0_; have BK102 := n1_; have HB := n2_; clear n0_ n1_ n2_; (try clear hb); (try clear hb2); (try clear hk); (try clear hi)))
   go_ret
   exact ⟨by first | rfl | (simp [errW_none, errW_some] <;> rfl) | (simp [*, errW_none, errW_some] <;> rfl), by repeat (first | (with_reducible first | exact HB.out | apply below_alloc | apply pw_below_drewN | apply below_drew1 | refine below_set ?_ GE101.out | refine below_set ?_ GE102.out) | exact HB.out)⟩

end Go.Proofs.Ytbijnfhcbanhdaa.F
end

section
namespace Go.Proofs.Ytbijnfhcbanhdaa.F
open Go.RowKit Go.Proofs.YtbijnfhcbanhdaaW.PrintWords Go.Proofs.YtbijnfhcbanhdaaW.PrintLast Go.Proofs.YtbijnfhcbanhdaaW.PrintMore
attribute [local go_sem] max2_int min2_int max_two min_two max_three min_three max_four min_four   -- for this text's walks alone
set_option linter.unusedVariables false
set_option linter.unusedSimpArgs false

/-! ### bytes_Clone: given -/
def bytes_Clone.f (l0 : List Int) : Option (List Int) := if l0.length < 140737488355328 then some l0 else none
set_option maxHeartbeats 8000000 in
set_option maxRecDepth 100000 in
theorem bytes_Clone.calls (A0 : Option Addr) (c0 : Nat) (l0 : List Int) (r : List Int) (w : World) (hr0 : Kd.C (Kd.int .u8) w A0 l0.length l0) (hc0 : l0.length ≤ c0) (h : bytes_Clone.f l0 = some r) :
 Calls Try.prog 50 #[.slice A0 l0.length c0] w fun e w' => ∃ v0_ : Value, e = .returned (v0_) ∧ Kd.R (Kd.int .u8) 5 w' w.heap.size (fun _ => True) v0_ r ∧ Below w.heap.size w w' := by
 unfold bytes_Clone.f at h
 split at h
 case isFalse => cases h
 case isTrue hb =>
 obtain rfl := Option.some.inj h
 clear h
 have HR0 := Aside0.mk hr0
 have HC0 := Aside0.mk hc0
 clear hr0 hc0
 by_cases hA : A0 = none
 · subst hA
   have hn : ∀ (W : World) (n c : Nat), (Go.binOp .eql 27 (Value.slice none n c) (Value.slice none 0 0)).run Try.prog W = .ok (.bool true) W := fun W n c => Lib.run_eql_slice_nil W _ _ none n c 0 0 Try.underlying27
   have hl : l0 = [] := by
    have h := HR0.out
    have h2 : l0.length = 0 := Nat.eq_zero_of_not_pos fun h0 => by obtain ⟨ad, e, _⟩ := h.2.2 h0; cases e
    exact List.eq_nil_of_length_eq_zero h2
   subst hl
   go_enter Try.func50, Try.ntmps50
   go_wp2_with (first | (rw [hn]; fail))
   go_ret
   exact ⟨_, rfl, Kd.R_nil _ _ _ _ _, Below.refl _ _⟩
 · obtain ⟨a0, rfl⟩ := Option.ne_none_iff_exists'.mp hA
   have hn : ∀ (W : World) (n c : Nat), (Go.binOp .eql 27 (Value.slice (some a0) n c) (Value.slice none 0 0)).run Try.prog W = .ok (.bool false) W := fun W n c => Lib.run_eql_slice_nil W _ _ (some a0) n c 0 0 Try.underlying27
   go_enter Try.func50, Try.ntmps50
   go_wp2_with (first
    | ((with_reducible refine gate_dst (N := 5) rfl ?_); (try (refine gate_guard (by rfl) ?_; dsimp only)); refine Kd.R_lit (Kd.int .u8) (w0 := w) w.heap.size 5 ?hg (N := 5) ?hd (xs := ([] : List Int)) (inner := []) (ok := fun _ => True) (okp := fun _ => True) ?hr ?hp (fun _ hk => hk) trivial (Below.refl _ _) (Nat.le_refl _) (by simp) ?_; (case hd => rfl); (case hg => rfl); (case hr => first | (go_simp; done) | (go_simp; rfl)); (case hp => exact (Reps.none _ _)); intro v1 w1 ho1 hb1 hg1 hn1; have HO1 := Aside0.mk ho1; have HB1 := Aside0.mk hb1; clear ho1 hb1 hg1 hn1)
    | ((with_reducible refine gate_builtin (b := .append) (xs := #[.tmp 5, .tmp 6]) rfl ?_); at_builtin; refine Kd.R_append_rows (Kd.int .u8) (w0 := w) w.heap.size rfl (.tmp 5) (.tmp 6) 27 5 (.int .u8 0) 1 rfl Try.underlying27 info5 rfl (by decide) (by omega) v1 ([] : List Int) l0 _ _ _ (fun _ => True) (fun _ => False) rfl rfl ?aO ?aR (fun _ _ h => h) (fun _ h => h.elim) (fun _ _ => trivial) ?aB ?aS ?aL ?_; (case aO => exact HO1.out); (case aR => exact Kd.C_below HR0.out HB1.out); (case aB => exact HB1.out); (case aS => exact below_size HB1.out); (case aL => simp; omega); intro v2 w2 ho2 hb2 hg2 hat2; have HO2 := Aside0.mk ho2; have HB2 := Aside0.mk hb2; clear ho2 hb2 hg2 hat2))
   go_ret
   exact ⟨_, rfl, HO2.out, HB2.out⟩

end Go.Proofs.Ytbijnfhcbanhdaa.F
end

section
namespace Go.Proofs.Ytbijnfhcbanhdaa.F
open Go.RowKit Go.Proofs.YtbijnfhcbanhdaaW.PrintWords Go.Proofs.YtbijnfhcbanhdaaW.PrintLast Go.Proofs.YtbijnfhcbanhdaaW.PrintMore
attribute [local go_sem] max2_int min2_int max_two min_two max_three min_three max_four min_four   -- for this text's walks alone
set_option linter.unusedVariables false
set_option linter.unusedSimpArgs false

open Go.Proofs.Ytbijnfhcbanhdaa.H
/-! ### word_Put: given -/
def word_Put.f (a0 : Int) (a1 : Int) : Option (List Int) := some (putL a0 (putN a1))
theorem putL_step (n : Int) (m k : Nat) (h : k < m) : ((putL n m).take k ++ List.replicate (m - k) 0).set k (n / 2 ^ (8 * k) % 256) = (putL n m).take (k + 1) ++ List.replicate (m - (k + 1)) 0 := by
 apply List.ext_getElem
 · simp [putL]; omega
 · intro i h1 h2
   by_cases e : i = k
   · subst e
     rw [List.getElem_set_self]
     rw [List.getElem_append_left (by simp [putL]; omega)]
     simp [putL]
   · rw [List.getElem_set_ne (by omega)]
     by_cases hlt : i < k
     · rw [List.getElem_append_left (by simp [putL]; omega), List.getElem_append_left (by simp [putL]; omega)]
       simp [putL]
     · rw [List.getElem_append_right (by simp [putL]; omega), List.getElem_append_right (by simp [putL]; omega)]
       simp
set_option maxHeartbeats 1000000 in
set_option maxRecDepth 100000 in
theorem word_Put.calls (a0 : Int) (a1 : Int) (r : List Int) (w : World) (h : word_Put.f a0 a1 = some r) :
 Calls Try.prog 46 #[.int .u64 a0, .int .i64 a1] w fun e w' => ∃ v0_ : Value, e = .returned (v0_) ∧ Kd.R (Kd.int .u8) 5 w' w.heap.size (fun _ => True) v0_ r ∧ Below w.heap.size w w' := by
 obtain rfl := Option.some.inj h
 clear h
 obtain ⟨m, hm⟩ : ∃ m : Nat, putN a1 = m := ⟨_, rfl⟩
 have hm8 : m ≤ 8 := hm ▸ putN_le a1
 have hmx : (max 0 (min a1 8)) = (m : Int) := by rw [← hm]; unfold putN; omega
 have hmn : ∃ q : Int, (if 8 < a1 then 8 else a1) = q ∧ (if 0 < q then q else 0) = (m : Int) := ⟨_, rfl, by split <;> split <;> omega⟩
 obtain ⟨q, hq, hqm⟩ := hmn
 rw [hm]
 clear hmx hm
 have hi := info5
 have hmk : ∀ W : World, (Instr.makeSlice 27 (.int .i64 (m : Int)) (.int .i64 (m : Int))).run Try.prog W = .ok (.slice (some ⟨W.heap.size, 0, none⟩) m m) (W.alloc (.cells (madeCells #[.int .u8 0] m) 5)) := print_make 27 5 .u8 1 Try.underlying27 info5 (by decide) m (by omega)
 have ho0 := own_made w w.heap.size 5 .u8 m (Nat.le_refl _) (by omega)
 go_enter Try.func46, Try.ntmps46
 go_wp2
 go_loopw [13] (fun v wr => ∃ k : Nat, k ≤ m ∧ v = .int .i64 k ∧ Aside0 (wr.ownsRow w.heap.size 5 1 (.slice (some ⟨w.heap.size, 0, none⟩) m m) m (nums .u8 ((putL a0 m).take k ++ List.replicate (m - k) 0))) ∧ Aside0 (Below w.heap.size w wr))
  (fun v _ => m - (intOf v).toNat)
 case atStart => exact ⟨0, Nat.zero_le _, rfl, ⟨by simpa using ho0⟩, ⟨(Below.refl _ _).alloc (Nat.le_refl _) _⟩⟩
 case round =>
  obtain ⟨k, hk, rfl, HO, HB⟩ := hrel
  by_cases hlt : k < m
  · obtain ⟨hx, hf⟩ := own_at HO.out (k : Int) (by omega) (by omega)
    have hst := own_store HO.out (k : Int) (a0 / 2 ^ (8 * k) % 256)
    rw [Int.toNat_natCast] at hx hf hst
    rw [putL_step _ _ _ hlt] at hst
    have HS := Aside0.mk hst
    clear hst
    go_wp2
    go_roundw
    case rel => exact ⟨k + 1, by omega, by go_num, ⟨HS.out.1⟩, ⟨HB.out.setCell (p := ⟨w.heap.size, k, none⟩) (Nat.le_refl _) _⟩⟩
    case measure => simp [intOf]; omega
  · obtain rfl : k = m := by omega
    go_wp2
    go_ret
    have ho := HO.out
    rw [List.take_of_length_le (by rw [putL_length]; exact Nat.le_refl _), Nat.sub_self] at ho
    exact ⟨_, rfl, Kd.R_of_own (enc := Value.int .u8) (by rw [putL_length]; simpa [nums, encs] using ho) (fun _ _ => trivial), HB.out⟩

end Go.Proofs.Ytbijnfhcbanhdaa.F
end

section
/- What every hand-proved function of this seat that ranges over an iterator leans on: a relation on worlds ('Kset': below a bound all blocks but some named ones lie as they lay) and small lemmas. -/
namespace Go.Proofs.Ytbijnfhcbanhdaa.H
open Go.RowKit Go.Shelf
open Go.Proofs.YtbijnfhcbanhdaaW.PrintWords

/-- Below B all blocks but those of S lie as they lay; the streams are as they were; no block has gone. -/
structure Kset (B : Nat) (S : Nat → Prop) (w w' : World) : Prop where
 os : w'.os = w.os
 tape : w'.tape = w.tape
 output : w'.output = w.output
 size : w.heap.size ≤ w'.heap.size
 block : ∀ k, k < B → ¬ S k → w'.heap[k]? = w.heap[k]?

theorem Kset.refl (B : Nat) (S : Nat → Prop) (w : World) : Kset B S w w := ⟨rfl, rfl, rfl, Nat.le_refl _, fun _ _ _ => rfl⟩
theorem Kset.trans {B : Nat} {S : Nat → Prop} {a b c : World} (h : Kset B S a b) (k : Kset B S b c) : Kset B S a c :=
 ⟨k.os.trans h.os, k.tape.trans h.tape, k.output.trans h.output, Nat.le_trans h.size k.size, fun i hi hs => (k.block i hi hs).trans (h.block i hi hs)⟩
theorem Kset.below {B C : Nat} {S : Nat → Prop} {a b : World} (h : Kset B S a b) (hC : C ≤ B) (hS : ∀ k, S k → C ≤ k) : Below C a b :=
 ⟨h.os, h.tape, h.output, h.size, fun k hk => h.block k (by omega) (fun hs => by have := hS k hs; omega)⟩
theorem Kset.cell {B : Nat} {S : Nat → Prop} {a b : World} (h : Kset B S a b) {p : Addr} (hp : p.block < B) (hs : ¬ S p.block) : b.cell? p = a.cell? p := World.cell?_of_block (w := a) (h.block p.block hp hs)
theorem Kset.setCell {B : Nat} {S : Nat → Prop} {a b : World} (h : Kset B S a b) {p : Addr} (hp : S p.block ∨ B ≤ p.block) (u : Value) : Kset B S a (b.setCell p u) :=
 h.trans ⟨rfl, rfl, rfl, by simp [World.setCell], fun k hk hs => Below.heap_setCell _ _ _ _ (fun e => by subst e; rcases hp with hp | hp; exact hs hp; omega)⟩
theorem Kset.alloc {B : Nat} {S : Nat → Prop} {a b : World} (h : Kset B S a b) (hB : B ≤ b.heap.size) (o : Obj) : Kset B S a (b.alloc o) :=
 h.trans ⟨rfl, rfl, rfl, by simp, fun k hk _ => Below.heap_alloc _ _ _ (by omega)⟩
theorem Kset.drew {B : Nat} {S : Nat → Prop} {a b : World} (h : Kset B S a b) : Kset B S a b.drew := ⟨h.os, h.tape, h.output, h.size, h.block⟩
theorem Kset.grown {B : Nat} {S : Nat → Prop} {a w w' : World} {row : Option Nat} (h : Kset B S a w) (hg : w.grownBy w' row) (hB : B ≤ w.heap.size) (hr : ∀ k, row = some k → S k ∨ B ≤ k) : Kset B S a w' :=
 h.trans ⟨hg.os, hg.tape, hg.output, hg.size, fun k hk hs => hg.block k (by omega) (fun e => by rcases hr k e.symm with h | h; exact hs h; omega)⟩
theorem ksetK_t {n₀ : Nat} {S : Nat → Prop} {A B C : World} (h : Kset n₀ S A B) (k : Kset n₀ S B C) : Kset n₀ S A C := h.trans k
theorem ksetK_b {n₀ : Nat} {S : Nat → Prop} {w : World} (hn : n₀ ≤ w.heap.size) (W : World) (l : Nat) (o o' : Obj) (hl : w.heap.size ≤ l) (h : W.heap[l]? = some o) (_ : o.isCells = false) (_ : o.isWalk = false) : Kset n₀ S W (W.putObj l o') :=
 (Kset.refl n₀ S W).grown (grownBy_putObj' W l o') (by have := (Array.getElem?_eq_some_iff.1 h).1; omega) (fun k e => by cases e; right; omega)
theorem ownFrom_kset {β : Type} {n₀ B : Nat} {S : Nat → Prop} {w : World} (h : n₀ ≤ B) (hw : n₀ ≤ w.heap.size) : OwnFrom B (fun (_ : β) W => Kset n₀ S w W) :=
 fun _ X Y row hs hg hr => hs.trans ⟨hg.os, hg.tape, hg.output, hg.size, fun k hk _ => hg.block k (by have := hs.size; omega) (fun e => by have := (hr k e.symm).1; omega)⟩

/-- What has been read of a row that lies below B and is none of S is still there. -/
theorem C_kset {α : Type} {d : Kd α} {B : Nat} {S : Nat → Prop} {w w' w1 : World} {A : Option Addr} {n : Nat} {xs : List α} (h : d.C w A n xs) (hb : Below w.heap.size w w1) (hk : Kset B S w1 w') (hB : w.heap.size ≤ B) (hS : ∀ k, S k → w.heap.size ≤ k) : d.C w' A n xs :=
 Kd.C_below h (hb.trans (hk.below hB hS))

/-! ### A region that draws its order, within a round: op by op -/
section
variable {P : Program} {ops : Array Oper} {Q : Exit → Act → World → Prop} {K : Act → World → Prop} {o : Oper} {a : Act} {w w1 : World} {n l : Nat}
end

end Go.Proofs.Ytbijnfhcbanhdaa.H
end

section
namespace Go.Proofs.Ytbijnfhcbanhdaa.F
open Go.RowKit Go.Proofs.YtbijnfhcbanhdaaW.PrintWords Go.Proofs.YtbijnfhcbanhdaaW.PrintLast Go.Proofs.YtbijnfhcbanhdaaW.PrintMore
attribute [local go_sem] max2_int min2_int max_two min_two max_three min_three max_four min_four   -- for this text's walks alone
set_option linter.unusedVariables false
set_option linter.unusedSimpArgs false

/-! ### crc_Step: function 100 -/
def crc_Step.f (a0 : Int) : Option (Int) := some (Go.bits .xor .u32 (a0 / 2) ((2197175160 * (Go.bits .and .u32 a0 1)) % 4294967296))
set_option maxHeartbeats 8000000 in
set_option maxRecDepth 100000 in
theorem crc_Step.calls (a0 : Int) (r : Int) (w : World) (h : crc_Step.f a0 = some r) :
 Calls Try.prog 100 #[.int .u32 a0] w fun e w' => e = .returned (.int .u32 r) ∧ Drawn0 w w' := by
 have H : (some (Go.bits .xor .u32 (a0 / 2) ((2197175160 * (Go.bits .and .u32 a0 1)) % 4294967296))) = some r := h
 clear h
 obtain rfl := Option.some.inj H
 go_enter Try.func100, Try.ntmps100
 go_wp2
 go_ret
 exact ⟨by first | rfl | (simp; done) | (simp [*]; done), by repeat (first | exact Drawn0.refl _ | apply Drawn0.step)⟩

end Go.Proofs.Ytbijnfhcbanhdaa.F
end

section
namespace Go.Proofs.Ytbijnfhcbanhdaa.F
open Go.RowKit Go.Proofs.YtbijnfhcbanhdaaW.PrintWords Go.Proofs.YtbijnfhcbanhdaaW.PrintLast Go.Proofs.YtbijnfhcbanhdaaW.PrintMore
attribute [local go_sem] max2_int min2_int max_two min_two max_three min_three max_four min_four   -- for this text's walks alone
set_option linter.unusedVariables false
set_option linter.unusedSimpArgs false

/-! ### crc_Table_1: function 99 -/
def crc_Table_1.l0 : Nat → Int → Int → Option (Int)
 | 0, _, _ => none
 | k + 1, x0, x3 => if x3 < 8 then ((crc_Step.f x0).bind fun t101 => (crc_Table_1.l0 k t101 (wrap64 (x3 + 1)))) else (some x0)
def crc_Table_1.f (k : Nat) (a0 : Int) : Option (Int) := crc_Table_1.l0 k a0 0
theorem crc_Table_1.mono_l : ∀ k, (∀ y0 y1, LeO (crc_Table_1.l0 k y0 y1) (crc_Table_1.l0 (k + 1) y0 y1))
 | 0 => fun _ _ r h => by simp [crc_Table_1.l0] at h
 | k + 1 => by
   have ih0 := crc_Table_1.mono_l k
   · intro y0 y1
     unfold crc_Table_1.l0
     repeat' first
     | (with_reducible exact ih0 _ _)
     | (with_reducible exact LeO.refl _)
     | (with_reducible exact LeO.none _)
     | (with_reducible refine LeO.ite ?_ ?_)
     | (with_reducible refine LeO.bind ?_ (fun _ => ?_))
     | exact ih0 _ _
     | exact LeO.none _
     | refine LeO.ite ?_ ?_
     | refine LeO.bind ?_ (fun _ => ?_)
theorem crc_Table_1.mono : ∀ a0 k, LeO (crc_Table_1.f k a0) (crc_Table_1.f (k + 1) a0) := by
 intro a0 k
 have ih0 := crc_Table_1.mono_l k
 unfold crc_Table_1.f
 repeat' first
  | (with_reducible exact ih0 _ _)
  | (with_reducible exact LeO.refl _)
  | (with_reducible exact LeO.none _)
  | (with_reducible refine LeO.ite ?_ ?_)
  | (with_reducible refine LeO.bind ?_ (fun _ => ?_))
  | exact ih0 _ _
  | exact LeO.none _
  | refine LeO.ite ?_ ?_
  | refine LeO.bind ?_ (fun _ => ?_)
set_option maxHeartbeats 8000000 in
set_option maxRecDepth 100000 in
theorem crc_Table_1.calls (k : Nat) (a0 : Int) (r : Int) (w : World) (h : crc_Table_1.f k a0 = some r) :
 Calls Try.prog 99 #[.int .u32 a0] w fun e w' => e = .returned (.int .u32 r) ∧ Drawn0 w w' := by
 have H : (crc_Table_1.l0 k a0 0) = some r := h
 clear h
 have H' := Aside0.mk H
 clear H
 go_enter Try.func99, Try.ntmps99
 go_wp2
 go_loopg [0, 3] k (fun kq v0 v3 w' => ∃ (x0_1 : Int) (x3_1 : Int), v0 = .int .u32 x0_1 ∧ v3 = .int .i64 x3_1 ∧ Aside0 (crc_Table_1.l0 kq x0_1 x3_1 = some r) ∧ Aside0 (kq ≤ k) ∧ Drawn0 w w')
 case atStart => exact ⟨(a0), (0), (by first | rfl | (simp; done) | (simp [*]; done)), (by first | rfl | (simp; done) | (simp [*]; done)), H', ⟨Nat.le_refl _⟩, by repeat (first | exact Drawn0.refl _ | apply Drawn0.step)⟩
 case round =>
  clear H'
  obtain ⟨x0_1, x3_1, rfl, rfl, HA, HK1, ⟨m1, rfl⟩⟩ := hrel
  cases gk with
  | zero => exact absurd HA.out (by simp [crc_Table_1.l0])
  | succ k1 =>
    have H := HA.out
    clear HA
    simp only [crc_Table_1.l0] at H
    by_cases c2 : x3_1 < 8
    · rw [if_pos c2] at H
      have c2b0 : decide (x3_1 < 8) = true := decide_eq_true c2
      clear c2
      replace H := Option.bind_eq_some_iff.mp H
      obtain ⟨t101, A30, H⟩ := H
      replace H : (crc_Table_1.l0 k1 t101 (wrap64 (x3_1 + 1))) = some r := H
      have A3 := Aside0.mk A30
      clear A30
      have H' := Aside0.mk H
      clear H
      go_wp2_with (first | ((with_reducible refine gate_callee (f := 100) rfl ?_); refine goesL_ (some 6) rfl rfl Try.func100 (by kernel_rfl) rfl #[.int .u32 x0_1] rfl (by (try simp only [List.map_toArray, List.map_cons, List.map_nil]); first | done | rfl | (simp only [List.length_drop, List.length_take]; rfl)) ?_; (with_reducible refine (crc_Step.calls x0_1 t101 _ A3.out).mono ?_); rintro e w' ⟨rfl, ⟨nd, rfl⟩⟩; refine ⟨_, rfl, ?_⟩))
      go_roundg k1
      case measure => have := HK1.out; omega
      case rel => exact ⟨(t101), (wrap64 (x3_1 + 1)), (by first | rfl | (simp; done) | (simp [*]; done)), (by first | rfl | (simp; done) | (simp [*]; done)), H', ⟨by have := HK1.out; omega⟩, by repeat (first | exact Drawn0.refl _ | apply Drawn0.step)⟩
    · rw [if_neg c2] at H
      have c2b0 : decide (x3_1 < 8) = false := decide_eq_false c2
      clear c2
      obtain rfl := Option.some.inj H
      go_wp2
      go_ret
      exact ⟨by first | rfl | (simp; done) | (simp [*]; done), by repeat (first | exact Drawn0.refl _ | apply Drawn0.step)⟩

end Go.Proofs.Ytbijnfhcbanhdaa.F
end

section
/- The checksum's table: what it holds, and what a pass over bytes makes of it. -/
namespace Go.Proofs.Ytbijnfhcbanhdaa.F
open Go.RowKit Go.Proofs.YtbijnfhcbanhdaaW.PrintWords Go.Proofs.YtbijnfhcbanhdaaW.PrintLast Go.Proofs.YtbijnfhcbanhdaaW.PrintMore Go.Proofs.Ytbijnfhcbanhdaa.H
set_option linter.unusedVariables false
set_option linter.unusedSimpArgs false
attribute [local go_sem] Oper.semAt_some
theorem crc_Step.is (n : Nat) (h : n < 4294967296) : crc_Step.f (n : Int) = some ((stepN n : Nat) : Int) := by
 have hp : n % 2 < 2 := Nat.mod_lt _ (by omega)
 have h1 : Go.bits .and .u32 (n : Int) 1 = ((n % 2 : Nat) : Int) := by
  have := Go.u32_and_nat n 1 h (by omega)
  rw [show ((1 : Nat) : Int) = 1 from rfl] at this
  rw [this, Nat.and_one_is_mod]
 unfold crc_Step.f stepN
 rw [h1, show (n : Int) / 2 = ((n / 2 : Nat) : Int) from by omega]
 have h2 : (2197175160 * ((n % 2 : Nat) : Int)) % 4294967296 = ((if n % 2 = 1 then 2197175160 else 0 : Nat) : Int) := by
  rcases Nat.mod_two_eq_zero_or_one n with e | e <;> rw [e] <;> rfl
 rw [h2, Go.u32_xor_nat _ _ (by omega) (by split <;> omega)]
theorem crc_Table_1.l0_is : ∀ (d : Nat) (n : Nat), n < 4294967296 → d ≤ 8 → ∃ k, crc_Table_1.l0 k (n : Int) ((8 - d : Nat) : Int) = some ((stepsN d n : Nat) : Int)
 | 0, n, _, _ => ⟨1, by rw [crc_Table_1.l0, if_neg (by omega)]; rfl⟩
 | d + 1, n, h, hd => by
   obtain ⟨k, hk⟩ := crc_Table_1.l0_is d (stepN n) (stepN_lt h) (by omega)
   refine ⟨k + 1, ?_⟩
   rw [crc_Table_1.l0, if_pos (by omega), crc_Step.is n h, Option.bind_some, show wrap64 (((8 - (d + 1) : Nat) : Int) + 1) = ((8 - d : Nat) : Int) from by unfold wrap64; omega, hk]
   rfl
theorem crc_Table_1.is (n : Nat) (h : n < 4294967296) : ∃ k, crc_Table_1.f k (n : Int) = some ((stepsN 8 n : Nat) : Int) := by
 obtain ⟨k, hk⟩ := crc_Table_1.l0_is 8 n h (by omega)
 exact ⟨k, hk⟩
/-- Block b holds 256 numbers: the j-th is f j. -/
def Tab (W : World) (b : Nat) (f : Nat → Nat) : Prop := ∃ cells : Array Value, W.heap[b]? = some (.cells cells 140 (0, 0)) ∧ cells.size = 256 ∧ ∀ j (h : j < 256), cells[j]? = some (.int .u32 (f j : Nat))
theorem Tab.cell {W : World} {b : Nat} {f : Nat → Nat} (h : Tab W b f) (j : Nat) (hj : j < 256) : W.cell? ⟨b, j, none⟩ = some (.int .u32 (f j : Nat)) := by
 obtain ⟨cells, h1, h2, h3⟩ := h
 simp [World.cell?, h1, h3 j hj]
theorem Tab.frozen {W : World} {b : Nat} {f : Nat → Nat} (h : Tab W b f) (j : Nat) : W.frozen? ⟨b, j, none⟩ = false := by
 obtain ⟨cells, h1, h2, h3⟩ := h
 simp [World.frozen?, h1]
theorem Tab.set {W : World} {b : Nat} {f : Nat → Nat} (h : Tab W b f) (j v : Nat) (hj : j < 256) : Tab (W.setCell ⟨b, j, none⟩ (.int .u32 (v : Int))) b (fun i => if i = j then v else f i) := by
 obtain ⟨cells, h1, h2, h3⟩ := h
 refine ⟨cells.setIfInBounds j (.int .u32 (v : Int)), ?_, by simpa using h2, fun i hi => ?_⟩
 · show (W.heap.modify b _)[b]? = _
   rw [Array.getElem?_modify, if_pos rfl, h1]
   rfl
 · by_cases e : i = j
   · subst e
     simp [h2, hj]
   · rw [Array.getElem?_setIfInBounds_ne (Ne.symm e), h3 i hi]
     show _ = some (Value.int .u32 ((if i = j then v else f i : Nat) : Int))
     rw [if_neg e]
theorem Tab.heap {W W' : World} {b : Nat} {f : Nat → Nat} (h : Tab W b f) (e : W'.heap[b]? = W.heap[b]?) : Tab W' b f := by
 obtain ⟨cells, h1, h2⟩ := h
 exact ⟨cells, e.trans h1, h2⟩
theorem Tab.imp {W : World} {b : Nat} {f g : Nat → Nat} (h : Tab W b f) (e : ∀ j, j < 256 → f j = g j) : Tab W b g := by
 obtain ⟨cells, h1, h2, h3⟩ := h
 exact ⟨cells, h1, h2, fun j hj => by rw [h3 j hj, e j hj]⟩
theorem skip_ {P : Program} {ops : Array Oper} {oi : Oper} {a : Act} {w w1 : World} {K : Act → World → Prop} {Q : Exit → Act → World → Prop} (hN : oi.dst = none) (hw : Region.wanted oi (yielded ops a.tmps) = true) (hrun : (execOp a.eval oi).run P w = .ok .skip w1) (h : K a w1) :
 if Region.wanted oi (yielded ops a.tmps) = true then Oper.wp P oi a w K Q else K (a.put none undef) w := by
 rw [if_pos hw]
 unfold Oper.wp
 rw [hrun, Oper.upon_skip, hN]
 exact h
theorem crcN_snoc (n : Nat) (l : List Int) (k : Nat) (h : k < l.length) : crcN n (l.take (k + 1)) = stepsN 8 (crcN n (l.take k) ^^^ (l[k]'h).toNat) := by
 rw [take_at l k h, crcN_append]
 rfl
set_option maxHeartbeats 1000000 in
set_option maxRecDepth 100000 in
/-- A pass over bytes. -/
theorem crc_More.calls (b : Nat) (n : Int) (A : Option Addr) (c : Nat) (l : List Int) (w : World) (hT : Tab w b (fun j => stepsN 8 j)) (hn : 0 ≤ n ∧ n < 4294967296) (hr : Kd.C (Kd.int .u8) w A l.length l) (hb : bytesB l = true) :
 Calls Try.prog 94 #[.pointer (some ⟨b, 0, none⟩), .int .u32 n, .slice A l.length c] w fun e w' => e = .returned (.int .u32 (moreL n l)) ∧ w' = w := by
 have HBB : Hid _ := hb
 have hsg : IntKind.u32.signed = false := rfl
 obtain ⟨n, rfl⟩ := Int.eq_ofNat_of_zero_le hn.1
 have hnn : n < 4294967296 := by omega
 have hx0 : Go.bits .xor .u32 IntKind.u32.max (n : Int) = ((crcN (n ^^^ 4294967295) [] : Nat) : Int) := by
  have h := Go.u32_xor_nat 4294967295 n (by omega) hnn
  rw [show IntKind.u32.max = ((4294967295 : Nat) : Int) from rfl, h, crcN, Nat.xor_comm]
 have hm0 : n ^^^ 4294967295 < 4294967296 := by
  have : n ^^^ 4294967295 < 2 ^ 32 := Nat.xor_lt_two_pow (by omega) (by omega)
  exact this
 have HM : Hid _ := hm0
 have HX : Hid _ := hx0
 have hres : moreL (n : Int) l = ((crcN (n ^^^ 4294967295) l ^^^ 4294967295 : Nat) : Int) := by unfold moreL; rw [Int.toNat_natCast]
 rw [hres]
 clear hb hn hnn hx0 hres hm0
 obtain ⟨s, hs⟩ : ∃ s, n ^^^ 4294967295 = s := ⟨_, rfl⟩
 rw [hs] at HM HX ⊢
 clear hs
 go_enter Try.func94, Try.ntmps94
 go_wp2
 go_loopg [1, 15] l.length (fun g v1 v15 wr => ∃ k : Nat, k + g = l.length ∧ v15 = .int .i64 k ∧ v1 = .int .u32 ((crcN s (l.take k) : Nat) : Int) ∧ wr = w)
 case atStart => exact ⟨0, by omega, rfl, by rw [HX.out]; rfl, rfl⟩
 case round =>
  obtain ⟨k, hk, rfl, rfl, rfl⟩ := hrel
  have HK : Hid _ := hk
  by_cases hlt : k < l.length
  · obtain ⟨ad, hA, hcx⟩ := ReadsInt.at_ (Kd.reads_of_C (d := (0 : Int)) hr) (k : Int) (by omega) (by omega)
    rw [Int.toNat_natCast, show rd l (k : Int) = l[k] from getD_toNat l 0 k hlt] at hcx
    subst hA
    have hby := bytesB_at HBB.out _ (List.getElem_mem hlt)
    obtain ⟨x, hx⟩ := Int.eq_ofNat_of_zero_le hby.1
    have hsn := crcN_snoc s l k hlt
    have hm := crcN_lt (l.take k) HM.out (bytesB_take HBB.out k)
    rw [hx] at hcx hsn
    rw [Int.toNat_natCast] at hsn
    have hx8 : x < 256 := by omega
    obtain ⟨m, hmm⟩ : ∃ m, crcN s (l.take k) = m := ⟨_, rfl⟩
    rw [hmm] at hsn hm
    rw [hmm]
    rw [byte_table hx8] at hsn
    have hi : Go.bits .xor .u8 ((m : Int) % 256) (x : Int) = ((m % 256 ^^^ x : Nat) : Int) := by
     rw [show (m : Int) % 256 = ((m % 256 : Nat) : Int) from by omega, Go.u8_xor_nat _ _ (by omega) hx8]
    have hi8 : m % 256 ^^^ x < 256 := by
     have : m % 256 ^^^ x < 2 ^ 8 := Nat.xor_lt_two_pow (by omega) (by omega)
     exact this
    have hcell := hT.cell _ hi8
    have hd : (m : Int) / 256 = ((m / 256 : Nat) : Int) := by omega
    have h8 := stepsN_lt 8 (n := m % 256 ^^^ x) (by omega)
    have hxx := Go.u32_xor_nat (m / 256) (stepsN 8 (m % 256 ^^^ x)) (by omega) h8
    clear h8
    obtain ⟨j, hj⟩ : ∃ j, m % 256 ^^^ x = j := ⟨_, rfl⟩
    rw [hj] at hi hi8 hcell hsn hxx
    obtain ⟨y, hy⟩ : ∃ y, stepsN 8 j = y := ⟨_, rfl⟩
    obtain ⟨q, hq⟩ : ∃ q, m / 256 = q := ⟨_, rfl⟩
    obtain ⟨z, hz⟩ : ∃ z, q ^^^ y = z := ⟨_, rfl⟩
    rw [hy] at hcell hsn hxx
    rw [hq] at hd hsn hxx
    rw [hz] at hsn hxx
    have HSN : Hid _ := hsn
    clear hsn hby hx hmm hj hk hy hq hz
    have hsh : ∀ W : World, (Go.binOp .shr 24 (Value.int .u32 (m : Int)) (Value.int .u64 8)).run Try.prog W = .ok (.int .u32 (q : Int)) W := by
     intro W
     show (Op.shift .shr .u32 (m : Int) .u64 8).run Try.prog W = _
     rw [Go.shift_shr .u32 .u64 (m : Int) 8 (by omega) (by decide), show ((2 : Int) ^ (8 : Int).toNat) = 256 from rfl, hd]
     rfl
    go_wp2
    go_roundg (gk - 1)
    case measure => have := HK.out; omega
    case rel => exact ⟨k + 1, by have := HK.out; omega, by have := hr.2.1; rw [show wrap64 ((k : Int) + 1) = ((k + 1 : Nat) : Int) from by unfold wrap64; omega], by rw [HSN.out], rfl⟩
  · obtain rfl : k = l.length := by omega
    have hfin : Go.bits .xor .u32 IntKind.u32.max ((crcN s l : Nat) : Int) = ((crcN s l ^^^ 4294967295 : Nat) : Int) := by
     have h := Go.u32_xor_nat 4294967295 (crcN s l) (by omega) (crcN_lt l HM.out HBB.out)
     rw [show IntKind.u32.max = ((4294967295 : Nat) : Int) from rfl, h, Nat.xor_comm]
    rw [List.take_length]
    obtain ⟨m, hm⟩ : ∃ m, crcN s l = m := ⟨_, rfl⟩
    rw [hm] at hfin ⊢
    obtain ⟨z, hz⟩ : ∃ z, m ^^^ 4294967295 = z := ⟨_, rfl⟩
    rw [hz] at hfin
    have HZ : Hid _ := hz
    have HMM : Hid _ := hm
    clear hz hm hk
    go_wp2
    go_ret
    exact ⟨by rw [HMM.out, HZ.out]; rfl, rfl⟩
set_option maxHeartbeats 1000000 in
set_option maxRecDepth 100000 in
/-- The table. -/
theorem crc_Table.calls (w : World) :
 Calls Try.prog 95 #[] w fun e w' => e = .returned (.pointer (some ⟨w.heap.size, 0, none⟩)) ∧ Tab w' w.heap.size (fun j => stepsN 8 j) ∧ Below w.heap.size w w' ∧ w'.heap.size = w.heap.size + 1 := by
 have hzc : Try.zeroCells140 = Array.replicate 256 (.int .u32 0) := by rfl
 have hz : Tab (w.alloc (Obj.cells Try.zeroCells140 140)) w.heap.size (fun j => if j < 0 then stepsN 8 j else 0) := ⟨_, World.alloc_heap_new w _, by rw [hzc]; simp, fun j hj => by rw [hzc]; simp [hj]⟩
 have hB : Below w.heap.size w (w.alloc (Obj.cells Try.zeroCells140 140)) := (Below.refl _ w).alloc (Nat.le_refl _) _
 have HZ := Aside0.mk hz
 have HB := Aside0.mk hB
 clear hz hB hzc
 go_enter Try.func95, Try.ntmps95
 go_wp2
 go_loopg [5] 256 (fun g v5 wr => ∃ k : Nat, k + g = 256 ∧ v5 = .int .i64 k ∧ Aside0 (Tab wr w.heap.size (fun j => if j < k then stepsN 8 j else 0)) ∧ Aside0 (Below w.heap.size w wr) ∧ Aside0 (wr.heap.size = w.heap.size + 1))
 case atStart => exact ⟨0, by omega, rfl, HZ, HB, ⟨by simp⟩⟩
 case round =>
  clear HZ HB
  obtain ⟨k, hk, rfl, HZ, HB, HS⟩ := hrel
  have HK : Hid _ := hk
  by_cases hlt : k < 256
  · have hcon : IntKind.u32.wrap (k : Int) = (k : Int) := by simp [IntKind.wrap, IntKind.signed, IntKind.bits]; omega
    obtain ⟨q, hq⟩ := crc_Table_1.is k (by omega)
    clear hk
    go_wp2
    refine start_ (n := 9) (S := fun _ => True) (ds := []) #[false, false, false, false, false, false, false, false, false] (by kernel_rfl) rfl rfl trivial (fun _ => ?_)
    refine pure_ (i := 0) (N := some 8) (v := ?_) (a' := ?_) #[true, false, false, false, false, false, false, false, false] rfl rfl (by kernel_rfl) (fun _ _ _ h => h) (Or.inl ⟨by rfl, ?_⟩) ?_ ?_
    rotate_left
    · intro w'
      go_simp
      with_reducible rfl
    rotate_left
    · simp only [Act.put, List.setIfInBounds_toArray, List.set_cons_zero, List.set_cons_succ, i64_w, i32_w]
      rfl
    refine pure_ (i := 1) (N := some 9) (v := ?_) (a' := ?_) #[true, true, false, false, false, false, false, false, false] rfl rfl (by kernel_rfl) (fun _ _ _ h => h) (Or.inl ⟨by rfl, ?_⟩) ?_ ?_
    rotate_left
    · intro w'
      go_simp
      with_reducible rfl
    rotate_left
    · simp only [Act.put, List.setIfInBounds_toArray, List.set_cons_zero, List.set_cons_succ, i64_w, i32_w]
      rfl
    refine pure_ (i := 2) (N := some 10) (v := ?_) (a' := ?_) #[true, true, true, false, false, false, false, false, false] rfl rfl (by kernel_rfl) (fun _ _ _ h => h) (Or.inl ⟨by rfl, ?_⟩) ?_ ?_
    rotate_left
    · intro w'
      go_simp
      with_reducible rfl
    rotate_left
    · simp only [Act.put, List.setIfInBounds_toArray, List.set_cons_zero, List.set_cons_succ, i64_w, i32_w]
      rfl
    refine pure_ (i := 3) (N := some 11) (v := ?_) (a' := ?_) #[true, true, true, true, false, false, false, false, false] rfl rfl (by kernel_rfl) (fun _ _ _ h => h) (Or.inl ⟨by rfl, ?_⟩) ?_ ?_
    rotate_left
    · intro w'
      go_simp
      with_reducible rfl
    rotate_left
    · simp only [Act.put, List.setIfInBounds_toArray, List.set_cons_zero, List.set_cons_succ, i64_w, i32_w]
      rfl
    refine pure_ (i := 4) (N := some 12) (v := ?_) (a' := ?_) #[true, true, true, true, true, false, false, false, false] rfl rfl (by kernel_rfl) (fun _ _ _ h => h) (Or.inl ⟨by rfl, ?_⟩) ?_ ?_
    rotate_left
    · intro w'
      go_simp
      with_reducible rfl
    rotate_left
    · simp only [Act.put, List.setIfInBounds_toArray, List.set_cons_zero, List.set_cons_succ, i64_w, i32_w]
      rfl
    refine pure_ (i := 6) (N := some 14) (v := ?_) (a' := ?_) #[true, true, true, true, true, false, true, false, false] rfl rfl (by kernel_rfl) (fun _ _ _ h => h) (Or.inl ⟨by rfl, ?_⟩) ?_ ?_
    rotate_left
    · intro w'
      go_simp
      with_reducible rfl
    rotate_left
    · simp only [Act.put, List.setIfInBounds_toArray, List.set_cons_zero, List.set_cons_succ, i64_w, i32_w]
      rfl
    refine one_ (i := 5) (N := some 13) #[true, true, true, true, true, true, true, false, false] rfl rfl (by kernel_rfl) (by decide) (fun K hK => ?_)
    refine call_ 99 #[.int .u32 (k : Int)] (by rfl) rfl (by
     have he := enters_ Try.func99 (by kernel_rfl) rfl #[.int .u32 (k : Int)] wr.drew
     simp [go_sem, he]) ?_
    refine (crc_Table_1.calls q k _ wr.drew hq).mono ?_
    rintro e w5 ⟨rfl, hd5⟩
    have hz5 : Tab w5 w.heap.size (fun j => if j < k then stepsN 8 j else 0) := by
     obtain ⟨nd, rfl⟩ := hd5
     exact HZ.out.heap rfl
    have HB5 : Aside0 (Below w.heap.size w w5) := by
     obtain ⟨nd, rfl⟩ := hd5
     exact ⟨pw_below_drewN (Below.drew HB.out) _⟩
    have HS5 : Aside0 (w5.heap.size = w.heap.size + 1) := by
     obtain ⟨nd, rfl⟩ := hd5
     exact ⟨HS.out⟩
    clear hd5
    refine ⟨_, rfl, ?_⟩
    refine hK.out _ _ trivial (fun _ => ?_)
    clear hK K
    refine norm_ (a' := ?_) ?_ ?_
    rotate_left
    · show Act.put _ (some 13) _ = _
      simp only [Act.put, List.setIfInBounds_toArray, List.set_cons_zero, List.set_cons_succ, i64_w, i32_w]
      rfl
    refine pure_ (i := 7) (N := some 15) (v := ?_) (a' := ?_) #[true, true, true, true, true, true, true, true, false] rfl rfl (by kernel_rfl) (fun _ _ _ h => h) (Or.inl ⟨by rfl, ?_⟩) ?_ ?_
    rotate_left
    · intro w'
      go_simp
      with_reducible rfl
    rotate_left
    · simp only [Act.put, List.setIfInBounds_toArray, List.set_cons_zero, List.set_cons_succ, i64_w, i32_w]
      rfl
    have hc := hz5.cell k hlt
    have hf := hz5.frozen k
    refine one_ (i := 8) (N := none) #[true, true, true, true, true, true, true, true, true] rfl rfl (by kernel_rfl) (by decide) (fun K hK => ?_)
    refine skip_ rfl (by rfl) (w1 := w5.setCell ⟨w.heap.size, k, none⟩ (.int .u32 (stepsN 8 k : Nat))) (by simp [go_sem, hc, hf]) ?_
    refine hK.out _ _ trivial (fun _ => ?_)
    clear hK K
    refine done_ (by kernel_rfl) ?_
    have hz6 := hz5.set k (stepsN 8 k) hlt
    have hz7 := hz6.imp (g := fun j => if j < k + 1 then stepsN 8 j else 0) (fun j hj => by
     by_cases e : j = k
     · subst e
       rw [if_pos rfl, if_pos (by omega)]
     · rw [if_neg e]
       by_cases e2 : j < k
       · rw [if_pos e2, if_pos (by omega)]
       · rw [if_neg e2, if_neg (by omega)])
    have HZ7 := Aside0.mk hz7
    clear hz5 hz6 hz7 hc hf
    go_wp2
    go_roundg (gk - 1)
    case measure => have := HK.out; omega
    case rel => exact ⟨k + 1, by have := HK.out; omega, by simp, HZ7, ⟨below_set HB5.out (Nat.le_refl _)⟩, ⟨by simpa using HS5.out⟩⟩
  · obtain rfl : k = 256 := by omega
    have HZ8 := Aside0.mk (HZ.out.imp (g := fun j => stepsN 8 j) (fun j hj => if_pos hj))
    clear hk
    go_wp2
    go_ret
    exact ⟨rfl, HZ8.out, HB.out, HS.out⟩
end Go.Proofs.Ytbijnfhcbanhdaa.F
end

section
namespace Go.Proofs.Ytbijnfhcbanhdaa.F
open Go.RowKit Go.Proofs.YtbijnfhcbanhdaaW.PrintWords Go.Proofs.YtbijnfhcbanhdaaW.PrintLast Go.Proofs.YtbijnfhcbanhdaaW.PrintMore
attribute [local go_sem] max2_int min2_int max_two min_two max_three min_three max_four min_four   -- for this text's walks alone
set_option linter.unusedVariables false
set_option linter.unusedSimpArgs false

open Go.Proofs.Ytbijnfhcbanhdaa.H
/-! ### crc_Sum: given -/
def crc_Sum.f (l0 : List Int) : Option Int := if bytesB l0 = true then some (sumL l0) else none
set_option maxHeartbeats 1000000 in
set_option maxRecDepth 100000 in
theorem crc_Sum.calls (A0 : Option Addr) (c0 : Nat) (l0 : List Int) (r : Int) (w : World) (hr0 : Kd.C (Kd.int .u8) w A0 l0.length l0) (hc0 : l0.length ≤ c0) (h : crc_Sum.f l0 = some r) :
 Calls Try.prog 82 #[.slice A0 l0.length c0] w fun e w' => e = .returned (.int .u32 r) ∧ Below w.heap.size w w' := by
 unfold crc_Sum.f at h
 split at h
 case isFalse => cases h
 case isTrue hb =>
 obtain rfl := Option.some.inj h
 clear h
 go_enter Try.func82, Try.ntmps82
 go_wp2_with (first
  | (go_at_call 95; refine (crc_Table.calls _).mono ?_; rintro e w1 ⟨rfl, hT, hB, hS⟩; have HT := Aside0.mk hT; have HB := Aside0.mk hB; clear hT hB hS)
  | (go_at_call 94; refine (crc_More.calls _ 0 A0 c0 l0 _ HT.out (by omega) (Kd.C_below hr0 HB.out) hb).mono ?_; rintro e w2 ⟨rfl, rfl⟩))
 go_ret
 exact ⟨rfl, HB.out⟩

end Go.Proofs.Ytbijnfhcbanhdaa.F
end

section
namespace Go.Proofs.Ytbijnfhcbanhdaa.F
open Go.RowKit Go.Proofs.YtbijnfhcbanhdaaW.PrintWords Go.Proofs.YtbijnfhcbanhdaaW.PrintLast Go.Proofs.YtbijnfhcbanhdaaW.PrintMore
attribute [local go_sem] max2_int min2_int max_two min_two max_three min_three max_four min_four   -- for this text's walks alone
set_option linter.unusedVariables false
set_option linter.unusedSimpArgs false

/-! ### crc_Seal: function 47 -/
def crc_Seal.f (l0 : List Int) : Option (List Int) := (bytes_Clone.f l0).bind fun t101 => ((crc_Sum.f l0).bind fun t104 => ((word_Put.f (IntKind.u64.wrap (t104)) 4).bind fun t105 => (if t101.length + t105.length < 140737488355328 then (some (t101 ++ t105)) else (none))))
set_option maxHeartbeats 8000000 in
set_option maxRecDepth 100000 in
theorem crc_Seal.calls (A0 : Option Addr) (c0 : Nat) (l0 : List Int) (r : List Int) (w : World) (hr0 : Kd.C (Kd.int .u8) w A0 l0.length l0) (hc0 : l0.length ≤ c0) (h : crc_Seal.f l0 = some r) :
 Calls Try.prog 47 #[.slice A0 l0.length c0] w fun e w' => ∃ v0_ : Value, e = .returned (v0_) ∧ Kd.R (Kd.int .u8) 5 w' w.heap.size (fun _ => True) v0_ r ∧ Below w.heap.size w w' := by
 have HR0 := Aside0.mk hr0
 have HC0 := Aside0.mk hc0
 clear hr0 hc0
 have HB := Aside0.mk (Below.refl w.heap.size w)
 have H : ((bytes_Clone.f l0).bind fun t101 => ((crc_Sum.f l0).bind fun t104 => ((word_Put.f (IntKind.u64.wrap (t104)) 4).bind fun t105 => (if t101.length + t105.length < 140737488355328 then (some (t101 ++ t105)) else (none))))) = some r := h
 clear h
 replace H := Option.bind_eq_some_iff.mp H
 obtain ⟨t101, A20, H⟩ := H
 replace H : ((crc_Sum.f l0).bind fun t104 => ((word_Put.f (IntKind.u64.wrap (t104)) 4).bind fun t105 => (if t101.length + t105.length < 140737488355328 then (some (t101 ++ t105)) else (none)))) = some r := H
 have A2 := Aside0.mk A20
 clear A20
 replace H := Option.bind_eq_some_iff.mp H
 obtain ⟨t104, A30, H⟩ := H
 replace H : ((word_Put.f (IntKind.u64.wrap (t104)) 4).bind fun t105 => (if t101.length + t105.length < 140737488355328 then (some (t101 ++ t105)) else (none))) = some r := H
 have A3 := Aside0.mk A30
 clear A30
 replace H := Option.bind_eq_some_iff.mp H
 obtain ⟨t105, A40, H⟩ := H
 replace H : (if t101.length + t105.length < 140737488355328 then (some (t101 ++ t105)) else (none)) = some r := H
 have A4 := Aside0.mk A40
 clear A40
 by_cases c5 : t101.length + t105.length < 140737488355328
 · rw [if_pos c5] at H
   have LMc5 := Aside0.mk c5
   clear c5
   obtain ⟨y108, hy108⟩ : ∃ y_ : List Int, y_ = (t101 ++ t105) := ⟨_, rfl⟩
   replace H : (some y108) = some r := by first | (rw [hy108]; with_reducible exact H) | (have H2_ := (Option.bind_some _ _).symm.trans H; rw [hy108]; with_reducible exact H2_) | (have H2_ := (Option.bind_some _ _).symm.trans H; with_reducible exact H2_) | with_reducible exact H | (rw [hy108]; exact H) | exact H
   have Ny108 := Aside0.mk hy108
   clear hy108
   obtain rfl := Option.some.inj H
   go_enter Try.func47, Try.ntmps47
   go_wp2_with (first | ((with_reducible refine gate_callee (f := 50) rfl ?_); refine goesL_ (some 4) rfl rfl Try.func50 (by kernel_rfl) rfl #[.slice A0 l0.length c0] rfl (by (try simp only [List.map_toArray, List.map_cons, List.map_nil]); first | done | rfl | (simp only [List.length_drop, List.length_take]; rfl)) ?_; (with_reducible refine (bytes_Clone.calls _ _ l0 t101 _ ?side1 ?side2 A2.out).mono ?_); (case side1 => repeat (first | exact HR0.out | (with_reducible refine Kd.C_alloc ?_ _) | (with_reducible refine Kd.C_drewN ?_ _) | (with_reducible refine Kd.C_drew ?_))); (case side2 => exact HC0.out); rintro e w6 ⟨v102, rfl, ho0, hb⟩; refine ⟨_, rfl, ?_⟩; have n0_ := Aside0.mk (Kd.R_lower ho0 (below_size (by repeat (first | (with_reducible first | exact HB.out | apply below_alloc | apply pw_below_drewN | apply below_drew1) | exact HB.out)))); have n1_ := Aside0.mk (below_step (by repeat (first | (with_reducible first | exact HB.out | apply below_alloc | apply pw_below_drewN | apply below_drew1) | exact HB.out)) hb); clear HB; have HO103 := n0_; have HB := n1_; clear n0_ n1_; (try clear hb); (try clear hb2); (try clear hk); (try clear hi); (try clear ho0)) | ((with_reducible refine gate_callee (f := 82) rfl ?_); refine goesL_ (some 6) rfl rfl Try.func82 (by kernel_rfl) rfl #[.slice A0 l0.length c0] rfl (by (try simp only [List.map_toArray, List.map_cons, List.map_nil]); first | done | rfl | (simp only [List.length_drop, List.length_take]; rfl)) ?_; (with_reducible refine (crc_Sum.calls _ _ l0 t104 _ ?side1 ?side2 A3.out).mono ?_); (case side1 => repeat (first | exact (Kd.C_below HR0.out HB.out) | (with_reducible refine Kd.C_alloc ?_ _) | (with_reducible refine Kd.C_drewN ?_ _) | (with_reducible refine Kd.C_drew ?_))); (case side2 => exact HC0.out); rintro e w7 ⟨rfl, hb⟩; refine ⟨_, rfl, ?_⟩; have n0_ := Aside0.mk (Kd.R_below (by (with_reducible repeat (first | apply Kd.R_alloc | apply Kd.R_drewN | apply Kd.R_drew)); exact HO103.out) hb); have n1_ := Aside0.mk (below_step (by repeat (first | (with_reducible first | exact HB.out | apply below_alloc | apply pw_below_drewN | apply below_drew1) | exact HB.out)) hb); clear HO103; clear HB; have HO103 := n0_; have HB := n1_; clear n0_ n1_; (try clear hb); (try clear hb2); (try clear hk); (try clear hi)) | ((with_reducible refine gate_callee (f := 46) rfl ?_); refine goesL_ (some 8) rfl rfl Try.func46 (by kernel_rfl) rfl #[.int .u64 (IntKind.u64.wrap (t104)), .int .i64 4] rfl (by (try simp only [List.map_toArray, List.map_cons, List.map_nil]); first | done | rfl | (simp only [List.length_drop, List.length_take]; rfl)) ?_; (with_reducible refine (word_Put.calls (IntKind.u64.wrap (t104)) 4 t105 _ A4.out).mono ?_); rintro e w8 ⟨v106, rfl, ho0, hb⟩; refine ⟨_, rfl, ?_⟩; have n0_ := Aside0.mk (Kd.R_elder' (by (with_reducible repeat (first | apply Kd.R_alloc | apply Kd.R_drewN | apply Kd.R_drew)); exact HO103.out) (Kd.R_base ho0) hb); have n1_ := Aside0.mk (Kd.R_lower (Kd.R_new' ho0 (Kd.R_lt (by (with_reducible repeat (first | apply Kd.R_alloc | apply Kd.R_drewN | apply Kd.R_drew)); exact HO103.out))) (below_size (by repeat (first | (with_reducible first | exact HB.out | apply below_alloc | apply pw_below_drewN | apply below_drew1) | exact HB.out)))); have n2_ := Aside0.mk (below_step (by repeat (first | (with_reducible first | exact HB.out | apply below_alloc | apply pw_below_drewN | apply below_drew1) | exact HB.out)) hb); clear HO103; clear HB; have HO103 := n0_; have HO107 := n1_; have HB := n2_; clear n0_ n1_ n2_; (try clear hb); (try clear hb2); (try clear hk); (try clear hi); (try clear ho0); obtain ⟨Ao10, co10, eo10⟩ := Kd.R_slice HO107.out; subst eo10) | ((with_reducible refine gate_builtin (b := .append) (xs := #[.tmp 4, .tmp 8]) rfl ?_); at_builtin; refine Kd.R_append_rows (Kd.int .u8) (w0 := w) w.heap.size rfl (.tmp 4) (.tmp 8) 27 5 (.int .u8 0) 1 rfl Try.underlying27 info5 rfl (by decide) (by omega) v102 t101 t105 _ _ _ (fun k_ => some k_ ≠ (.slice Ao10 t105.length co10 : Value).ownBlock) (fun _ => False) rfl rfl ?aO ?aR (fun _ _ h => h) (fun _ h => h.elim) ?aF ?aB ?aS ?aL ?_; (case aR => repeat (first | exact (Kd.R_reads' HO107.out).2.2 | (with_reducible refine Kd.C_alloc ?_ _) | (with_reducible refine Kd.C_drewN ?_ _) | (with_reducible refine Kd.C_drew ?_))); (case aB => exact (by repeat (first | (with_reducible first | exact HB.out | apply below_alloc | apply pw_below_drewN | apply below_drew1) | exact HB.out))); (case aF => exact (fun k_ hk => Kd.fresh' (Kd.R_lt (by (with_reducible repeat (first | apply Kd.R_alloc | apply Kd.R_drewN | apply Kd.R_drew)); exact HO107.out)) k_ hk)); (case aO => exact (by (with_reducible repeat (first | apply Kd.R_alloc | apply Kd.R_drewN | apply Kd.R_drew)); exact Kd.R_mono HO103.out (fun _ hk => hk.2))); (case aS => exact (below_size (by repeat (first | (with_reducible first | exact HB.out | apply below_alloc | apply pw_below_drewN | apply below_drew1) | exact HB.out)))); (case aL => have := LMc5.out; omega); intro v109 w9 ho hb hg hat; rw [← Ny108.out] at ho; have n0_ := Aside0.mk (Kd.R_after (ok := (fun _ => True)) (by (with_reducible repeat (first | apply Kd.R_alloc | apply Kd.R_drewN | apply Kd.R_drew)); exact HO107.out) hg hat); have n1_ := Aside0.mk (hb); have n2_ := Aside0.mk (ho); clear HO107; clear HB; clear HO103; have HO107 := n0_; have HB := n1_; have HO110 := n2_; clear n0_ n1_ n2_; clear ho hb hg hat))
   go_ret
   exact ⟨_, by first | rfl | (simp [errW_none, errW_some] <;> rfl) | (simp [*, errW_none, errW_some] <;> rfl), by (with_reducible repeat (first | apply Kd.R_alloc | apply Kd.R_drewN | apply Kd.R_drew)); exact Kd.R_mono HO110.out (fun _ hk => trivial), by repeat (first | (with_reducible first | exact HB.out | apply below_alloc | apply pw_below_drewN | apply below_drew1) | exact HB.out)⟩
 · rw [if_neg c5] at H
   exact absurd H (by simp)

end Go.Proofs.Ytbijnfhcbanhdaa.F
end

section
namespace Go.Proofs.Ytbijnfhcbanhdaa.F
open Go.RowKit Go.Proofs.YtbijnfhcbanhdaaW.PrintWords Go.Proofs.YtbijnfhcbanhdaaW.PrintLast Go.Proofs.YtbijnfhcbanhdaaW.PrintMore
attribute [local go_sem] max2_int min2_int max_two min_two max_three min_three max_four min_four   -- for this text's walks alone
set_option linter.unusedVariables false
set_option linter.unusedSimpArgs false

/-! ### token_Encode: function 19 -/
def token_Encode.l0 : Nat → List Int → List Int → Int → Int → Int → List Int → Int → List Int → Option (List Int × Int)
 | 0, _, _, _, _, _, _, _, _ => none
 | k + 1, x5, x30, x31, x32, x102000, x102001, x102002, x102003 => if x32 < x31 then (if 0 ≤ x32 then (if x32 < (x30.length : Int) then ((word_Put.f (IntKind.u64.wrap (rd x30 x32)) 2).bind fun t120 => (if x5.length + t120.length < 140737488355328 then (token_Encode.l0 k (x5 ++ t120) x30 x31 (wrap64 (x32 + 1)) x102000 x102001 x102002 x102003) else (none))) else (none)) else (none)) else (if x5.length + x102003.length < 140737488355328 then ((crc_Seal.f (x5 ++ x102003)).bind fun t129 => (some (t129, 0))) else (none))
def token_Encode.f (k : Nat) (a0_0 : Int) (l0_1 : List Int) (a0_2 : Int) (l0_3 : List Int) : Option (List Int × Int) := (token_Right.f a0_0 l0_1 a0_2 l0_3).bind fun t102 => (if t102 = true then ((word_Put.f a0_0 8).bind fun t104 => ((word_Put.f (IntKind.u64.wrap (a0_2)) 4).bind fun t107 => (if t104.length + t107.length < 140737488355328 then ((some (t104 ++ t107 : List Int)).bind fun y110 => ((word_Put.f (IntKind.u64.wrap ((l0_1.length : Int))) 1).bind fun t113 => (if y110.length + t113.length < 140737488355328 then (token_Encode.l0 k (y110 ++ t113) l0_1 (l0_1.length : Int) 0 a0_0 l0_1 a0_2 l0_3) else (none)))) else (none)))) else (some (([] : List Int), 1)))
theorem token_Encode.mono_l : ∀ k, (∀ y0 y1 y2 y3 y4 y5 y6 y7, LeO (token_Encode.l0 k y0 y1 y2 y3 y4 y5 y6 y7) (token_Encode.l0 (k + 1) y0 y1 y2 y3 y4 y5 y6 y7))
 | 0 => fun _ _ _ _ _ _ _ _ r h => by simp [token_Encode.l0] at h
 | k + 1 => by
   have ih0 := token_Encode.mono_l k
   · intro y0 y1 y2 y3 y4 y5 y6 y7
     unfold token_Encode.l0
     repeat' first
     | (with_reducible exact ih0 _ _ _ _ _ _ _ _)
     | (with_reducible exact LeO.refl _)
     | (with_reducible exact LeO.none _)
     | (with_reducible refine LeO.ite ?_ ?_)
     | (with_reducible refine LeO.bind ?_ (fun _ => ?_))
     | exact ih0 _ _ _ _ _ _ _ _
     | exact LeO.none _
     | refine LeO.ite ?_ ?_
     | refine LeO.bind ?_ (fun _ => ?_)
theorem token_Encode.mono : ∀ a0 a1 a2 a3 k, LeO (token_Encode.f k a0 a1 a2 a3) (token_Encode.f (k + 1) a0 a1 a2 a3) := by
 intro a0 a1 a2 a3 k
 have ih0 := token_Encode.mono_l k
 unfold token_Encode.f
 repeat' first
  | (with_reducible exact ih0 _ _ _ _ _ _ _ _)
  | (with_reducible exact LeO.refl _)
  | (with_reducible exact LeO.none _)
  | (with_reducible refine LeO.ite ?_ ?_)
  | (with_reducible refine LeO.bind ?_ (fun _ => ?_))
  | exact ih0 _ _ _ _ _ _ _ _
  | exact LeO.none _
  | refine LeO.ite ?_ ?_
  | refine LeO.bind ?_ (fun _ => ?_)
set_option maxHeartbeats 8000000 in
set_option maxRecDepth 100000 in
theorem token_Encode.calls (k : Nat) (a0_0 : Int) (A0_1 : Option Addr) (c0_1 : Nat) (l0_1 : List Int) (a0_2 : Int) (A0_3 : Option Addr) (c0_3 : Nat) (l0_3 : List Int) (r1 : List Int) (r2 : Int) (w : World) (hr0_1 : Kd.C (Kd.int .i64) w A0_1 l0_1.length l0_1) (hc0_1 : l0_1.length ≤ c0_1) (hr0_3 : Kd.C (Kd.int .u8) w A0_3 l0_3.length l0_3) (hc0_3 : l0_3.length ≤ c0_3) (h : token_Encode.f k a0_0 l0_1 a0_2 l0_3 = some (r1, r2)) :
 Calls Try.prog 19 #[.agg #[.int .u64 a0_0, .slice A0_1 l0_1.length c0_1, .int .u32 a0_2, .slice A0_3 l0_3.length c0_3]] w fun e w' => ∃ v0_ : Value, e = .returned (.tuple #[v0_, .int .u16 r2]) ∧ Kd.R (Kd.int .u8) 5 w' w.heap.size (fun _ => True) v0_ r1 ∧ Below w.heap.size w w' := by
 have hu29 := Try.underlying29
 have hu26 := Try.underlying26
 have HR0_1 := Aside0.mk hr0_1
 have HC0_1 := Aside0.mk hc0_1
 clear hr0_1 hc0_1
 have HR0_3 := Aside0.mk hr0_3
 have HC0_3 := Aside0.mk hc0_3
 clear hr0_3 hc0_3
 have HB := Aside0.mk (Below.refl w.heap.size w)
 have H : ((token_Right.f a0_0 l0_1 a0_2 l0_3).bind fun t102 => (if t102 = true then ((word_Put.f a0_0 8).bind fun t104 => ((word_Put.f (IntKind.u64.wrap (a0_2)) 4).bind fun t107 => (if t104.length + t107.length < 140737488355328 then ((some (t104 ++ t107 : List Int)).bind fun y110 => ((word_Put.f (IntKind.u64.wrap ((l0_1.length : Int))) 1).bind fun t113 => (if y110.length + t113.length < 140737488355328 then (token_Encode.l0 k (y110 ++ t113) l0_1 (l0_1.length : Int) 0 a0_0 l0_1 a0_2 l0_3) else (none)))) else (none)))) else (some (([] : List Int), 1)))) = some (r1, r2) := h
 clear h
 replace H := Option.bind_eq_some_iff.mp H
 obtain ⟨t102, A20, H⟩ := H
 replace H : (if t102 = true then ((word_Put.f a0_0 8).bind fun t104 => ((word_Put.f (IntKind.u64.wrap (a0_2)) 4).bind fun t107 => (if t104.length + t107.length < 140737488355328 then ((some (t104 ++ t107 : List Int)).bind fun y110 => ((word_Put.f (IntKind.u64.wrap ((l0_1.length : Int))) 1).bind fun t113 => (if y110.length + t113.length < 140737488355328 then (token_Encode.l0 k (y110 ++ t113) l0_1 (l0_1.length : Int) 0 a0_0 l0_1 a0_2 l0_3) else (none)))) else (none)))) else (some (([] : List Int), 1))) = some (r1, r2) := H
 have A2 := Aside0.mk A20
 clear A20
 by_cases c3 : t102 = true
 · subst c3
   have H1 : ((word_Put.f a0_0 8).bind fun t104 => ((word_Put.f (IntKind.u64.wrap (a0_2)) 4).bind fun t107 => (if t104.length + t107.length < 140737488355328 then ((some (t104 ++ t107 : List Int)).bind fun y110 => ((word_Put.f (IntKind.u64.wrap ((l0_1.length : Int))) 1).bind fun t113 => (if y110.length + t113.length < 140737488355328 then (token_Encode.l0 k (y110 ++ t113) l0_1 (l0_1.length : Int) 0 a0_0 l0_1 a0_2 l0_3) else (none)))) else (none)))) = some (r1, r2) := by rw [if_pos rfl] at H; exact H
   clear H
   have H := H1
   clear H1
   replace H := Option.bind_eq_some_iff.mp H
   obtain ⟨t104, A40, H⟩ := H
   replace H : ((word_Put.f (IntKind.u64.wrap (a0_2)) 4).bind fun t107 => (if t104.length + t107.length < 140737488355328 then ((some (t104 ++ t107 : List Int)).bind fun y110 => ((word_Put.f (IntKind.u64.wrap ((l0_1.length : Int))) 1).bind fun t113 => (if y110.length + t113.length < 140737488355328 then (token_Encode.l0 k (y110 ++ t113) l0_1 (l0_1.length : Int) 0 a0_0 l0_1 a0_2 l0_3) else (none)))) else (none))) = some (r1, r2) := H
   have A4 := Aside0.mk A40
   clear A40
   replace H := Option.bind_eq_some_iff.mp H
   obtain ⟨t107, A50, H⟩ := H
   replace H : (if t104.length + t107.length < 140737488355328 then ((some (t104 ++ t107 : List Int)).bind fun y110 => ((word_Put.f (IntKind.u64.wrap ((l0_1.length : Int))) 1).bind fun t113 => (if y110.length + t113.length < 140737488355328 then (token_Encode.l0 k (y110 ++ t113) l0_1 (l0_1.length : Int) 0 a0_0 l0_1 a0_2 l0_3) else (none)))) else (none)) = some (r1, r2) := H
   have A5 := Aside0.mk A50
   clear A50
   by_cases c6 : t104.length + t107.length < 140737488355328
   · rw [if_pos c6] at H
     have LMc6 := Aside0.mk c6
     clear c6
     obtain ⟨y110, hy110⟩ : ∃ y_ : List Int, y_ = (t104 ++ t107) := ⟨_, rfl⟩
     replace H : ((word_Put.f (IntKind.u64.wrap ((l0_1.length : Int))) 1).bind fun t113 => (if y110.length + t113.length < 140737488355328 then (token_Encode.l0 k (y110 ++ t113) l0_1 (l0_1.length : Int) 0 a0_0 l0_1 a0_2 l0_3) else (none))) = some (r1, r2) := by first | (rw [hy110]; with_reducible exact H) | (have H2_ := (Option.bind_some _ _).symm.trans H; rw [hy110]; with_reducible exact H2_) | (have H2_ := (Option.bind_some _ _).symm.trans H; with_reducible exact H2_) | with_reducible exact H | (rw [hy110]; exact H) | exact H
     have Ny110 := Aside0.mk hy110
     clear hy110
     replace H := Option.bind_eq_some_iff.mp H
     obtain ⟨t113, A70, H⟩ := H
     replace H : (if y110.length + t113.length < 140737488355328 then (token_Encode.l0 k (y110 ++ t113) l0_1 (l0_1.length : Int) 0 a0_0 l0_1 a0_2 l0_3) else (none)) = some (r1, r2) := H
     have A7 := Aside0.mk A70
     clear A70
     by_cases c8 : y110.length + t113.length < 140737488355328
     · rw [if_pos c8] at H
       have LMc8 := Aside0.mk c8
       clear c8
       obtain ⟨y116, hy116⟩ : ∃ y_ : List Int, y_ = (y110 ++ t113) := ⟨_, rfl⟩
       replace H : (token_Encode.l0 k y116 l0_1 (l0_1.length : Int) 0 a0_0 l0_1 a0_2 l0_3) = some (r1, r2) := by first | (rw [hy116]; with_reducible exact H) | (have H2_ := (Option.bind_some _ _).symm.trans H; rw [hy116]; with_reducible exact H2_) | (have H2_ := (Option.bind_some _ _).symm.trans H; with_reducible exact H2_) | with_reducible exact H | (rw [hy116]; exact H) | exact H
       have Ny116 := Aside0.mk hy116
       clear hy116
       have H' := Aside0.mk H
       clear H
       go_enter Try.func19, Try.ntmps19
       go_wp2_with (first | ((with_reducible refine gate_dst (N := 1) rfl ?_); refine box_event ?hg (N := 1) ?hd (cs := #[.int .u64 a0_0, .slice A0_1 l0_1.length c0_1, .int .u32 a0_2, .slice A0_3 l0_3.length c0_3]) (t := 29) ?hr ?_; (case hd => rfl); (case hg => rfl); (case hr => first | (go_simp; done) | (go_simp; rfl)); intro gb101 hg w9 hbox hb; have n0_ := Aside0.mk (below_step (by repeat (first | (with_reducible first | exact HB.out | apply below_alloc | apply pw_below_drewN | apply below_drew1) | exact HB.out)) hb); have n1_ := Aside0.mk (hbox); have n2_ := Aside0.mk ((by rw [hg]; exact (below_size (by repeat (first | (with_reducible first | exact HB.out | apply below_alloc | apply pw_below_drewN | apply below_drew1) | exact HB.out))) : w.heap.size ≤ gb101)); have n3_ := Aside0.mk ((by rw [hg]; exact (below_size (by repeat (first | (with_reducible first | exact HB.out | apply below_alloc | apply pw_below_drewN | apply below_drew1) | exact HB.out))) : w.heap.size ≤ gb101)); clear HB; have HB := n0_; have BK101 := n1_; have GW101 := n2_; have GE101 := n3_; clear n0_ n1_ n2_ n3_; clear hb hbox hg; have hcz10_0 : w9.cell? ⟨gb101, 0, none⟩ = some (.int .u64 a0_0) := (blk_cell BK101.out 0).trans rfl; have hcz10_1 : w9.cell? ⟨gb101, 1, none⟩ = some (.slice A0_1 l0_1.length c0_1) := (blk_cell BK101.out 1).trans rfl; have hcz10_2 : w9.cell? ⟨gb101, 2, none⟩ = some (.int .u32 a0_2) := (blk_cell BK101.out 2).trans rfl; have hcz10_3 : w9.cell? ⟨gb101, 3, none⟩ = some (.slice A0_3 l0_3.length c0_3) := (blk_cell BK101.out 3).trans rfl; have hfz10_0 := blk_frozen BK101.out 0; have hfz10_1 := blk_frozen BK101.out 1; have hfz10_2 := blk_frozen BK101.out 2; have hfz10_3 := blk_frozen BK101.out 3) | ((with_reducible refine gate_callee (f := 24) rfl ?_); refine goesL_ (some 9) rfl rfl Try.func24 (by kernel_rfl) rfl #[.agg #[.int .u64 a0_0, .slice A0_1 l0_1.length c0_1, .int .u32 a0_2, .slice A0_3 l0_3.length c0_3]] rfl (by (try simp only [List.map_toArray, List.map_cons, List.map_nil]); first | done | rfl | (simp only [List.length_drop, List.length_take]; rfl)) ?_; (with_reducible refine (token_Right.calls a0_0 _ _ l0_1 a0_2 _ _ l0_3 true _ ?side1 ?side2 ?side3 ?side4 A2.out).mono ?_); (case side1 => repeat (first | exact (Kd.C_below HR0_1.out HB.out) | (with_reducible refine Kd.C_alloc ?_ _) | (with_reducible refine Kd.C_drewN ?_ _) | (with_reducible refine Kd.C_drew ?_))); (case side2 => exact HC0_1.out); (case side3 => repeat (first | exact (Kd.C_below HR0_3.out HB.out) | (with_reducible refine Kd.C_alloc ?_ _) | (with_reducible refine Kd.C_drewN ?_ _) | (with_reducible refine Kd.C_drew ?_))); (case side4 => exact HC0_3.out); rintro e w11 ⟨rfl, hb⟩; refine ⟨_, rfl, ?_⟩; have n0_ := Aside0.mk (blk_below (g := gb101) (o := .cells #[.int .u64 a0_0, .slice A0_1 l0_1.length c0_1, .int .u32 a0_2, .slice A0_3 l0_3.length c0_3] 29 (0, 0)) (by (with_reducible repeat (first | refine blk_drewN ?_ _ | refine blk_drew ?_ | refine blk_alloc ?_ _)); exact BK101.out) hb); have n1_ := Aside0.mk (below_step (by repeat (first | (with_reducible first | exact HB.out | apply below_alloc | apply pw_below_drewN | apply below_drew1 | refine below_set ?_ GE101.out) | exact HB.out)) hb); clear BK101; clear HB; have BK101 := n0_; have HB := n1_; clear n0_ n1_; (try clear hb); (try clear hb2); (try clear hk); (try clear hi); have hcz12_0 : w11.cell? ⟨gb101, 0, none⟩ = some (.int .u64 a0_0) := (blk_cell BK101.out 0).trans rfl; have hcz12_1 : w11.cell? ⟨gb101, 1, none⟩ = some (.slice A0_1 l0_1.length c0_1) := (blk_cell BK101.out 1).trans rfl; have hcz12_2 : w11.cell? ⟨gb101, 2, none⟩ = some (.int .u32 a0_2) := (blk_cell BK101.out 2).trans rfl; have hcz12_3 : w11.cell? ⟨gb101, 3, none⟩ = some (.slice A0_3 l0_3.length c0_3) := (blk_cell BK101.out 3).trans rfl; have hfz12_0 := blk_frozen BK101.out 0; have hfz12_1 := blk_frozen BK101.out 1; have hfz12_2 := blk_frozen BK101.out 2; have hfz12_3 := blk_frozen BK101.out 3) | ((with_reducible refine gate_dst (N := 4) rfl ?_); refine box_event ?hg (N := 4) ?hd (cs := #[.int .u64 0, .slice none 0 0, .int .u32 0]) (t := 26) ?hr ?_; (case hd => rfl); (case hg => rfl); (case hr => first | (go_simp; done) | (go_simp; rfl)); intro gb103 hg w13 hbox hb; have n0_ := Aside0.mk (blk_below (g := gb101) (o := .cells #[.int .u64 a0_0, .slice A0_1 l0_1.length c0_1, .int .u32 a0_2, .slice A0_3 l0_3.length c0_3] 29 (0, 0)) (by (with_reducible repeat (first | refine blk_drewN ?_ _ | refine blk_drew ?_ | refine blk_alloc ?_ _)); exact BK101.out) hb); have n1_ := Aside0.mk (below_step (by repeat (first | (with_reducible first | exact HB.out | apply below_alloc | apply pw_below_drewN | apply below_drew1 | refine below_set ?_ GE101.out) | exact HB.out)) hb); have n2_ := Aside0.mk (hbox); have n3_ := Aside0.mk ((by rw [hg]; exact (below_size (by repeat (first | (with_reducible first | exact HB.out | apply below_alloc | apply pw_below_drewN | apply below_drew1 | refine below_set ?_ GE101.out) | exact HB.out))) : w.heap.size ≤ gb103)); have n4_ := Aside0.mk ((by rw [hg]; exact (below_size (by repeat (first | (with_reducible first | exact HB.out | apply below_alloc | apply pw_below_drewN | apply below_drew1 | refine below_set ?_ GE101.out) | exact HB.out))) : w.heap.size ≤ gb103)); have n5_ := Aside0.mk ((by rw [hg]; exact Nat.ne_of_lt (blk_lt (g := gb101) (o := .cells #[.int .u64 a0_0, .slice A0_1 l0_1.length c0_1, .int .u32 a0_2, .slice A0_3 l0_3.length c0_3] 29 (0, 0)) (by (with_reducible repeat (first | refine blk_drewN ?_ _ | refine blk_drew ?_ | refine blk_alloc ?_ _)); exact BK101.out)) : gb101 ≠ gb103)); have n6_ := Aside0.mk ((by rw [hg]; exact Nat.ne_of_gt (blk_lt (g := gb101) (o := .cells #[.int .u64 a0_0, .slice A0_1 l0_1.length c0_1, .int .u32 a0_2, .slice A0_3 l0_3.length c0_3] 29 (0, 0)) (by (with_reducible repeat (first | refine blk_drewN ?_ _ | refine blk_drew ?_ | refine blk_alloc ?_ _)); exact BK101.out)) : gb103 ≠ gb101)); clear BK101; clear HB; have BK101 := n0_; have HB := n1_; have BK103 := n2_; have GW103 := n3_; have GE103 := n4_; have NB101_103 := n5_; have NB103_101 := n6_; clear n0_ n1_ n2_ n3_ n4_ n5_ n6_; clear hb hbox hg; have hnb14 := NB103_101.out; have hnc14 := NB101_103.out; have hcz15_0 : w13.cell? ⟨gb103, 0, none⟩ = some (.int .u64 0) := (blk_cell BK103.out 0).trans rfl; have hcz15_1 : w13.cell? ⟨gb103, 1, none⟩ = some (.slice none 0 0) := (blk_cell BK103.out 1).trans rfl; have hcz15_2 : w13.cell? ⟨gb103, 2, none⟩ = some (.int .u32 0) := (blk_cell BK103.out 2).trans rfl; have hfz15_0 := blk_frozen BK103.out 0; have hfz15_1 := blk_frozen BK103.out 1; have hfz15_2 := blk_frozen BK103.out 2) | ((with_reducible refine gate_callee (f := 46) rfl ?_); refine goesL_ (some 15) rfl rfl Try.func46 (by kernel_rfl) rfl #[.int .u64 a0_0, .int .i64 8] rfl (by (try simp only [List.map_toArray, List.map_cons, List.map_nil]); first | done | rfl | (simp only [List.length_drop, List.length_take]; rfl)) ?_; (with_reducible refine (word_Put.calls a0_0 8 t104 _ A4.out).mono ?_); rintro e w16 ⟨v105, rfl, ho0, hb⟩; refine ⟨_, rfl, ?_⟩; have n0_ := Aside0.mk (Kd.R_lower ho0 (below_size (by repeat (first | (with_reducible first | exact HB.out | apply below_alloc | apply pw_below_drewN | apply below_drew1 | refine below_set ?_ GE101.out | refine below_set ?_ GE103.out) | exact HB.out)))); have n1_ := Aside0.mk (blk_below (g := gb101) (o := .cells #[.int .u64 a0_0, .slice A0_1 l0_1.length c0_1, .int .u32 a0_2, .slice A0_3 l0_3.length c0_3] 29 (0, 0)) (by (with_reducible repeat (first | refine blk_drewN ?_ _ | refine blk_drew ?_ | refine blk_alloc ?_ _)); refine blk_far ?_ NB101_103.out _; (with_reducible repeat (first | refine blk_drewN ?_ _ | refine blk_drew ?_ | refine blk_alloc ?_ _)); refine blk_far ?_ NB101_103.out _; (with_reducible repeat (first | refine blk_drewN ?_ _ | refine blk_drew ?_ | refine blk_alloc ?_ _)); refine blk_far ?_ NB101_103.out _; (with_reducible repeat (first | refine blk_drewN ?_ _ | refine blk_drew ?_ | refine blk_alloc ?_ _)); exact BK101.out) hb); have n2_ := Aside0.mk (blk_below (g := gb103) (o := .cells #[.int .u64 a0_0, .slice A0_1 l0_1.length c0_1, .int .u32 a0_2] 26 (0, 0)) (by (with_reducible repeat (first | refine blk_drewN ?_ _ | refine blk_drew ?_ | refine blk_alloc ?_ _)); refine blk_put (cs := #[.int .u64 a0_0, .slice A0_1 l0_1.length c0_1, .int .u32 0]) ?_ 2 _ rfl; (with_reducible repeat (first | refine blk_drewN ?_ _ | refine blk_drew ?_ | refine blk_alloc ?_ _)); refine blk_put (cs := #[.int .u64 a0_0, .slice none 0 0, .int .u32 0]) ?_ 1 _ rfl; (with_reducible repeat (first | refine blk_drewN ?_ _ | refine blk_drew ?_ | refine blk_alloc ?_ _)); refine blk_put (cs := #[.int .u64 0, .slice none 0 0, .int .u32 0]) ?_ 0 _ rfl; (with_reducible repeat (first | refine blk_drewN ?_ _ | refine blk_drew ?_ | refine blk_alloc ?_ _)); exact BK103.out) hb); have n3_ := Aside0.mk (below_step (by repeat (first | (with_reducible first | exact HB.out | apply below_alloc | apply pw_below_drewN | apply below_drew1 | refine below_set ?_ GE101.out | refine below_set ?_ GE103.out) | exact HB.out)) hb); clear BK101; clear BK103; clear HB; have HO106 := n0_; have BK101 := n1_; have BK103 := n2_; have HB := n3_; clear n0_ n1_ n2_ n3_; (try clear hb); (try clear hb2); (try clear hk); (try clear hi); (try clear ho0); have hcz17_0 : w16.cell? ⟨gb103, 0, none⟩ = some (.int .u64 a0_0) := (blk_cell BK103.out 0).trans rfl; have hcz17_1 : w16.cell? ⟨gb103, 1, none⟩ = some (.slice A0_1 l0_1.length c0_1) := (blk_cell BK103.out 1).trans rfl; have hcz17_2 : w16.cell? ⟨gb103, 2, none⟩ = some (.int .u32 a0_2) := (blk_cell BK103.out 2).trans rfl; have hfz17_0 := blk_frozen BK103.out 0; have hfz17_1 := blk_frozen BK103.out 1; have hfz17_2 := blk_frozen BK103.out 2) | ((with_reducible refine gate_callee (f := 46) rfl ?_); refine goesL_ (some 20) rfl rfl Try.func46 (by kernel_rfl) rfl #[.int .u64 (IntKind.u64.wrap (a0_2)), .int .i64 4] rfl (by (try simp only [List.map_toArray, List.map_cons, List.map_nil]); first | done | rfl | (simp only [List.length_drop, List.length_take]; rfl)) ?_; (with_reducible refine (word_Put.calls (IntKind.u64.wrap (a0_2)) 4 t107 _ A5.out).mono ?_); rintro e w18 ⟨v108, rfl, ho0, hb⟩; refine ⟨_, rfl, ?_⟩; have n0_ := Aside0.mk (Kd.R_elder' (by (with_reducible repeat (first | apply Kd.R_alloc | apply Kd.R_drewN | apply Kd.R_drew)); exact HO106.out) (Kd.R_base ho0) hb); have n1_ := Aside0.mk (Kd.R_lower (Kd.R_new' ho0 (Kd.R_lt (by (with_reducible repeat (first | apply Kd.R_alloc | apply Kd.R_drewN | apply Kd.R_drew)); exact HO106.out))) (below_size (by repeat (first | (with_reducible first | exact HB.out | apply below_alloc | apply pw_below_drewN | apply below_drew1 | refine below_set ?_ GE101.out | refine below_set ?_ GE103.out) | exact HB.out)))); have n2_ := Aside0.mk (blk_below (g := gb101) (o := .cells #[.int .u64 a0_0, .slice A0_1 l0_1.length c0_1, .int .u32 a0_2, .slice A0_3 l0_3.length c0_3] 29 (0, 0)) (by (with_reducible repeat (first | refine blk_drewN ?_ _ | refine blk_drew ?_ | refine blk_alloc ?_ _)); exact BK101.out) hb); have n3_ := Aside0.mk (blk_below (g := gb103) (o := .cells #[.int .u64 a0_0, .slice A0_1 l0_1.length c0_1, .int .u32 a0_2] 26 (0, 0)) (by (with_reducible repeat (first | refine blk_drewN ?_ _ | refine blk_drew ?_ | refine blk_alloc ?_ _)); exact BK103.out) hb); have n4_ := Aside0.mk (below_step (by repeat (first | (with_reducible first | exact HB.out | apply below_alloc | apply pw_below_drewN | apply below_drew1 | refine below_set ?_ GE101.out | refine below_set ?_ GE103.out) | exact HB.out)) hb); clear HO106; clear BK101; clear BK103; clear HB; have HO106 := n0_; have HO109 := n1_; have BK101 := n2_; have BK103 := n3_; have HB := n4_; clear n0_ n1_ n2_ n3_ n4_; (try clear hb); (try clear hb2); (try clear hk); (try clear hi); (try clear ho0); obtain ⟨Ao20, co20, eo20⟩ := Kd.R_slice HO109.out; subst eo20) | ((with_reducible refine gate_builtin (b := .append) (xs := #[.tmp 16, .tmp 20]) rfl ?_); at_builtin; refine Kd.R_append_rows (Kd.int .u8) (w0 := w) w.heap.size rfl (.tmp 16) (.tmp 20) 27 5 (.int .u8 0) 1 rfl Try.underlying27 info5 rfl (by decide) (by omega) v105 t104 t107 _ _ _ (fun k_ => some k_ ≠ (.slice Ao20 t107.length co20 : Value).ownBlock) (fun _ => False) rfl rfl ?aO ?aR (fun _ _ h => h) (fun _ h => h.elim) ?aF ?aB ?aS ?aL ?_; (case aR => repeat (first | exact (Kd.R_reads' HO109.out).2.2 | (with_reducible refine Kd.C_alloc ?_ _) | (with_reducible refine Kd.C_drewN ?_ _) | (with_reducible refine Kd.C_drew ?_))); (case aB => exact (by repeat (first | (with_reducible first | exact HB.out | apply below_alloc | apply pw_below_drewN | apply below_drew1 | refine below_set ?_ GE101.out | refine below_set ?_ GE103.out) | exact HB.out))); (case aF => exact (fun k_ hk => Kd.fresh' (Kd.R_lt (by (with_reducible repeat (first | apply Kd.R_alloc | apply Kd.R_drewN | apply Kd.R_drew)); exact HO109.out)) k_ hk)); (case aO => exact (by (with_reducible repeat (first | apply Kd.R_alloc | apply Kd.R_drewN | apply Kd.R_drew)); exact Kd.R_mono HO106.out (fun _ hk => hk.2))); (case aS => exact (below_size (by repeat (first | (with_reducible first | exact HB.out | apply below_alloc | apply pw_below_drewN | apply below_drew1 | refine below_set ?_ GE101.out | refine below_set ?_ GE103.out) | exact HB.out)))); (case aL => have := LMc6.out; omega); intro v111 w19 ho hb hg hat; rw [← Ny110.out] at ho; have n0_ := Aside0.mk (blk_grown (g := gb101) (o := .cells #[.int .u64 a0_0, .slice A0_1 l0_1.length c0_1, .int .u32 a0_2, .slice A0_3 l0_3.length c0_3] 29 (0, 0)) (by (with_reducible repeat (first | refine blk_drewN ?_ _ | refine blk_drew ?_ | refine blk_alloc ?_ _)); exact BK101.out) hg (Kd.R_ne HO106.out BK101.out (by decide))); have n1_ := Aside0.mk (blk_grown (g := gb103) (o := .cells #[.int .u64 a0_0, .slice A0_1 l0_1.length c0_1, .int .u32 a0_2] 26 (0, 0)) (by (with_reducible repeat (first | refine blk_drewN ?_ _ | refine blk_drew ?_ | refine blk_alloc ?_ _)); exact BK103.out) hg (Kd.R_ne HO106.out BK103.out (by decide))); have n2_ := Aside0.mk (Kd.R_after (ok := (fun _ => True)) (by (with_reducible repeat (first | apply Kd.R_alloc | apply Kd.R_drewN | apply Kd.R_drew)); exact HO109.out) hg hat); have n3_ := Aside0.mk (hb); have n4_ := Aside0.mk (ho); clear BK101; clear BK103; clear HO109; clear HB; clear HO106; have BK101 := n0_; have BK103 := n1_; have HO109 := n2_; have HB := n3_; have HO112 := n4_; clear n0_ n1_ n2_ n3_ n4_; clear ho hb hg hat; have hcz21_0 : w19.cell? ⟨gb103, 0, none⟩ = some (.int .u64 a0_0) := (blk_cell BK103.out 0).trans rfl; have hcz21_1 : w19.cell? ⟨gb103, 1, none⟩ = some (.slice A0_1 l0_1.length c0_1) := (blk_cell BK103.out 1).trans rfl; have hcz21_2 : w19.cell? ⟨gb103, 2, none⟩ = some (.int .u32 a0_2) := (blk_cell BK103.out 2).trans rfl; have hfz21_0 := blk_frozen BK103.out 0; have hfz21_1 := blk_frozen BK103.out 1; have hfz21_2 := blk_frozen BK103.out 2) | ((with_reducible refine gate_callee (f := 46) rfl ?_); refine goesL_ (some 27) rfl rfl Try.func46 (by kernel_rfl) rfl #[.int .u64 (IntKind.u64.wrap ((l0_1.length : Int))), .int .i64 1] rfl (by (try simp only [List.map_toArray, List.map_cons, List.map_nil]); first | done | rfl | (simp only [List.length_drop, List.length_take]; rfl)) ?_; (with_reducible refine (word_Put.calls (IntKind.u64.wrap ((l0_1.length : Int))) 1 t113 _ A7.out).mono ?_); rintro e w22 ⟨v114, rfl, ho0, hb⟩; refine ⟨_, rfl, ?_⟩; have n0_ := Aside0.mk (Kd.R_elder' (by (with_reducible repeat (first | apply Kd.R_alloc | apply Kd.R_drewN | apply Kd.R_drew)); exact HO109.out) (Kd.R_base ho0) hb); have n1_ := Aside0.mk (Kd.R_elder' (by (with_reducible repeat (first | apply Kd.R_alloc | apply Kd.R_drewN | apply Kd.R_drew)); exact HO112.out) (Kd.R_base ho0) hb); have n2_ := Aside0.mk (Kd.R_lower (Kd.R_new' (Kd.R_new' ho0 (Kd.R_lt (by (with_reducible repeat (first | apply Kd.R_alloc | apply Kd.R_drewN | apply Kd.R_drew)); exact HO109.out))) (Kd.R_lt (by (with_reducible repeat (first | apply Kd.R_alloc | apply Kd.R_drewN | apply Kd.R_drew)); exact HO112.out))) (below_size (by repeat (first | (with_reducible first | exact HB.out | apply below_alloc | apply pw_below_drewN | apply below_drew1 | refine below_set ?_ GE101.out | refine below_set ?_ GE103.out) | exact HB.out)))); have n3_ := Aside0.mk (blk_below (g := gb101) (o := .cells #[.int .u64 a0_0, .slice A0_1 l0_1.length c0_1, .int .u32 a0_2, .slice A0_3 l0_3.length c0_3] 29 (0, 0)) (by (with_reducible repeat (first | refine blk_drewN ?_ _ | refine blk_drew ?_ | refine blk_alloc ?_ _)); exact BK101.out) hb); have n4_ := Aside0.mk (blk_below (g := gb103) (o := .cells #[.int .u64 a0_0, .slice A0_1 l0_1.length c0_1, .int .u32 a0_2] 26 (0, 0)) (by (with_reducible repeat (first | refine blk_drewN ?_ _ | refine blk_drew ?_ | refine blk_alloc ?_ _)); exact BK103.out) hb); have n5_ := Aside0.mk (below_step (by repeat (first | (with_reducible first | exact HB.out | apply below_alloc | apply pw_below_drewN | apply below_drew1 | refine below_set ?_ GE101.out | refine below_set ?_ GE103.out) | exact HB.out)) hb); clear HO109; clear HO112; clear BK101; clear BK103; clear HB; have HO109 := n0_; have HO112 := n1_; have HO115 := n2_; have BK101 := n3_; have BK103 := n4_; have HB := n5_; clear n0_ n1_ n2_ n3_ n4_ n5_; (try clear hb); (try clear hb2); (try clear hk); (try clear hi); (try clear ho0); obtain ⟨Ao24, co24, eo24⟩ := Kd.R_slice HO115.out; subst eo24) | ((with_reducible refine gate_builtin (b := .append) (xs := #[.tmp 22, .tmp 27]) rfl ?_); at_builtin; refine Kd.R_append_rows (Kd.int .u8) (w0 := w) w.heap.size rfl (.tmp 22) (.tmp 27) 27 5 (.int .u8 0) 1 rfl Try.underlying27 info5 rfl (by decide) (by omega) v111 y110 t113 _ _ _ (fun k_ => some k_ ≠ (.slice Ao20 t107.length co20 : Value).ownBlock ∧ some k_ ≠ (.slice Ao24 t113.length co24 : Value).ownBlock) (fun _ => False) rfl rfl ?aO ?aR (fun _ _ h => h) (fun _ h => h.elim) ?aF ?aB ?aS ?aL ?_; (case aR => repeat (first | exact (Kd.R_reads' HO115.out).2.2 | (with_reducible refine Kd.C_alloc ?_ _) | (with_reducible refine Kd.C_drewN ?_ _) | (with_reducible refine Kd.C_drew ?_))); (case aB => exact (by repeat (first | (with_reducible first | exact HB.out | apply below_alloc | apply pw_below_drewN | apply below_drew1 | refine below_set ?_ GE101.out | refine below_set ?_ GE103.out) | exact HB.out))); (case aF => exact (fun k_ hk => ⟨Kd.fresh' (Kd.R_lt (by (with_reducible repeat (first | apply Kd.R_alloc | apply Kd.R_drewN | apply Kd.R_drew)); exact HO109.out)) k_ hk, Kd.fresh' (Kd.R_lt (by (with_reducible repeat (first | apply Kd.R_alloc | apply Kd.R_drewN | apply Kd.R_drew)); exact HO115.out)) k_ hk⟩)); (case aO => exact (by (with_reducible repeat (first | apply Kd.R_alloc | apply Kd.R_drewN | apply Kd.R_drew)); exact HO112.out)); (case aS => exact (below_size (by repeat (first | (with_reducible first | exact HB.out | apply below_alloc | apply pw_below_drewN | apply below_drew1 | refine below_set ?_ GE101.out | refine below_set ?_ GE103.out) | exact HB.out)))); (case aL => have := LMc8.out; omega); intro v117 w23 ho hb hg hat; rw [← Ny116.out] at ho; have n0_ := Aside0.mk (blk_grown (g := gb101) (o := .cells #[.int .u64 a0_0, .slice A0_1 l0_1.length c0_1, .int .u32 a0_2, .slice A0_3 l0_3.length c0_3] 29 (0, 0)) (by (with_reducible repeat (first | refine blk_drewN ?_ _ | refine blk_drew ?_ | refine blk_alloc ?_ _)); exact BK101.out) hg (Kd.R_ne HO112.out BK101.out (by decide))); have n1_ := Aside0.mk (blk_grown (g := gb103) (o := .cells #[.int .u64 a0_0, .slice A0_1 l0_1.length c0_1, .int .u32 a0_2] 26 (0, 0)) (by (with_reducible repeat (first | refine blk_drewN ?_ _ | refine blk_drew ?_ | refine blk_alloc ?_ _)); exact BK103.out) hg (Kd.R_ne HO112.out BK103.out (by decide))); have n2_ := Aside0.mk (Kd.R_after (ok := (fun k_ => some k_ ≠ (.slice Ao24 t113.length co24 : Value).ownBlock)) (by (with_reducible repeat (first | apply Kd.R_alloc | apply Kd.R_drewN | apply Kd.R_drew)); exact Kd.R_mono HO109.out (fun _ hk => ⟨hk.2, hk.1.2⟩)) hg hat); have n3_ := Aside0.mk (Kd.R_after (ok := (fun k_ => some k_ ≠ (.slice Ao20 t107.length co20 : Value).ownBlock)) (by (with_reducible repeat (first | apply Kd.R_alloc | apply Kd.R_drewN | apply Kd.R_drew)); exact Kd.R_mono HO115.out (fun _ hk => ⟨hk.1.2, hk.2⟩)) hg hat); have n4_ := Aside0.mk (hb); have n5_ := Aside0.mk (ho); clear BK101; clear BK103; clear HO109; clear HO115; clear HB; clear HO112; have BK101 := n0_; have BK103 := n1_; have HO109 := n2_; have HO115 := n3_; have HB := n4_; have HO118 := n5_; clear n0_ n1_ n2_ n3_ n4_ n5_; clear ho hb hg hat; have hcz25_0 : w23.cell? ⟨gb103, 0, none⟩ = some (.int .u64 a0_0) := (blk_cell BK103.out 0).trans rfl; have hcz25_1 : w23.cell? ⟨gb103, 1, none⟩ = some (.slice A0_1 l0_1.length c0_1) := (blk_cell BK103.out 1).trans rfl; have hcz25_2 : w23.cell? ⟨gb103, 2, none⟩ = some (.int .u32 a0_2) := (blk_cell BK103.out 2).trans rfl; have hfz25_0 := blk_frozen BK103.out 0; have hfz25_1 := blk_frozen BK103.out 1; have hfz25_2 := blk_frozen BK103.out 2))
       go_loopg [5, 32] k (fun kq v5 v32 w' => ∃ (x5_1 : List Int) (x32_1 : Int), v32 = .int .i64 x32_1 ∧ Aside0 (token_Encode.l0 kq x5_1 l0_1 (l0_1.length : Int) x32_1 a0_0 l0_1 a0_2 l0_3 = some (r1, r2)) ∧ Aside0 (kq ≤ k) ∧ Aside0 (Kd.R (Kd.int .u8) 5 w' w.heap.size (fun _ => True) v5 x5_1) ∧ Aside0 (w'.heap[gb101]? = some (.cells #[.int .u64 a0_0, (.slice A0_1 l0_1.length c0_1), .int .u32 a0_2, (.slice A0_3 l0_3.length c0_3)] 29 (0, 0))) ∧ Aside0 (w'.heap[gb103]? = some (.cells #[.int .u64 a0_0, (.slice A0_1 l0_1.length c0_1), .int .u32 a0_2] 26 (0, 0))) ∧ Aside0 (Below w.heap.size w w'))
       case atStart => exact ⟨(y116), (0), (by first | rfl | (simp; done) | (simp [*]; done)), H', ⟨Nat.le_refl _⟩, ⟨by (with_reducible repeat (first | apply Kd.R_alloc | apply Kd.R_drewN | apply Kd.R_drew)); exact Kd.R_mono HO118.out (fun _ hk => trivial)⟩, ⟨by (with_reducible repeat (first | refine blk_drewN ?_ _ | refine blk_drew ?_ | refine blk_alloc ?_ _)); exact BK101.out⟩, ⟨by (with_reducible repeat (first | refine blk_drewN ?_ _ | refine blk_drew ?_ | refine blk_alloc ?_ _)); exact BK103.out⟩, ⟨by repeat (first | (with_reducible first | exact HB.out | apply below_alloc | apply pw_below_drewN | apply below_drew1 | refine below_set ?_ GE101.out | refine below_set ?_ GE103.out) | exact HB.out)⟩⟩
       case round =>
        clear H'
        try clear c1
        try clear c2
        try clear p2
        try clear c3
        try clear c4
        try clear c6
        try clear c8
        try clear c14
        try clear c19
        try clear c24
        try clear hcz10_0
        try clear hcz10_1
        try clear hcz10_2
        try clear hcz10_3
        try clear hcz12_0
        try clear hcz12_1
        try clear hcz12_2
        try clear hcz12_3
        try clear hcz15_0
        try clear hcz15_1
        try clear hcz15_2
        try clear hcz17_0
        try clear hcz17_1
        try clear hcz17_2
        try clear hcz21_0
        try clear hcz21_1
        try clear hcz21_2
        try clear hcz25_0
        try clear hcz25_1
        try clear hcz25_2
        try clear hfz10_0
        try clear hfz10_1
        try clear hfz10_2
        try clear hfz10_3
        try clear hfz12_0
        try clear hfz12_1
        try clear hfz12_2
        try clear hfz12_3
        try clear hfz15_0
        try clear hfz15_1
        try clear hfz15_2
        try clear hfz17_0
        try clear hfz17_1
        try clear hfz17_2
        try clear hfz21_0
        try clear hfz21_1
        try clear hfz21_2
        try clear hfz25_0
        try clear hfz25_1
        try clear hfz25_2
        obtain ⟨x5_1, x32_1, rfl, HA, HK1, HO_5, BK101, BK103, HB⟩ := hrel
        cases gk with
        | zero => exact absurd HA.out (by simp [token_Encode.l0])
        | succ k1 =>
          have H := HA.out
          clear HA
          simp only [token_Encode.l0] at H
          by_cases c26 : x32_1 < (l0_1.length : Int)
          · rw [if_pos c26] at H
            have c26b0 : decide (x32_1 < (l0_1.length : Int)) = true := decide_eq_true c26
            clear c26
            by_cases c27 : 0 ≤ x32_1
            · rw [if_pos c27] at H
              have c27b0 : decide (0 ≤ x32_1) = true := decide_eq_true c27
              clear c27
              by_cases c28 : x32_1 < (l0_1.length : Int)
              · rw [if_pos c28] at H
                have c28b0 : decide (x32_1 < (l0_1.length : Int)) = true := decide_eq_true c28
                clear c28
                replace H := Option.bind_eq_some_iff.mp H
                obtain ⟨t120, A290, H⟩ := H
                replace H : (if x5_1.length + t120.length < 140737488355328 then (token_Encode.l0 k1 (x5_1 ++ t120) l0_1 (l0_1.length : Int) (wrap64 (x32_1 + 1)) a0_0 l0_1 a0_2 l0_3) else (none)) = some (r1, r2) := H
                have A29 := Aside0.mk A290
                clear A290
                by_cases c30 : x5_1.length + t120.length < 140737488355328
                · rw [if_pos c30] at H
                  have LMc30 := Aside0.mk c30
                  clear c30
                  obtain ⟨y123, hy123⟩ : ∃ y_ : List Int, y_ = (x5_1 ++ t120) := ⟨_, rfl⟩
                  replace H : (token_Encode.l0 k1 y123 l0_1 (l0_1.length : Int) (wrap64 (x32_1 + 1)) a0_0 l0_1 a0_2 l0_3) = some (r1, r2) := by first | (rw [hy123]; with_reducible exact H) | (have H2_ := (Option.bind_some _ _).symm.trans H; rw [hy123]; with_reducible exact H2_) | (have H2_ := (Option.bind_some _ _).symm.trans H; with_reducible exact H2_) | with_reducible exact H | (rw [hy123]; exact H) | exact H
                  have Ny123 := Aside0.mk hy123
                  clear hy123
                  have H' := Aside0.mk H
                  clear H
                  have p119 : 0 ≤ (x32_1 : Int) := of_decide_eq_true (by first | (with_reducible assumption) | assumption)
                  have q119 : x32_1 < (l0_1.length : Int) := of_decide_eq_true (by first | (with_reducible assumption) | assumption)
                  obtain ⟨ad119, e119, hx119_0⟩ := Kd.at_int HR0_1.out x32_1 p119 q119
                  cases e119
                  replace hx119_0 := (HB.out.cell (World.block_lt_of_cell? w _ hx119_0)).trans hx119_0
                  replace p119 := eq_true p119
                  replace q119 := eq_true q119
                  go_wp2_with (first | ((with_reducible refine gate_callee (f := 46) rfl ?_); refine goesL_ (some 39) rfl rfl Try.func46 (by kernel_rfl) rfl #[.int .u64 (IntKind.u64.wrap (rd l0_1 x32_1)), .int .i64 2] rfl (by (try simp only [List.map_toArray, List.map_cons, List.map_nil]); first | done | rfl | (simp only [List.length_drop, List.length_take]; rfl)) ?_; (with_reducible refine (word_Put.calls (IntKind.u64.wrap (rd l0_1 x32_1)) 2 t120 _ A29.out).mono ?_); rintro e w31 ⟨v121, rfl, ho0, hb⟩; refine ⟨_, rfl, ?_⟩; have n0_ := Aside0.mk (Kd.R_elder' (by (with_reducible repeat (first | apply Kd.R_alloc | apply Kd.R_drewN | apply Kd.R_drew)); exact HO_5.out) (Kd.R_base ho0) hb); have n1_ := Aside0.mk (Kd.R_lower (Kd.R_new' ho0 (Kd.R_lt (by (with_reducible repeat (first | apply Kd.R_alloc | apply Kd.R_drewN | apply Kd.R_drew)); exact HO_5.out))) (below_size (by repeat (first | (with_reducible first | exact HB.out | apply below_alloc | apply pw_below_drewN | apply below_drew1 | refine below_set ?_ GE101.out | refine below_set ?_ GE103.out) | exact HB.out)))); have n2_ := Aside0.mk (blk_below (g := gb101) (o := .cells #[.int .u64 a0_0, .slice (some ad119) l0_1.length c0_1, .int .u32 a0_2, .slice A0_3 l0_3.length c0_3] 29 (0, 0)) (by (with_reducible repeat (first | refine blk_drewN ?_ _ | refine blk_drew ?_ | refine blk_alloc ?_ _)); exact BK101.out) hb); have n3_ := Aside0.mk (blk_below (g := gb103) (o := .cells #[.int .u64 a0_0, .slice (some ad119) l0_1.length c0_1, .int .u32 a0_2] 26 (0, 0)) (by (with_reducible repeat (first | refine blk_drewN ?_ _ | refine blk_drew ?_ | refine blk_alloc ?_ _)); exact BK103.out) hb); have n4_ := Aside0.mk (below_step (by repeat (first | (with_reducible first | exact HB.out | apply below_alloc | apply pw_below_drewN | apply below_drew1 | refine below_set ?_ GE101.out | refine below_set ?_ GE103.out) | exact HB.out)) hb); clear HO_5; clear BK101; clear BK103; clear HB; have HO_5 := n0_; have HO122 := n1_; have BK101 := n2_; have BK103 := n3_; have HB := n4_; clear n0_ n1_ n2_ n3_ n4_; (try clear hb); (try clear hb2); (try clear hk); (try clear hi); (try clear ho0); obtain ⟨Ao33, co33, eo33⟩ := Kd.R_slice HO122.out; subst eo33) | ((with_reducible refine gate_builtin (b := .append) (xs := #[.tmp 36, .tmp 39]) rfl ?_); at_builtin; refine Kd.R_append_rows (Kd.int .u8) (w0 := w) w.heap.size rfl (.tmp 36) (.tmp 39) 27 5 (.int .u8 0) 1 rfl Try.underlying27 info5 rfl (by decide) (by omega) u5 x5_1 t120 _ _ _ (fun k_ => some k_ ≠ (.slice Ao33 t120.length co33 : Value).ownBlock) (fun _ => False) rfl rfl ?aO ?aR (fun _ _ h => h) (fun _ h => h.elim) ?aF ?aB ?aS ?aL ?_; (case aR => repeat (first | exact (Kd.R_reads' HO122.out).2.2 | (with_reducible refine Kd.C_alloc ?_ _) | (with_reducible refine Kd.C_drewN ?_ _) | (with_reducible refine Kd.C_drew ?_))); (case aB => exact (by repeat (first | (with_reducible first | exact HB.out | apply below_alloc | apply pw_below_drewN | apply below_drew1 | refine below_set ?_ GE101.out | refine below_set ?_ GE103.out) | exact HB.out))); (case aF => exact (fun k_ hk => Kd.fresh' (Kd.R_lt (by (with_reducible repeat (first | apply Kd.R_alloc | apply Kd.R_drewN | apply Kd.R_drew)); exact HO122.out)) k_ hk)); (case aO => exact (by (with_reducible repeat (first | apply Kd.R_alloc | apply Kd.R_drewN | apply Kd.R_drew)); exact Kd.R_mono HO_5.out (fun _ hk => hk.2))); (case aS => exact (below_size (by repeat (first | (with_reducible first | exact HB.out | apply below_alloc | apply pw_below_drewN | apply below_drew1 | refine below_set ?_ GE101.out | refine below_set ?_ GE103.out) | exact HB.out)))); (case aL => have := LMc30.out; omega); intro v124 w32 ho hb hg hat; rw [← Ny123.out] at ho; have n0_ := Aside0.mk (blk_grown (g := gb101) (o := .cells #[.int .u64 a0_0, .slice (some ad119) l0_1.length c0_1, .int .u32 a0_2, .slice A0_3 l0_3.length c0_3] 29 (0, 0)) (by (with_reducible repeat (first | refine blk_drewN ?_ _ | refine blk_drew ?_ | refine blk_alloc ?_ _)); exact BK101.out) hg (Kd.R_ne HO_5.out BK101.out (by decide))); have n1_ := Aside0.mk (blk_grown (g := gb103) (o := .cells #[.int .u64 a0_0, .slice (some ad119) l0_1.length c0_1, .int .u32 a0_2] 26 (0, 0)) (by (with_reducible repeat (first | refine blk_drewN ?_ _ | refine blk_drew ?_ | refine blk_alloc ?_ _)); exact BK103.out) hg (Kd.R_ne HO_5.out BK103.out (by decide))); have n2_ := Aside0.mk (Kd.R_after (ok := (fun _ => True)) (by (with_reducible repeat (first | apply Kd.R_alloc | apply Kd.R_drewN | apply Kd.R_drew)); exact HO122.out) hg hat); have n3_ := Aside0.mk (hb); have n4_ := Aside0.mk (ho); clear BK101; clear BK103; clear HO122; clear HB; clear HO_5; have BK101 := n0_; have BK103 := n1_; have HO122 := n2_; have HB := n3_; have HO125 := n4_; clear n0_ n1_ n2_ n3_ n4_; clear ho hb hg hat))
                  go_roundg k1
                  case measure => have := HK1.out; omega
                  case rel => exact ⟨(y123), (wrap64 (x32_1 + 1)), (by first | rfl | (simp; done) | (simp [*]; done)), H', ⟨by have := HK1.out; omega⟩, ⟨by (with_reducible repeat (first | apply Kd.R_alloc | apply Kd.R_drewN | apply Kd.R_drew)); exact Kd.R_mono HO125.out (fun _ hk => trivial)⟩, ⟨by (with_reducible repeat (first | refine blk_drewN ?_ _ | refine blk_drew ?_ | refine blk_alloc ?_ _)); exact BK101.out⟩, ⟨by (with_reducible repeat (first | refine blk_drewN ?_ _ | refine blk_drew ?_ | refine blk_alloc ?_ _)); exact BK103.out⟩, ⟨by repeat (first | (with_reducible first | exact HB.out | apply below_alloc | apply pw_below_drewN | apply below_drew1 | refine below_set ?_ GE101.out | refine below_set ?_ GE103.out) | exact HB.out)⟩⟩
                · rw [if_neg c30] at H
                  exact absurd H (by simp)
              · rw [if_neg c28] at H
                exact absurd H (by simp)
            · rw [if_neg c27] at H
              exact absurd H (by simp)
          · rw [if_neg c26] at H
            have c26b0 : decide (x32_1 < (l0_1.length : Int)) = false := decide_eq_false c26
            clear c26
            by_cases c34 : x5_1.length + l0_3.length < 140737488355328
            · rw [if_pos c34] at H
              have LMc34 := Aside0.mk c34
              clear c34
              obtain ⟨y126, hy126⟩ : ∃ y_ : List Int, y_ = (x5_1 ++ l0_3) := ⟨_, rfl⟩
              replace H : ((crc_Seal.f y126).bind fun t129 => (some (t129, 0))) = some (r1, r2) := by first | (rw [hy126]; with_reducible exact H) | (have H2_ := (Option.bind_some _ _).symm.trans H; rw [hy126]; with_reducible exact H2_) | (have H2_ := (Option.bind_some _ _).symm.trans H; with_reducible exact H2_) | with_reducible exact H | (rw [hy126]; exact H) | exact H
              have Ny126 := Aside0.mk hy126
              clear hy126
              replace H := Option.bind_eq_some_iff.mp H
              obtain ⟨t129, A350, H⟩ := H
              replace H : (some (t129, 0)) = some (r1, r2) := H
              have A35 := Aside0.mk A350
              clear A350
              simp only [Option.some.injEq, Prod.mk.injEq] at H
              obtain ⟨rfl, rfl⟩ := H
              have hnb36 := NB101_103.out
              have hnc36 := NB103_101.out
              have hcz37_0 : wr.cell? ⟨gb101, 0, none⟩ = some (.int .u64 a0_0) := (blk_cell BK101.out 0).trans rfl
              have hcz37_1 : wr.cell? ⟨gb101, 1, none⟩ = some (.slice A0_1 l0_1.length c0_1) := (blk_cell BK101.out 1).trans rfl
              have hcz37_2 : wr.cell? ⟨gb101, 2, none⟩ = some (.int .u32 a0_2) := (blk_cell BK101.out 2).trans rfl
              have hcz37_3 : wr.cell? ⟨gb101, 3, none⟩ = some (.slice A0_3 l0_3.length c0_3) := (blk_cell BK101.out 3).trans rfl
              have hfz37_0 := blk_frozen BK101.out 0
              have hfz37_1 := blk_frozen BK101.out 1
              have hfz37_2 := blk_frozen BK101.out 2
              have hfz37_3 := blk_frozen BK101.out 3
              go_wp2_with (first | ((with_reducible refine gate_builtin (b := .append) (xs := #[.tmp 42, .tmp 44]) rfl ?_); at_builtin; refine Kd.R_append_rows (Kd.int .u8) (w0 := w) w.heap.size rfl (.tmp 42) (.tmp 44) 27 5 (.int .u8 0) 1 rfl Try.underlying27 info5 rfl (by decide) (by omega) u5 x5_1 l0_3 _ _ _ (fun _ => True) (fun _ => False) rfl rfl ?aO ?aR (fun _ _ h => h) (fun _ h => h.elim) ?aF ?aB ?aS ?aL ?_; (case aR => repeat (first | exact (Kd.C_below HR0_3.out HB.out) | (with_reducible refine Kd.C_alloc ?_ _) | (with_reducible refine Kd.C_drewN ?_ _) | (with_reducible refine Kd.C_drew ?_))); (case aB => exact (by repeat (first | (with_reducible first | exact HB.out | apply below_alloc | apply pw_below_drewN | apply below_drew1 | refine below_set ?_ GE101.out | refine below_set ?_ GE103.out) | exact HB.out))); (case aF => exact (fun _ _ => trivial)); (case aO => exact (by (with_reducible repeat (first | apply Kd.R_alloc | apply Kd.R_drewN | apply Kd.R_drew)); exact HO_5.out)); (case aS => exact (below_size (by repeat (first | (with_reducible first | exact HB.out | apply below_alloc | apply pw_below_drewN | apply below_drew1 | refine below_set ?_ GE101.out | refine below_set ?_ GE103.out) | exact HB.out)))); (case aL => have := LMc34.out; omega); intro v127 w38 ho hb hg hat; rw [← Ny126.out] at ho; have n0_ := Aside0.mk (blk_grown (g := gb101) (o := .cells #[.int .u64 a0_0, .slice A0_1 l0_1.length c0_1, .int .u32 a0_2, .slice A0_3 l0_3.length c0_3] 29 (0, 0)) (by (with_reducible repeat (first | refine blk_drewN ?_ _ | refine blk_drew ?_ | refine blk_alloc ?_ _)); exact BK101.out) hg (Kd.R_ne HO_5.out BK101.out (by decide))); have n1_ := Aside0.mk (blk_grown (g := gb103) (o := .cells #[.int .u64 a0_0, .slice A0_1 l0_1.length c0_1, .int .u32 a0_2] 26 (0, 0)) (by (with_reducible repeat (first | refine blk_drewN ?_ _ | refine blk_drew ?_ | refine blk_alloc ?_ _)); exact BK103.out) hg (Kd.R_ne HO_5.out BK103.out (by decide))); have n2_ := Aside0.mk (hb); have n3_ := Aside0.mk (ho); clear BK101; clear BK103; clear HB; clear HO_5; have BK101 := n0_; have BK103 := n1_; have HB := n2_; have HO128 := n3_; clear n0_ n1_ n2_ n3_; clear ho hb hg hat; obtain ⟨Ao39, co39, eo39⟩ := Kd.R_slice HO128.out; subst eo39) | ((with_reducible refine gate_callee (f := 47) rfl ?_); refine goesL_ (some 46) rfl rfl Try.func47 (by kernel_rfl) rfl #[.slice Ao39 y126.length co39] rfl (by (try simp only [List.map_toArray, List.map_cons, List.map_nil]); first | done | rfl | (simp only [List.length_drop, List.length_take]; rfl)) ?_; (with_reducible refine (crc_Seal.calls _ _ y126 t129 _ ?side1 ?side2 A35.out).mono ?_); (case side1 => repeat (first | exact (Kd.R_reads' HO128.out).2.2 | (with_reducible refine Kd.C_alloc ?_ _) | (with_reducible refine Kd.C_drewN ?_ _) | (with_reducible refine Kd.C_drew ?_))); (case side2 => exact (Kd.R_reads' HO128.out).2.1); rintro e w40 ⟨v130, rfl, ho0, hb⟩; refine ⟨_, rfl, ?_⟩; have n0_ := Aside0.mk (Kd.R_elder' (by (with_reducible repeat (first | apply Kd.R_alloc | apply Kd.R_drewN | apply Kd.R_drew)); exact HO128.out) (Kd.R_base ho0) hb); have n1_ := Aside0.mk (Kd.R_lower (Kd.R_new' ho0 (Kd.R_lt (by (with_reducible repeat (first | apply Kd.R_alloc | apply Kd.R_drewN | apply Kd.R_drew)); exact HO128.out))) (below_size (by repeat (first | (with_reducible first | exact HB.out | apply below_alloc | apply pw_below_drewN | apply below_drew1 | refine below_set ?_ GE101.out | refine below_set ?_ GE103.out) | exact HB.out)))); have n2_ := Aside0.mk (blk_below (g := gb101) (o := .cells #[.int .u64 a0_0, .slice A0_1 l0_1.length c0_1, .int .u32 a0_2, .slice A0_3 l0_3.length c0_3] 29 (0, 0)) (by (with_reducible repeat (first | refine blk_drewN ?_ _ | refine blk_drew ?_ | refine blk_alloc ?_ _)); exact BK101.out) hb); have n3_ := Aside0.mk (blk_below (g := gb103) (o := .cells #[.int .u64 a0_0, .slice A0_1 l0_1.length c0_1, .int .u32 a0_2] 26 (0, 0)) (by (with_reducible repeat (first | refine blk_drewN ?_ _ | refine blk_drew ?_ | refine blk_alloc ?_ _)); exact BK103.out) hb); have n4_ := Aside0.mk (below_step (by repeat (first | (with_reducible first | exact HB.out | apply below_alloc | apply pw_below_drewN | apply below_drew1 | refine below_set ?_ GE101.out | refine below_set ?_ GE103.out) | exact HB.out)) hb); clear HO128; clear BK101; clear BK103; clear HB; have HO128 := n0_; have HO131 := n1_; have BK101 := n2_; have BK103 := n3_; have HB := n4_; clear n0_ n1_ n2_ n3_ n4_; (try clear hb); (try clear hb2); (try clear hk); (try clear hi); (try clear ho0)))
              go_ret2
              exact ⟨_, by first | rfl | (simp [errW_none, errW_some] <;> rfl) | (simp [*, errW_none, errW_some] <;> rfl), by (with_reducible repeat (first | apply Kd.R_alloc | apply Kd.R_drewN | apply Kd.R_drew)); exact Kd.R_mono HO131.out (fun _ hk => trivial), by repeat (first | (with_reducible first | exact HB.out | apply below_alloc | apply pw_below_drewN | apply below_drew1 | refine below_set ?_ GE101.out | refine below_set ?_ GE103.out) | exact HB.out)⟩
            · rw [if_neg c34] at H
              exact absurd H (by simp)
     · rw [if_neg c8] at H
       exact absurd H (by simp)
   · rw [if_neg c6] at H
     exact absurd H (by simp)
 · replace c3 := Bool.eq_false_iff.mpr c3
   subst c3
   have H1 : (some (([] : List Int), 1)) = some (r1, r2) := by rw [if_neg (show ¬ (false = true) by decide)] at H; exact H
   clear H
   have H := H1
   clear H1
   simp only [Option.some.injEq, Prod.mk.injEq] at H
   obtain ⟨rfl, rfl⟩ := H
   go_enter Try.func19, Try.ntmps19
   go_wp2_with (first | ((with_reducible refine gate_dst (N := 1) rfl ?_); refine box_event ?hg (N := 1) ?hd (cs := #[.int .u64 a0_0, .slice A0_1 l0_1.length c0_1, .int .u32 a0_2, .slice A0_3 l0_3.length c0_3]) (t := 29) ?hr ?_; (case hd => rfl); (case hg => rfl); (case hr => first | (go_simp; done) | (go_simp; rfl)); intro gb101 hg w41 hbox hb; have n0_ := Aside0.mk (below_step (by repeat (first | (with_reducible first | exact HB.out | apply below_alloc | apply pw_below_drewN | apply below_drew1) | exact HB.out)) hb); have n1_ := Aside0.mk (hbox); have n2_ := Aside0.mk ((by rw [hg]; exact (below_size (by repeat (first | (with_reducible first | exact HB.out | apply below_alloc | apply pw_below_drewN | apply below_drew1) | exact HB.out))) : w.heap.size ≤ gb101)); have n3_ := Aside0.mk ((by rw [hg]; exact (below_size (by repeat (first | (with_reducible first | exact HB.out | apply below_alloc | apply pw_below_drewN | apply below_drew1) | exact HB.out))) : w.heap.size ≤ gb101)); clear HB; have HB := n0_; have BK101 := n1_; have GW101 := n2_; have GE101 := n3_; clear n0_ n1_ n2_ n3_; clear hb hbox hg; have hcz42_0 : w41.cell? ⟨gb101, 0, none⟩ = some (.int .u64 a0_0) := (blk_cell BK101.out 0).trans rfl; have hcz42_1 : w41.cell? ⟨gb101, 1, none⟩ = some (.slice A0_1 l0_1.length c0_1) := (blk_cell BK101.out 1).trans rfl; have hcz42_2 : w41.cell? ⟨gb101, 2, none⟩ = some (.int .u32 a0_2) := (blk_cell BK101.out 2).trans rfl; have hcz42_3 : w41.cell? ⟨gb101, 3, none⟩ = some (.slice A0_3 l0_3.length c0_3) := (blk_cell BK101.out 3).trans rfl; have hfz42_0 := blk_frozen BK101.out 0; have hfz42_1 := blk_frozen BK101.out 1; have hfz42_2 := blk_frozen BK101.out 2; have hfz42_3 := blk_frozen BK101.out 3) | ((with_reducible refine gate_callee (f := 24) rfl ?_); refine goesL_ (some 9) rfl rfl Try.func24 (by kernel_rfl) rfl #[.agg #[.int .u64 a0_0, .slice A0_1 l0_1.length c0_1, .int .u32 a0_2, .slice A0_3 l0_3.length c0_3]] rfl (by (try simp only [List.map_toArray, List.map_cons, List.map_nil]); first | done | rfl | (simp only [List.length_drop, List.length_take]; rfl)) ?_; (with_reducible refine (token_Right.calls a0_0 _ _ l0_1 a0_2 _ _ l0_3 false _ ?side1 ?side2 ?side3 ?side4 A2.out).mono ?_); (case side1 => repeat (first | exact (Kd.C_below HR0_1.out HB.out) | (with_reducible refine Kd.C_alloc ?_ _) | (with_reducible refine Kd.C_drewN ?_ _) | (with_reducible refine Kd.C_drew ?_))); (case side2 => exact HC0_1.out); (case side3 => repeat (first | exact (Kd.C_below HR0_3.out HB.out) | (with_reducible refine Kd.C_alloc ?_ _) | (with_reducible refine Kd.C_drewN ?_ _) | (with_reducible refine Kd.C_drew ?_))); (case side4 => exact HC0_3.out); rintro e w43 ⟨rfl, hb⟩; refine ⟨_, rfl, ?_⟩; have n0_ := Aside0.mk (blk_below (g := gb101) (o := .cells #[.int .u64 a0_0, .slice A0_1 l0_1.length c0_1, .int .u32 a0_2, .slice A0_3 l0_3.length c0_3] 29 (0, 0)) (by (with_reducible repeat (first | refine blk_drewN ?_ _ | refine blk_drew ?_ | refine blk_alloc ?_ _)); exact BK101.out) hb); have n1_ := Aside0.mk (below_step (by repeat (first | (with_reducible first | exact HB.out | apply below_alloc | apply pw_below_drewN | apply below_drew1 | refine below_set ?_ GE101.out) | exact HB.out)) hb); clear BK101; clear HB; have BK101 := n0_; have HB := n1_; clear n0_ n1_; (try clear hb); (try clear hb2); (try clear hk); (try clear hi)))
   go_ret2
   exact ⟨_, by first | rfl | (simp [errW_none, errW_some] <;> rfl) | (simp [*, errW_none, errW_some] <;> rfl), by first | exact Kd.R_nil _ _ _ _ _ | exact Kd.N_nil _ _ _ _ _ | exact Kd.V_nil _ _ _ _ _ | exact Kd.Q_nil _ _ _ _ _ | exact Kd.S_nil _ _ _ _ _, by repeat (first | (with_reducible first | exact HB.out | apply below_alloc | apply pw_below_drewN | apply below_drew1 | refine below_set ?_ GE101.out) | exact HB.out)⟩

end Go.Proofs.Ytbijnfhcbanhdaa.F
end

section
namespace Go.Proofs.Ytbijnfhcbanhdaa.F
open Go.RowKit Go.Proofs.YtbijnfhcbanhdaaW.PrintWords Go.Proofs.YtbijnfhcbanhdaaW.PrintLast Go.Proofs.YtbijnfhcbanhdaaW.PrintMore
attribute [local go_sem] max2_int min2_int max_two min_two max_three min_three max_four min_four   -- for this text's walks alone
set_option linter.unusedVariables false
set_option linter.unusedSimpArgs false

open Go.Proofs.Ytbijnfhcbanhdaa.H
def token_Encode_c.f (a0_0 : Int) (l0_1 : List Int) (a0_2 : Int) (l0_3 : List Int) : Option (List Int × Int) := if bytesB l0_3 = true ∧ l0_3.length ≤ 1000000 ∧ 0 ≤ a0_2 ∧ a0_2 < 4294967296 then some (encodeL a0_0 l0_1 a0_2 l0_3) else none
theorem token_Right.is (a : Int) (l : List Int) (b : Int) (k : List Int) (hk : bytesB k = true) : token_Right.f a l b k = some (rightT l k) := by
 have h := wordsM_range l
 have hce : word_Ceil.f (wordsM l) 8 = some ((wordsM l + 7) / 8) := by
  rw [word_Ceil.f, if_neg (by omega), if_neg (by omega), if_neg (by omega), if_neg (by omega), if_neg (by omega), show wrap64 (wordsM l + 8) = wordsM l + 8 from by unfold wrap64; omega, show wrap64 (wordsM l + 8 - 1) = wordsM l + 7 from by unfold wrap64; omega, Int.tdiv_eq_ediv_of_nonneg (by omega)]
  congr 1
  unfold wrap64
  omega
 rw [token_Right.f, mani_Right.f, arena_Fits_c.f, Option.bind_some, Option.bind_some, rightT]
 by_cases hf : fitsB l = true
 · rw [if_pos hf, mani_Chunks.f, mani_Words_c.f, Option.bind_some, hce, Option.bind_some, Option.bind_some, bits_Right_c.f, if_pos ⟨hk, by omega, by omega⟩, Option.bind_some, hf, Bool.true_and]
 · rw [if_neg hf]
   rw [Bool.not_eq_true] at hf
   rw [hf, Bool.false_and]
theorem token_Encode.l0_to (s : Int) (sizes : List Int) (sum : Int) (known : List Int) (hf : fitsB sizes = true) (hk : bytesB known = true) (hl : known.length ≤ 1000000) : ∀ (d i : Nat), sizes.length - i = d → i ≤ sizes.length →
 ∃ k, token_Encode.l0 k (tokenH s sizes sum i) sizes (sizes.length : Int) (i : Int) s sizes sum known = some (sealL (tokenB s sizes sum known), 0)
 | 0, i, hd, hi => by
   have hfit := fitsB_at hf
   have htl := tokenH_length s sizes sum i
   obtain rfl : i = sizes.length := by omega
   rw [List.take_length] at htl
   have hb : bytesB (tokenH s sizes sum sizes.length ++ known) = true := by rw [bytesB_append, tokenH_byte, hk]; rfl
   have hr := moreL_range 0 (tokenH s sizes sum sizes.length ++ known) (by omega) hb
   have hs : sumL (tokenH s sizes sum sizes.length ++ known) = moreL 0 (tokenH s sizes sum sizes.length ++ known) := rfl
   have hw : IntKind.u64.wrap (sumL (tokenH s sizes sum sizes.length ++ known)) = sumL (tokenH s sizes sum sizes.length ++ known) := by
    rw [hs]; simp only [IntKind.wrap, IntKind.signed, IntKind.bits]; simp; omega
   refine ⟨1, ?_⟩
   rw [token_Encode.l0, if_neg (by omega), if_pos (by omega), crc_Seal.f, bytes_Clone.f, if_pos (by rw [List.length_append]; omega), Option.bind_some, crc_Sum.f, if_pos hb, Option.bind_some, hw, word_Put.f, Option.bind_some, show putN 4 = 4 from rfl, if_pos (by rw [List.length_append, putL_length]; omega), Option.bind_some]
   rfl
 | d + 1, i, hd, hi => by
   have hfit := fitsB_at hf
   have hlt : i < sizes.length := by omega
   have htl := tokenH_length s sizes sum i
   have htk : (sizes.take i).length ≤ 16 := by rw [List.length_take]; omega
   have hx0 := hfit.2.2.2.1 _ (List.getElem_mem hlt)
   have hx1 := mem_le_sum hfit.2.2.2.1 i hlt
   obtain ⟨k, hk2⟩ := token_Encode.l0_to s sizes sum known hf hk hl d (i + 1) (by omega) (by omega)
   rw [tokenH_succ s sizes sum i hlt] at hk2
   refine ⟨k + 1, ?_⟩
   have hr : rd sizes (i : Int) = sizes[i] := getD_toNat sizes 0 i hlt
   have hw : IntKind.u64.wrap sizes[i] = sizes[i] := by simp only [IntKind.wrap, IntKind.signed, IntKind.bits]; simp; omega
   rw [token_Encode.l0, if_pos (by omega), if_pos (by omega), if_pos (by omega), hr, hw, word_Put.f, Option.bind_some, show putN 2 = 2 from rfl, if_pos (by rw [putL_length]; omega), show wrap64 ((i : Int) + 1) = ((i + 1 : Nat) : Int) from by unfold wrap64; omega]
   exact hk2
theorem token_Encode_c.to {a0_0 : Int} {l0_1 : List Int} {a0_2 : Int} {l0_3 : List Int} {r : List Int × Int} (h : token_Encode_c.f a0_0 l0_1 a0_2 l0_3 = some r) : ∃ k, token_Encode.f k a0_0 l0_1 a0_2 l0_3 = some r := by
 unfold token_Encode_c.f at h
 split at h
 case isFalse => cases h
 case isTrue hb =>
 obtain rfl := Option.some.inj h
 obtain ⟨hk, hl, h2, h3⟩ := hb
 by_cases hr : rightT l0_1 l0_3 = true
 · have hf : fitsB l0_1 = true := by
    rw [rightT, Bool.and_eq_true] at hr
    exact hr.1
   have hfit := fitsB_at hf
   obtain ⟨k, hk2⟩ := token_Encode.l0_to a0_0 l0_1 a0_2 l0_3 hf hk hl l0_1.length 0 (by omega) (by omega)
   refine ⟨k, ?_⟩
   have e0 : tokenH a0_0 l0_1 a0_2 0 = putL a0_0 8 ++ putL a0_2 4 ++ putL l0_1.length 1 := by simp [tokenH]
   rw [e0] at hk2
   have hw1 : IntKind.u64.wrap a0_2 = a0_2 := by simp only [IntKind.wrap, IntKind.signed, IntKind.bits]; simp; omega
   have hw2 : IntKind.u64.wrap (l0_1.length : Int) = (l0_1.length : Int) := by simp only [IntKind.wrap, IntKind.signed, IntKind.bits]; simp; omega
   rw [token_Encode.f, token_Right.is _ _ _ _ hk, Option.bind_some, if_pos hr, word_Put.f, Option.bind_some, word_Put.f, Option.bind_some, hw1, show putN 8 = 8 from rfl, show putN 4 = 4 from rfl, if_pos (by rw [putL_length, putL_length]; omega), Option.bind_some, word_Put.f, Option.bind_some, hw2, show putN 1 = 1 from rfl,
    if_pos (by rw [List.length_append, putL_length, putL_length, putL_length]; omega), encodeL, if_pos hr]
   exact hk2
 · refine ⟨0, ?_⟩
   rw [token_Encode.f, token_Right.is _ _ _ _ hk, Option.bind_some, if_neg hr, encodeL, if_neg hr]

theorem token_Encode_c.calls (a0_0 : Int) (A0_1 : Option Addr) (c0_1 : Nat) (l0_1 : List Int) (a0_2 : Int) (A0_3 : Option Addr) (c0_3 : Nat) (l0_3 : List Int) (r1 : List Int) (r2 : Int) (w : World) (hr0_1 : Kd.C (Kd.int .i64) w A0_1 l0_1.length l0_1) (hc0_1 : l0_1.length ≤ c0_1) (hr0_3 : Kd.C (Kd.int .u8) w A0_3 l0_3.length l0_3) (hc0_3 : l0_3.length ≤ c0_3) (h : token_Encode_c.f a0_0 l0_1 a0_2 l0_3 = some (r1, r2)) :
 Calls Try.prog 19 #[.agg #[.int .u64 a0_0, .slice A0_1 l0_1.length c0_1, .int .u32 a0_2, .slice A0_3 l0_3.length c0_3]] w fun e w' => ∃ v0_ : Value, e = .returned (.tuple #[v0_, .int .u16 r2]) ∧ Kd.R (Kd.int .u8) 5 w' w.heap.size (fun _ => True) v0_ r1 ∧ Below w.heap.size w w' := by
 obtain ⟨k_, hk_⟩ := token_Encode_c.to h
 exact token_Encode.calls k_ a0_0 A0_1 c0_1 l0_1 a0_2 A0_3 c0_3 l0_3 r1 r2 w hr0_1 hc0_1 hr0_3 hc0_3 hk_

end Go.Proofs.Ytbijnfhcbanhdaa.F
end

section
namespace Go.Proofs.Ytbijnfhcbanhdaa.F
open Go.RowKit Go.Proofs.YtbijnfhcbanhdaaW.PrintWords Go.Proofs.YtbijnfhcbanhdaaW.PrintLast Go.Proofs.YtbijnfhcbanhdaaW.PrintMore
attribute [local go_sem] max2_int min2_int max_two min_two max_three min_three max_four min_four   -- for this text's walks alone
set_option linter.unusedVariables false
set_option linter.unusedSimpArgs false

/-! ### crc_Right: function 48 -/
def crc_Right.f (l0 : List Int) : Option (Bool) := if (wrap64 ((l0.length : Int) - 4)) ≥ 0 then (if 0 ≤ (wrap64 ((l0.length : Int) - 4)) then (if (wrap64 ((l0.length : Int) - 4)) ≤ (l0.length : Int) then ((crc_Seal.f (l0.take ((wrap64 ((l0.length : Int) - 4)) : Int).toNat)).bind fun t102 => ((bytes_Equal.f t102 l0).bind fun t105 => (some t105))) else (none)) else (none)) else (some false)
set_option maxHeartbeats 8000000 in
set_option maxRecDepth 100000 in
theorem crc_Right.calls (A0 : Option Addr) (c0 : Nat) (l0 : List Int) (r : Bool) (w : World) (hr0 : Kd.C (Kd.int .u8) w A0 l0.length l0) (hc0 : l0.length ≤ c0) (h : crc_Right.f l0 = some r) :
 Calls Try.prog 48 #[.slice A0 l0.length c0] w fun e w' => e = .returned (.bool r) ∧ Below w.heap.size w w' := by
 have HR0 := Aside0.mk hr0
 have HC0 := Aside0.mk hc0
 clear hr0 hc0
 have HB := Aside0.mk (Below.refl w.heap.size w)
 have H : (if (wrap64 ((l0.length : Int) - 4)) ≥ 0 then (if 0 ≤ (wrap64 ((l0.length : Int) - 4)) then (if (wrap64 ((l0.length : Int) - 4)) ≤ (l0.length : Int) then ((crc_Seal.f (l0.take ((wrap64 ((l0.length : Int) - 4)) : Int).toNat)).bind fun t102 => ((bytes_Equal.f t102 l0).bind fun t105 => (some t105))) else (none)) else (none)) else (some false)) = some r := h
 clear h
 by_cases c2 : (wrap64 ((l0.length : Int) - 4)) ≥ 0
 · rw [if_pos c2] at H
   have c2b0 : decide (0 ≤ (wrap64 ((l0.length : Int) - 4))) = true := decide_eq_true c2
   clear c2
   obtain ⟨ji3, hji3⟩ : ∃ j_ : Int, (wrap64 ((l0.length : Int) - 4)) = j_ := ⟨_, rfl⟩
   replace H : (if 0 ≤ (ji3) then (if (ji3) ≤ (l0.length : Int) then ((crc_Seal.f (l0.take ((ji3) : Int).toNat)).bind fun t102 => ((bytes_Equal.f t102 l0).bind fun t105 => (some t105))) else (none)) else (none)) = some r := by first | (rw [hji3] at H; exact H) | (simp only [hji3] at H ⊢; exact H)
   (try rw [hji3] at c2b0)
   have hji3w : (IntKind.i64.wrap ((l0.length : Int) - 4)) = ji3 := (i64_w _).trans hji3
   by_cases c4 : 0 ≤ (ji3)
   · rw [if_pos c4] at H
     have c4b0 := eq_true c4
     have c4b1 : decide (0 ≤ (ji3)) = true := decide_eq_true c4
     clear c4
     by_cases c5 : (ji3) ≤ (l0.length : Int)
     · rw [if_pos c5] at H
       have c5b0 := eq_true c5
       have c5b1 : decide ((ji3) ≤ (l0.length : Int)) = true := decide_eq_true c5
       clear c5
       replace H := Option.bind_eq_some_iff.mp H
       obtain ⟨t102, A60, H⟩ := H
       replace H : ((bytes_Equal.f t102 l0).bind fun t105 => (some t105)) = some r := H
       have A6 := Aside0.mk A60
       clear A60
       replace H := Option.bind_eq_some_iff.mp H
       obtain ⟨t105, A70, H⟩ := H
       replace H : (some t105) = some r := H
       have A7 := Aside0.mk A70
       clear A70
       obtain rfl := Option.some.inj H
       obtain ⟨i08, hi08, _, hsz8, _⟩ := info_parts info5
       obtain ⟨hcut8, hA8, hC8⟩ := print_take_of (P := Try.prog) (Value.int .u8) 0 27 5 .i64 Try.underlying27 hi08 hsz8 A0 c0 l0 (ji3) (of_decide_eq_true (by first | (with_reducible assumption) | assumption)) (of_decide_eq_true (by first | (with_reducible assumption) | assumption)) HC0.out
       have HR101 := Aside0.mk (Kd.C_of_reads (h1 := fun _ => rfl) (hA8 _ (Kd.reads_of_C HR0.out)))
       have HC101 := Aside0.mk hC8
       clear hA8 hC8 hi08 hsz8
       have hlen_ : (l0.take ((ji3) : Int).toNat).length = ((ji3) : Int).toNat := by
        have := of_decide_eq_true c5b1
        rw [List.length_take]; omega
       have hseal := crc_Seal.calls A0 c0 (l0.take ((ji3) : Int).toNat) t102 w HR101.out HC101.out A6.out
       rw [hlen_] at hseal
       go_enter Try.func48, Try.ntmps48
       go_wp2_with (first | (go_at_call 47; refine hseal.mono ?_; rintro e w9 ⟨v103, rfl, ho0, hb⟩; have n0_ := Aside0.mk (Kd.R_lower ho0 (below_size (by repeat (first | (with_reducible first | exact HB.out | apply below_alloc | apply pw_below_drewN | apply below_drew1) | exact HB.out)))); have n1_ := Aside0.mk (below_step (by repeat (first | (with_reducible first | exact HB.out | apply below_alloc | apply pw_below_drewN | apply below_drew1) | exact HB.out)) hb); clear HB; have HO104 := n0_; have HB := n1_; clear n0_ n1_; (try clear hb); (try clear hb2); (try clear hk); (try clear hi); (try clear ho0); obtain ⟨Ao10, co10, eo10⟩ := Kd.R_slice HO104.out; subst eo10) | (go_at_call 44; (with_reducible refine (bytes_Equal.calls _ _ t102 _ _ l0 t105 _ ?side1 ?side2 ?side3 ?side4 A7.out).mono ?_); (case side1 => repeat (first | exact (Kd.R_reads' HO104.out).2.2 | (with_reducible refine Kd.C_alloc ?_ _) | (with_reducible refine Kd.C_drewN ?_ _) | (with_reducible refine Kd.C_drew ?_))); (case side2 => exact (Kd.R_reads' HO104.out).2.1); (case side3 => repeat (first | exact (Kd.C_below HR0.out HB.out) | (with_reducible refine Kd.C_alloc ?_ _) | (with_reducible refine Kd.C_drewN ?_ _) | (with_reducible refine Kd.C_drew ?_))); (case side4 => exact HC0.out); rintro e w' ⟨rfl, ⟨nd, rfl⟩⟩))
       go_ret
       exact ⟨by first | rfl | (simp [errW_none, errW_some] <;> rfl) | (simp only [← hji3]; first | rfl | (simp [errW_none, errW_some] <;> rfl)) | (simp [*, errW_none, errW_some] <;> rfl), by repeat (first | (with_reducible first | exact HB.out | apply below_alloc | apply pw_below_drewN | apply below_drew1) | exact HB.out)⟩
     · rw [if_neg c5] at H
       exact absurd H (by simp)
   · rw [if_neg c4] at H
     exact absurd H (by simp)
 · rw [if_neg c2] at H
   have c2b0 : decide (0 ≤ (wrap64 ((l0.length : Int) - 4))) = false := decide_eq_false c2
   clear c2
   obtain rfl := Option.some.inj H
   go_enter Try.func48, Try.ntmps48
   go_wp2
   go_ret
   exact ⟨by first | rfl | (simp [errW_none, errW_some] <;> rfl) | (simp [*, errW_none, errW_some] <;> rfl), by repeat (first | (with_reducible first | exact HB.out | apply below_alloc | apply pw_below_drewN | apply below_drew1) | exact HB.out)⟩

end Go.Proofs.Ytbijnfhcbanhdaa.F
end

section
namespace Go.Proofs.Ytbijnfhcbanhdaa.F
open Go.RowKit Go.Proofs.YtbijnfhcbanhdaaW.PrintWords Go.Proofs.YtbijnfhcbanhdaaW.PrintLast Go.Proofs.YtbijnfhcbanhdaaW.PrintMore
attribute [local go_sem] max2_int min2_int max_two min_two max_three min_three max_four min_four   -- for this text's walks alone
set_option linter.unusedVariables false
set_option linter.unusedSimpArgs false

open Go.Proofs.Ytbijnfhcbanhdaa.H
def crc_Right_c.f (l0 : List Int) : Option Bool := if bytesB l0 = true ∧ l0.length ≤ 1000000 then some (rightC l0) else none
theorem strs_eq {a b : List Int} (ha : bytesB a = true) (hb : bytesB b = true) (h : (strOfNums a).toList = (strOfNums b).toList) : a = b := by
 have h2 : a.map (fun n => UInt8.ofNat n.toNat) = b.map (fun n => UInt8.ofNat n.toNat) := by
  simpa [strOfNums, ByteArray.toList_eq] using h
 clear h
 induction a generalizing b with
 | nil => cases b with
   | nil => rfl
   | cons y b => simp at h2
 | cons x a ih =>
   cases b with
   | nil => simp at h2
   | cons y b =>
     rw [List.map_cons, List.map_cons] at h2
     injection h2 with h3 h4
     have hx := bytesB_at ha x (by simp)
     have hy := bytesB_at hb y (by simp)
     have h5 := congrArg UInt8.toNat h3
     rw [UInt8.toNat_ofNat', UInt8.toNat_ofNat'] at h5
     have h6 : x = y := by omega
     rw [h6, ih (bytesB_of fun c hc => bytesB_at ha c (by simp [hc])) (bytesB_of fun c hc => bytesB_at hb c (by simp [hc])) h4]
theorem strs_beq (a b : List Int) (ha : bytesB a = true) (hb : bytesB b = true) : ((strOfNums a).toList == (strOfNums b).toList) = decide (a = b) := by
 by_cases h : a = b
 · subst h; simp
 · rw [decide_eq_false h]
   simp only [beq_eq_false_iff_ne]
   exact fun h2 => h (strs_eq ha hb h2)
theorem sealL_byte (l : List Int) (hb : bytesB l = true) : bytesB (sealL l) = true := by
 rw [sealL, bytesB_append, hb, bytesB_of (putL_byte _ 4)]; rfl
theorem sumL_wrap (l : List Int) (hb : bytesB l = true) : IntKind.u64.wrap (sumL l) = sumL l := by
 have hr := moreL_range 0 l (by omega) hb
 have hs : sumL l = moreL 0 l := rfl
 rw [hs]
 simp only [IntKind.wrap, IntKind.signed, IntKind.bits]; simp; omega
theorem crc_Seal.is (l : List Int) (hb : bytesB l = true) (hl : l.length ≤ 2000000) : crc_Seal.f l = some (sealL l) := by
 rw [crc_Seal.f, bytes_Clone.f, if_pos (by omega), Option.bind_some, crc_Sum.f, if_pos hb, Option.bind_some, sumL_wrap l hb, word_Put.f, Option.bind_some, show putN 4 = 4 from rfl, if_pos (by rw [putL_length]; omega)]
 rfl
theorem crc_Right_c.to {l0 : List Int} {r : Bool} (h : crc_Right_c.f l0 = some r) : crc_Right.f l0 = some r := by
 unfold crc_Right_c.f at h
 split at h
 case isFalse => cases h
 case isTrue hb =>
 obtain rfl := Option.some.inj h
 have e : wrap64 ((l0.length : Int) - 4) = (l0.length : Int) - 4 := by unfold wrap64; omega
 rw [crc_Right.f, e, rightC]
 by_cases h4 : (l0.length : Int) - 4 ≥ 0
 · rw [if_pos h4, if_pos h4, if_pos (by omega), show ((l0.length : Int) - 4).toNat = l0.length - 4 from by omega, crc_Seal.is _ (bytesB_take hb.1 _) (by rw [List.length_take]; omega), Option.bind_some, bytes_Equal.f, Option.bind_some, decide_eq_true (show 4 ≤ l0.length by omega), Bool.true_and]
   congr 1
   exact strs_beq _ _ (sealL_byte _ (bytesB_take hb.1 _)) hb.1
 · rw [if_neg h4, decide_eq_false (show ¬ 4 ≤ l0.length by omega)]
   rfl

theorem crc_Right_c.calls (A0 : Option Addr) (c0 : Nat) (l0 : List Int) (r : Bool) (w : World) (hr0 : Kd.C (Kd.int .u8) w A0 l0.length l0) (hc0 : l0.length ≤ c0) (h : crc_Right_c.f l0 = some r) :
 Calls Try.prog 48 #[.slice A0 l0.length c0] w fun e w' => e = .returned (.bool r) ∧ Below w.heap.size w w' := by
 exact crc_Right.calls A0 c0 l0 r w hr0 hc0 (crc_Right_c.to h)

end Go.Proofs.Ytbijnfhcbanhdaa.F
end

section
/- slices.Backward over bytes: the closure's contract for whatever loop body keeps the slice's box and its bytes. -/
namespace Go.Proofs.Ytbijnfhcbanhdaa.H
open Go.RowKit Go.Shelf
open Go.Proofs.YtbijnfhcbanhdaaW.PrintWords
attribute [local go_sem] Oper.semAt_some

/-- What comes: from the last to the first, with its place. -/
def back (xs : List Int) (k : Nat) : List (Int × Int) := (List.range k).map fun (j : Nat) => ((xs.length : Int) - 1 - j, rd xs ((xs.length : Int) - 1 - j))
theorem back_succ (xs : List Int) (k : Nat) : back xs (k + 1) = back xs k ++ [((xs.length : Int) - 1 - k, rd xs ((xs.length : Int) - 1 - k))] := by simp [back, List.range_succ]
theorem back_length (xs : List Int) (k : Nat) : (back xs k).length = k := by simp [back]

theorem backward_in (a : Option Addr) (len cap : Nat) (w : World) :
 CallsIn Fence.wide 9 Try.prog 96 #[.slice a len cap] w fun e w' => e = .returned (.func (.func 101) #[] #[.pointer (some ⟨w.heap.size, 0, none⟩)]) ∧ w' = w.alloc (.cells #[.slice a len cap] 27) := by
 refine callsIn_of_wp Try.func96 rfl trivial ?_ rfl
 simp only [Try.ntmps96, List.size_toArray, List.length_cons, List.length_nil, Nat.reduceAdd, Nat.reduceSub, Array.replicate_succ, Array.replicate_zero, List.push_toArray, List.append_toArray, List.nil_append, List.cons_append]
 gi_wp2
 go_ret
 exact ⟨rfl, rfl⟩

set_option maxRecDepth 100000 in
set_option maxHeartbeats 2000000 in
theorem backward1_in (l Bs n₀ : Nat) (S : Nat → Prop) (A : Option Addr) (cap : Nat) (xs : List Int) (hx : xs.length ≤ 1000000) (J Jx : List (Int × Int) → World → Prop)
 (hY : ∀ pre x W, J pre W → pre.length < xs.length → YieldAt Fence.wide 8 Try.prog l #[.int .i64 x.1, .int .u8 x.2] W fun e W' =>
   (e = .returned (.bool true) ∧ J (pre ++ [x]) W' ∧ Kset n₀ S W W') ∨ (e = .returned (.bool false) ∧ Jx (pre ++ [x]) W'))
 (W : World) (hBs : W.cell? ⟨Bs, 0, none⟩ = some (.slice A xs.length cap)) (hC : ∀ W', Kset n₀ S W W' → (Kd.int .u8).C W' A xs.length xs) (hBn : Bs < n₀) (hBS : ¬ S Bs) (h0 : J [] W) :
 CallsIn Fence.wide 9 Try.prog 101 #[.func (.yield l) #[] #[], .pointer (some ⟨Bs, 0, none⟩)] W fun e W' => (∃ v, e = .returned v) ∧
  ((∃ ys, ys = back xs xs.length ∧ J ys W') ∨ (∃ pre, (∃ k, k ≤ xs.length ∧ pre = back xs k) ∧ Jx pre W')) := by
 refine callsIn_of_wp Try.func101 rfl trivial ?_ rfl
 simp only [Try.ntmps101, List.size_toArray, List.length_cons, List.length_nil, Nat.reduceAdd, Nat.reduceSub, Array.replicate_succ, Array.replicate_zero, List.push_toArray, List.append_toArray, List.nil_append, List.cons_append]
 gi_wp2
 gi_loopw [3] (fun i wr => ∃ k : Nat, k ≤ xs.length ∧ i = .int .i64 ((xs.length : Int) - 1 - k) ∧ J (back xs k) wr ∧ Kset n₀ S W wr)
  (fun i _ => (intOf i + 1).toNat)
 case atStart => exact ⟨0, Nat.zero_le _, by simp, h0, Kset.refl _ _ _⟩
 case round =>
  obtain ⟨k, hk, rfl, hJs, hnx⟩ := hrel
  have hBs' : wr.cell? ⟨Bs, 0, none⟩ = some (.slice A xs.length cap) := (hnx.cell (p := ⟨Bs, 0, none⟩) hBn hBS).trans hBs
  by_cases hlt : k < xs.length
  · obtain ⟨ad, hA, hcx⟩ := ReadsInt.at_ (Kd.reads_of_C (d := (0 : Int)) (hC wr hnx)) ((xs.length : Int) - 1 - k) (by omega) (by omega)
    obtain ⟨fn, tmps, assign, body, hy, hR⟩ := hY _ ((xs.length : Int) - 1 - k, rd xs ((xs.length : Int) - 1 - k)) wr hJs (by rw [back_length]; exact hlt)
    dsimp only at hy
    rw [← back_succ] at hR
    subst hA
    obtain ⟨i, hi⟩ : ∃ i : Int, (xs.length : Int) - 1 - k = i := ⟨_, rfl⟩
    rw [hi] at hy hcx ⊢
    have hi0 : 0 ≤ i := by omega
    have hi1 : i < (xs.length : Int) := by omega
    have hi2 : i ≤ 1000000 := by omega
    have HI : Hid _ := hi
    clear hi
    gi_wp2
    refine hR.mono ?_
    rintro e W3 (⟨rfl, hJ3, hk3⟩ | ⟨rfl, hJx3⟩)
    · gi_wp2
      go_roundw
      case rel => exact ⟨k + 1, by omega, by rw [← HI.out]; congr 1; omega, hJ3, hnx.trans hk3⟩
      case measure => simp [intOf]; omega
    · gi_wp2
      refine bodyPost_ret (results_none rfl _ _ _) rfl ?_
      exact ⟨⟨_, rfl⟩, .inr ⟨_, ⟨k + 1, by omega, rfl⟩, hJx3⟩⟩
  · obtain rfl : k = xs.length := by omega
    have hneg : ((xs.length : Int) - 1 - (xs.length : Int)) = -1 := by omega
    rw [hneg]
    clear hneg
    gi_wp2
    go_end0
    exact ⟨⟨_, rfl⟩, .inl ⟨_, rfl, hJs⟩⟩

end Go.Proofs.Ytbijnfhcbanhdaa.H
end

section
namespace Go.Proofs.Ytbijnfhcbanhdaa.F
open Go.RowKit Go.Proofs.YtbijnfhcbanhdaaW.PrintWords Go.Proofs.YtbijnfhcbanhdaaW.PrintLast Go.Proofs.YtbijnfhcbanhdaaW.PrintMore
attribute [local go_sem] max2_int min2_int max_two min_two max_three min_three max_four min_four   -- for this text's walks alone
set_option linter.unusedVariables false
set_option linter.unusedSimpArgs false

open Go.Shelf Go.Proofs.Ytbijnfhcbanhdaa.H
attribute [local go_sem] Oper.semAt_some
/-! ### word_Get: given -/
def word_Get.f (l0 : List Int) : Option Int := if bytesB (l0.take 8) = true then some (getL (l0.take 8)) else none
def stepB (n c : Int) : Int := Go.bits .or .u64 (IntKind.u64.wrap (n * 256)) (IntKind.u64.wrap c)
theorem stepB_byte (n c : Int) (h0 : 0 ≤ n) (h1 : n < 72057594037927936) (h2 : 0 ≤ c) (h3 : c ≤ 255) : stepB n c = c + 256 * n := by
 have hk : ∀ z : Int, 0 ≤ z → z < 2 ^ 64 → IntKind.u64.wrap z = z := by
  intro z hz hz2
  simp [IntKind.wrap, IntKind.signed, IntKind.bits]
  omega
 unfold stepB
 rw [hk _ (by omega) (by omega), hk c (by omega) (by omega), bits_join .u64 64 (by decide) hk 8 (n * 256) c (by omega) (by omega) (by omega) h2 (by omega) (by omega)]
 omega
def foldB (pre : List (Int × Int)) : Int := pre.foldl (fun n x => stepB n x.2) 0
theorem foldB_snoc (pre : List (Int × Int)) (x : Int × Int) : foldB (pre ++ [x]) = stepB (foldB pre) x.2 := by simp [foldB]
theorem foldB_back {xs : List Int} (h8 : xs.length ≤ 8) (hc : ∀ c ∈ xs, 0 ≤ c ∧ c ≤ 255) : ∀ k, k ≤ xs.length → foldB (back xs k) = getL (xs.drop (xs.length - k))
 | 0, _ => by simp [foldB, back, getL]
 | k + 1, hk => by
   rw [back_succ, foldB_snoc, foldB_back h8 hc k (by omega)]
   have hlt : xs.length - (k + 1) < xs.length := by omega
   have hd : xs.drop (xs.length - (k + 1)) = xs[xs.length - (k + 1)] :: xs.drop (xs.length - k) := by
    rw [List.drop_eq_getElem_cons hlt]; congr 2; omega
   have hr : rd xs ((xs.length : Int) - 1 - k) = xs[xs.length - (k + 1)] := by
    have e : ((xs.length : Int) - 1 - k).toNat = xs.length - (k + 1) := by omega
    simp [rd, e, List.getD_eq_getElem?_getD, List.getElem?_eq_getElem hlt]
   rw [hd, hr]
   have hb := getL_bound 7 (xs.drop (xs.length - k)) (by simp; omega) (fun c h => hc c (List.mem_of_mem_drop h))
   have hx := hc _ (List.getElem_mem hlt)
   exact stepB_byte _ _ hb.1 (by omega) hx.1 hx.2
set_option maxHeartbeats 1000000 in
set_option maxRecDepth 100000 in
theorem word_Get.calls (A0 : Option Addr) (c0 : Nat) (l0 : List Int) (r : Int) (w : World) (hr0 : Kd.C (Kd.int .u8) w A0 l0.length l0) (hc0 : l0.length ≤ c0) (h : word_Get.f l0 = some r) :
 Calls Try.prog 83 #[.slice A0 l0.length c0] w fun e w' => e = .returned (.int .u64 r) ∧ Below w.heap.size w w' := by
 unfold word_Get.f at h
 split at h
 case isFalse => cases h
 case isTrue hb =>
 obtain rfl := Option.some.inj h
 clear h
 refine (callsIn_wide (n := 10)).1 ?_
 obtain ⟨xs, hxs⟩ : ∃ xs, l0.take 8 = xs := ⟨_, rfl⟩
 have hxl : xs.length = min 8 l0.length := by rw [← hxs, List.length_take]
 have hx8 : xs.length ≤ 8 := by omega
 have hC : (Kd.int .u8).C w A0 xs.length xs := by
  have := (ReadsInt.take_ (Kd.reads_of_C (d := (0 : Int)) hr0) (min 8 l0.length) (by omega))
  rw [← hxl] at this
  have e : l0.take xs.length = xs := by rw [hxl, ← hxs]; simp [List.take_eq_take_iff]
  rw [e] at this
  exact Kd.C_of_reads (d := (0 : Int)) this
 have hmn : (if (8 : Int) < (l0.length : Int) then 8 else (l0.length : Int)) = (xs.length : Int) := by split <;> omega
 have hle : xs.length ≤ l0.length := by omega
 rw [hxs] at hb ⊢
 have hcb := bytesB_at hb
 clear hb hxs hxl hr0
 refine callsIn_of_wp_marks Try.func83 rfl trivial ?_ rfl
 simp only [Try.ntmps83, List.size_toArray, List.length_cons, List.length_nil, Nat.reduceAdd, Nat.reduceSub, Array.replicate_succ, Array.replicate_zero, List.push_toArray, List.append_toArray, List.nil_append, List.cons_append]
 gi_wp2_with (refine ⟨trivial, ?_⟩; gi_at_call 96; refine (backward_in _ _ _ _).mono ?_; rintro e w' ⟨rfl, rfl⟩)
 have bN := Boxed.new w 22 (.int .u64 0)
 have bS := Boxed.new (w.alloc (.cells #[.int .u64 0] 22)) 27 (.slice A0 xs.length c0)
 rw [World.size_alloc] at bS
 have hB0 : Below w.heap.size w ((w.alloc (.cells #[.int .u64 0] 22)).alloc (.cells #[.slice A0 xs.length c0] 27)) := ((Below.refl _ w).alloc (Nat.le_refl _) _).alloc (by simp) _
 refine wpIn_rangeFunc_ownG (F := Fence.wide) (n := 10) rfl (by omega) (gf := 101) (lb := #[.pointer (some ⟨w.heap.size + 1, 0, none⟩)]) rfl trivial (enters_of Try.func101 (by kernel_rfl) rfl)
  (encs := fun x : Int × Int => #[.int .i64 x.1, .int .u8 x.2]) (Kp := Kset (w.heap.size + 2) (fun k => k = w.heap.size)) (S := fun ys => ys = back xs xs.length) (Sp := fun _ => True) (N := xs.length)
  (w0 := (w.alloc (.cells #[.int .u64 0] 22)).alloc (.cells #[.slice A0 xs.length c0] 27)) ?seq ksetK_t (ksetK_b (by simp)) (Below.refl _ _) (fun _ => rfl)
  (fun pre W => Boxed W w.heap.size 22 (.int .u64 (foldB pre)) ∧ Kset (w.heap.size + 2) (fun k => k = w.heap.size) ((w.alloc (.cells #[.int .u64 0] 22)).alloc (.cells #[.slice A0 xs.length c0] 27)) W)
  (fun _ _ _ => False) ?own (fun _ _ _ _ _ hs _ _ => hs) ?start
  (fun x => { tmps := #[.slice A0 l0.length c0, undef, .int .u64 0, .pointer (some ⟨w.heap.size, 0, none⟩), undef, .int .u8 x.2, .slice A0 l0.length c0, .slice A0 l0.length c0, .int .i64 l0.length, .int .i64 xs.length, .slice A0 xs.length c0, .func (.func 101) #[] #[.pointer (some ⟨w.heap.size + 1, 0, none⟩)], .int .i64 x.1, .int .u8 x.2, undef, undef, undef, undef, undef, undef], defers := [] }) ?assign ?body ?done ?stop
 case seq =>
  intro l J Jx W hW hJ hJx hY h0
  refine (backward1_in l (w.heap.size + 1) (w.heap.size + 2) (fun k => k = w.heap.size) A0 c0 xs (by omega) J Jx hY W ((hW.cell (p := ⟨w.heap.size + 1, 0, none⟩) (by simp)).trans bS.cell) (fun W' hk => C_kset hC (hB0.trans (hW.mono (by simp; omega))) hk (by omega) (fun k e => by omega)) (by omega) (by omega) h0).mono ?_
  rintro e W' ⟨he, ⟨ys, rfl, hj⟩ | ⟨pre, _, hj⟩⟩
  · exact ⟨he, .inl ⟨_, rfl, hj⟩⟩
  · exact ⟨he, .inr ⟨_, trivial, hj⟩⟩
 case own => exact OwnFrom.and (Own.from (boxed_own _ _ _) _) (ownFrom_kset (by simp) (by simp))
 case start => exact ⟨by simpa [foldB] using bN.alloc _, Kset.refl _ _ _⟩
 case assign =>
  intro l x W K hK
  gi_wp2
  exact hK
 case body =>
  rintro l pre x W ⟨hb, hk⟩ hlen
  have hc := hb.cell
  have hf := hb.frozen
  gi_wp2
  exact ⟨(KeepsOthers.setCell _ _ _).from _, Kset.setCell (B := w.heap.size + 2) (S := fun k => k = w.heap.size) (Kset.refl _ _ _) (p := ⟨w.heap.size, 0, none⟩) (.inl rfl) _, by rw [foldB_snoc]; exact hb.set _, hk.setCell (p := ⟨w.heap.size, 0, none⟩) (.inl rfl) _⟩
 case done =>
  rintro D ys W hD rfl ⟨hb, hk⟩ hK
  have hc := hb.cell
  gi_wp2
  refine ⟨by simp, .inl ⟨_, _, rfl, run_takeDeferred hK, ?_⟩⟩
  refine ⟨_, results_tmp rfl _ _ _, ?_, ?_⟩
  · rw [foldB_back hx8 hcb _ (Nat.le_refl _)]; simp
  · exact (hB0.trans (hk.below (by omega) (fun k e => by omega))).trans (belowK_b (w := w) (Nat.le_refl _) W D _ _ (by simp at hD; omega) hK rfl rfl)
 case stop =>
  rintro D c pre W _ _ h _
  exact h.elim

end Go.Proofs.Ytbijnfhcbanhdaa.F
end

section
/- The token reader's step: so many bytes taken off the front, or the short flag set. -/
namespace Go.Proofs.Ytbijnfhcbanhdaa.F
open Go.RowKit Go.Proofs.YtbijnfhcbanhdaaW.PrintWords Go.Proofs.YtbijnfhcbanhdaaW.PrintLast Go.Proofs.YtbijnfhcbanhdaaW.PrintMore Go.Proofs.Ytbijnfhcbanhdaa.H
set_option linter.unusedVariables false
set_option linter.unusedSimpArgs false
set_option maxHeartbeats 1000000 in
set_option maxRecDepth 100000 in
theorem reader_get.calls (gr gs m : Nat) (hm : m ≤ 8) (A : Option Addr) (c : Nat) (l : List Int) (sh : Bool) (W : World) (hr : W.heap[gr]? = some (.cells #[.slice A l.length c, .pointer (some ⟨gs, 0, none⟩)] 90 (0, 0))) (hs : W.heap[gs]? = some (.cells #[.bool sh] 4 (0, 0)))
 (hC : Kd.C (Kd.int .u8) W A l.length l) (hc : l.length ≤ c) (hb : bytesB l = true) :
 Calls Try.prog 49 #[.pointer (some ⟨gr, 0, none⟩), .int .i64 m] W fun e W' =>
  (l.length < m ∧ e = .returned (.int .u64 0) ∧ W' = W.setCell ⟨gs, 0, none⟩ (.bool true)) ∨
  (m ≤ l.length ∧ e = .returned (.int .u64 (getL (l.take m))) ∧ ∃ W2 A2, Below W.heap.size W W2 ∧ W' = W2.setCell ⟨gr, 0, none⟩ (.slice A2 (l.length - m) (c - m)) ∧ ∀ Wx, Kd.C (Kd.int .u8) Wx A l.length l → Kd.C (Kd.int .u8) Wx A2 (l.length - m) (l.drop m)) := by
 have hc0 : W.cell? ⟨gr, 0, none⟩ = some (.slice A l.length c) := (blk_cell hr 0).trans rfl
 have hc1 : W.cell? ⟨gr, 1, none⟩ = some (.pointer (some ⟨gs, 0, none⟩)) := (blk_cell hr 1).trans rfl
 have hs0 : W.cell? ⟨gs, 0, none⟩ = some (.bool sh) := (blk_cell hs 0).trans rfl
 have hf0 := blk_frozen hr 0
 have hfs := blk_frozen hs 0
 by_cases hl : l.length < m
 · go_enter Try.func49, Try.ntmps49
   go_wp2
   go_ret
   exact .inl ⟨hl, rfl, rfl⟩
 · have hml : m ≤ l.length := by omega
   have hmc : m ≤ c := by omega
   have htl : (l.take m).length = m := by rw [List.length_take]; omega
   have hget : word_Get.f (l.take m) = some (getL (l.take m)) := by
    unfold word_Get.f
    have e : (l.take m).take 8 = l.take m := List.take_of_length_le (by omega)
    rw [e, if_pos (bytesB_take hb m)]
   have hCt : (Kd.int .u8).C W A m (l.take m) := Kd.C_of_reads (d := (0 : Int)) (ReadsInt.take_ (Kd.reads_of_C (d := (0 : Int)) hC) m hml)
   obtain ⟨A3, hcut, hA3⟩ := print_cut (P := Try.prog) 27 5 .i64 (i := (Try.prog.info? 5).get (by kernel_rfl)) Try.underlying27 (by kernel_rfl) (by kernel_rfl) A l.length c m hml
   have hcut2 : ∀ W : World, (Instr.slice 27 (.slice A l.length c) (some (.int .i64 m)) none none).run Try.prog W = .ok (.slice A3 (l.length - m) (c - m)) W := hcut
   have hCd : ∀ Wx, (Kd.int .u8).C Wx A l.length l → (Kd.int .u8).C Wx A3 (l.length - m) (l.drop m) := fun Wx hCx => Kd.C_of_reads (d := (0 : Int)) (hA3 Wx .u8 l hc (Kd.reads_of_C (d := (0 : Int)) hCx))
   obtain ⟨p, hp⟩ : ∃ p, l.take m = p := ⟨_, rfl⟩
   obtain ⟨x, hx⟩ : ∃ x, getL p = x := ⟨_, rfl⟩
   rw [hp] at hget hCt htl ⊢
   rw [hx] at hget ⊢
   have hCt2 : (Kd.int .u8).C W A p.length p := by rw [htl]; exact hCt
   have hcall := word_Get.calls A c p x W hCt2 (by rw [htl]; exact hmc) hget
   rw [htl] at hcall
   have HHR := Aside0.mk hr
   clear hcut hA3 hCt hp hx htl hr hs hget hCt2
   go_enter Try.func49, Try.ntmps49
   go_wp2_with (go_at_call 83; refine hcall.mono ?_; rintro e W2 ⟨rfl, hb2⟩; have HB2 := Aside0.mk hb2; have HR2 := blk_below HHR.out hb2; have hd0 : W2.cell? ⟨gr, 0, none⟩ = some (.slice A l.length c) := (blk_cell HR2 0).trans rfl; have hdf0 := blk_frozen HR2 0; clear hb2 HR2)
   go_ret
   first
    | exact .inr ⟨hml, rfl, _, A3, HB2.out, rfl, hCd⟩
    | exact ⟨rfl, _, HB2.out, A3, rfl, hCd⟩
/-- What token.Decode holds while it reads: its result's place, the short flag, the reader, the token. -/
structure DSt (w0 W : World) (g0 gs gr gm : Nat) (sh : Bool) (A : Option Addr) (c : Nat) (l : List Int) (s : Int) (V : Value) (sizes : List Int) (sum : Int) : Prop where
 k0 : W.heap[g0]? = some (.cells #[.int .u64 0, .slice none 0 0, .int .u32 0, .slice none 0 0] 29 (0, 0))
 ks : W.heap[gs]? = some (.cells #[.bool sh] 4 (0, 0))
 kr : W.heap[gr]? = some (.cells #[.slice A l.length c, .pointer (some ⟨gs, 0, none⟩)] 90 (0, 0))
 km : W.heap[gm]? = some (.cells #[.int .u64 s, V, .int .u32 sum, .slice none 0 0] 29 (0, 0))
 row : Kd.R (Kd.int .i64) 3 W w0.heap.size (fun _ => True) V sizes
 rd : Kd.C (Kd.int .u8) w0 A l.length l
 cap : l.length ≤ c
 bel : Below w0.heap.size w0 W
 l0 : w0.heap.size ≤ g0
 ls : w0.heap.size ≤ gs
 lr : w0.heap.size ≤ gr
 lm : w0.heap.size ≤ gm
 ne : g0 ≠ gm
theorem DSt.below {w0 W W' : World} {g0 gs gr gm : Nat} {sh : Bool} {A : Option Addr} {c : Nat} {l : List Int} {s : Int} {V : Value} {sizes : List Int} {sum : Int} (h : DSt w0 W g0 gs gr gm sh A c l s V sizes sum) (hb : Below W.heap.size W W') : DSt w0 W' g0 gs gr gm sh A c l s V sizes sum :=
 ⟨blk_below h.k0 hb, blk_below h.ks hb, blk_below h.kr hb, blk_below h.km hb, Kd.R_below h.row hb, h.rd, h.cap, below_then h.bel h.bel.size hb, h.l0, h.ls, h.lr, h.lm, h.ne⟩
theorem DSt.flag {w0 W : World} {g0 gs gr gm : Nat} {sh : Bool} {A : Option Addr} {c : Nat} {l : List Int} {s : Int} {V : Value} {sizes : List Int} {sum : Int} (h : DSt w0 W g0 gs gr gm sh A c l s V sizes sum) (sh' : Bool) : DSt w0 (W.setCell ⟨gs, 0, none⟩ (.bool sh')) g0 gs gr gm sh' A c l s V sizes sum :=
 ⟨blk_far h.k0 (blk_ne h.k0 h.ks (by decide)) _, blk_put h.ks 0 _ rfl, blk_far h.kr (blk_ne h.kr h.ks (by decide)) _, blk_far h.km (blk_ne h.km h.ks (by decide)) _,
  Kd.R_mono (Kd.R_far (p := ⟨gs, 0, none⟩) (Kd.R_types h.row h.ks (by decide)) (fun _ hk => hk.2) _) (fun _ _ => trivial), h.rd, h.cap, below_set h.bel h.ls, h.l0, h.ls, h.lr, h.lm, h.ne⟩
theorem DSt.read {w0 W : World} {g0 gs gr gm : Nat} {sh : Bool} {A : Option Addr} {c : Nat} {l : List Int} {s : Int} {V : Value} {sizes : List Int} {sum : Int} (h : DSt w0 W g0 gs gr gm sh A c l s V sizes sum) (A2 : Option Addr) (c2 : Nat) (l2 : List Int)
 (hr : Kd.C (Kd.int .u8) w0 A2 l2.length l2) (hc : l2.length ≤ c2) : DSt w0 (W.setCell ⟨gr, 0, none⟩ (.slice A2 l2.length c2)) g0 gs gr gm sh A2 c2 l2 s V sizes sum :=
 ⟨blk_far h.k0 (blk_ne h.k0 h.kr (by decide)) _, blk_far h.ks (blk_ne h.ks h.kr (by decide)) _, blk_put h.kr 0 _ rfl, blk_far h.km (blk_ne h.km h.kr (by decide)) _,
  Kd.R_mono (Kd.R_far (p := ⟨gr, 0, none⟩) (Kd.R_types h.row h.kr (by decide)) (fun _ hk => hk.2) _) (fun _ _ => trivial), hr, hc, below_set h.bel h.lr, h.l0, h.ls, h.lr, h.lm, h.ne⟩
theorem DSt.head {w0 W : World} {g0 gs gr gm : Nat} {sh : Bool} {A : Option Addr} {c : Nat} {l : List Int} {s : Int} {V : Value} {sizes : List Int} {sum : Int} (h : DSt w0 W g0 gs gr gm sh A c l s V sizes sum) (s' sum' : Int) :
 DSt w0 ((W.setCell ⟨gm, 0, none⟩ (.int .u64 s')).setCell ⟨gm, 2, none⟩ (.int .u32 sum')) g0 gs gr gm sh A c l s' V sizes sum' := by
 have hs := blk_ne h.ks h.km (by decide)
 have hr := blk_ne h.kr h.km (by decide)
 refine ⟨blk_far (p := ⟨gm, 2, none⟩) (blk_far (p := ⟨gm, 0, none⟩) h.k0 h.ne _) h.ne _, blk_far (p := ⟨gm, 2, none⟩) (blk_far (p := ⟨gm, 0, none⟩) h.ks hs _) hs _, blk_far (p := ⟨gm, 2, none⟩) (blk_far (p := ⟨gm, 0, none⟩) h.kr hr _) hr _,
  blk_put (cs := #[.int .u64 s', V, .int .u32 sum, .slice none 0 0]) (blk_put h.km 0 _ rfl) 2 _ rfl, ?_, h.rd, h.cap, below_set (below_set h.bel h.lm) h.lm, h.l0, h.ls, h.lr, h.lm, h.ne⟩
 exact Kd.R_mono (Kd.R_far (p := ⟨gm, 2, none⟩) (Kd.R_far (p := ⟨gm, 0, none⟩) (Kd.R_types h.row h.km (by decide)) (fun _ hk => hk.2) _) (fun _ hk => hk.2) _) (fun _ _ => trivial)
/-- A further size: the row V' stands in V's place. -/
theorem DSt.app {w0 W : World} {g0 gs gr gm : Nat} {sh : Bool} {A : Option Addr} {c : Nat} {l : List Int} {s : Int} {V : Value} {sizes : List Int} {sum : Int} (h : DSt w0 W g0 gs gr gm sh A c l s V sizes sum) (W1 : World) (hg : W.grownBy W1 V.ownBlock) (V' : Value) (sizes' : List Int)
 (hr : Kd.R (Kd.int .i64) 3 W1 w0.heap.size (fun _ => True) V' sizes') (hb : Below w0.heap.size w0 W1) : DSt w0 (W1.setCell ⟨gm, 1, none⟩ V') g0 gs gr gm sh A c l s V' sizes' sum := by
 have n0 : some g0 ≠ V.ownBlock := fun e => Kd.R_ne h.row h.k0 (by decide) e
 have ns : some gs ≠ V.ownBlock := fun e => Kd.R_ne h.row h.ks (by decide) e
 have nr : some gr ≠ V.ownBlock := fun e => Kd.R_ne h.row h.kr (by decide) e
 have nm : some gm ≠ V.ownBlock := fun e => Kd.R_ne h.row h.km (by decide) e
 have k0 := blk_grown h.k0 hg n0
 have ks := blk_grown h.ks hg ns
 have kr := blk_grown h.kr hg nr
 have km := blk_grown h.km hg nm
 refine ⟨blk_far (p := ⟨gm, 1, none⟩) k0 h.ne _, blk_far (p := ⟨gm, 1, none⟩) ks (blk_ne ks km (by decide)) _, blk_far (p := ⟨gm, 1, none⟩) kr (blk_ne kr km (by decide)) _, blk_put km 1 _ rfl, ?_, h.rd, h.cap, below_set hb h.lm, h.l0, h.ls, h.lr, h.lm, h.ne⟩
 exact Kd.R_mono (Kd.R_far (p := ⟨gm, 1, none⟩) (Kd.R_types hr km (by decide)) (fun _ hk => hk.2) _) (fun _ _ => trivial)
/-- What the reader gives, and how it stands then. -/
def getR (l : List Int) (m : Nat) : Int × List Int × Bool := if l.length < m then (0, l, true) else (getL (l.take m), l.drop m, false)
theorem DSt.get {w0 W : World} {g0 gs gr gm : Nat} {sh : Bool} {A : Option Addr} {c : Nat} {l : List Int} {s : Int} {V : Value} {sizes : List Int} {sum : Int} (h : DSt w0 W g0 gs gr gm sh A c l s V sizes sum) (m : Nat) (hm : m ≤ 8) (hb : bytesB l = true) :
 Calls Try.prog 49 #[.pointer (some ⟨gr, 0, none⟩), .int .i64 m] W fun e W' => e = .returned (.int .u64 (getR l m).1) ∧ ∃ A2 c2, DSt w0 W' g0 gs gr gm (sh || (getR l m).2.2) A2 c2 (getR l m).2.1 s V sizes sum := by
 refine (reader_get.calls gr gs m hm A c l sh W h.kr h.ks (Kd.C_below h.rd h.bel) h.cap hb).mono ?_
 rintro e W' (⟨h1, rfl, rfl⟩ | ⟨h1, rfl, W2, A2, hb2, rfl, hC⟩)
 · have e1 : getR l m = (0, l, true) := if_pos h1
   rw [e1, Bool.or_true]
   exact ⟨rfl, A, c, h.flag true⟩
 · have e1 : getR l m = (getL (l.take m), l.drop m, false) := if_neg (by omega)
   have hl : (l.drop m).length = l.length - m := by rw [List.length_drop]
   rw [e1, Bool.or_false]
   refine ⟨rfl, A2, c - m, ?_⟩
   have h2 := (h.below hb2).read A2 (c - m) (l.drop m) (by rw [hl]; exact hC w0 h.rd) (by rw [hl]; have := h.cap; omega)
   rw [hl] at h2
   exact h2
end Go.Proofs.Ytbijnfhcbanhdaa.F
end

section
namespace Go.Proofs.Ytbijnfhcbanhdaa.F
open Go.RowKit Go.Proofs.YtbijnfhcbanhdaaW.PrintWords Go.Proofs.YtbijnfhcbanhdaaW.PrintLast Go.Proofs.YtbijnfhcbanhdaaW.PrintMore
attribute [local go_sem] max2_int min2_int max_two min_two max_three min_three max_four min_four   -- for this text's walks alone
set_option linter.unusedVariables false
set_option linter.unusedSimpArgs false

open Go.Proofs.Ytbijnfhcbanhdaa.H
/-! ### token_Decode: given -/
def readSizes : Nat → List Int → List Int → Bool → List Int × List Int × Bool
 | 0, acc, l, sh => (acc, l, sh)
 | k + 1, acc, l, sh => readSizes k (acc ++ [(getR l 2).1]) (getR l 2).2.1 (sh || (getR l 2).2.2)
def decodeQ (b : List Int) : List Int × List Int × Bool := readSizes (getL (((b.take (b.length - 4)).drop 12).take 1)).toNat [] ((b.take (b.length - 4)).drop 13) false
def decodeL (b : List Int) : Int × List Int × Int × List Int × Int :=
 if b.length < 17 then (0, [], 0, [], 10) else if rightC b = true then
  if (decodeQ b).2.2 = false ∧ encodeL (getL ((b.take (b.length - 4)).take 8)) (decodeQ b).1 (getL (((b.take (b.length - 4)).drop 8).take 4)) (decodeQ b).2.1 = (b, 0)
  then (getL ((b.take (b.length - 4)).take 8), (decodeQ b).1, getL (((b.take (b.length - 4)).drop 8).take 4), (decodeQ b).2.1, 0)
  else (0, [], 0, [], 11)
 else (0, [], 0, [], 12)
def token_Decode.f (b : List Int) : Option (Int × List Int × Int × List Int × Int) := if bytesB b = true ∧ b.length ≤ 1000000 then some (decodeL b) else none
set_option maxHeartbeats 4000000 in
set_option maxRecDepth 100000 in
theorem token_Decode.calls (A0 : Option Addr) (c0 : Nat) (l0 : List Int) (r1 : Int) (r2 : List Int) (r3 : Int) (r4 : List Int) (r5 : Int) (w : World) (hr0 : Kd.C (Kd.int .u8) w A0 l0.length l0) (hc0 : l0.length ≤ c0) (h : token_Decode.f l0 = some (r1, r2, r3, r4, r5)) :
 Calls Try.prog 20 #[.slice A0 l0.length c0] w fun e w' => ∃ v1_ v3_ : Value, e = .returned (.tuple #[.agg #[.int .u64 r1, v1_, .int .u32 r3, v3_], .int .u16 r5]) ∧ Kd.R (Kd.int .i64) 3 w' w.heap.size (fun _ => True) v1_ r2 ∧ Kd.R (Kd.int .u8) 5 w' w.heap.size (fun _ => True) v3_ r4 ∧ Below w.heap.size w w' := by
 have hu80 := Try.underlying29
 unfold token_Decode.f at h
 split at h
 case isFalse => cases h
 case isTrue hb =>
 obtain ⟨hbb, hbl⟩ := hb
 replace h := Option.some.inj h
 have HR0 := Aside0.mk hr0
 have HC0 := Aside0.mk hc0
 clear hr0 hc0
 by_cases h17 : l0.length < 17
 · have h17i : ((l0.length : Int) < 17) := by omega
   rw [decodeL, if_pos h17] at h
   cases h
   go_enter Try.func20, Try.ntmps20
   go_wp2_with (first
    | ((with_reducible refine gate_dst (N := 2) rfl ?_); refine box_event ?hg (N := 2) ?hd (cs := #[.int .u64 0, .slice none 0 0, .int .u32 0, .slice none 0 0]) (t := 29) ?hr ?_; (case hd => rfl); (case hg => rfl); (case hr => first | (go_simp; done) | (go_simp; rfl)); intro g0 hg w1 hbox hb; have HB1 := Aside0.mk hb; have BK0 := Aside0.mk hbox; have GE0 := Aside0.mk (Nat.le_of_eq hg.symm); have hz0 := (blk_cell hbox 0).trans rfl; have hz1 := (blk_cell hbox 1).trans rfl; have hz2 := (blk_cell hbox 2).trans rfl; have hz3 := (blk_cell hbox 3).trans rfl; have hzf0 := blk_frozen hbox 0; have hzf1 := blk_frozen hbox 1; have hzf2 := blk_frozen hbox 2; have hzf3 := blk_frozen hbox 3; clear hb hbox hg))
   refine bodyPost_ret (results_ct rfl _ _ g0 29 #[.int .u64 0, .slice none 0 0, .int .u32 0, .slice none 0 0] (0, 0) _ rfl (blk_put (cs := #[.int .u64 0, .slice none 0 0, .int .u32 0, .slice none 0 0]) (blk_put (cs := #[.int .u64 0, .slice none 0 0, .int .u32 0, .slice none 0 0]) (blk_put (cs := #[.int .u64 0, .slice none 0 0, .int .u32 0, .slice none 0 0]) (blk_put BK0.out 0 _ rfl) 1 _ rfl) 2 _ rfl) 3 _ rfl) Try.underlying29 rfl (by kernel_rfl)) rfl ?_
   exact ⟨_, _, rfl, Kd.R_nil _ _ _ _ _, Kd.R_nil _ _ _ _ _, below_set (below_set (below_set (below_set HB1.out GE0.out) GE0.out) GE0.out) GE0.out⟩
 · have h17i : ¬ ((l0.length : Int) < 17) := by omega
   have H17 := Aside0.mk h17
   by_cases hrc : rightC l0 = true
   · have hright : crc_Right_c.f l0 = some true := by unfold crc_Right_c.f; rw [if_pos ⟨hbb, hbl⟩, hrc]
     obtain ⟨n4, hn4⟩ : ∃ n4, l0.length - 4 = n4 := ⟨_, rfl⟩
     have hn4i : (l0.length : Int) - 4 = (n4 : Int) := by omega
     have hn4c : n4 ≤ c0 := by have := HC0.out; omega
     obtain ⟨L, hL⟩ : ∃ L, l0.take n4 = L := ⟨_, rfl⟩
     have hLl : L.length = n4 := by rw [← hL, List.length_take]; omega
     have hCL : (Kd.int .u8).C w A0 L.length L := by
      have := ReadsInt.take_ (Kd.reads_of_C (d := (0 : Int)) HR0.out) n4 (by omega)
      rw [hL, ← hLl] at this
      exact Kd.C_of_reads (d := (0 : Int)) this
     have hLb : bytesB L = true := by rw [← hL]; exact bytesB_take hbb n4
     have HN4 := Aside0.mk hn4
     have HL := Aside0.mk hL
     have HLL := Aside0.mk hLl
     rw [decodeL, if_neg h17, if_pos hrc, decodeQ, hn4, hL] at h
     have HH := Aside0.mk h
     clear hrc h17 h hn4 hL hLl
     go_enter Try.func20, Try.ntmps20
     go_wp2_with (first
      | ((with_reducible refine gate_dst (N := 2) rfl ?_); refine box_event ?hg (N := 2) ?hd (cs := #[.int .u64 0, .slice none 0 0, .int .u32 0, .slice none 0 0]) (t := 29) ?hr ?_; (case hd => rfl); (case hg => rfl); (case hr => first | (go_simp; done) | (go_simp; rfl)); intro g0 hg w1 hbox hb; have HB1 := Aside0.mk hb; have BK0 := Aside0.mk hbox; have GE0 := Aside0.mk (Nat.le_of_eq hg.symm); clear hb hbox hg)
      | (go_at_call 48; refine (crc_Right_c.calls A0 c0 l0 true _ (Kd.C_below HR0.out HB1.out) HC0.out hright).mono ?_; rintro e w2 ⟨rfl, hb2⟩; have HB2 := Aside0.mk (below_then HB1.out (below_size HB1.out) hb2); have BK2 := Aside0.mk (blk_below BK0.out hb2); clear hb2)
      | ((with_reducible refine gate_dst (N := 4) rfl ?_); refine box_event ?hg (N := 4) ?hd (cs := #[.bool false]) (t := 4) ?hr ?_; (case hd => rfl); (case hg => rfl); (case hr => first | (go_simp; done) | (go_simp; rfl)); intro gs hg w3 hbox hb; have HB3 := Aside0.mk (below_then HB2.out (below_size HB2.out) hb); have BK3 := Aside0.mk (blk_below BK2.out hb); have KS3 := Aside0.mk hbox; have GS := Aside0.mk (show w.heap.size ≤ gs by rw [hg]; exact below_size HB2.out); have hs0 := (blk_cell hbox 0).trans rfl; have hsf := blk_frozen hbox 0; clear hb hbox hg))
     have hsz3 : (w3.setCell ⟨gs, 0, none⟩ (.bool false)).heap.size = w3.heap.size := by simp [World.setCell]
     have hst : DSt w (((w3.setCell ⟨gs, 0, none⟩ (.bool false)).alloc (.cells #[.slice A0 n4 c0, .pointer (some ⟨gs, 0, none⟩)] 90)).alloc (.cells #[.int .u64 0, .slice none 0 0, .int .u32 0, .slice none 0 0] 29)) g0 gs w3.heap.size (w3.heap.size + 1) false A0 c0 L 0 (.slice none 0 0) [] 0 := by
      refine ⟨blk_alloc (blk_alloc (blk_far (p := ⟨gs, 0, none⟩) BK3.out (blk_ne BK3.out KS3.out (by decide)) _) _) _, blk_alloc (blk_alloc (blk_put KS3.out 0 _ rfl) _) _, ?_, ?_, Kd.R_nil _ _ _ _ _, hCL, by rw [HLL.out]; exact hn4c, below_alloc (below_alloc (below_set HB3.out GS.out) _) _, GE0.out, GS.out, below_size HB3.out, by have := below_size HB3.out; omega, by have := blk_lt BK3.out; omega⟩
      · have h2 := blk_alloc (blk_new (w3.setCell ⟨gs, 0, none⟩ (.bool false)) (.cells #[.slice A0 n4 c0, .pointer (some ⟨gs, 0, none⟩)] 90)) (.cells #[.int .u64 0, .slice none 0 0, .int .u32 0, .slice none 0 0] 29)
        rw [hsz3] at h2
        rw [HLL.out]
        exact h2
      · have h2 := blk_new ((w3.setCell ⟨gs, 0, none⟩ (.bool false)).alloc (.cells #[.slice A0 n4 c0, .pointer (some ⟨gs, 0, none⟩)] 90)) (.cells #[.int .u64 0, .slice none 0 0, .int .u32 0, .slice none 0 0] 29)
        rw [World.size_alloc, hsz3] at h2
        exact h2
     have HD := Aside0.mk hst
     clear hst hsz3 hs0 hsf
     generalize hW5 : ((w3.setCell ⟨gs, 0, none⟩ (.bool false)).alloc (.cells #[.slice A0 n4 c0, .pointer (some ⟨gs, 0, none⟩)] 90)).alloc (.cells #[.int .u64 0, .slice none 0 0, .int .u32 0, .slice none 0 0] 29) = W5 at HD ⊢
     clear hW5
     have hL13 : 13 ≤ L.length := by have := HLL.out; have := HN4.out; have := H17.out; omega
     obtain ⟨s, hs⟩ : ∃ s, getL (L.take 8) = s := ⟨_, rfl⟩
     obtain ⟨sm, hsm⟩ : ∃ sm, getL ((L.drop 8).take 4) = sm := ⟨_, rfl⟩
     obtain ⟨n, hn⟩ : ∃ n : Nat, getL ((L.drop 12).take 1) = n := by
      have := getL_bound 1 ((L.drop 12).take 1) (by simp; omega) (bytesB_at (bytesB_take (bytesB_drop hLb 12) 1))
      exact ⟨(getL ((L.drop 12).take 1)).toNat, by omega⟩
     have hn1 : n ≤ 255 := by
      have := getL_bound 1 ((L.drop 12).take 1) (by simp; omega) (bytesB_at (bytesB_take (bytesB_drop hLb 12) 1))
      omega
     have hsmb : 0 ≤ sm ∧ sm < 4294967296 := by
      have := getL_bound 4 ((L.drop 8).take 4) (by simp; omega) (bytesB_at (bytesB_take (bytesB_drop hLb 8) 4))
      rw [hsm] at this
      omega
     have hsmm : sm % 4294967296 = sm := by omega
     have g1 : getR L 8 = (s, L.drop 8, false) := by rw [← hs]; exact if_neg (by omega)
     have g2 : getR (L.drop 8) 4 = (sm, L.drop 12, false) := by
      unfold getR
      rw [if_neg (by rw [List.length_drop]; omega), List.drop_drop, hsm]
     have g3 : getR (L.drop 12) 1 = ((n : Int), L.drop 13, false) := by
      unfold getR
      rw [if_neg (by rw [List.length_drop]; omega), List.drop_drop, hn]
     have HSS := Aside0.mk hs
     have HSM := Aside0.mk hsm
     have HNN := Aside0.mk hn
     clear hs hsm hn
     refine (HD.out.get 8 (by omega) hLb).mono ?_
     rw [g1]
     rintro e W6 ⟨rfl, A6, c6, hd6⟩
     have HD6 := Aside0.mk hd6
     clear hd6 HD
     dsimp only
     go_wp2_with (first
      | (go_at_call 49; refine (HD6.out.get 4 (by omega) (bytesB_drop hLb 8)).mono ?_; rw [g2]; rintro e W7 ⟨rfl, A7, c7, hd7⟩; have HD7 := Aside0.mk (hd7.head s sm); have hm0 := (blk_cell hd7.km 0).trans rfl; have hm1 := (blk_cell hd7.km 1).trans rfl; have hm2 := (blk_cell hd7.km 2).trans rfl; have hm3 := (blk_cell hd7.km 3).trans rfl; have hmf0 := blk_frozen hd7.km 0; have hmf1 := blk_frozen hd7.km 1; have hmf2 := blk_frozen hd7.km 2; have hmf3 := blk_frozen hd7.km 3; clear hd7 HD6)
      | (go_at_call 49; refine (HD7.out.get 1 (by omega) (bytesB_drop hLb 12)).mono ?_; rw [g3]; rintro e W8 ⟨rfl, A8, c8, hd8⟩; have HD8 := Aside0.mk hd8; clear hd8 HD7 hm0 hm1 hm2 hm3 hmf0 hmf1 hmf2 hmf3))
     obtain ⟨Q, hQ⟩ : ∃ Q, readSizes n [] (L.drop 13) false = Q := ⟨_, rfl⟩
     have HQ := Aside0.mk hQ
     have HQQ := Aside0.mk hQ
     clear hQ
     go_loopg [38] n (fun g v38 wr => ∃ (k : Nat) (acc l : List Int) (sh : Bool) (A : Option Addr) (c : Nat) (V : Value), k + g = n ∧ v38 = .int .u64 k ∧ Aside0 (DSt w wr g0 gs w3.heap.size (w3.heap.size + 1) sh A c l s V acc sm) ∧ Aside0 (readSizes g acc l sh = Q) ∧ Aside0 (bytesB l = true) ∧ Aside0 (acc.length = k) ∧ Aside0 (l.length ≤ 1000000))
     case atStart => exact ⟨0, [], L.drop 13, false, A8, c8, _, by omega, rfl, HD8, HQ, ⟨bytesB_drop hLb 13⟩, ⟨rfl⟩, ⟨by rw [List.length_drop]; have := HLL.out; have := HN4.out; omega⟩⟩
     case round =>
      clear HD8 HQ
      obtain ⟨k, acc, l, sh, A, c, V, hk, rfl, HD, HQ, HLB, HAL, HLM⟩ := hrel
      have HK : Hid _ := hk
      by_cases hlt : k < n
      · clear hk
        go_wp2
        obtain ⟨AV, cV, eV⟩ := Kd.R_slice HD.out.row
        subst eV
        have HDd := Aside0.mk (HD.out.below ((Below.refl _ wr).drew))
        have hcell : wr.drew.cell? ⟨w3.heap.size + 1, 1, none⟩ = some (.slice AV acc.length cV) := (blk_cell HDd.out.km 1).trans rfl
        refine start_ (n := 11) (S := fun w' => w'.cell? ⟨w3.heap.size + 1, 1, none⟩ = some (.slice AV acc.length cV)) (ds := [10]) #[false, false, false, false, false, false, false, false, false, false, false] (by kernel_rfl) rfl rfl hcell (fun hHeld => ?_)
        refine pure_ (i := 0) (N := some 40) (v := ?_) (a' := ?_) #[true, false, false, false, false, false, false, false, false, false, false] rfl rfl (by kernel_rfl) (fun _ _ _ h => h) (Or.inl ⟨by rfl, ?_⟩) ?_ ?_
        rotate_left
        · intro w'
          go_simp
          with_reducible rfl
        rotate_left
        · simp only [Act.put, List.setIfInBounds_toArray, List.set_cons_zero, List.set_cons_succ, i64_w, i32_w]
          rfl
        refine pure_ (i := 1) (N := some 41) (v := ?_) (a' := ?_) #[true, true, false, false, false, false, false, false, false, false, false] rfl rfl (by kernel_rfl) (fun _ _ _ h => h) (Or.inl ⟨by rfl, ?_⟩) ?_ ?_
        rotate_left
        · intro w'
          go_simp
          with_reducible rfl
        rotate_left
        · simp only [Act.put, List.setIfInBounds_toArray, List.set_cons_zero, List.set_cons_succ, i64_w, i32_w]
          rfl
        refine pure_ (i := 3) (N := some 43) (v := ?_) (a' := ?_) #[true, true, false, true, false, false, false, false, false, false, false] rfl rfl (by kernel_rfl) (fun _ _ _ h => h) (Or.inl ⟨by rfl, ?_⟩) ?_ ?_
        rotate_left
        · intro w'
          go_simp
          with_reducible rfl
        rotate_left
        · simp only [Act.put, List.setIfInBounds_toArray, List.set_cons_zero, List.set_cons_succ, i64_w, i32_w]
          rfl
        refine take_ (i := 2) (N := some 42) (v := ?_) (a' := ?_) #[true, true, true, true, false, false, false, false, false, false, false] rfl rfl (by kernel_rfl) (fun _ _ _ h => h) (Or.inl ⟨by rfl, ?_⟩) hHeld ?_ ?_
        rotate_left
        · intro w' s0
          go_simp
          with_reducible rfl
        rotate_left
        · simp only [Act.put, List.setIfInBounds_toArray, List.set_cons_zero, List.set_cons_succ, i64_w, i32_w]
          rfl
        refine one_ (i := 4) (N := some 44) #[true, true, true, true, true, false, false, false, false, false, false] rfl rfl (by kernel_rfl) (by decide) (fun K hK => ?_)
        refine call_ 49 #[.pointer (some ⟨w3.heap.size, 0, none⟩), .int .i64 2] (by rfl) rfl (by
         have he := enters_ Try.func49 (by kernel_rfl) rfl #[.pointer (some ⟨w3.heap.size, 0, none⟩), .int .i64 2] wr.drew
         simp [go_sem, he]) ?_
        refine (HDd.out.get 2 (by omega) HLB.out).mono ?_
        rintro e W9 ⟨rfl, A9, c9, hd9⟩
        refine ⟨_, rfl, ?_⟩
        have HD9 := Aside0.mk hd9
        clear hd9
        refine hK.out _ _ ((blk_cell HD9.out.km 1).trans rfl) (fun hHeld => ?_)
        clear hK K
        refine norm_ (a' := ?_) ?_ ?_
        rotate_left
        · show Act.put _ (some 44) _ = _
          simp only [Act.put, List.setIfInBounds_toArray, List.set_cons_zero, List.set_cons_succ, i64_w, i32_w]
          rfl
        obtain ⟨x, hx⟩ : ∃ x, (getR l 2).1 = x := ⟨_, rfl⟩
        have hxb : 0 ≤ x ∧ x ≤ 65535 := by
         rw [← hx]
         unfold getR
         split
         · exact ⟨by simp, by simp⟩
         · have := getL_bound 2 (l.take 2) (by simp; omega) (bytesB_at (bytesB_take HLB.out 2))
           simp only
           omega
        have HX := Aside0.mk hx
        rw [hx]
        clear hx
        have hxw : wrap64 x = x := by unfold wrap64; omega
        have hxi : IntKind.i64.wrap x = x := by rw [i64_w]; exact hxw
        refine pure_ (i := 5) (N := some 45) (v := ?_) (a' := ?_) #[true, true, true, true, true, true, false, false, false, false, false] rfl rfl (by kernel_rfl) (fun _ _ _ h => h) (Or.inl ⟨by rfl, ?_⟩) ?_ ?_
        rotate_left
        · intro w'
          go_simp
          with_reducible rfl
        rotate_left
        · simp only [Act.put, List.setIfInBounds_toArray, List.set_cons_zero, List.set_cons_succ, i64_w, i32_w]
          rfl
        have HD10 := Aside0.mk (HD9.out.below (below_alloc (Below.refl _ W9) (.cells #[.int .i64 x] 3)))
        refine one_ (i := 6) (N := some 46) #[true, true, true, true, true, true, true, false, false, false, false] rfl rfl (by kernel_rfl) (by decide) (fun K hK => ?_)
        refine value_ (v := .slice (some ⟨W9.heap.size, 0, none⟩) 1 1) (w1 := W9.alloc (.cells #[.int .i64 x] 3)) (by rfl) rfl (by go_simp; done) ?_
        refine hK.out _ _ ((blk_cell HD10.out.km 1).trans rfl) (fun hHeld => ?_)
        clear hK K
        refine norm_ (a' := ?_) ?_ ?_
        rotate_left
        · show Act.put _ (some 46) _ = _
          simp only [Act.put, List.setIfInBounds_toArray, List.set_cons_zero, List.set_cons_succ, i64_w, i32_w]
          rfl
        refine one_ (i := 7) (N := some 47) #[true, true, true, true, true, true, true, true, false, false, false] rfl rfl (by kernel_rfl) (by decide) (fun K hK => ?_)
        refine Kd.R_append_step (Kd.int .i64) (w0 := w) w.heap.size (by rfl) (.tmp 42) (.tmp 46) 23 3 (.int .i64 0) 8 (by rfl) Try.underlying23 info3 rfl (by decide) (by omega) (.slice AV acc.length cV) acc x [.int .i64 x] (fun _ => True) (fun _ => False) (by rfl) (by rfl) rfl (fun _ hk => hk.elim) (fun _ _ => trivial) HD9.out.row HD9.out.bel (below_size HD9.out.bel) (by have := HAL.out; have := HK.out; omega) ?_
        intro v11 w11 ho11 hb11 hg11 _
        obtain ⟨acc2, hacc2⟩ : ∃ acc2, acc ++ [x] = acc2 := ⟨_, rfl⟩
        rw [hacc2] at ho11
        obtain ⟨AV2, cV2, eV2⟩ := Kd.R_slice ho11
        subst eV2
        have hst11 := HD9.out.app w11 hg11 (.slice AV2 acc2.length cV2) acc2 ho11 hb11
        have km11 := blk_grown HD9.out.km hg11 (fun e => Kd.R_ne HD9.out.row HD9.out.km (by decide) e)
        have hc11 : w11.cell? ⟨w3.heap.size + 1, 1, none⟩ = some (.slice AV acc.length cV) := (blk_cell km11 1).trans rfl
        have hf11 := blk_frozen km11 1
        have HST11 := Aside0.mk hst11
        have HACC2 := Aside0.mk hacc2
        clear hacc2
        clear hst11 km11 ho11 hb11 hg11
        refine hK.out _ _ hc11 (fun hHeld => ?_)
        clear hK K
        refine norm_ (a' := ?_) ?_ ?_
        rotate_left
        · show Act.put _ (some 47) _ = _
          simp only [Act.put, List.setIfInBounds_toArray, List.set_cons_zero, List.set_cons_succ, i64_w, i32_w]
          rfl
        refine pure_ (i := 8) (N := some 48) (v := ?_) (a' := ?_) #[true, true, true, true, true, true, true, true, true, false, false] rfl rfl (by kernel_rfl) (fun _ _ _ h => h) (Or.inl ⟨by rfl, ?_⟩) ?_ ?_
        rotate_left
        · intro w'
          go_simp
          with_reducible rfl
        rotate_left
        · simp only [Act.put, List.setIfInBounds_toArray, List.set_cons_zero, List.set_cons_succ, i64_w, i32_w]
          rfl
        refine pure_ (i := 9) (N := some 49) (v := ?_) (a' := ?_) #[true, true, true, true, true, true, true, true, true, true, false] rfl rfl (by kernel_rfl) (fun _ _ _ h => h) (Or.inl ⟨by rfl, ?_⟩) ?_ ?_
        rotate_left
        · intro w'
          go_simp
          with_reducible rfl
        rotate_left
        · simp only [Act.put, List.setIfInBounds_toArray, List.set_cons_zero, List.set_cons_succ, i64_w, i32_w]
          rfl
        refine last_ (i := 10) (N := none) #[true, true, true, true, true, true, true, true, true, true, true] rfl rfl (by kernel_rfl) (by decide) (fun K hK => ?_)
        refine skip_ (w1 := w11.setCell ⟨w3.heap.size + 1, 1, none⟩ (.slice AV2 acc2.length cV2)) (by rfl) rfl (by go_simp; done) ?_
        refine hK.out _ _ ?_
        clear hK K
        refine done_ (by kernel_rfl) ?_
        have hkk : (k : Int) + 1 < 18446744073709551616 := by omega
        go_wp2
        go_roundg (gk - 1)
        case measure => have := HK.out; omega
        case rel =>
         have hk9 := HK.out
         obtain ⟨g, rfl⟩ : ∃ g, gk = g + 1 := ⟨gk - 1, by omega⟩
         refine ⟨k + 1, acc2, (getR l 2).2.1, _, A9, c9, .slice AV2 acc2.length cV2, by omega, by go_num, HST11, ⟨?_⟩, ⟨?_⟩, ⟨?_⟩, ⟨?_⟩⟩
         · rw [← HACC2.out, ← HX.out]
           exact HQ.out
         · unfold getR
           split
           · exact HLB.out
           · exact bytesB_drop HLB.out 2
         · rw [← HACC2.out, List.length_append, HAL.out]; rfl
         · have := HLM.out
           unfold getR
           split
           · exact this
           · simp only [List.length_drop]; omega
      · have hk9 := HK.out
        obtain rfl : gk = 0 := by omega
        clear hk9
        have hq : (acc, l, sh) = Q := HQ.out
        have hh := HH.out
        rw [HSS.out, HSM.out, HNN.out, Int.toNat_natCast, HQQ.out, ← hq] at hh
        dsimp only at hh
        clear hq hk
        obtain ⟨AV, cV, eV⟩ := Kd.R_slice HD.out.row
        subst eV
        have HCLO := Aside0.mk (show bytes_Clone.f l = some l from if_pos (by have := HLM.out; omega))
        have hen : token_Encode_c.f s acc sm l = some (encodeL s acc sm l) := if_pos ⟨HLB.out, HLM.out, hsmb.1, hsmb.2⟩
        obtain ⟨⟨cc, ee⟩, hce⟩ : ∃ p, encodeL s acc sm l = p := ⟨_, rfl⟩
        rw [hce] at hen hh
        have HEN := Aside0.mk hen
        have hr0 : wr.cell? ⟨w3.heap.size, 0, none⟩ = some (.slice A l.length c) := (blk_cell HD.out.kr 0).trans rfl
        have HCE := Aside0.mk hce
        clear hen hce
        by_cases hsh : sh = true
        · subst hsh
          rw [if_neg (by simp)] at hh
          cases hh
          go_wp2_with (first
           | (go_at_call 50; ((with_reducible refine (bytes_Clone.calls A c l l _ (Kd.C_below HD.out.rd HD.out.bel) HD.out.cap HCLO.out).mono ?_); rintro e W12 ⟨v12, rfl, ho, hb⟩; have HB12 := Aside0.mk hb; obtain ⟨A12, c12, eo⟩ := Kd.R_slice ho; subst eo; have HO12 := Aside0.mk ho; have KM := Aside0.mk (blk_below HD.out.km hb); have KS := Aside0.mk (blk_below HD.out.ks hb); have K0 := Aside0.mk (blk_below HD.out.k0 hb); have HRW := Aside0.mk (Kd.R_below HD.out.row hb); have BW := Aside0.mk (below_then HD.out.bel HD.out.bel.size hb); have hm0 : W12.cell? ⟨w3.heap.size + 1, 0, none⟩ = _ := (blk_cell KM.out 0).trans rfl; have hm1 : W12.cell? ⟨w3.heap.size + 1, 1, none⟩ = _ := (blk_cell KM.out 1).trans rfl; have hm2 : W12.cell? ⟨w3.heap.size + 1, 2, none⟩ = _ := (blk_cell KM.out 2).trans rfl; have hm3 : W12.cell? ⟨w3.heap.size + 1, 3, none⟩ = _ := (blk_cell KM.out 3).trans rfl; have hmf3 := blk_frozen KM.out 3; clear hb ho hr0))
           | (go_at_call 19; ((with_reducible refine (token_Encode_c.calls s AV cV acc sm A12 c12 l cc ee _ (Kd.R_reads' (Kd.R_set HRW.out KM.out (by decide) 3 (.slice A12 l.length c12))).2.2 (Kd.R_reads' HRW.out).2.1 (Kd.R_reads' (Kd.R_set HO12.out KM.out (by decide) 3 (.slice A12 l.length c12))).2.2 (Kd.R_reads' HO12.out).2.1 HEN.out).mono ?_); rintro e W13 ⟨v13, rfl, ho, hb⟩; have HB13 := Aside0.mk hb; obtain ⟨A13, c13, eo⟩ := Kd.R_slice ho; subst eo; have HO13 := Aside0.mk ho; have KM13 := Aside0.mk (blk_below (blk_put KM.out 3 (.slice A12 l.length c12) rfl) hb); have KS13 := Aside0.mk (blk_below (blk_far (p := ⟨w3.heap.size + 1, 3, none⟩) KS.out (blk_ne KS.out KM.out (by decide)) (.slice A12 l.length c12)) hb); have K013 := Aside0.mk (blk_below (blk_far (p := ⟨w3.heap.size + 1, 3, none⟩) K0.out HD.out.ne (.slice A12 l.length c12)) hb); have HRW13 := Aside0.mk (Kd.R_below (Kd.R_set HRW.out KM.out (by decide) 3 (.slice A12 l.length c12)) hb); have HRL13 := Aside0.mk (Kd.R_below (Kd.R_set HO12.out KM.out (by decide) 3 (.slice A12 l.length c12)) hb); have BW13 := Aside0.mk (below_then (below_set (g := w3.heap.size + 1) (j := 3) (v := .slice A12 l.length c12) BW.out HD.out.lm) (below_set (g := w3.heap.size + 1) (j := 3) (v := .slice A12 l.length c12) BW.out HD.out.lm).size hb); have hs0 : W13.cell? ⟨gs, 0, none⟩ = _ := (blk_cell KS13.out 0).trans rfl; have hm0 : W13.cell? ⟨w3.heap.size + 1, 0, none⟩ = _ := (blk_cell KM13.out 0).trans rfl; have hm1 : W13.cell? ⟨w3.heap.size + 1, 1, none⟩ = _ := (blk_cell KM13.out 1).trans rfl; have hm2 : W13.cell? ⟨w3.heap.size + 1, 2, none⟩ = _ := (blk_cell KM13.out 2).trans rfl; have hm3 : W13.cell? ⟨w3.heap.size + 1, 3, none⟩ = _ := (blk_cell KM13.out 3).trans rfl; have hz0 : W13.cell? ⟨g0, 0, none⟩ = _ := (blk_cell K013.out 0).trans rfl; have hz1 : W13.cell? ⟨g0, 1, none⟩ = _ := (blk_cell K013.out 1).trans rfl; have hz2 : W13.cell? ⟨g0, 2, none⟩ = _ := (blk_cell K013.out 2).trans rfl; have hz3 : W13.cell? ⟨g0, 3, none⟩ = _ := (blk_cell K013.out 3).trans rfl; have hzf0 := blk_frozen K013.out 0; have hzf1 := blk_frozen K013.out 1; have hzf2 := blk_frozen K013.out 2; have hzf3 := blk_frozen K013.out 3; clear hb ho)))
          refine bodyPost_ret (results_ct rfl _ _ g0 29 #[.int .u64 0, .slice none 0 0, .int .u32 0, .slice none 0 0] (0, 0) _ rfl (blk_put (cs := #[.int .u64 0, .slice none 0 0, .int .u32 0, .slice none 0 0]) (blk_put (cs := #[.int .u64 0, .slice none 0 0, .int .u32 0, .slice none 0 0]) (blk_put (cs := #[.int .u64 0, .slice none 0 0, .int .u32 0, .slice none 0 0]) (blk_put K013.out 0 _ rfl) 1 _ rfl) 2 _ rfl) 3 _ rfl) Try.underlying29 rfl (by kernel_rfl)) rfl ?_
          exact ⟨_, _, rfl, Kd.R_nil _ _ _ _ _, Kd.R_nil _ _ _ _ _, below_set (below_set (below_set (below_set BW13.out HD.out.l0) HD.out.l0) HD.out.l0) HD.out.l0⟩
        · have hsh : sh = false := by simpa using hsh
          subst hsh
          by_cases hee : ee = 0
          · subst hee
            by_cases hcc : cc = l0
            · have hheq : (cc, (0 : Int)) = (l0, 0) := by rw [hcc]
              rw [if_pos ⟨rfl, hheq⟩] at hh
              simp only [Prod.mk.injEq] at hh
              obtain ⟨h1, h2, h3, h4, h5⟩ := hh
              subst h1
              subst h2
              subst h3
              subst h4
              subst h5
              have hcb : bytesB cc = true := by rw [hcc]; exact hbb
              have heq : bytes_Equal.f l0 cc = some true := by rw [bytes_Equal.f, strs_beq l0 cc hbb hcb, decide_eq_true hcc.symm]
              have HEQ := Aside0.mk heq
              clear hheq heq hcc hcb
              go_wp2_with (first
               | (go_at_call 50; ((with_reducible refine (bytes_Clone.calls A c l l _ (Kd.C_below HD.out.rd HD.out.bel) HD.out.cap HCLO.out).mono ?_); rintro e W12 ⟨v12, rfl, ho, hb⟩; have HB12 := Aside0.mk hb; obtain ⟨A12, c12, eo⟩ := Kd.R_slice ho; subst eo; have HO12 := Aside0.mk ho; have KM := Aside0.mk (blk_below HD.out.km hb); have KS := Aside0.mk (blk_below HD.out.ks hb); have K0 := Aside0.mk (blk_below HD.out.k0 hb); have HRW := Aside0.mk (Kd.R_below HD.out.row hb); have BW := Aside0.mk (below_then HD.out.bel HD.out.bel.size hb); have hm0 : W12.cell? ⟨w3.heap.size + 1, 0, none⟩ = _ := (blk_cell KM.out 0).trans rfl; have hm1 : W12.cell? ⟨w3.heap.size + 1, 1, none⟩ = _ := (blk_cell KM.out 1).trans rfl; have hm2 : W12.cell? ⟨w3.heap.size + 1, 2, none⟩ = _ := (blk_cell KM.out 2).trans rfl; have hm3 : W12.cell? ⟨w3.heap.size + 1, 3, none⟩ = _ := (blk_cell KM.out 3).trans rfl; have hmf3 := blk_frozen KM.out 3; clear hb ho hr0))
               | (go_at_call 19; ((with_reducible refine (token_Encode_c.calls s AV cV acc sm A12 c12 l cc 0 _ (Kd.R_reads' (Kd.R_set HRW.out KM.out (by decide) 3 (.slice A12 l.length c12))).2.2 (Kd.R_reads' HRW.out).2.1 (Kd.R_reads' (Kd.R_set HO12.out KM.out (by decide) 3 (.slice A12 l.length c12))).2.2 (Kd.R_reads' HO12.out).2.1 HEN.out).mono ?_); rintro e W13 ⟨v13, rfl, ho, hb⟩; have HB13 := Aside0.mk hb; obtain ⟨A13, c13, eo⟩ := Kd.R_slice ho; subst eo; have HO13 := Aside0.mk ho; have KM13 := Aside0.mk (blk_below (blk_put KM.out 3 (.slice A12 l.length c12) rfl) hb); have KS13 := Aside0.mk (blk_below (blk_far (p := ⟨w3.heap.size + 1, 3, none⟩) KS.out (blk_ne KS.out KM.out (by decide)) (.slice A12 l.length c12)) hb); have K013 := Aside0.mk (blk_below (blk_far (p := ⟨w3.heap.size + 1, 3, none⟩) K0.out HD.out.ne (.slice A12 l.length c12)) hb); have HRW13 := Aside0.mk (Kd.R_below (Kd.R_set HRW.out KM.out (by decide) 3 (.slice A12 l.length c12)) hb); have HRL13 := Aside0.mk (Kd.R_below (Kd.R_set HO12.out KM.out (by decide) 3 (.slice A12 l.length c12)) hb); have BW13 := Aside0.mk (below_then (below_set (g := w3.heap.size + 1) (j := 3) (v := .slice A12 l.length c12) BW.out HD.out.lm) (below_set (g := w3.heap.size + 1) (j := 3) (v := .slice A12 l.length c12) BW.out HD.out.lm).size hb); have hs0 : W13.cell? ⟨gs, 0, none⟩ = _ := (blk_cell KS13.out 0).trans rfl; have hm0 : W13.cell? ⟨w3.heap.size + 1, 0, none⟩ = _ := (blk_cell KM13.out 0).trans rfl; have hm1 : W13.cell? ⟨w3.heap.size + 1, 1, none⟩ = _ := (blk_cell KM13.out 1).trans rfl; have hm2 : W13.cell? ⟨w3.heap.size + 1, 2, none⟩ = _ := (blk_cell KM13.out 2).trans rfl; have hm3 : W13.cell? ⟨w3.heap.size + 1, 3, none⟩ = _ := (blk_cell KM13.out 3).trans rfl; have hz0 : W13.cell? ⟨g0, 0, none⟩ = _ := (blk_cell K013.out 0).trans rfl; have hz1 : W13.cell? ⟨g0, 1, none⟩ = _ := (blk_cell K013.out 1).trans rfl; have hz2 : W13.cell? ⟨g0, 2, none⟩ = _ := (blk_cell K013.out 2).trans rfl; have hz3 : W13.cell? ⟨g0, 3, none⟩ = _ := (blk_cell K013.out 3).trans rfl; have hzf0 := blk_frozen K013.out 0; have hzf1 := blk_frozen K013.out 1; have hzf2 := blk_frozen K013.out 2; have hzf3 := blk_frozen K013.out 3; clear hb ho))
               | (go_at_call 44; ((with_reducible refine (bytes_Equal.calls A0 c0 l0 A13 c13 cc true _ (Kd.C_below HR0.out BW13.out) HC0.out (Kd.R_reads' HO13.out).2.2 (Kd.R_reads' HO13.out).2.1 HEQ.out).mono ?_); rintro e W14 ⟨rfl, hd⟩; obtain ⟨nd, hd⟩ := hd; subst hd)))
              have k0 := blk_drewN K013.out nd
              have k1 := blk_put k0 0 (.int .u64 s) rfl
              have k2 := blk_put (cs := #[.int .u64 s, .slice none 0 0, .int .u32 0, .slice none 0 0]) k1 1 (.slice AV acc.length cV) rfl
              have k3 := blk_put (cs := #[.int .u64 s, .slice AV acc.length cV, .int .u32 0, .slice none 0 0]) k2 2 (.int .u32 sm) rfl
              have k4 := blk_put (cs := #[.int .u64 s, .slice AV acc.length cV, .int .u32 sm, .slice none 0 0]) k3 3 (.slice A12 l.length c12) rfl
              refine bodyPost_ret (results_ct rfl _ _ g0 29 #[.int .u64 s, .slice AV acc.length cV, .int .u32 sm, .slice A12 l.length c12] (0, 0) _ rfl k4 Try.underlying29 rfl (by kernel_rfl)) rfl ?_
              exact ⟨_, _, rfl, Kd.R_set (Kd.R_set (Kd.R_set (Kd.R_set (Kd.R_drewN HRW13.out nd) k0 (by decide) 0 _) k1 (by decide) 1 _) k2 (by decide) 2 _) k3 (by decide) 3 _,
               Kd.R_lower (Kd.R_set (Kd.R_set (Kd.R_set (Kd.R_set (Kd.R_drewN HRL13.out nd) k0 (by decide) 0 _) k1 (by decide) 1 _) k2 (by decide) 2 _) k3 (by decide) 3 _) (below_size HD.out.bel),
               below_set (below_set (below_set (below_set (pw_below_drewN BW13.out nd) HD.out.l0) HD.out.l0) HD.out.l0) HD.out.l0⟩
            · have hheq : ¬ (false = false ∧ (cc, (0 : Int)) = (l0, 0)) := by simp [hcc]
              rw [if_neg hheq] at hh
              cases hh
              have hcb : bytesB cc = true := by
               have h9 := HCE.out
               unfold encodeL at h9
               split at h9
               · obtain rfl := congrArg Prod.fst h9
                 refine sealL_byte _ ?_
                 unfold tokenB
                 rw [bytesB_append, tokenH_byte, HLB.out]; rfl
               · cases h9
              have heq : bytes_Equal.f l0 cc = some false := by rw [bytes_Equal.f, strs_beq l0 cc hbb hcb, decide_eq_false (fun e => hcc e.symm)]
              have HEQ := Aside0.mk heq
              clear hheq heq hcc hcb
              go_wp2_with (first
               | (go_at_call 50; ((with_reducible refine (bytes_Clone.calls A c l l _ (Kd.C_below HD.out.rd HD.out.bel) HD.out.cap HCLO.out).mono ?_); rintro e W12 ⟨v12, rfl, ho, hb⟩; have HB12 := Aside0.mk hb; obtain ⟨A12, c12, eo⟩ := Kd.R_slice ho; subst eo; have HO12 := Aside0.mk ho; have KM := Aside0.mk (blk_below HD.out.km hb); have KS := Aside0.mk (blk_below HD.out.ks hb); have K0 := Aside0.mk (blk_below HD.out.k0 hb); have HRW := Aside0.mk (Kd.R_below HD.out.row hb); have BW := Aside0.mk (below_then HD.out.bel HD.out.bel.size hb); have hm0 : W12.cell? ⟨w3.heap.size + 1, 0, none⟩ = _ := (blk_cell KM.out 0).trans rfl; have hm1 : W12.cell? ⟨w3.heap.size + 1, 1, none⟩ = _ := (blk_cell KM.out 1).trans rfl; have hm2 : W12.cell? ⟨w3.heap.size + 1, 2, none⟩ = _ := (blk_cell KM.out 2).trans rfl; have hm3 : W12.cell? ⟨w3.heap.size + 1, 3, none⟩ = _ := (blk_cell KM.out 3).trans rfl; have hmf3 := blk_frozen KM.out 3; clear hb ho hr0))
               | (go_at_call 19; ((with_reducible refine (token_Encode_c.calls s AV cV acc sm A12 c12 l cc 0 _ (Kd.R_reads' (Kd.R_set HRW.out KM.out (by decide) 3 (.slice A12 l.length c12))).2.2 (Kd.R_reads' HRW.out).2.1 (Kd.R_reads' (Kd.R_set HO12.out KM.out (by decide) 3 (.slice A12 l.length c12))).2.2 (Kd.R_reads' HO12.out).2.1 HEN.out).mono ?_); rintro e W13 ⟨v13, rfl, ho, hb⟩; have HB13 := Aside0.mk hb; obtain ⟨A13, c13, eo⟩ := Kd.R_slice ho; subst eo; have HO13 := Aside0.mk ho; have KM13 := Aside0.mk (blk_below (blk_put KM.out 3 (.slice A12 l.length c12) rfl) hb); have KS13 := Aside0.mk (blk_below (blk_far (p := ⟨w3.heap.size + 1, 3, none⟩) KS.out (blk_ne KS.out KM.out (by decide)) (.slice A12 l.length c12)) hb); have K013 := Aside0.mk (blk_below (blk_far (p := ⟨w3.heap.size + 1, 3, none⟩) K0.out HD.out.ne (.slice A12 l.length c12)) hb); have HRW13 := Aside0.mk (Kd.R_below (Kd.R_set HRW.out KM.out (by decide) 3 (.slice A12 l.length c12)) hb); have HRL13 := Aside0.mk (Kd.R_below (Kd.R_set HO12.out KM.out (by decide) 3 (.slice A12 l.length c12)) hb); have BW13 := Aside0.mk (below_then (below_set (g := w3.heap.size + 1) (j := 3) (v := .slice A12 l.length c12) BW.out HD.out.lm) (below_set (g := w3.heap.size + 1) (j := 3) (v := .slice A12 l.length c12) BW.out HD.out.lm).size hb); have hs0 : W13.cell? ⟨gs, 0, none⟩ = _ := (blk_cell KS13.out 0).trans rfl; have hm0 : W13.cell? ⟨w3.heap.size + 1, 0, none⟩ = _ := (blk_cell KM13.out 0).trans rfl; have hm1 : W13.cell? ⟨w3.heap.size + 1, 1, none⟩ = _ := (blk_cell KM13.out 1).trans rfl; have hm2 : W13.cell? ⟨w3.heap.size + 1, 2, none⟩ = _ := (blk_cell KM13.out 2).trans rfl; have hm3 : W13.cell? ⟨w3.heap.size + 1, 3, none⟩ = _ := (blk_cell KM13.out 3).trans rfl; have hz0 : W13.cell? ⟨g0, 0, none⟩ = _ := (blk_cell K013.out 0).trans rfl; have hz1 : W13.cell? ⟨g0, 1, none⟩ = _ := (blk_cell K013.out 1).trans rfl; have hz2 : W13.cell? ⟨g0, 2, none⟩ = _ := (blk_cell K013.out 2).trans rfl; have hz3 : W13.cell? ⟨g0, 3, none⟩ = _ := (blk_cell K013.out 3).trans rfl; have hzf0 := blk_frozen K013.out 0; have hzf1 := blk_frozen K013.out 1; have hzf2 := blk_frozen K013.out 2; have hzf3 := blk_frozen K013.out 3; clear hb ho))
               | (go_at_call 44; ((with_reducible refine (bytes_Equal.calls A0 c0 l0 A13 c13 cc false _ (Kd.C_below HR0.out BW13.out) HC0.out (Kd.R_reads' HO13.out).2.2 (Kd.R_reads' HO13.out).2.1 HEQ.out).mono ?_); rintro e W14 ⟨rfl, hd⟩; obtain ⟨nd, hd⟩ := hd; subst hd)))
              have K014 := Aside0.mk (blk_drewN K013.out nd)
              have BW14 := Aside0.mk (pw_below_drewN BW13.out nd)
              refine bodyPost_ret (results_ct rfl _ _ g0 29 #[.int .u64 0, .slice none 0 0, .int .u32 0, .slice none 0 0] (0, 0) _ rfl (blk_put (cs := #[.int .u64 0, .slice none 0 0, .int .u32 0, .slice none 0 0]) (blk_put (cs := #[.int .u64 0, .slice none 0 0, .int .u32 0, .slice none 0 0]) (blk_put (cs := #[.int .u64 0, .slice none 0 0, .int .u32 0, .slice none 0 0]) (blk_put K014.out 0 _ rfl) 1 _ rfl) 2 _ rfl) 3 _ rfl) Try.underlying29 rfl (by kernel_rfl)) rfl ?_
              exact ⟨_, _, rfl, Kd.R_nil _ _ _ _ _, Kd.R_nil _ _ _ _ _, below_set (below_set (below_set (below_set BW14.out HD.out.l0) HD.out.l0) HD.out.l0) HD.out.l0⟩
          · have hheq : ¬ (false = false ∧ (cc, ee) = (l0, 0)) := by simp [hee]
            rw [if_neg hheq] at hh
            cases hh
            have hee2 : (ee != 0) = true := by simpa using hee
            clear hheq hee
            go_wp2_with (first
             | (go_at_call 50; ((with_reducible refine (bytes_Clone.calls A c l l _ (Kd.C_below HD.out.rd HD.out.bel) HD.out.cap HCLO.out).mono ?_); rintro e W12 ⟨v12, rfl, ho, hb⟩; have HB12 := Aside0.mk hb; obtain ⟨A12, c12, eo⟩ := Kd.R_slice ho; subst eo; have HO12 := Aside0.mk ho; have KM := Aside0.mk (blk_below HD.out.km hb); have KS := Aside0.mk (blk_below HD.out.ks hb); have K0 := Aside0.mk (blk_below HD.out.k0 hb); have HRW := Aside0.mk (Kd.R_below HD.out.row hb); have BW := Aside0.mk (below_then HD.out.bel HD.out.bel.size hb); have hm0 : W12.cell? ⟨w3.heap.size + 1, 0, none⟩ = _ := (blk_cell KM.out 0).trans rfl; have hm1 : W12.cell? ⟨w3.heap.size + 1, 1, none⟩ = _ := (blk_cell KM.out 1).trans rfl; have hm2 : W12.cell? ⟨w3.heap.size + 1, 2, none⟩ = _ := (blk_cell KM.out 2).trans rfl; have hm3 : W12.cell? ⟨w3.heap.size + 1, 3, none⟩ = _ := (blk_cell KM.out 3).trans rfl; have hmf3 := blk_frozen KM.out 3; clear hb ho hr0))
             | (go_at_call 19; ((with_reducible refine (token_Encode_c.calls s AV cV acc sm A12 c12 l cc ee _ (Kd.R_reads' (Kd.R_set HRW.out KM.out (by decide) 3 (.slice A12 l.length c12))).2.2 (Kd.R_reads' HRW.out).2.1 (Kd.R_reads' (Kd.R_set HO12.out KM.out (by decide) 3 (.slice A12 l.length c12))).2.2 (Kd.R_reads' HO12.out).2.1 HEN.out).mono ?_); rintro e W13 ⟨v13, rfl, ho, hb⟩; have HB13 := Aside0.mk hb; obtain ⟨A13, c13, eo⟩ := Kd.R_slice ho; subst eo; have HO13 := Aside0.mk ho; have KM13 := Aside0.mk (blk_below (blk_put KM.out 3 (.slice A12 l.length c12) rfl) hb); have KS13 := Aside0.mk (blk_below (blk_far (p := ⟨w3.heap.size + 1, 3, none⟩) KS.out (blk_ne KS.out KM.out (by decide)) (.slice A12 l.length c12)) hb); have K013 := Aside0.mk (blk_below (blk_far (p := ⟨w3.heap.size + 1, 3, none⟩) K0.out HD.out.ne (.slice A12 l.length c12)) hb); have HRW13 := Aside0.mk (Kd.R_below (Kd.R_set HRW.out KM.out (by decide) 3 (.slice A12 l.length c12)) hb); have HRL13 := Aside0.mk (Kd.R_below (Kd.R_set HO12.out KM.out (by decide) 3 (.slice A12 l.length c12)) hb); have BW13 := Aside0.mk (below_then (below_set (g := w3.heap.size + 1) (j := 3) (v := .slice A12 l.length c12) BW.out HD.out.lm) (below_set (g := w3.heap.size + 1) (j := 3) (v := .slice A12 l.length c12) BW.out HD.out.lm).size hb); have hs0 : W13.cell? ⟨gs, 0, none⟩ = _ := (blk_cell KS13.out 0).trans rfl; have hm0 : W13.cell? ⟨w3.heap.size + 1, 0, none⟩ = _ := (blk_cell KM13.out 0).trans rfl; have hm1 : W13.cell? ⟨w3.heap.size + 1, 1, none⟩ = _ := (blk_cell KM13.out 1).trans rfl; have hm2 : W13.cell? ⟨w3.heap.size + 1, 2, none⟩ = _ := (blk_cell KM13.out 2).trans rfl; have hm3 : W13.cell? ⟨w3.heap.size + 1, 3, none⟩ = _ := (blk_cell KM13.out 3).trans rfl; have hz0 : W13.cell? ⟨g0, 0, none⟩ = _ := (blk_cell K013.out 0).trans rfl; have hz1 : W13.cell? ⟨g0, 1, none⟩ = _ := (blk_cell K013.out 1).trans rfl; have hz2 : W13.cell? ⟨g0, 2, none⟩ = _ := (blk_cell K013.out 2).trans rfl; have hz3 : W13.cell? ⟨g0, 3, none⟩ = _ := (blk_cell K013.out 3).trans rfl; have hzf0 := blk_frozen K013.out 0; have hzf1 := blk_frozen K013.out 1; have hzf2 := blk_frozen K013.out 2; have hzf3 := blk_frozen K013.out 3; clear hb ho)))
            refine bodyPost_ret (results_ct rfl _ _ g0 29 #[.int .u64 0, .slice none 0 0, .int .u32 0, .slice none 0 0] (0, 0) _ rfl (blk_put (cs := #[.int .u64 0, .slice none 0 0, .int .u32 0, .slice none 0 0]) (blk_put (cs := #[.int .u64 0, .slice none 0 0, .int .u32 0, .slice none 0 0]) (blk_put (cs := #[.int .u64 0, .slice none 0 0, .int .u32 0, .slice none 0 0]) (blk_put K013.out 0 _ rfl) 1 _ rfl) 2 _ rfl) 3 _ rfl) Try.underlying29 rfl (by kernel_rfl)) rfl ?_
            exact ⟨_, _, rfl, Kd.R_nil _ _ _ _ _, Kd.R_nil _ _ _ _ _, below_set (below_set (below_set (below_set BW13.out HD.out.l0) HD.out.l0) HD.out.l0) HD.out.l0⟩
   · have hright : crc_Right_c.f l0 = some false := by unfold crc_Right_c.f; rw [if_pos ⟨hbb, hbl⟩]; simpa using hrc
     rw [decodeL, if_neg h17, if_neg hrc] at h
     cases h
     clear hrc h17
     go_enter Try.func20, Try.ntmps20
     go_wp2_with (first
      | ((with_reducible refine gate_dst (N := 2) rfl ?_); refine box_event ?hg (N := 2) ?hd (cs := #[.int .u64 0, .slice none 0 0, .int .u32 0, .slice none 0 0]) (t := 29) ?hr ?_; (case hd => rfl); (case hg => rfl); (case hr => first | (go_simp; done) | (go_simp; rfl)); intro g0 hg w1 hbox hb; have HB1 := Aside0.mk hb; have BK0 := Aside0.mk hbox; have GE0 := Aside0.mk (Nat.le_of_eq hg.symm); have hz0 := (blk_cell hbox 0).trans rfl; have hz1 := (blk_cell hbox 1).trans rfl; have hz2 := (blk_cell hbox 2).trans rfl; have hz3 := (blk_cell hbox 3).trans rfl; have hzf0 := blk_frozen hbox 0; have hzf1 := blk_frozen hbox 1; have hzf2 := blk_frozen hbox 2; have hzf3 := blk_frozen hbox 3; clear hb hbox hg)
      | (go_at_call 48; refine (crc_Right_c.calls A0 c0 l0 false _ (Kd.C_below HR0.out HB1.out) HC0.out hright).mono ?_; rintro e w2 ⟨rfl, hb2⟩; have HB2 := Aside0.mk (below_then HB1.out (below_size HB1.out) hb2); have BK2 := Aside0.mk (blk_below BK0.out hb2); clear hz0 hz1 hz2 hz3 hzf0 hzf1 hzf2 hzf3; have hz0 := (blk_cell BK2.out 0).trans rfl; have hz1 := (blk_cell BK2.out 1).trans rfl; have hz2 := (blk_cell BK2.out 2).trans rfl; have hz3 := (blk_cell BK2.out 3).trans rfl; have hzf0 := blk_frozen BK2.out 0; have hzf1 := blk_frozen BK2.out 1; have hzf2 := blk_frozen BK2.out 2; have hzf3 := blk_frozen BK2.out 3; clear hb2))
     refine bodyPost_ret (results_ct rfl _ _ g0 29 #[.int .u64 0, .slice none 0 0, .int .u32 0, .slice none 0 0] (0, 0) _ rfl (blk_put (cs := #[.int .u64 0, .slice none 0 0, .int .u32 0, .slice none 0 0]) (blk_put (cs := #[.int .u64 0, .slice none 0 0, .int .u32 0, .slice none 0 0]) (blk_put (cs := #[.int .u64 0, .slice none 0 0, .int .u32 0, .slice none 0 0]) (blk_put BK2.out 0 _ rfl) 1 _ rfl) 2 _ rfl) 3 _ rfl) Try.underlying29 rfl (by kernel_rfl)) rfl ?_
     exact ⟨_, _, rfl, Kd.R_nil _ _ _ _ _, Kd.R_nil _ _ _ _ _, below_set (below_set (below_set (below_set HB2.out GE0.out) GE0.out) GE0.out) GE0.out⟩

end Go.Proofs.Ytbijnfhcbanhdaa.F
end
