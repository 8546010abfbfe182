/- Proved: at every input in bounds the statement PackFields of the pack layer answers yes: a field that is too great, or that the kind has not, may not be.
Text 2 of 5; functions told as plain ones, with the contracts of their calls. -/
import Derived.Test.YtoooceaoggkeeaaQPackFields1
import Derived.Laws.BitsLemmas
import Derived.Sort.QuietTacIn
section
namespace Go.Proofs.Ytoooceaoggkeeaa.F
open Go.RowKit Go.Proofs.YtoooceaoggkeeaaW.PrintWords Go.Proofs.YtoooceaoggkeeaaW.PrintLast Go.Proofs.YtoooceaoggkeeaaW.PrintMore
attribute [local go_sem] max2_int min2_int max_two min_two max_three min_three max_four min_four   -- for this text's walks alone
set_option linter.unusedVariables false
set_option linter.unusedSimpArgs false

/-! ### scullerlaw13_Gram: function 9 -/
mutual
def scullerlaw13_Gram.j1 : Nat → List Int → Int → Int → Int → Int → Int → Int → List Int → Option (Int × Int × Int × Int × Int × List Int × List Int)
 | 0, _, _, _, _, _, _, _, _ => none
 | k + 1, x4, x5, x103000, x103001, x103002, x103003, x103004, x103005 => if x103000 ≥ 2 then (scullerlaw13_Gram.j2 k x4 x5 (decide (x103000 ≤ 4)) x103000 x103001 x103002 x103003 x103004 x103005) else (scullerlaw13_Gram.j2 k x4 x5 false x103000 x103001 x103002 x103003 x103004 x103005)
def scullerlaw13_Gram.j2 : Nat → List Int → Int → Bool → Int → Int → Int → Int → Int → List Int → Option (Int × Int × Int × Int × Int × List Int × List Int)
 | 0, _, _, _, _, _, _, _, _, _ => none
 | k + 1, x4, x5, x66, x103000, x103001, x103002, x103003, x103004, x103005 => if x66 = true then (if 0 ≤ (mn (x4.length : Int) 64) then (if (mn (x4.length : Int) 64) ≤ (x4.length : Int) then ((some (x4.take ((mn (x4.length : Int) 64) : Int).toNat : List Int)).bind fun y108 => (if ([] : List Int).length + y108.length < 140737488355328 then ((some (([] : List Int) ++ y108 : List Int)).bind fun y113 => (if x5 > 230 then (some (wrap64 (x5), x103001, (-1), x103003, x103004, x103005, y113)) else (some (x103000, x103001, x103002, x103003, x103004, x103005, y113)))) else (none))) else (none)) else (none)) else (if x5 > 230 then (some (wrap64 (x5), x103001, (-1), x103003, x103004, x103005, ([] : List Int))) else (some (x103000, x103001, x103002, x103003, x103004, x103005, ([] : List Int))))
def scullerlaw13_Gram.l0 : Nat → List Int → Int → Int → Int → Int → Int → Int → Int → List Int → Option (Int × Int × Int × Int × Int × List Int × List Int)
 | 0, _, _, _, _, _, _, _, _, _ => none
 | k + 1, x4, x5, x14, x103000, x103001, x103002, x103003, x103004, x103005 => if (wrap64 (x14 + 1)) < (x4.length : Int) then (if x14 < 8 then (if 0 ≤ x14 then (if x14 < (x4.length : Int) then (if 0 ≤ (wrap64 (x14 + 1)) then (if x103005.length < 17592186044416 then (scullerlaw13_Gram.l0 k x4 x5 (wrap64 (x14 + 2)) x103000 x103001 x103002 x103003 x103004 (x103005 ++ [Int.tmod (wrap64 ((wrap64 ((wrap64 (rd x4 x14)) * 256)) + (wrap64 (rd x4 (wrap64 (x14 + 1)))))) 4097])) else (none)) else (none)) else (none)) else (none)) else (scullerlaw13_Gram.j1 k x4 x5 x103000 x103001 x103002 x103003 x103004 x103005)) else (scullerlaw13_Gram.j1 k x4 x5 x103000 x103001 x103002 x103003 x103004 x103005)
end
def scullerlaw13_Gram.f (k : Nat) (a0 : Int) (a1 : Int) (a2 : Int) (a3 : Int) (l4 : List Int) (a5 : Int) : Option (Int × Int × Int × Int × Int × List Int × List Int) := if (wrap64 (1 + (wrap64 (Int.tmod a5 8)))) = 1 then (scullerlaw13_Gram.l0 k l4 a5 0 (wrap64 (1 + (wrap64 (Int.tmod a5 8)))) a0 (wrap64 (a2)) (wrap64 (a3)) a1 ([] : List Int)) else (scullerlaw13_Gram.j1 k l4 a5 (wrap64 (1 + (wrap64 (Int.tmod a5 8)))) a0 (wrap64 (a2)) (wrap64 (a3)) a1 ([] : List Int))
theorem scullerlaw13_Gram.mono_l : ∀ k, (∀ y0 y1 y2 y3 y4 y5 y6 y7, LeO (scullerlaw13_Gram.j1 k y0 y1 y2 y3 y4 y5 y6 y7) (scullerlaw13_Gram.j1 (k + 1) y0 y1 y2 y3 y4 y5 y6 y7)) ∧ (∀ y0 y1 y2 y3 y4 y5 y6 y7 y8, LeO (scullerlaw13_Gram.j2 k y0 y1 y2 y3 y4 y5 y6 y7 y8) (scullerlaw13_Gram.j2 (k + 1) y0 y1 y2 y3 y4 y5 y6 y7 y8)) ∧ (∀ y0 y1 y2 y3 y4 y5 y6 y7 y8, LeO (scullerlaw13_Gram.l0 k y0 y1 y2 y3 y4 y5 y6 y7 y8) (scullerlaw13_Gram.l0 (k + 1) y0 y1 y2 y3 y4 y5 y6 y7 y8))
 | 0 => ⟨fun _ _ _ _ _ _ _ _ r h => by simp [scullerlaw13_Gram.j1] at h, fun _ _ _ _ _ _ _ _ _ r h => by simp [scullerlaw13_Gram.j2] at h, fun _ _ _ _ _ _ _ _ _ r h => by simp [scullerlaw13_Gram.l0] at h⟩
 | k + 1 => by
   obtain ⟨ih0, ih1, ih2⟩ := scullerlaw13_Gram.mono_l k
   refine ⟨?_, ?_, ?_⟩
   · intro y0 y1 y2 y3 y4 y5 y6 y7
     unfold scullerlaw13_Gram.j1
     repeat' first
     | (with_reducible exact ih0 _ _ _ _ _ _ _ _)
     | (with_reducible exact ih1 _ _ _ _ _ _ _ _ _)
     | (with_reducible exact ih2 _ _ _ _ _ _ _ _ _)
     | (with_reducible exact LeO.refl _)
     | (with_reducible exact LeO.none _)
     | (with_reducible refine LeO.ite ?_ ?_)
     | (with_reducible refine LeO.bind ?_ (fun _ => ?_))
     | exact ih0 _ _ _ _ _ _ _ _
     | exact ih1 _ _ _ _ _ _ _ _ _
     | exact ih2 _ _ _ _ _ _ _ _ _
     | exact LeO.none _
     | refine LeO.ite ?_ ?_
     | refine LeO.bind ?_ (fun _ => ?_)
   · intro y0 y1 y2 y3 y4 y5 y6 y7 y8
     unfold scullerlaw13_Gram.j2
     repeat' first
     | (with_reducible exact ih0 _ _ _ _ _ _ _ _)
     | (with_reducible exact ih1 _ _ _ _ _ _ _ _ _)
     | (with_reducible exact ih2 _ _ _ _ _ _ _ _ _)
     | (with_reducible exact LeO.refl _)
     | (with_reducible exact LeO.none _)
     | (with_reducible refine LeO.ite ?_ ?_)
     | (with_reducible refine LeO.bind ?_ (fun _ => ?_))
     | exact ih0 _ _ _ _ _ _ _ _
     | exact ih1 _ _ _ _ _ _ _ _ _
     | exact ih2 _ _ _ _ _ _ _ _ _
     | exact LeO.none _
     | refine LeO.ite ?_ ?_
     | refine LeO.bind ?_ (fun _ => ?_)
   · intro y0 y1 y2 y3 y4 y5 y6 y7 y8
     unfold scullerlaw13_Gram.l0
     repeat' first
     | (with_reducible exact ih0 _ _ _ _ _ _ _ _)
     | (with_reducible exact ih1 _ _ _ _ _ _ _ _ _)
     | (with_reducible exact ih2 _ _ _ _ _ _ _ _ _)
     | (with_reducible exact LeO.refl _)
     | (with_reducible exact LeO.none _)
     | (with_reducible refine LeO.ite ?_ ?_)
     | (with_reducible refine LeO.bind ?_ (fun _ => ?_))
     | exact ih0 _ _ _ _ _ _ _ _
     | exact ih1 _ _ _ _ _ _ _ _ _
     | exact ih2 _ _ _ _ _ _ _ _ _
     | exact LeO.none _
     | refine LeO.ite ?_ ?_
     | refine LeO.bind ?_ (fun _ => ?_)
theorem scullerlaw13_Gram.mono : ∀ a0 a1 a2 a3 a4 a5 k, LeO (scullerlaw13_Gram.f k a0 a1 a2 a3 a4 a5) (scullerlaw13_Gram.f (k + 1) a0 a1 a2 a3 a4 a5) := by
 intro a0 a1 a2 a3 a4 a5 k
 obtain ⟨ih0, ih1, ih2⟩ := scullerlaw13_Gram.mono_l k
 unfold scullerlaw13_Gram.f
 repeat' first
  | (with_reducible exact ih0 _ _ _ _ _ _ _ _)
  | (with_reducible exact ih1 _ _ _ _ _ _ _ _ _)
  | (with_reducible exact ih2 _ _ _ _ _ _ _ _ _)
  | (with_reducible exact LeO.refl _)
  | (with_reducible exact LeO.none _)
  | (with_reducible refine LeO.ite ?_ ?_)
  | (with_reducible refine LeO.bind ?_ (fun _ => ?_))
  | exact ih0 _ _ _ _ _ _ _ _
  | exact ih1 _ _ _ _ _ _ _ _ _
  | exact ih2 _ _ _ _ _ _ _ _ _
  | exact LeO.none _
  | refine LeO.ite ?_ ?_
  | refine LeO.bind ?_ (fun _ => ?_)
def scullerlaw13_Gram.T6 : Bool × List (List Nat × List Nat) := (true, [([], []), ([0], [0]), ([], []), ([], []), ([2, 3], [2, 3]), ([4], [4]), ([5], [5]), ([6], [6]), ([], []), ([], []), ([9], [9]), ([8, 10], [8, 10]), ([11], [11]), ([12], [12]), ([7, 13], [7, 13]), ([14], [14]), ([15], [15]), ([1, 16], [1, 16]), ([0, 1, 2, 3, 4, 5, 6, 7, 8, 9, 10, 11, 12, 13, 14, 15, 16, 17], []), ([18, 17, 17, 0, 1, 2, 3, 4, 5, 6, 7, 8, 9, 10, 11, 12, 13, 14, 15, 16, 17], [17, 18])])
def scullerlaw13_Gram.B6 : List Nat := [0, 1, 0, 0, 12, 28, 60, 124, 0, 0, 512, 1792, 3840, 7936, 16380, 32764, 65532, 131071, 262143, 524287]
theorem scullerlaw13_Gram.tab6 : rtab .any (opsOf Try.f9 6) = scullerlaw13_Gram.T6 := by kernel_rfl
theorem scullerlaw13_Gram.bits6 : waitsOk scullerlaw13_Gram.T6.2 scullerlaw13_Gram.B6 = true := by kernel_rfl
def scullerlaw13_Gram.T8 : Bool × List (List Nat × List Nat) := (true, [([], []), ([0], [0]), ([], []), ([], []), ([3], [3]), ([4], [4]), ([2, 5], [2, 5]), ([1, 6], [1, 6]), ([0, 1, 2, 3, 4, 5, 6, 7], []), ([8, 7, 7, 0, 1, 2, 3, 4, 5, 6, 7], [7, 8])])
def scullerlaw13_Gram.B8 : List Nat := [0, 1, 0, 0, 8, 24, 60, 127, 255, 511]
theorem scullerlaw13_Gram.tab8 : rtab .any (opsOf Try.f9 8) = scullerlaw13_Gram.T8 := by kernel_rfl
theorem scullerlaw13_Gram.bits8 : waitsOk scullerlaw13_Gram.T8.2 scullerlaw13_Gram.B8 = true := by kernel_rfl
set_option maxHeartbeats 8000000 in
set_option maxRecDepth 100000 in
theorem scullerlaw13_Gram.calls (k : Nat) (a0 : Int) (a1 : Int) (a2 : Int) (a3 : Int) (P4_ : Nat → Prop) (A4 : Option Addr) (c4 : Nat) (l4 : List Int) (a5 : Int) (r1 : Int) (r2 : Int) (r3 : Int) (r4 : Int) (r5 : Int) (r6 : List Int) (r7 : List Int) (w : World) (hs4 : Kd.V (Kd.int .u8) 5 w w.heap.size (fun k_ => P4_ k_) (.slice A4 l4.length c4) l4) (h : scullerlaw13_Gram.f k a0 a1 a2 a3 l4 a5 = some (r1, r2, r3, r4, r5, r6, r7)) :
 Calls Try.prog 9 #[.int .u64 a0, .int .u32 a1, .int .u16 a2, .int .u16 a3, .slice A4 l4.length c4, .int .u8 a5] w fun e w' => ∃ v5_ v6_ : Value, e = .returned (.agg #[.int .i64 r1, .int .u64 r2, .int .i64 r3, .int .i64 r4, .int .u32 r5, v5_, v6_]) ∧ Kd.R (Kd.int .i64) 3 w' w.heap.size (fun k_ => (w.heap.size ≤ k_)) v5_ r6 ∧ Kd.R (Kd.int .u8) 5 w' w.heap.size (fun k_ => (w.heap.size ≤ k_)) v6_ r7 ∧ Below w.heap.size w w' := by
 have hu28 := Try.underlying28
 have HO4 := Aside0.mk (show Kd.V (Kd.int .u8) 5 w w.heap.size (fun k_ => (P4_ k_ ∨ w.heap.size ≤ k_)) (.slice A4 l4.length c4) l4 from Kd.V_mono hs4 (fun k_ hk => .inl hk))
 have HB := Aside0.mk (Below.refl w.heap.size w)
 have H : (if (wrap64 (1 + (wrap64 (Int.tmod a5 8)))) = 1 then (scullerlaw13_Gram.l0 k l4 a5 0 (wrap64 (1 + (wrap64 (Int.tmod a5 8)))) a0 (wrap64 (a2)) (wrap64 (a3)) a1 ([] : List Int)) else (scullerlaw13_Gram.j1 k l4 a5 (wrap64 (1 + (wrap64 (Int.tmod a5 8)))) a0 (wrap64 (a2)) (wrap64 (a3)) a1 ([] : List Int))) = some (r1, r2, r3, r4, r5, r6, r7) := h
 clear h
 have HC7 := Aside0.mk H
 clear H
 go_enter Try.func9, Try.ntmps9
 go_upto_if 28 with (first | ((with_reducible refine gate_dst (N := 12) rfl ?_); refine box_event ?hg (N := 12) ?hd (cs := #[.int .i64 0, .int .u64 0, .int .i64 0, .int .i64 0, .int .u32 0, .slice none 0 0, .slice none 0 0]) (t := 28) ?hr ?_; (case hd => rfl); (case hg => rfl); (case hr => first | (go_simp; done) | (go_simp; rfl)); intro gb101 hg w8 hbox hb; have n0_ := Aside0.mk (Kd.V_below (Kd.V_elderB (by (with_reducible repeat (first | apply Kd.V_alloc | apply Kd.V_drewN | apply Kd.V_drew)); exact HO4.out) gb101 (Nat.le_of_eq hg.symm)) hb); have n1_ := Aside0.mk (below_step (by repeat (first | (with_reducible first | exact HB.out | apply below_alloc | apply pw_below_drewN | apply below_drew1) | exact HB.out)) hb); have n2_ := Aside0.mk (hbox); have n3_ := Aside0.mk ((by rw [hg]; exact (below_size (by repeat (first | (with_reducible first | exact HB.out | apply below_alloc | apply pw_below_drewN | apply below_drew1) | exact HB.out))) : w.heap.size ≤ gb101)); have n4_ := Aside0.mk ((by rw [hg]; exact (below_size (by repeat (first | (with_reducible first | exact HB.out | apply below_alloc | apply pw_below_drewN | apply below_drew1) | exact HB.out))) : w.heap.size ≤ gb101)); clear HO4; clear HB; have HO4 := n0_; have HB := n1_; have BK101 := n2_; have GW101 := n3_; have GE101 := n4_; clear n0_ n1_ n2_ n3_ n4_; clear hb hbox hg) | ((with_reducible refine gate_dst (N := 13) rfl ?_); refine box_event ?hg (N := 13) ?hd (cs := #[.int .i64 0, .int .u64 0, .int .i64 0, .int .i64 0, .int .u32 0, .slice none 0 0, .slice none 0 0]) (t := 28) ?hr ?_; (case hd => rfl); (case hg => rfl); (case hr => first | (go_simp; done) | (go_simp; rfl)); intro gb102 hg w9 hbox hb; have n0_ := Aside0.mk (Kd.V_below (Kd.V_elderB (by (with_reducible repeat (first | apply Kd.V_alloc | apply Kd.V_drewN | apply Kd.V_drew)); exact HO4.out) gb102 (Nat.le_of_eq hg.symm)) hb); have n1_ := Aside0.mk (blk_below (g := gb101) (o := .cells #[.int .i64 0, .int .u64 0, .int .i64 0, .int .i64 0, .int .u32 0, .slice none 0 0, .slice none 0 0] 28 (0, 0)) (by (with_reducible repeat (first | refine blk_drewN ?_ _ | refine blk_drew ?_ | refine blk_alloc ?_ _)); exact BK101.out) hb); have n2_ := Aside0.mk (below_step (by repeat (first | (with_reducible first | exact HB.out | apply below_alloc | apply pw_below_drewN | apply below_drew1 | refine below_set ?_ GE101.out) | exact HB.out)) hb); have n3_ := Aside0.mk (hbox); have n4_ := Aside0.mk ((by rw [hg]; exact (below_size (by repeat (first | (with_reducible first | exact HB.out | apply below_alloc | apply pw_below_drewN | apply below_drew1 | refine below_set ?_ GE101.out) | exact HB.out))) : w.heap.size ≤ gb102)); have n5_ := Aside0.mk ((by rw [hg]; exact (below_size (by repeat (first | (with_reducible first | exact HB.out | apply below_alloc | apply pw_below_drewN | apply below_drew1 | refine below_set ?_ GE101.out) | exact HB.out))) : w.heap.size ≤ gb102)); have n6_ := Aside0.mk ((by rw [hg]; exact Nat.ne_of_lt (blk_lt (g := gb101) (o := .cells #[.int .i64 0, .int .u64 0, .int .i64 0, .int .i64 0, .int .u32 0, .slice none 0 0, .slice none 0 0] 28 (0, 0)) (by (with_reducible repeat (first | refine blk_drewN ?_ _ | refine blk_drew ?_ | refine blk_alloc ?_ _)); exact BK101.out)) : gb101 ≠ gb102)); have n7_ := Aside0.mk ((by rw [hg]; exact Nat.ne_of_gt (blk_lt (g := gb101) (o := .cells #[.int .i64 0, .int .u64 0, .int .i64 0, .int .i64 0, .int .u32 0, .slice none 0 0, .slice none 0 0] 28 (0, 0)) (by (with_reducible repeat (first | refine blk_drewN ?_ _ | refine blk_drew ?_ | refine blk_alloc ?_ _)); exact BK101.out)) : gb102 ≠ gb101)); clear HO4; clear BK101; clear HB; have HO4 := n0_; have BK101 := n1_; have HB := n2_; have BK102 := n3_; have GW102 := n4_; have GE102 := n5_; have NB101_102 := n6_; have NB102_101 := n7_; clear n0_ n1_ n2_ n3_ n4_ n5_ n6_ n7_; clear hb hbox hg; have hnb10 := NB102_101.out; have hnc10 := NB101_102.out; have hcz11_0 : w9.cell? ⟨gb102, 0, none⟩ = some (.int .i64 0) := (blk_cell BK102.out 0).trans rfl; have hcz11_1 : w9.cell? ⟨gb102, 1, none⟩ = some (.int .u64 0) := (blk_cell BK102.out 1).trans rfl; have hcz11_2 : w9.cell? ⟨gb102, 2, none⟩ = some (.int .i64 0) := (blk_cell BK102.out 2).trans rfl; have hcz11_3 : w9.cell? ⟨gb102, 3, none⟩ = some (.int .i64 0) := (blk_cell BK102.out 3).trans rfl; have hcz11_4 : w9.cell? ⟨gb102, 4, none⟩ = some (.int .u32 0) := (blk_cell BK102.out 4).trans rfl; have hcz11_5 : w9.cell? ⟨gb102, 5, none⟩ = some (.slice none 0 0) := (blk_cell BK102.out 5).trans rfl; have hcz11_6 : w9.cell? ⟨gb102, 6, none⟩ = some (.slice none 0 0) := (blk_cell BK102.out 6).trans rfl; have hfz11_0 := blk_frozen BK102.out 0; have hfz11_1 := blk_frozen BK102.out 1; have hfz11_2 := blk_frozen BK102.out 2; have hfz11_3 := blk_frozen BK102.out 3; have hfz11_4 := blk_frozen BK102.out 4; have hfz11_5 := blk_frozen BK102.out 5; have hfz11_6 := blk_frozen BK102.out 6))
 (try simp only [Act.put, List.setIfInBounds_toArray, List.set_cons_zero, List.set_cons_succ])
 go_cut [] (fun wc => ∃ (kq : Nat) (x103005_6 : List Int) (u103005 : Value), Aside0 (scullerlaw13_Gram.j1 kq l4 a5 (wrap64 (1 + (wrap64 (Int.tmod a5 8)))) a0 (wrap64 (a2)) (wrap64 (a3)) a1 x103005_6 = some (r1, r2, r3, r4, r5, r6, r7)) ∧ Aside0 (kq ≤ k) ∧ Aside0 (Kd.V (Kd.int .u8) 5 wc w.heap.size (fun k_ => (P4_ k_ ∨ w.heap.size ≤ k_) ∧ some k_ ≠ (u103005 : Value).ownBlock ∧ k_ ≠ gb101 ∧ k_ ≠ gb102) (.slice A4 l4.length c4) l4) ∧ Aside0 (Kd.R (Kd.int .i64) 3 wc w.heap.size (fun k_ => (w.heap.size ≤ k_)) u103005 x103005_6) ∧ Aside0 (wc.heap[gb101]? = some (.cells #[.int .i64 0, .int .u64 0, .int .i64 0, .int .i64 0, .int .u32 0, (.slice none 0 0), (.slice none 0 0)] 28 (0, 0))) ∧ Aside0 (wc.heap[gb102]? = some (.cells #[.int .i64 (wrap64 (1 + (wrap64 (Int.tmod a5 8)))), .int .u64 a0, .int .i64 (wrap64 (a2)), .int .i64 (wrap64 (a3)), .int .u32 a1, u103005, (.slice none 0 0)] 28 (0, 0))) ∧ Aside0 (Below w.heap.size w wc))
 case first =>
  have H := HC7.out
  clear HC7
  by_cases c12 : (wrap64 (1 + (wrap64 (Int.tmod a5 8)))) = 1
  · rw [if_pos c12] at H
    have c12b0 : ((wrap64 (1 + (wrap64 (Int.tmod a5 8)))) == 1) = true := beq_iff_eq.mpr c12
    have c12b1 : ((wrap64 (1 + (wrap64 (Int.tmod a5 8)))) != 1) = false := bne_eq_false_iff_eq.mpr c12
    clear c12
    (first | rw [c12b0] | (simp only [i64_w, i32_w]; rw [c12b0]) | skip)
    have H' := Aside0.mk H
    clear H
    go_wp2
    go_loopg [14] k (fun kq v14 w' => ∃ (x14_1 : Int) (x103005_1 : List Int) (u103005 : Value), v14 = .int .i64 x14_1 ∧ Aside0 (scullerlaw13_Gram.l0 kq l4 a5 x14_1 (wrap64 (1 + (wrap64 (Int.tmod a5 8)))) a0 (wrap64 (a2)) (wrap64 (a3)) a1 x103005_1 = some (r1, r2, r3, r4, r5, r6, r7)) ∧ Aside0 (kq ≤ k) ∧ Aside0 (Kd.V (Kd.int .u8) 5 w' w.heap.size (fun k_ => (P4_ k_ ∨ w.heap.size ≤ k_) ∧ some k_ ≠ (u103005 : Value).ownBlock ∧ k_ ≠ gb101 ∧ k_ ≠ gb102) (.slice A4 l4.length c4) l4) ∧ Aside0 (Kd.R (Kd.int .i64) 3 w' w.heap.size (fun k_ => (w.heap.size ≤ k_)) u103005 x103005_1) ∧ Aside0 (w'.heap[gb101]? = some (.cells #[.int .i64 0, .int .u64 0, .int .i64 0, .int .i64 0, .int .u32 0, (.slice none 0 0), (.slice none 0 0)] 28 (0, 0))) ∧ Aside0 (w'.heap[gb102]? = some (.cells #[.int .i64 (wrap64 (1 + (wrap64 (Int.tmod a5 8)))), .int .u64 a0, .int .i64 (wrap64 (a2)), .int .i64 (wrap64 (a3)), .int .u32 a1, u103005, (.slice none 0 0)] 28 (0, 0))) ∧ Aside0 (Below w.heap.size w w'))
    case atStart => exact ⟨(0), (([] : List Int)), (.slice none 0 0), (by first | rfl | (simp; done) | (simp [*]; done)), H', ⟨Nat.le_refl _⟩, ⟨by (with_reducible repeat (first | apply Kd.V_alloc | apply Kd.V_drewN | apply Kd.V_drew)); exact Kd.V_mono (Kd.V_far (p := ⟨gb102, 6, none⟩) (Kd.V_far (p := ⟨gb102, 5, none⟩) (Kd.V_far (p := ⟨gb102, 4, none⟩) (Kd.V_far (p := ⟨gb102, 3, none⟩) (Kd.V_far (p := ⟨gb102, 2, none⟩) (Kd.V_far (p := ⟨gb102, 1, none⟩) (Kd.V_far (p := ⟨gb102, 0, none⟩) (Kd.V_mono HO4.out (fun k_ hk => (⟨hk, hk.2⟩ : _ ∧ k_ ≠ gb102))) (fun _ hk => hk.2) (.int .i64 (wrap64 (1 + (wrap64 (Int.tmod a5 8)))))) (fun _ hk => hk.2) (.int .u64 a0)) (fun _ hk => hk.2) (.int .i64 (wrap64 (a2)))) (fun _ hk => hk.2) (.int .i64 (wrap64 (a3)))) (fun _ hk => hk.2) (.int .u32 a1)) (fun _ hk => hk.2) (.slice none 0 0)) (fun _ hk => hk.2) (.slice none 0 0)) (fun _ hk => ⟨hk.1.1.1, ⟨(by simp [Value.ownBlock]), ⟨hk.1.1.2, hk.1.2⟩⟩⟩)⟩, ⟨by first | exact Kd.R_nil _ _ _ _ _ | exact Kd.N_nil _ _ _ _ _ | exact Kd.V_nil _ _ _ _ _ | exact Kd.Q_nil _ _ _ _ _ | exact Kd.S_nil _ _ _ _ _⟩, ⟨by (with_reducible repeat (first | refine blk_drewN ?_ _ | refine blk_drew ?_ | refine blk_alloc ?_ _)); refine blk_far ?_ NB101_102.out _; (with_reducible repeat (first | refine blk_drewN ?_ _ | refine blk_drew ?_ | refine blk_alloc ?_ _)); refine blk_far ?_ NB101_102.out _; (with_reducible repeat (first | refine blk_drewN ?_ _ | refine blk_drew ?_ | refine blk_alloc ?_ _)); refine blk_far ?_ NB101_102.out _; (with_reducible repeat (first | refine blk_drewN ?_ _ | refine blk_drew ?_ | refine blk_alloc ?_ _)); refine blk_far ?_ NB101_102.out _; (with_reducible repeat (first | refine blk_drewN ?_ _ | refine blk_drew ?_ | refine blk_alloc ?_ _)); refine blk_far ?_ NB101_102.out _; (with_reducible repeat (first | refine blk_drewN ?_ _ | refine blk_drew ?_ | refine blk_alloc ?_ _)); refine blk_far ?_ NB101_102.out _; (with_reducible repeat (first | refine blk_drewN ?_ _ | refine blk_drew ?_ | refine blk_alloc ?_ _)); refine blk_far ?_ NB101_102.out _; (with_reducible repeat (first | refine blk_drewN ?_ _ | refine blk_drew ?_ | refine blk_alloc ?_ _)); exact BK101.out⟩, ⟨by (with_reducible repeat (first | refine blk_drewN ?_ _ | refine blk_drew ?_ | refine blk_alloc ?_ _)); refine blk_put (cs := #[.int .i64 (wrap64 (1 + (wrap64 (Int.tmod a5 8)))), .int .u64 a0, .int .i64 (wrap64 (a2)), .int .i64 (wrap64 (a3)), .int .u32 a1, .slice none 0 0, .slice none 0 0]) ?_ 6 _ rfl; (with_reducible repeat (first | refine blk_drewN ?_ _ | refine blk_drew ?_ | refine blk_alloc ?_ _)); refine blk_put (cs := #[.int .i64 (wrap64 (1 + (wrap64 (Int.tmod a5 8)))), .int .u64 a0, .int .i64 (wrap64 (a2)), .int .i64 (wrap64 (a3)), .int .u32 a1, .slice none 0 0, .slice none 0 0]) ?_ 5 _ rfl; (with_reducible repeat (first | refine blk_drewN ?_ _ | refine blk_drew ?_ | refine blk_alloc ?_ _)); refine blk_put (cs := #[.int .i64 (wrap64 (1 + (wrap64 (Int.tmod a5 8)))), .int .u64 a0, .int .i64 (wrap64 (a2)), .int .i64 (wrap64 (a3)), .int .u32 0, .slice none 0 0, .slice none 0 0]) ?_ 4 _ rfl; (with_reducible repeat (first | refine blk_drewN ?_ _ | refine blk_drew ?_ | refine blk_alloc ?_ _)); refine blk_put (cs := #[.int .i64 (wrap64 (1 + (wrap64 (Int.tmod a5 8)))), .int .u64 a0, .int .i64 (wrap64 (a2)), .int .i64 0, .int .u32 0, .slice none 0 0, .slice none 0 0]) ?_ 3 _ rfl; (with_reducible repeat (first | refine blk_drewN ?_ _ | refine blk_drew ?_ | refine blk_alloc ?_ _)); refine blk_put (cs := #[.int .i64 (wrap64 (1 + (wrap64 (Int.tmod a5 8)))), .int .u64 a0, .int .i64 0, .int .i64 0, .int .u32 0, .slice none 0 0, .slice none 0 0]) ?_ 2 _ rfl; (with_reducible repeat (first | refine blk_drewN ?_ _ | refine blk_drew ?_ | refine blk_alloc ?_ _)); refine blk_put (cs := #[.int .i64 (wrap64 (1 + (wrap64 (Int.tmod a5 8)))), .int .u64 0, .int .i64 0, .int .i64 0, .int .u32 0, .slice none 0 0, .slice none 0 0]) ?_ 1 _ rfl; (with_reducible repeat (first | refine blk_drewN ?_ _ | refine blk_drew ?_ | refine blk_alloc ?_ _)); refine blk_put (cs := #[.int .i64 0, .int .u64 0, .int .i64 0, .int .i64 0, .int .u32 0, .slice none 0 0, .slice none 0 0]) ?_ 0 _ rfl; (with_reducible repeat (first | refine blk_drewN ?_ _ | refine blk_drew ?_ | refine blk_alloc ?_ _)); exact BK102.out⟩, ⟨by repeat (first | (with_reducible first | exact HB.out | apply below_alloc | apply pw_below_drewN | apply below_drew1 | refine below_set ?_ GE101.out | refine below_set ?_ GE102.out) | exact HB.out)⟩⟩
    case round =>
     clear H'
     try clear c1
     try clear p2
     try clear c4
     try clear p6
     try clear c9
     try clear c10
     try clear c12
     try clear c12b0
     try clear c12b1
     try clear hcz11_0
     try clear hcz11_1
     try clear hcz11_2
     try clear hcz11_3
     try clear hcz11_4
     try clear hcz11_5
     try clear hcz11_6
     try clear hfz11_0
     try clear hfz11_1
     try clear hfz11_2
     try clear hfz11_3
     try clear hfz11_4
     try clear hfz11_5
     try clear hfz11_6
     obtain ⟨x14_1, x103005_1, u103005, rfl, HA, HK1, HO_4, HO_103005, BK101, BK102, HB⟩ := hrel
     cases gk with
     | zero => exact absurd HA.out (by simp [scullerlaw13_Gram.l0])
     | succ k1 =>
       have H := HA.out
       clear HA
       simp only [scullerlaw13_Gram.l0] at H
       by_cases c13 : (wrap64 (x14_1 + 1)) < (l4.length : Int)
       · rw [if_pos c13] at H
         have c13b0 : decide ((wrap64 (x14_1 + 1)) < (l4.length : Int)) = true := decide_eq_true c13
         clear c13
         by_cases c14 : x14_1 < 8
         · rw [if_pos c14] at H
           have c14b0 : decide (x14_1 < 8) = true := decide_eq_true c14
           clear c14
           by_cases c15 : 0 ≤ x14_1
           · rw [if_pos c15] at H
             have c15b0 : decide (0 ≤ x14_1) = true := decide_eq_true c15
             clear c15
             by_cases c16 : x14_1 < (l4.length : Int)
             · rw [if_pos c16] at H
               have c16b0 : decide (x14_1 < (l4.length : Int)) = true := decide_eq_true c16
               clear c16
               obtain ⟨ji17, hji17⟩ : ∃ j_ : Int, (wrap64 (x14_1 + 1)) = j_ := ⟨_, rfl⟩
               replace H : (if 0 ≤ (ji17) then (if x103005_1.length < 17592186044416 then (scullerlaw13_Gram.l0 k1 l4 a5 (wrap64 (x14_1 + 2)) (wrap64 (1 + (wrap64 (Int.tmod a5 8)))) a0 (wrap64 (a2)) (wrap64 (a3)) a1 (x103005_1 ++ [Int.tmod (wrap64 ((wrap64 ((wrap64 (rd l4 x14_1)) * 256)) + (wrap64 (rd l4 (ji17))))) 4097])) else (none)) else (none)) = some (r1, r2, r3, r4, r5, r6, r7) := by first | (rw [hji17] at H; exact H) | (simp only [hji17] at H ⊢; exact H)
               (try rw [hji17] at c13b0)
               have hji17w : (IntKind.i64.wrap (x14_1 + 1)) = ji17 := (i64_w _).trans hji17
               by_cases c18 : 0 ≤ (ji17)
               · rw [if_pos c18] at H
                 have c18b0 : decide (0 ≤ (ji17)) = true := decide_eq_true c18
                 clear c18
                 by_cases c19 : x103005_1.length < 17592186044416
                 · rw [if_pos c19] at H
                   have LMc19 := Aside0.mk c19
                   clear c19
                   obtain ⟨y105, hy105⟩ : ∃ y_ : List Int, y_ = (x103005_1 ++ [Int.tmod (wrap64 ((wrap64 ((wrap64 (rd l4 x14_1)) * 256)) + (wrap64 (rd l4 (ji17))))) 4097]) := ⟨_, rfl⟩
                   replace H : (scullerlaw13_Gram.l0 k1 l4 a5 (wrap64 (x14_1 + 2)) (wrap64 (1 + (wrap64 (Int.tmod a5 8)))) a0 (wrap64 (a2)) (wrap64 (a3)) a1 y105) = some (r1, r2, r3, r4, r5, r6, r7) := by first | (rw [hy105]; with_reducible exact H) | (have H2_ := (Option.bind_some _ _).symm.trans H; rw [hy105]; with_reducible exact H2_) | (have H2_ := (Option.bind_some _ _).symm.trans H; with_reducible exact H2_) | with_reducible exact H | (rw [hy105]; exact H) | exact H
                   have Ny105 := Aside0.mk hy105
                   clear hy105
                   have H' := Aside0.mk H
                   clear H
                   try go_wp2
                   have n0_ := Aside0.mk (Kd.V_drew HO_4.out)
                   have n1_ := Aside0.mk (Kd.R_drew HO_103005.out)
                   have n2_ := Aside0.mk (blk_drew BK101.out)
                   have n3_ := Aside0.mk (blk_drew BK102.out)
                   have n4_ := Aside0.mk (below_drew1 HB.out)
                   clear HO_4
                   clear HO_103005
                   clear BK101
                   clear BK102
                   clear HB
                   have HO_4 := n0_
                   have HO_103005 := n1_
                   have BK101 := n2_
                   have BK102 := n3_
                   have HB := n4_
                   clear n0_ n1_ n2_ n3_ n4_
                   have p103 : 0 ≤ (x14_1 : Int) := of_decide_eq_true (by first | (with_reducible assumption) | assumption)
                   have q103 : x14_1 < (l4.length : Int) := of_decide_eq_true (by first | (with_reducible assumption) | assumption)
                   obtain ⟨ad103, e103, hx103_0⟩ := Kd.at_int (Kd.V_reads' HO_4.out).2.2 x14_1 p103 q103
                   cases e103
                   replace p103 := eq_true p103
                   replace q103 := eq_true q103
                   have p104 : 0 ≤ ((ji17) : Int) := of_decide_eq_true (by first | (with_reducible assumption) | assumption)
                   have q104 : (ji17) < (l4.length : Int) := of_decide_eq_true (by first | (with_reducible assumption) | assumption)
                   obtain ⟨ad104, e104, hx104_0⟩ := Kd.at_int (Kd.V_reads' HO_4.out).2.2 (ji17) p104 q104
                   obtain rfl : ad103 = ad104 := (by injection e104)
                   replace p104 := eq_true p104
                   replace q104 := eq_true q104
                   refine start_ (n := 20) (S := fun w' => w'.cell? ⟨gb102, 0, none⟩ = some (.int .i64 (wrap64 (1 + (wrap64 (Int.tmod a5 8))))) ∧ w'.cell? ⟨gb102, 1, none⟩ = some (.int .u64 a0) ∧ w'.cell? ⟨gb102, 2, none⟩ = some (.int .i64 (wrap64 (a2))) ∧ w'.cell? ⟨gb102, 3, none⟩ = some (.int .i64 (wrap64 (a3))) ∧ w'.cell? ⟨gb102, 4, none⟩ = some (.int .u32 a1) ∧ w'.cell? ⟨gb102, 5, none⟩ = some (u103005) ∧ w'.cell? ⟨gb102, 6, none⟩ = some (.slice none 0 0) ∧ w'.cell? (ad103.add (x14_1).toNat) = some (.int .u8 (rd l4 x14_1)) ∧ w'.cell? (ad103.add ((ji17)).toNat) = some (.int .u8 (rd l4 (ji17)))) (ds := [17, 19]) #[false, false, false, false, false, false, false, false, false, false, false, false, false, false, false, false, false, false, false, false] (by kernel_rfl) rfl rfl ⟨(blk_cell BK102.out 0).trans rfl, (blk_cell BK102.out 1).trans rfl, (blk_cell BK102.out 2).trans rfl, (blk_cell BK102.out 3).trans rfl, (blk_cell BK102.out 4).trans rfl, (blk_cell BK102.out 5).trans rfl, (blk_cell BK102.out 6).trans rfl, hx103_0, hx104_0⟩ (fun hHeld => ?_); refine with_tabW scullerlaw13_Gram.tab6 scullerlaw13_Gram.bits6 (fun HT_ HW_ => ?_)
                   generalize wr.drew = w20 at HO_4 HO_103005 BK101 BK102 HB hx103_0 hx104_0 hHeld ⊢
                   refine pure_ (i := 0) (N := some 40) (v := ?_) (a' := ?_) #[true, false, false, false, false, false, false, false, false, false, false, false, false, false, false, false, false, false, false, false] rfl rfl (any_of HT_.out (by kernel_rfl)) (fun _ _ _ h => h) (Or.inl ⟨by rfl, ?_⟩) ?_ ?_
                   rotate_left
                   · intro w'
                     go_simp
                     with_reducible rfl
                   rotate_left
                   · simp only [Act.put, List.setIfInBounds_toArray, List.set_cons_zero, List.set_cons_succ, i64_w, i32_w]
                     rfl
                   refine pure_ (i := 2) (N := some 42) (v := ?_) (a' := ?_) #[true, false, true, false, false, false, false, false, false, false, false, false, false, false, false, false, false, false, false, false] rfl rfl (any_of HT_.out (by kernel_rfl)) (fun _ _ _ h => h) (Or.inl ⟨by rfl, ?_⟩) ?_ ?_
                   rotate_left
                   · intro w'
                     go_simp
                     with_reducible rfl
                   rotate_left
                   · simp only [Act.put, List.setIfInBounds_toArray, List.set_cons_zero, List.set_cons_succ, i64_w, i32_w]
                     rfl
                   refine pure_ (i := 3) (N := some 43) (v := ?_) (a' := ?_) #[true, false, true, true, false, false, false, false, false, false, false, false, false, false, false, false, false, false, false, false] rfl rfl (any_of HT_.out (by kernel_rfl)) (fun _ _ _ h => h) (Or.inl ⟨by rfl, ?_⟩) ?_ ?_
                   rotate_left
                   · intro w'
                     go_simp
                     with_reducible rfl
                   rotate_left
                   · simp only [Act.put, List.setIfInBounds_toArray, List.set_cons_zero, List.set_cons_succ, i64_w, i32_w]
                     rfl
                   refine pure_ (i := 4) (N := some 44) (v := ?_) (a' := ?_) #[true, false, true, true, true, false, false, false, false, false, false, false, false, false, false, false, false, false, false, false] rfl rfl (any_of HT_.out (by kernel_rfl)) (fun _ _ _ h => h) (Or.inl ⟨by rfl, ?_⟩) ?_ ?_
                   rotate_left
                   · intro w'
                     go_simp
                     with_reducible rfl
                   rotate_left
                   · simp only [Act.put, List.setIfInBounds_toArray, List.set_cons_zero, List.set_cons_succ, i64_w, i32_w]
                     rfl
                   refine pure_ (i := 8) (N := some 48) (v := ?_) (a' := ?_) #[true, false, true, true, true, false, false, false, true, false, false, false, false, false, false, false, false, false, false, false] rfl rfl (any_of HT_.out (by kernel_rfl)) (fun _ _ _ h => h) (Or.inl ⟨by rfl, ?_⟩) ?_ ?_
                   rotate_left
                   · intro w'
                     go_simp
                     with_reducible rfl
                   rotate_left
                   · simp only [Act.put, List.setIfInBounds_toArray, List.set_cons_zero, List.set_cons_succ, i64_w, i32_w]
                     rfl
                   refine pure_ (i := 9) (N := some 49) (v := ?_) (a' := ?_) #[true, false, true, true, true, false, false, false, true, true, false, false, false, false, false, false, false, false, false, false] rfl rfl (any_of HT_.out (by kernel_rfl)) (fun _ _ _ h => h) (Or.inl ⟨by rfl, ?_⟩) ?_ ?_
                   rotate_left
                   · intro w'
                     go_simp
                     with_reducible rfl
                   rotate_left
                   · simp only [Act.put, List.setIfInBounds_toArray, List.set_cons_zero, List.set_cons_succ, i64_w, i32_w]
                     rfl
                   refine pure_ (i := 10) (N := some 50) (v := ?_) (a' := ?_) #[true, false, true, true, true, false, false, false, true, true, true, false, false, false, false, false, false, false, false, false] rfl rfl (any_of HT_.out (by kernel_rfl)) (fun _ _ _ h => h) (Or.inl ⟨by rfl, ?_⟩) ?_ ?_
                   rotate_left
                   · intro w'
                     go_simp
                     with_reducible rfl
                   rotate_left
                   · simp only [Act.put, List.setIfInBounds_toArray, List.set_cons_zero, List.set_cons_succ, i64_w, i32_w]
                     rfl
                   refine pure_ (i := 11) (N := some 51) (v := ?_) (a' := ?_) #[true, false, true, true, true, false, false, false, true, true, true, true, false, false, false, false, false, false, false, false] rfl rfl (any_of HT_.out (by kernel_rfl)) (fun _ _ _ h => h) (Or.inl ⟨by rfl, ?_⟩) ?_ ?_
                   rotate_left
                   · intro w'
                     go_simp
                     with_reducible rfl
                   rotate_left
                   · simp only [Act.put, List.setIfInBounds_toArray, List.set_cons_zero, List.set_cons_succ, i64_w, i32_w]
                     rfl
                   refine take_ (i := 1) (N := some 41) (v := ?_) (a' := ?_) #[true, true, true, true, true, false, false, false, true, true, true, true, false, false, false, false, false, false, false, false] rfl rfl (take_ofW HT_.out HW_.out (by kernel_rfl)) (fun _ _ _ h => h) (Or.inl ⟨by rfl, ?_⟩) hHeld ?_ ?_
                   rotate_left
                   · rintro w' ⟨s0, s1, s2, s3, s4, s5, s6, s7, s8⟩
                     go_simp
                     with_reducible rfl
                   rotate_left
                   · simp only [Act.put, List.setIfInBounds_toArray, List.set_cons_zero, List.set_cons_succ, i64_w, i32_w]
                     rfl
                   refine take_ (i := 5) (N := some 45) (v := ?_) (a' := ?_) #[true, true, true, true, true, true, false, false, true, true, true, true, false, false, false, false, false, false, false, false] rfl rfl (take_ofW HT_.out HW_.out (by kernel_rfl)) (fun _ _ _ h => h) (Or.inl ⟨by rfl, ?_⟩) hHeld ?_ ?_
                   rotate_left
                   · rintro w' ⟨s0, s1, s2, s3, s4, s5, s6, s7, s8⟩
                     go_simp
                     with_reducible rfl
                   rotate_left
                   · simp only [Act.put, List.setIfInBounds_toArray, List.set_cons_zero, List.set_cons_succ, i64_w, i32_w]
                     rfl
                   refine pure_ (i := 6) (N := some 46) (v := ?_) (a' := ?_) #[true, true, true, true, true, true, true, false, true, true, true, true, false, false, false, false, false, false, false, false] rfl rfl (any_of HT_.out (by kernel_rfl)) (fun _ _ _ h => h) (Or.inl ⟨by rfl, ?_⟩) ?_ ?_
                   rotate_left
                   · intro w'
                     go_simp
                     with_reducible rfl
                   rotate_left
                   · simp only [Act.put, List.setIfInBounds_toArray, List.set_cons_zero, List.set_cons_succ, i64_w, i32_w]
                     rfl
                   refine pure_ (i := 7) (N := some 47) (v := ?_) (a' := ?_) #[true, true, true, true, true, true, true, true, true, true, true, true, false, false, false, false, false, false, false, false] rfl rfl (any_of HT_.out (by kernel_rfl)) (fun _ _ _ h => h) (Or.inl ⟨by rfl, ?_⟩) ?_ ?_
                   rotate_left
                   · intro w'
                     go_simp
                     with_reducible rfl
                   rotate_left
                   · simp only [Act.put, List.setIfInBounds_toArray, List.set_cons_zero, List.set_cons_succ, i64_w, i32_w]
                     rfl
                   refine take_ (i := 12) (N := some 52) (v := ?_) (a' := ?_) #[true, true, true, true, true, true, true, true, true, true, true, true, true, false, false, false, false, false, false, false] rfl rfl (take_ofW HT_.out HW_.out (by kernel_rfl)) (fun _ _ _ h => h) (Or.inl ⟨by rfl, ?_⟩) hHeld ?_ ?_
                   rotate_left
                   · rintro w' ⟨s0, s1, s2, s3, s4, s5, s6, s7, s8⟩
                     go_simp
                     with_reducible rfl
                   rotate_left
                   · simp only [Act.put, List.setIfInBounds_toArray, List.set_cons_zero, List.set_cons_succ, i64_w, i32_w]
                     rfl
                   refine pure_ (i := 13) (N := some 53) (v := ?_) (a' := ?_) #[true, true, true, true, true, true, true, true, true, true, true, true, true, true, false, false, false, false, false, false] rfl rfl (any_of HT_.out (by kernel_rfl)) (fun _ _ _ h => h) (Or.inl ⟨by rfl, ?_⟩) ?_ ?_
                   rotate_left
                   · intro w'
                     go_simp
                     with_reducible rfl
                   rotate_left
                   · simp only [Act.put, List.setIfInBounds_toArray, List.set_cons_zero, List.set_cons_succ, i64_w, i32_w]
                     rfl
                   refine pure_ (i := 14) (N := some 54) (v := ?_) (a' := ?_) #[true, true, true, true, true, true, true, true, true, true, true, true, true, true, true, false, false, false, false, false] rfl rfl (any_of HT_.out (by kernel_rfl)) (fun _ _ _ h => h) (Or.inl ⟨by rfl, ?_⟩) ?_ ?_
                   rotate_left
                   · intro w'
                     go_simp
                     with_reducible rfl
                   rotate_left
                   · simp only [Act.put, List.setIfInBounds_toArray, List.set_cons_zero, List.set_cons_succ, i64_w, i32_w]
                     rfl
                   refine pure_ (i := 15) (N := some 55) (v := ?_) (a' := ?_) #[true, true, true, true, true, true, true, true, true, true, true, true, true, true, true, true, false, false, false, false] rfl rfl (any_of HT_.out (by kernel_rfl)) (fun _ _ _ h => h) (Or.inl ⟨by rfl, ?_⟩) ?_ ?_
                   rotate_left
                   · intro w'
                     go_simp
                     with_reducible rfl
                   rotate_left
                   · simp only [Act.put, List.setIfInBounds_toArray, List.set_cons_zero, List.set_cons_succ, i64_w, i32_w]
                     rfl
                   refine one_ (i := 16) (N := some 56) #[true, true, true, true, true, true, true, true, true, true, true, true, true, true, true, true, true, false, false, false] rfl rfl (one_of HT_.out (by kernel_rfl)) (by decide) (fun K hK => ?_)
                   refine value_ (w1 := ?_) (v := ?_) (by rfl) rfl ?_ ?_
                   rotate_left 2
                   · go_simp
                     constructor
                     · rfl
                     · rfl
                   refine hK.out _ _ ⟨(blk_cell (blk_alloc BK102.out _) 0).trans rfl, (blk_cell (blk_alloc BK102.out _) 1).trans rfl, (blk_cell (blk_alloc BK102.out _) 2).trans rfl, (blk_cell (blk_alloc BK102.out _) 3).trans rfl, (blk_cell (blk_alloc BK102.out _) 4).trans rfl, (blk_cell (blk_alloc BK102.out _) 5).trans rfl, (blk_cell (blk_alloc BK102.out _) 6).trans rfl, (World.cell?_alloc_lt _ _ _ (World.block_lt_of_cell? _ _ (hHeld.2.2.2.2.2.2.2.1))).trans (hHeld.2.2.2.2.2.2.2.1), (World.cell?_alloc_lt _ _ _ (World.block_lt_of_cell? _ _ (hHeld.2.2.2.2.2.2.2.2))).trans (hHeld.2.2.2.2.2.2.2.2)⟩ (fun hHeld => ?_)
                   clear hK K
                   refine norm_ (a' := ?_) ?_ ?_
                   rotate_left
                   · show Act.put _ (some 56) _ = _
                     simp only [Act.put, List.setIfInBounds_toArray, List.set_cons_zero, List.set_cons_succ, i64_w, i32_w]
                     rfl
                   refine last_ (i := 17) (N := some 57) #[true, true, true, true, true, true, true, true, true, true, true, true, true, true, true, true, true, true, false, false] rfl rfl (one_of HT_.out (by kernel_rfl)) (by decide) (fun K hK => ?_)
                   refine Kd.R_append_step (Kd.int .i64) (w0 := w) w.heap.size (by rfl) (.tmp 41) (.tmp 56) 26 3 (.int .i64 0) 8 rfl Try.underlying26 info3 rfl (by decide) (by omega) u103005 x103005_1 (Int.tmod (wrap64 ((wrap64 ((wrap64 (rd l4 x14_1)) * 256)) + (wrap64 (rd l4 (ji17))))) 4097) [.int .i64 (Int.tmod (wrap64 ((wrap64 ((wrap64 (rd l4 x14_1)) * 256)) + (wrap64 (rd l4 (ji17))))) 4097)] (fun k_ => (w.heap.size ≤ k_)) (fun _ => False) rfl rfl ?aP (fun _ hk => hk.elim) ?aF ?aO ?aB ?aS ?aL ?_
                   (case aP => exact rfl)
                   (case aB => exact (by repeat (first | (with_reducible first | exact HB.out | apply below_alloc | apply pw_below_drewN | apply below_drew1 | refine below_set ?_ GE101.out | refine below_set ?_ GE102.out) | exact HB.out)))
                   (case aF => exact (fun k_ hk => (Nat.le_trans (below_size (by repeat (first | (with_reducible first | exact HB.out | apply below_alloc | apply pw_below_drewN | apply below_drew1 | refine below_set ?_ GE101.out | refine below_set ?_ GE102.out) | exact HB.out))) hk)))
                   (case aO => exact (by (with_reducible repeat (first | apply Kd.R_alloc | apply Kd.R_drewN | apply Kd.R_drew)); exact HO_103005.out))
                   (case aS => exact (below_size (by repeat (first | (with_reducible first | exact HB.out | apply below_alloc | apply pw_below_drewN | apply below_drew1 | refine below_set ?_ GE101.out | refine below_set ?_ GE102.out) | exact HB.out))))
                   (case aL => have := LMc19.out; omega)
                   intro v106 w21 ho hb hg hat
                   rw [← Ny105.out] at ho
                   have n0_ := Aside0.mk (Kd.V_afterv (ok := (fun k_ => (P4_ k_ ∨ w.heap.size ≤ k_) ∧ k_ ≠ gb101 ∧ k_ ≠ gb102)) (by (with_reducible repeat (first | apply Kd.V_alloc | apply Kd.V_drewN | apply Kd.V_drew)); exact Kd.V_mono HO_4.out (fun _ hk => ⟨⟨hk.1, ⟨hk.2.2.1, hk.2.2.2⟩⟩, hk.2.1⟩)) hg hat)
                   have n1_ := Aside0.mk (blk_grown (g := gb101) (o := .cells #[.int .i64 0, .int .u64 0, .int .i64 0, .int .i64 0, .int .u32 0, .slice none 0 0, .slice none 0 0] 28 (0, 0)) (by (with_reducible repeat (first | refine blk_drewN ?_ _ | refine blk_drew ?_ | refine blk_alloc ?_ _)); exact BK101.out) hg (Kd.R_ne HO_103005.out BK101.out (by decide)))
                   have n2_ := Aside0.mk (blk_grown (g := gb102) (o := .cells #[.int .i64 (wrap64 (1 + (wrap64 (Int.tmod a5 8)))), .int .u64 a0, .int .i64 (wrap64 (a2)), .int .i64 (wrap64 (a3)), .int .u32 a1, u103005, .slice none 0 0] 28 (0, 0)) (by (with_reducible repeat (first | refine blk_drewN ?_ _ | refine blk_drew ?_ | refine blk_alloc ?_ _)); exact BK102.out) hg (Kd.R_ne HO_103005.out BK102.out (by decide)))
                   have n3_ := Aside0.mk (hb)
                   have n4_ := Aside0.mk (ho)
                   clear HO_4
                   clear BK101
                   clear BK102
                   clear HB
                   clear HO_103005
                   have HO_4 := n0_
                   have BK101 := n1_
                   have BK102 := n2_
                   have HB := n3_
                   have HO107 := n4_
                   clear n0_ n1_ n2_ n3_ n4_
                   clear ho hb hg hat
                   obtain ⟨Ao22, co22, eo22⟩ := Kd.R_slice HO107.out
                   (first | subst eo22 | (injection eo22 with f1_ f2_ f3_; have f4_ := f1_.symm; have f5_ := f3_.symm; clear f1_ f2_ f3_; subst f4_; subst f5_))
                   refine hK.out _ _ ?_
                   clear hK K
                   refine norm_ (a' := ?_) ?_ ?_
                   rotate_left
                   · show Act.put _ (some 57) _ = _
                     simp only [Act.put, List.setIfInBounds_toArray, List.set_cons_zero, List.set_cons_succ, i64_w, i32_w]
                     rfl
                   refine pure_ (i := 18) (N := some 58) (v := ?_) (a' := ?_) #[true, true, true, true, true, true, true, true, true, true, true, true, true, true, true, true, true, true, true, false] rfl rfl (any_of HT_.out (by kernel_rfl)) (fun _ _ _ h => h) (Or.inl ⟨by rfl, ?_⟩) ?_ ?_
                   rotate_left
                   · intro w'
                     go_simp
                     with_reducible rfl
                   rotate_left
                   · simp only [Act.put, List.setIfInBounds_toArray, List.set_cons_zero, List.set_cons_succ, i64_w, i32_w]
                     rfl
                   refine last_ (i := 19) (N := none) #[true, true, true, true, true, true, true, true, true, true, true, true, true, true, true, true, true, true, true, true] rfl rfl (one_of HT_.out (by kernel_rfl)) (by decide) (fun K hK => ?_)
                   have hs23 : w21.cell? ⟨gb102, 5, none⟩ = some (u103005) := (blk_cell BK102.out 5).trans rfl
                   have hfs23 := blk_frozen BK102.out 5
                   have hns23_0 := NB101_102.out
                   have hms23_0 := NB102_101.out
                   refine skip_ (w1 := ?_) (by rfl) rfl ?_ ?_
                   rotate_left
                   · go_simp
                     rfl
                   refine hK.out _ _ ?_
                   clear hK K
                   refine done_ (done_of HT_.out (by kernel_rfl)) ?_
                   try go_wp2
                   go_roundg k1
                   case measure => have := HK1.out; omega
                   case rel => exact ⟨(wrap64 (x14_1 + 2)), (y105), (.slice Ao22 y105.length co22), (by first | rfl | (simp; done) | (simp [*]; done)), H', ⟨by have := HK1.out; omega⟩, ⟨by (with_reducible repeat (first | apply Kd.V_alloc | apply Kd.V_drewN | apply Kd.V_drew)); exact Kd.V_mono (Kd.V_far (p := ⟨gb102, 5, none⟩) (Kd.V_mono HO_4.out (fun k_ hk => (⟨hk, hk.1.2.2⟩ : _ ∧ k_ ≠ gb102))) (fun _ hk => hk.2) (.slice Ao22 y105.length co22)) (fun _ hk => ⟨hk.1.1.1, ⟨hk.1.2, ⟨hk.1.1.2.1, hk.1.1.2.2⟩⟩⟩)⟩, ⟨by (with_reducible repeat (first | apply Kd.R_alloc | apply Kd.R_drewN | apply Kd.R_drew)); exact Kd.R_mono (Kd.R_far (p := ⟨gb102, 5, none⟩) (Kd.R_types HO107.out BK102.out (by decide)) (fun _ hk => hk.2) (.slice Ao22 y105.length co22)) (fun _ hk => hk.1)⟩, ⟨by (with_reducible repeat (first | refine blk_drewN ?_ _ | refine blk_drew ?_ | refine blk_alloc ?_ _)); refine blk_far ?_ NB101_102.out _; (with_reducible repeat (first | refine blk_drewN ?_ _ | refine blk_drew ?_ | refine blk_alloc ?_ _)); exact BK101.out⟩, ⟨by (with_reducible repeat (first | refine blk_drewN ?_ _ | refine blk_drew ?_ | refine blk_alloc ?_ _)); refine blk_put (cs := #[.int .i64 (wrap64 (1 + (wrap64 (Int.tmod a5 8)))), .int .u64 a0, .int .i64 (wrap64 (a2)), .int .i64 (wrap64 (a3)), .int .u32 a1, u103005, .slice none 0 0]) ?_ 5 _ rfl; (with_reducible repeat (first | refine blk_drewN ?_ _ | refine blk_drew ?_ | refine blk_alloc ?_ _)); exact BK102.out⟩, ⟨by repeat (first | (with_reducible first | exact HB.out | apply below_alloc | apply pw_below_drewN | apply below_drew1 | refine below_set ?_ GE101.out | refine below_set ?_ GE102.out) | exact HB.out)⟩⟩
                 · rw [if_neg c19] at H
                   exact absurd H (by simp)
               · rw [if_neg c18] at H
                 exact absurd H (by simp)
             · rw [if_neg c16] at H
               exact absurd H (by simp)
           · rw [if_neg c15] at H
             exact absurd H (by simp)
         · rw [if_neg c14] at H
           have c14b0 : decide (x14_1 < 8) = false := decide_eq_false c14
           clear c14
           have H' := Aside0.mk H
           clear H
           go_wp2
           go_meet
           case rel => exact ⟨_, (x103005_1), (u103005), H', ⟨by have := HK1.out; first | omega | exact Nat.le_refl _⟩, ⟨by (with_reducible repeat (first | apply Kd.V_alloc | apply Kd.V_drewN | apply Kd.V_drew)); exact HO_4.out⟩, ⟨by (with_reducible repeat (first | apply Kd.R_alloc | apply Kd.R_drewN | apply Kd.R_drew)); exact HO_103005.out⟩, ⟨by (with_reducible repeat (first | refine blk_drewN ?_ _ | refine blk_drew ?_ | refine blk_alloc ?_ _)); exact BK101.out⟩, ⟨by (with_reducible repeat (first | refine blk_drewN ?_ _ | refine blk_drew ?_ | refine blk_alloc ?_ _)); exact BK102.out⟩, ⟨by repeat (first | (with_reducible first | exact HB.out | apply below_alloc | apply pw_below_drewN | apply below_drew1 | refine below_set ?_ GE101.out | refine below_set ?_ GE102.out) | exact HB.out)⟩⟩
       · rw [if_neg c13] at H
         have c13b0 : decide ((wrap64 (x14_1 + 1)) < (l4.length : Int)) = false := decide_eq_false c13
         clear c13
         have H' := Aside0.mk H
         clear H
         go_wp2
         go_meet
         case rel => exact ⟨_, (x103005_1), (u103005), H', ⟨by have := HK1.out; first | omega | exact Nat.le_refl _⟩, ⟨by (with_reducible repeat (first | apply Kd.V_alloc | apply Kd.V_drewN | apply Kd.V_drew)); exact HO_4.out⟩, ⟨by (with_reducible repeat (first | apply Kd.R_alloc | apply Kd.R_drewN | apply Kd.R_drew)); exact HO_103005.out⟩, ⟨by (with_reducible repeat (first | refine blk_drewN ?_ _ | refine blk_drew ?_ | refine blk_alloc ?_ _)); exact BK101.out⟩, ⟨by (with_reducible repeat (first | refine blk_drewN ?_ _ | refine blk_drew ?_ | refine blk_alloc ?_ _)); exact BK102.out⟩, ⟨by repeat (first | (with_reducible first | exact HB.out | apply below_alloc | apply pw_below_drewN | apply below_drew1 | refine below_set ?_ GE101.out | refine below_set ?_ GE102.out) | exact HB.out)⟩⟩
  · rw [if_neg c12] at H
    have c12b0 : ((wrap64 (1 + (wrap64 (Int.tmod a5 8)))) == 1) = false := beq_eq_false_iff_ne.mpr c12
    have c12b1 : ((wrap64 (1 + (wrap64 (Int.tmod a5 8)))) != 1) = true := bne_iff_ne.mpr c12
    (first | rw [c12b0] | (simp only [i64_w, i32_w]; rw [c12b0]) | skip)
    have H' := Aside0.mk H
    clear H
    go_wp2
    go_meet
    case rel => exact ⟨_, (([] : List Int)), (.slice none 0 0), H', ⟨by first | omega | exact Nat.le_refl _⟩, ⟨by (with_reducible repeat (first | apply Kd.V_alloc | apply Kd.V_drewN | apply Kd.V_drew)); exact Kd.V_mono (Kd.V_far (p := ⟨gb102, 6, none⟩) (Kd.V_far (p := ⟨gb102, 5, none⟩) (Kd.V_far (p := ⟨gb102, 4, none⟩) (Kd.V_far (p := ⟨gb102, 3, none⟩) (Kd.V_far (p := ⟨gb102, 2, none⟩) (Kd.V_far (p := ⟨gb102, 1, none⟩) (Kd.V_far (p := ⟨gb102, 0, none⟩) (Kd.V_mono HO4.out (fun k_ hk => (⟨hk, hk.2⟩ : _ ∧ k_ ≠ gb102))) (fun _ hk => hk.2) (.int .i64 (wrap64 (1 + (wrap64 (Int.tmod a5 8)))))) (fun _ hk => hk.2) (.int .u64 a0)) (fun _ hk => hk.2) (.int .i64 (wrap64 (a2)))) (fun _ hk => hk.2) (.int .i64 (wrap64 (a3)))) (fun _ hk => hk.2) (.int .u32 a1)) (fun _ hk => hk.2) (.slice none 0 0)) (fun _ hk => hk.2) (.slice none 0 0)) (fun _ hk => ⟨hk.1.1.1, ⟨(by simp [Value.ownBlock]), ⟨hk.1.1.2, hk.1.2⟩⟩⟩)⟩, ⟨by first | exact Kd.R_nil _ _ _ _ _ | exact Kd.N_nil _ _ _ _ _ | exact Kd.V_nil _ _ _ _ _ | exact Kd.Q_nil _ _ _ _ _ | exact Kd.S_nil _ _ _ _ _⟩, ⟨by (with_reducible repeat (first | refine blk_drewN ?_ _ | refine blk_drew ?_ | refine blk_alloc ?_ _)); refine blk_far ?_ NB101_102.out _; (with_reducible repeat (first | refine blk_drewN ?_ _ | refine blk_drew ?_ | refine blk_alloc ?_ _)); refine blk_far ?_ NB101_102.out _; (with_reducible repeat (first | refine blk_drewN ?_ _ | refine blk_drew ?_ | refine blk_alloc ?_ _)); refine blk_far ?_ NB101_102.out _; (with_reducible repeat (first | refine blk_drewN ?_ _ | refine blk_drew ?_ | refine blk_alloc ?_ _)); refine blk_far ?_ NB101_102.out _; (with_reducible repeat (first | refine blk_drewN ?_ _ | refine blk_drew ?_ | refine blk_alloc ?_ _)); refine blk_far ?_ NB101_102.out _; (with_reducible repeat (first | refine blk_drewN ?_ _ | refine blk_drew ?_ | refine blk_alloc ?_ _)); refine blk_far ?_ NB101_102.out _; (with_reducible repeat (first | refine blk_drewN ?_ _ | refine blk_drew ?_ | refine blk_alloc ?_ _)); refine blk_far ?_ NB101_102.out _; (with_reducible repeat (first | refine blk_drewN ?_ _ | refine blk_drew ?_ | refine blk_alloc ?_ _)); exact BK101.out⟩, ⟨by (with_reducible repeat (first | refine blk_drewN ?_ _ | refine blk_drew ?_ | refine blk_alloc ?_ _)); refine blk_put (cs := #[.int .i64 (wrap64 (1 + (wrap64 (Int.tmod a5 8)))), .int .u64 a0, .int .i64 (wrap64 (a2)), .int .i64 (wrap64 (a3)), .int .u32 a1, .slice none 0 0, .slice none 0 0]) ?_ 6 _ rfl; (with_reducible repeat (first | refine blk_drewN ?_ _ | refine blk_drew ?_ | refine blk_alloc ?_ _)); refine blk_put (cs := #[.int .i64 (wrap64 (1 + (wrap64 (Int.tmod a5 8)))), .int .u64 a0, .int .i64 (wrap64 (a2)), .int .i64 (wrap64 (a3)), .int .u32 a1, .slice none 0 0, .slice none 0 0]) ?_ 5 _ rfl; (with_reducible repeat (first | refine blk_drewN ?_ _ | refine blk_drew ?_ | refine blk_alloc ?_ _)); refine blk_put (cs := #[.int .i64 (wrap64 (1 + (wrap64 (Int.tmod a5 8)))), .int .u64 a0, .int .i64 (wrap64 (a2)), .int .i64 (wrap64 (a3)), .int .u32 0, .slice none 0 0, .slice none 0 0]) ?_ 4 _ rfl; (with_reducible repeat (first | refine blk_drewN ?_ _ | refine blk_drew ?_ | refine blk_alloc ?_ _)); refine blk_put (cs := #[.int .i64 (wrap64 (1 + (wrap64 (Int.tmod a5 8)))), .int .u64 a0, .int .i64 (wrap64 (a2)), .int .i64 0, .int .u32 0, .slice none 0 0, .slice none 0 0]) ?_ 3 _ rfl; (with_reducible repeat (first | refine blk_drewN ?_ _ | refine blk_drew ?_ | refine blk_alloc ?_ _)); refine blk_put (cs := #[.int .i64 (wrap64 (1 + (wrap64 (Int.tmod a5 8)))), .int .u64 a0, .int .i64 0, .int .i64 0, .int .u32 0, .slice none 0 0, .slice none 0 0]) ?_ 2 _ rfl; (with_reducible repeat (first | refine blk_drewN ?_ _ | refine blk_drew ?_ | refine blk_alloc ?_ _)); refine blk_put (cs := #[.int .i64 (wrap64 (1 + (wrap64 (Int.tmod a5 8)))), .int .u64 0, .int .i64 0, .int .i64 0, .int .u32 0, .slice none 0 0, .slice none 0 0]) ?_ 1 _ rfl; (with_reducible repeat (first | refine blk_drewN ?_ _ | refine blk_drew ?_ | refine blk_alloc ?_ _)); refine blk_put (cs := #[.int .i64 0, .int .u64 0, .int .i64 0, .int .i64 0, .int .u32 0, .slice none 0 0, .slice none 0 0]) ?_ 0 _ rfl; (with_reducible repeat (first | refine blk_drewN ?_ _ | refine blk_drew ?_ | refine blk_alloc ?_ _)); exact BK102.out⟩, ⟨by repeat (first | (with_reducible first | exact HB.out | apply below_alloc | apply pw_below_drewN | apply below_drew1 | refine below_set ?_ GE101.out | refine below_set ?_ GE102.out) | exact HB.out)⟩⟩
 case rest =>
  clear HC7
  try clear c1
  try clear p1
  try clear q1
  try clear hx1
  try clear p2
  try clear c4
  try clear p6
  try clear c9
  try clear c10
  try clear p10
  try clear q10
  try clear hx10
  try clear c12
  try clear c12b0
  try clear c12b1
  try clear c13
  try clear c13b0
  try clear c14
  try clear c14b0
  try clear c15
  try clear c15b0
  try clear c16
  try clear c16b0
  try clear c18
  try clear c18b0
  try clear c19
  try clear hcz11_0
  try clear hcz11_1
  try clear hcz11_2
  try clear hcz11_3
  try clear hcz11_4
  try clear hcz11_5
  try clear hcz11_6
  try clear hfz11_0
  try clear hfz11_1
  try clear hfz11_2
  try clear hfz11_3
  try clear hfz11_4
  try clear hfz11_5
  try clear hfz11_6
  try clear hx103_0
  try clear hx104_0
  try clear p103
  try clear p104
  try clear p2
  try clear p6
  try clear q103
  try clear q104
  obtain ⟨kq, x103005_6, u103005, HA, HJ6, HO_4, HO_103005, BK101, BK102, HB⟩ := hcut
  cases kq with
  | zero => exact absurd HA.out (by simp [scullerlaw13_Gram.j1])
  | succ kj6 =>
    have H := HA.out
    clear HA
    simp only [scullerlaw13_Gram.j1] at H
    have HC24 := Aside0.mk H
    clear H
    go_upto_region 7 with (fail)
    go_cut [66] (fun v66 wc => ∃ (kq : Nat) (x66_23 : Bool), v66 = .bool x66_23 ∧ Aside0 (scullerlaw13_Gram.j2 kq l4 a5 x66_23 (wrap64 (1 + (wrap64 (Int.tmod a5 8)))) a0 (wrap64 (a2)) (wrap64 (a3)) a1 x103005_6 = some (r1, r2, r3, r4, r5, r6, r7)) ∧ Aside0 (kq ≤ kj6) ∧ Aside0 (Kd.V (Kd.int .u8) 5 wc w.heap.size (fun k_ => (P4_ k_ ∨ w.heap.size ≤ k_) ∧ some k_ ≠ (u103005 : Value).ownBlock ∧ k_ ≠ gb101 ∧ k_ ≠ gb102) (.slice A4 l4.length c4) l4) ∧ Aside0 (Kd.R (Kd.int .i64) 3 wc w.heap.size (fun k_ => (w.heap.size ≤ k_)) u103005 x103005_6) ∧ Aside0 (wc.heap[gb101]? = some (.cells #[.int .i64 0, .int .u64 0, .int .i64 0, .int .i64 0, .int .u32 0, (.slice none 0 0), (.slice none 0 0)] 28 (0, 0))) ∧ Aside0 (wc.heap[gb102]? = some (.cells #[.int .i64 (wrap64 (1 + (wrap64 (Int.tmod a5 8)))), .int .u64 a0, .int .i64 (wrap64 (a2)), .int .i64 (wrap64 (a3)), .int .u32 a1, u103005, (.slice none 0 0)] 28 (0, 0))) ∧ Aside0 (Below w.heap.size w wc))
    case first =>
     have H := HC24.out
     clear HC24
     by_cases c25 : (wrap64 (1 + (wrap64 (Int.tmod a5 8)))) ≥ 2
     · rw [if_pos c25] at H
       have c25b0 : decide (2 ≤ (wrap64 (1 + (wrap64 (Int.tmod a5 8))))) = true := decide_eq_true c25
       clear c25
       (first | rw [c25b0] | (simp only [i64_w, i32_w]; rw [c25b0]) | skip)
       have H' := Aside0.mk H
       clear H
       have hnb26 := NB102_101.out
       have hnc26 := NB101_102.out
       have hcz27_0 : wc.cell? ⟨gb102, 0, none⟩ = some (.int .i64 (wrap64 (1 + (wrap64 (Int.tmod a5 8))))) := (blk_cell BK102.out 0).trans rfl
       have hcz27_1 : wc.cell? ⟨gb102, 1, none⟩ = some (.int .u64 a0) := (blk_cell BK102.out 1).trans rfl
       have hcz27_2 : wc.cell? ⟨gb102, 2, none⟩ = some (.int .i64 (wrap64 (a2))) := (blk_cell BK102.out 2).trans rfl
       have hcz27_3 : wc.cell? ⟨gb102, 3, none⟩ = some (.int .i64 (wrap64 (a3))) := (blk_cell BK102.out 3).trans rfl
       have hcz27_4 : wc.cell? ⟨gb102, 4, none⟩ = some (.int .u32 a1) := (blk_cell BK102.out 4).trans rfl
       have hcz27_5 : wc.cell? ⟨gb102, 5, none⟩ = some (u103005) := (blk_cell BK102.out 5).trans rfl
       have hcz27_6 : wc.cell? ⟨gb102, 6, none⟩ = some (.slice none 0 0) := (blk_cell BK102.out 6).trans rfl
       have hfz27_0 := blk_frozen BK102.out 0
       have hfz27_1 := blk_frozen BK102.out 1
       have hfz27_2 := blk_frozen BK102.out 2
       have hfz27_3 := blk_frozen BK102.out 3
       have hfz27_4 := blk_frozen BK102.out 4
       have hfz27_5 := blk_frozen BK102.out 5
       have hfz27_6 := blk_frozen BK102.out 6
       go_wp2
       go_meet
       case rel => exact ⟨_, (decide ((wrap64 (1 + (wrap64 (Int.tmod a5 8)))) ≤ 4)), (by first | rfl | (simp; done) | (simp [*]; done)), H', ⟨by have := HJ6.out; first | omega | exact Nat.le_refl _⟩, ⟨by (with_reducible repeat (first | apply Kd.V_alloc | apply Kd.V_drewN | apply Kd.V_drew)); exact HO_4.out⟩, ⟨by (with_reducible repeat (first | apply Kd.R_alloc | apply Kd.R_drewN | apply Kd.R_drew)); exact HO_103005.out⟩, ⟨by (with_reducible repeat (first | refine blk_drewN ?_ _ | refine blk_drew ?_ | refine blk_alloc ?_ _)); exact BK101.out⟩, ⟨by (with_reducible repeat (first | refine blk_drewN ?_ _ | refine blk_drew ?_ | refine blk_alloc ?_ _)); exact BK102.out⟩, ⟨by repeat (first | (with_reducible first | exact HB.out | apply below_alloc | apply pw_below_drewN | apply below_drew1 | refine below_set ?_ GE101.out | refine below_set ?_ GE102.out) | exact HB.out)⟩⟩
     · rw [if_neg c25] at H
       have c25b0 : decide (2 ≤ (wrap64 (1 + (wrap64 (Int.tmod a5 8))))) = false := decide_eq_false c25
       clear c25
       (first | rw [c25b0] | (simp only [i64_w, i32_w]; rw [c25b0]) | skip)
       have H' := Aside0.mk H
       clear H
       have hnb28 := NB102_101.out
       have hnc28 := NB101_102.out
       have hcz29_0 : wc.cell? ⟨gb102, 0, none⟩ = some (.int .i64 (wrap64 (1 + (wrap64 (Int.tmod a5 8))))) := (blk_cell BK102.out 0).trans rfl
       have hcz29_1 : wc.cell? ⟨gb102, 1, none⟩ = some (.int .u64 a0) := (blk_cell BK102.out 1).trans rfl
       have hcz29_2 : wc.cell? ⟨gb102, 2, none⟩ = some (.int .i64 (wrap64 (a2))) := (blk_cell BK102.out 2).trans rfl
       have hcz29_3 : wc.cell? ⟨gb102, 3, none⟩ = some (.int .i64 (wrap64 (a3))) := (blk_cell BK102.out 3).trans rfl
       have hcz29_4 : wc.cell? ⟨gb102, 4, none⟩ = some (.int .u32 a1) := (blk_cell BK102.out 4).trans rfl
       have hcz29_5 : wc.cell? ⟨gb102, 5, none⟩ = some (u103005) := (blk_cell BK102.out 5).trans rfl
       have hcz29_6 : wc.cell? ⟨gb102, 6, none⟩ = some (.slice none 0 0) := (blk_cell BK102.out 6).trans rfl
       have hfz29_0 := blk_frozen BK102.out 0
       have hfz29_1 := blk_frozen BK102.out 1
       have hfz29_2 := blk_frozen BK102.out 2
       have hfz29_3 := blk_frozen BK102.out 3
       have hfz29_4 := blk_frozen BK102.out 4
       have hfz29_5 := blk_frozen BK102.out 5
       have hfz29_6 := blk_frozen BK102.out 6
       go_wp2
       go_meet
       case rel => exact ⟨_, (false), (by first | rfl | (simp; done) | (simp [*]; done)), H', ⟨by have := HJ6.out; first | omega | exact Nat.le_refl _⟩, ⟨by (with_reducible repeat (first | apply Kd.V_alloc | apply Kd.V_drewN | apply Kd.V_drew)); exact HO_4.out⟩, ⟨by (with_reducible repeat (first | apply Kd.R_alloc | apply Kd.R_drewN | apply Kd.R_drew)); exact HO_103005.out⟩, ⟨by (with_reducible repeat (first | refine blk_drewN ?_ _ | refine blk_drew ?_ | refine blk_alloc ?_ _)); exact BK101.out⟩, ⟨by (with_reducible repeat (first | refine blk_drewN ?_ _ | refine blk_drew ?_ | refine blk_alloc ?_ _)); exact BK102.out⟩, ⟨by repeat (first | (with_reducible first | exact HB.out | apply below_alloc | apply pw_below_drewN | apply below_drew1 | refine below_set ?_ GE101.out | refine below_set ?_ GE102.out) | exact HB.out)⟩⟩
    case rest =>
     clear HC24
     try clear c1
     try clear p1
     try clear q1
     try clear hx1
     try clear c2
     try clear p2
     try clear c4
     try clear p6
     try clear c9
     try clear c10
     try clear p10
     try clear q10
     try clear hx10
     try clear c12
     try clear c12b0
     try clear c12b1
     try clear c13
     try clear c13b0
     try clear c14
     try clear c14b0
     try clear c15
     try clear c15b0
     try clear c16
     try clear c16b0
     try clear c18
     try clear c18b0
     try clear c19
     try clear c25
     try clear c25b0
     try clear c26
     try clear c28
     try clear hcz11_0
     try clear hcz11_1
     try clear hcz11_2
     try clear hcz11_3
     try clear hcz11_4
     try clear hcz11_5
     try clear hcz11_6
     try clear hcz27_0
     try clear hcz27_1
     try clear hcz27_2
     try clear hcz27_3
     try clear hcz27_4
     try clear hcz27_5
     try clear hcz27_6
     try clear hcz29_0
     try clear hcz29_1
     try clear hcz29_2
     try clear hcz29_3
     try clear hcz29_4
     try clear hcz29_5
     try clear hcz29_6
     try clear hfz11_0
     try clear hfz11_1
     try clear hfz11_2
     try clear hfz11_3
     try clear hfz11_4
     try clear hfz11_5
     try clear hfz11_6
     try clear hfz27_0
     try clear hfz27_1
     try clear hfz27_2
     try clear hfz27_3
     try clear hfz27_4
     try clear hfz27_5
     try clear hfz27_6
     try clear hfz29_0
     try clear hfz29_1
     try clear hfz29_2
     try clear hfz29_3
     try clear hfz29_4
     try clear hfz29_5
     try clear hfz29_6
     try clear hx103_0
     try clear hx104_0
     try clear p1
     try clear p10
     try clear p103
     try clear p104
     try clear p2
     try clear p6
     try clear q1
     try clear q10
     try clear q103
     try clear q104
     obtain ⟨kq, x66_23, rfl, HA, HJ23, HO_4, HO_103005, BK101, BK102, HB⟩ := hcut
     cases kq with
     | zero => exact absurd HA.out (by simp [scullerlaw13_Gram.j2])
     | succ kj23 =>
       have H := HA.out
       clear HA
       simp only [scullerlaw13_Gram.j2] at H
       by_cases c30 : x66_23 = true
       · subst c30
         have H1 : (if 0 ≤ (mn (l4.length : Int) 64) then (if (mn (l4.length : Int) 64) ≤ (l4.length : Int) then ((some (l4.take ((mn (l4.length : Int) 64) : Int).toNat : List Int)).bind fun y108 => (if ([] : List Int).length + y108.length < 140737488355328 then ((some (([] : List Int) ++ y108 : List Int)).bind fun y113 => (if a5 > 230 then (some (wrap64 (a5), a0, (-1), (wrap64 (a3)), a1, x103005_6, y113)) else (some ((wrap64 (1 + (wrap64 (Int.tmod a5 8)))), a0, (wrap64 (a2)), (wrap64 (a3)), a1, x103005_6, y113)))) else (none))) else (none)) else (none)) = some (r1, r2, r3, r4, r5, r6, r7) := by rw [if_pos rfl] at H; exact H
         clear H
         have H := H1
         clear H1
         obtain ⟨ji31, hji31⟩ : ∃ j_ : Int, (mn (l4.length : Int) 64) = j_ := ⟨_, rfl⟩
         replace H : (if 0 ≤ (ji31) then (if (ji31) ≤ (l4.length : Int) then ((some (l4.take ((ji31) : Int).toNat : List Int)).bind fun y108 => (if ([] : List Int).length + y108.length < 140737488355328 then ((some (([] : List Int) ++ y108 : List Int)).bind fun y113 => (if a5 > 230 then (some (wrap64 (a5), a0, (-1), (wrap64 (a3)), a1, x103005_6, y113)) else (some ((wrap64 (1 + (wrap64 (Int.tmod a5 8)))), a0, (wrap64 (a2)), (wrap64 (a3)), a1, x103005_6, y113)))) else (none))) else (none)) else (none)) = some (r1, r2, r3, r4, r5, r6, r7) := by first | (rw [hji31] at H; exact H) | (simp only [hji31] at H ⊢; exact H)
         have hji31_ : (if 64 < (l4.length : Int) then 64 else (l4.length : Int)) = ji31 := hji31
         by_cases c32 : 0 ≤ (ji31)
         · rw [if_pos c32] at H
           have c32b0 := eq_true c32
           have c32b1 : decide (0 ≤ (ji31)) = true := decide_eq_true c32
           clear c32
           by_cases c33 : (ji31) ≤ (l4.length : Int)
           · rw [if_pos c33] at H
             have c33b0 := eq_true c33
             have c33b1 : decide ((ji31) ≤ (l4.length : Int)) = true := decide_eq_true c33
             clear c33
             obtain ⟨y108, hy108⟩ : ∃ y_ : List Int, y_ = (l4.take ((ji31) : Int).toNat) := ⟨_, rfl⟩
             replace H : (if ([] : List Int).length + y108.length < 140737488355328 then ((some (([] : List Int) ++ y108 : List Int)).bind fun y113 => (if a5 > 230 then (some (wrap64 (a5), a0, (-1), (wrap64 (a3)), a1, x103005_6, y113)) else (some ((wrap64 (1 + (wrap64 (Int.tmod a5 8)))), a0, (wrap64 (a2)), (wrap64 (a3)), a1, x103005_6, y113)))) else (none)) = some (r1, r2, r3, r4, r5, r6, r7) := by first | (rw [hy108]; with_reducible exact H) | (have H2_ := (Option.bind_some _ _).symm.trans H; rw [hy108]; with_reducible exact H2_) | (have H2_ := (Option.bind_some _ _).symm.trans H; with_reducible exact H2_) | with_reducible exact H | (rw [hy108]; exact H) | exact H
             have Ny108 := Aside0.mk hy108
             clear hy108
             by_cases c34 : ([] : List Int).length + y108.length < 140737488355328
             · rw [if_pos c34] at H
               have LMc34 := Aside0.mk c34
               clear c34
               obtain ⟨y113, hy113⟩ : ∃ y_ : List Int, y_ = (([] : List Int) ++ y108) := ⟨_, rfl⟩
               replace H : (if a5 > 230 then (some (wrap64 (a5), a0, (-1), (wrap64 (a3)), a1, x103005_6, y113)) else (some ((wrap64 (1 + (wrap64 (Int.tmod a5 8)))), a0, (wrap64 (a2)), (wrap64 (a3)), a1, x103005_6, y113))) = some (r1, r2, r3, r4, r5, r6, r7) := by first | (rw [hy113]; with_reducible exact H) | (have H2_ := (Option.bind_some _ _).symm.trans H; rw [hy113]; with_reducible exact H2_) | (have H2_ := (Option.bind_some _ _).symm.trans H; with_reducible exact H2_) | with_reducible exact H | (rw [hy113]; exact H) | exact H
               have Ny113 := Aside0.mk hy113
               clear hy113
               by_cases c35 : a5 > 230
               · rw [if_pos c35] at H
                 have c35b0 : decide (230 < a5) = true := decide_eq_true c35
                 clear c35
                 simp only [Option.some.injEq, Prod.mk.injEq] at H
                 obtain ⟨rfl, rfl, rfl, rfl, rfl, rfl, rfl⟩ := H
                 try go_wp2
                 have n0_ := Aside0.mk (Kd.V_drew HO_4.out)
                 have n1_ := Aside0.mk (Kd.R_drew HO_103005.out)
                 have n2_ := Aside0.mk (blk_drew BK101.out)
                 have n3_ := Aside0.mk (blk_drew BK102.out)
                 have n4_ := Aside0.mk (below_drew1 HB.out)
                 clear HO_4
                 clear HO_103005
                 clear BK101
                 clear BK102
                 clear HB
                 have HO_4 := n0_
                 have HO_103005 := n1_
                 have BK101 := n2_
                 have BK102 := n3_
                 have HB := n4_
                 clear n0_ n1_ n2_ n3_ n4_
                 have q37 : ((ji31) : Int) ≤ ((l4.length : Int) : Int) := of_decide_eq_true (by first | (with_reducible assumption) | assumption)
                 obtain ⟨i037, hi037, _, hsz37, _⟩ := info_parts info5
                 have hroom37 : l4.length ≤ c4 := (Kd.V_reads' HO_4.out).2.1
                 have hC37 : Kd.F (Kd.int .u8) _ _ A4 l4.length l4 := (Kd.V_at (base := w.heap.size) HO_4.out).2.2
                 have hcut37 := cut_to (P := Try.prog) 25 5 .i64 Try.underlying25 hi037 A4 l4.length c4 (ji31) (of_decide_eq_true (by first | (with_reducible assumption) | assumption)) q37 hroom37
                 have hr37 := Kd.F_take (m := ((ji31) : Int).toNat) hC37 (by omega)
                 have hy37 : y108.length = ((ji31) : Int).toNat := (by rw [Ny108.out, List.length_take]; omega)
                 rw [← Ny108.out] at hr37
                 rw [← hy37] at hcut37
                 have HO112 := Aside0.mk (show Kd.V (Kd.int .u8) 5 _ w.heap.size _ (.slice A4 y108.length c4) y108 from Kd.V_mk (by omega) hr37)
                 have HC112 := Aside0.mk (show y108.length ≤ c4 from by omega)
                 clear hr37 hC37 hroom37 hi037 hsz37
                 have KY37 := Aside0.mk hy37
                 clear hy37
                 replace q37 := eq_true q37
                 refine start_ (n := 10) (S := fun w' => w'.cell? ⟨gb102, 0, none⟩ = some (.int .i64 (wrap64 (1 + (wrap64 (Int.tmod a5 8))))) ∧ w'.cell? ⟨gb102, 1, none⟩ = some (.int .u64 a0) ∧ w'.cell? ⟨gb102, 2, none⟩ = some (.int .i64 (wrap64 (a2))) ∧ w'.cell? ⟨gb102, 3, none⟩ = some (.int .i64 (wrap64 (a3))) ∧ w'.cell? ⟨gb102, 4, none⟩ = some (.int .u32 a1) ∧ w'.cell? ⟨gb102, 5, none⟩ = some (u103005) ∧ w'.cell? ⟨gb102, 6, none⟩ = some (.slice none 0 0)) (ds := [9]) #[false, false, false, false, false, false, false, false, false, false] (by kernel_rfl) rfl rfl ⟨(blk_cell BK102.out 0).trans rfl, (blk_cell BK102.out 1).trans rfl, (blk_cell BK102.out 2).trans rfl, (blk_cell BK102.out 3).trans rfl, (blk_cell BK102.out 4).trans rfl, (blk_cell BK102.out 5).trans rfl, (blk_cell BK102.out 6).trans rfl⟩ (fun hHeld => ?_); refine with_tabW scullerlaw13_Gram.tab8 scullerlaw13_Gram.bits8 (fun HT_ HW_ => ?_)
                 generalize wc.drew = w36 at HO_4 HO_103005 BK101 BK102 HB HO112 hHeld ⊢
                 refine pure_ (i := 0) (N := some 67) (v := ?_) (a' := ?_) #[true, false, false, false, false, false, false, false, false, false] rfl rfl (any_of HT_.out (by kernel_rfl)) (fun _ _ _ h => h) (Or.inl ⟨by rfl, ?_⟩) ?_ ?_
                 rotate_left
                 · intro w'
                   go_simp
                   with_reducible rfl
                 rotate_left
                 · simp only [Act.put, List.setIfInBounds_toArray, List.set_cons_zero, List.set_cons_succ, i64_w, i32_w]
                   rfl
                 refine pure_ (i := 2) (N := some 69) (v := ?_) (a' := ?_) #[true, false, true, false, false, false, false, false, false, false] rfl rfl (any_of HT_.out (by kernel_rfl)) (fun _ _ _ h => h) (Or.inl ⟨by rfl, ?_⟩) ?_ ?_
                 rotate_left
                 · intro w'
                   go_simp
                   with_reducible rfl
                 rotate_left
                 · simp only [Act.put, List.setIfInBounds_toArray, List.set_cons_zero, List.set_cons_succ, i64_w, i32_w]
                   rfl
                 refine pure_ (i := 3) (N := some 70) (v := ?_) (a' := ?_) #[true, false, true, true, false, false, false, false, false, false] rfl rfl (any_of HT_.out (by kernel_rfl)) (fun _ _ _ h => h) (Or.inl ⟨by rfl, ?_⟩) ?_ ?_
                 rotate_left
                 · intro w'
                   go_simp
                   with_reducible rfl
                 rotate_left
                 · simp only [Act.put, List.setIfInBounds_toArray, List.set_cons_zero, List.set_cons_succ, i64_w, i32_w]
                   rfl
                 refine pure_ (i := 4) (N := some 71) (v := ?_) (a' := ?_) #[true, false, true, true, true, false, false, false, false, false] rfl rfl (any_of HT_.out (by kernel_rfl)) (fun _ _ _ h => h) (Or.inl ⟨by rfl, ?_⟩) ?_ ?_
                 rotate_left
                 · intro w'
                   go_simp
                   with_reducible rfl
                 rotate_left
                 · simp only [Act.put, List.setIfInBounds_toArray, List.set_cons_zero, List.set_cons_succ, i64_w, i32_w]
                   rfl
                 refine pure_ (i := 5) (N := some 72) (v := ?_) (a' := ?_) #[true, false, true, true, true, true, false, false, false, false] rfl rfl (any_of HT_.out (by kernel_rfl)) (fun _ _ _ h => h) (Or.inl ⟨by rfl, ?_⟩) ?_ ?_
                 rotate_left
                 · intro w'
                   go_simp
                   with_reducible rfl
                 rotate_left
                 · simp only [Act.put, List.setIfInBounds_toArray, List.set_cons_zero, List.set_cons_succ, i64_w, i32_w]
                   rfl
                 refine pure_ (i := 6) (N := some 73) (v := ?_) (a' := ?_) #[true, false, true, true, true, true, true, false, false, false] rfl rfl (any_of HT_.out (by kernel_rfl)) (fun _ _ _ h => h) (Or.inl ⟨by rfl, ?_⟩) ?_ ?_
                 rotate_left
                 · intro w'
                   go_simp
                   with_reducible rfl
                 rotate_left
                 · simp only [Act.put, List.setIfInBounds_toArray, List.set_cons_zero, List.set_cons_succ, i64_w, i32_w]
                   rfl
                 refine take_ (i := 1) (N := some 68) (v := ?_) (a' := ?_) #[true, true, true, true, true, true, true, false, false, false] rfl rfl (take_ofW HT_.out HW_.out (by kernel_rfl)) (fun _ _ _ h => h) (Or.inl ⟨by rfl, ?_⟩) hHeld ?_ ?_
                 rotate_left
                 · rintro w' ⟨s0, s1, s2, s3, s4, s5, s6⟩
                   go_simp
                   with_reducible rfl
                 rotate_left
                 · simp only [Act.put, List.setIfInBounds_toArray, List.set_cons_zero, List.set_cons_succ, i64_w, i32_w]
                   rfl
                 refine one_ (i := 7) (N := some 74) #[true, true, true, true, true, true, true, true, false, false] rfl rfl (one_of HT_.out (by kernel_rfl)) (by decide) (fun K hK => ?_)
                 refine Kd.R_append_rows_step (Kd.int .u8) (w0 := w) w.heap.size (by rfl) (.tmp 68) (.tmp 73) 25 5 (.int .u8 0) 1 rfl Try.underlying25 info5 rfl (by decide) (by omega) (.slice none 0 0) ([] : List Int) y108 _ _ _ (fun k_ => (w.heap.size ≤ k_)) (fun _ => False) rfl rfl ?aO ?aR (fun _ _ h => h) (fun _ h => h.elim) ?aF ?aB ?aS ?aL ?_
                 (case aR => repeat (first | exact (Kd.V_reads' HO112.out).2.2 | (with_reducible refine Kd.C_alloc ?_ _) | (with_reducible refine Kd.C_drewN ?_ _) | (with_reducible refine Kd.C_drew ?_)))
                 (case aB => exact (by repeat (first | (with_reducible first | exact HB.out | apply below_alloc | apply pw_below_drewN | apply below_drew1 | refine below_set ?_ GE101.out | refine below_set ?_ GE102.out) | exact HB.out)))
                 (case aF => exact (fun k_ hk => (Nat.le_trans (below_size (by repeat (first | (with_reducible first | exact HB.out | apply below_alloc | apply pw_below_drewN | apply below_drew1 | refine below_set ?_ GE101.out | refine below_set ?_ GE102.out) | exact HB.out))) hk)))
                 (case aO => exact ((Kd.R_nil _ _ _ _ (fun k_ => (w.heap.size ≤ k_)))))
                 (case aS => exact (below_size (by repeat (first | (with_reducible first | exact HB.out | apply below_alloc | apply pw_below_drewN | apply below_drew1 | refine below_set ?_ GE101.out | refine below_set ?_ GE102.out) | exact HB.out))))
                 (case aL => have := LMc34.out; omega)
                 intro v114 w38 ho hb hg hat
                 rw [← Ny113.out] at ho
                 have n0_ := Aside0.mk (Kd.V_afterv (Kd.V_apart_nil (by (with_reducible repeat (first | apply Kd.V_alloc | apply Kd.V_drewN | apply Kd.V_drew)); exact HO_4.out)) hg hat)
                 have n1_ := Aside0.mk (Kd.R_grown (by (with_reducible repeat (first | apply Kd.R_alloc | apply Kd.R_drewN | apply Kd.R_drew)); exact HO_103005.out) hg (fun _ _ => by simp [Value.ownBlock]))
                 have n2_ := Aside0.mk (blk_grown (g := gb101) (o := .cells #[.int .i64 0, .int .u64 0, .int .i64 0, .int .i64 0, .int .u32 0, .slice none 0 0, .slice none 0 0] 28 (0, 0)) (by (with_reducible repeat (first | refine blk_drewN ?_ _ | refine blk_drew ?_ | refine blk_alloc ?_ _)); exact BK101.out) hg (by simp [Value.ownBlock]))
                 have n3_ := Aside0.mk (blk_grown (g := gb102) (o := .cells #[.int .i64 (wrap64 (1 + (wrap64 (Int.tmod a5 8)))), .int .u64 a0, .int .i64 (wrap64 (a2)), .int .i64 (wrap64 (a3)), .int .u32 a1, u103005, .slice none 0 0] 28 (0, 0)) (by (with_reducible repeat (first | refine blk_drewN ?_ _ | refine blk_drew ?_ | refine blk_alloc ?_ _)); exact BK102.out) hg (by simp [Value.ownBlock]))
                 have n4_ := Aside0.mk (Kd.V_afterv (Kd.V_apart_nil (by (with_reducible repeat (first | apply Kd.V_alloc | apply Kd.V_drewN | apply Kd.V_drew)); exact HO112.out)) hg hat)
                 have n5_ := Aside0.mk (hb)
                 have n6_ := Aside0.mk (ho)
                 clear HO_4
                 clear HO_103005
                 clear BK101
                 clear BK102
                 clear HO112
                 clear HB
                 have HO_4 := n0_
                 have HO_103005 := n1_
                 have BK101 := n2_
                 have BK102 := n3_
                 have HO112 := n4_
                 have HB := n5_
                 have HO115 := n6_
                 clear n0_ n1_ n2_ n3_ n4_ n5_ n6_
                 clear ho hb hg hat
                 obtain ⟨Ao39, co39, eo39⟩ := Kd.R_slice HO115.out
                 (first | subst eo39 | (injection eo39 with f1_ f2_ f3_; have f4_ := f1_.symm; have f5_ := f3_.symm; clear f1_ f2_ f3_; subst f4_; subst f5_))
                 refine hK.out _ _ ⟨(blk_cell BK102.out 0).trans rfl, (blk_cell BK102.out 1).trans rfl, (blk_cell BK102.out 2).trans rfl, (blk_cell BK102.out 3).trans rfl, (blk_cell BK102.out 4).trans rfl, (blk_cell BK102.out 5).trans rfl, (blk_cell BK102.out 6).trans rfl⟩ (fun hHeld => ?_)
                 clear hK K
                 refine norm_ (a' := ?_) ?_ ?_
                 rotate_left
                 · show Act.put _ (some 74) _ = _
                   simp only [Act.put, List.setIfInBounds_toArray, List.set_cons_zero, List.set_cons_succ, i64_w, i32_w]
                   rfl
                 refine pure_ (i := 8) (N := some 75) (v := ?_) (a' := ?_) #[true, true, true, true, true, true, true, true, true, false] rfl rfl (any_of HT_.out (by kernel_rfl)) (fun _ _ _ h => h) (Or.inl ⟨by rfl, ?_⟩) ?_ ?_
                 rotate_left
                 · intro w'
                   go_simp
                   with_reducible rfl
                 rotate_left
                 · simp only [Act.put, List.setIfInBounds_toArray, List.set_cons_zero, List.set_cons_succ, i64_w, i32_w]
                   rfl
                 refine last_ (i := 9) (N := none) #[true, true, true, true, true, true, true, true, true, true] rfl rfl (one_of HT_.out (by kernel_rfl)) (by decide) (fun K hK => ?_)
                 have hs40 : w38.cell? ⟨gb102, 6, none⟩ = some (.slice none 0 0) := (blk_cell BK102.out 6).trans rfl
                 have hfs40 := blk_frozen BK102.out 6
                 have hns40_0 := NB101_102.out
                 have hms40_0 := NB102_101.out
                 refine skip_ (w1 := ?_) (by rfl) rfl ?_ ?_
                 rotate_left
                 · go_simp
                   rfl
                 refine hK.out _ _ ?_
                 clear hK K
                 refine done_ (done_of HT_.out (by kernel_rfl)) ?_
                 have hnb41 := NB102_101.out
                 have hnc41 := NB101_102.out
                 have hcz42_0 : w38.cell? ⟨gb102, 0, none⟩ = some (.int .i64 (wrap64 (1 + (wrap64 (Int.tmod a5 8))))) := (blk_cell BK102.out 0).trans rfl
                 have hcz42_1 : w38.cell? ⟨gb102, 1, none⟩ = some (.int .u64 a0) := (blk_cell BK102.out 1).trans rfl
                 have hcz42_2 : w38.cell? ⟨gb102, 2, none⟩ = some (.int .i64 (wrap64 (a2))) := (blk_cell BK102.out 2).trans rfl
                 have hcz42_3 : w38.cell? ⟨gb102, 3, none⟩ = some (.int .i64 (wrap64 (a3))) := (blk_cell BK102.out 3).trans rfl
                 have hcz42_4 : w38.cell? ⟨gb102, 4, none⟩ = some (.int .u32 a1) := (blk_cell BK102.out 4).trans rfl
                 have hcz42_5 : w38.cell? ⟨gb102, 5, none⟩ = some (u103005) := (blk_cell BK102.out 5).trans rfl
                 have hcz42_6 : w38.cell? ⟨gb102, 6, none⟩ = some (.slice none 0 0) := (blk_cell BK102.out 6).trans rfl
                 have hfz42_0 := blk_frozen BK102.out 0
                 have hfz42_1 := blk_frozen BK102.out 1
                 have hfz42_2 := blk_frozen BK102.out 2
                 have hfz42_3 := blk_frozen BK102.out 3
                 have hfz42_4 := blk_frozen BK102.out 4
                 have hfz42_5 := blk_frozen BK102.out 5
                 have hfz42_6 := blk_frozen BK102.out 6
                 have hcz43_0 : w38.cell? ⟨gb101, 0, none⟩ = some (.int .i64 0) := (blk_cell BK101.out 0).trans rfl
                 have hcz43_1 : w38.cell? ⟨gb101, 1, none⟩ = some (.int .u64 0) := (blk_cell BK101.out 1).trans rfl
                 have hcz43_2 : w38.cell? ⟨gb101, 2, none⟩ = some (.int .i64 0) := (blk_cell BK101.out 2).trans rfl
                 have hcz43_3 : w38.cell? ⟨gb101, 3, none⟩ = some (.int .i64 0) := (blk_cell BK101.out 3).trans rfl
                 have hcz43_4 : w38.cell? ⟨gb101, 4, none⟩ = some (.int .u32 0) := (blk_cell BK101.out 4).trans rfl
                 have hcz43_5 : w38.cell? ⟨gb101, 5, none⟩ = some (.slice none 0 0) := (blk_cell BK101.out 5).trans rfl
                 have hcz43_6 : w38.cell? ⟨gb101, 6, none⟩ = some (.slice none 0 0) := (blk_cell BK101.out 6).trans rfl
                 have hfz43_0 := blk_frozen BK101.out 0
                 have hfz43_1 := blk_frozen BK101.out 1
                 have hfz43_2 := blk_frozen BK101.out 2
                 have hfz43_3 := blk_frozen BK101.out 3
                 have hfz43_4 := blk_frozen BK101.out 4
                 have hfz43_5 := blk_frozen BK101.out 5
                 have hfz43_6 := blk_frozen BK101.out 6
                 obtain ⟨Ao44, co44, eo44⟩ := Kd.R_slice HO_103005.out
                 subst eo44
                 try go_wp2
                 refine bodyPost_ret (results_cell_row rfl _ _ gb101 28 #[.int .i64 (wrap64 (a5)), .int .u64 a0, .int .i64 (-1), .int .i64 (wrap64 (a3)), .int .u32 a1, .slice Ao44 x103005_6.length co44, .slice Ao39 y113.length co39] (0, 0) _ rfl (by (with_reducible repeat (first | refine blk_drewN ?_ _ | refine blk_drew ?_ | refine blk_alloc ?_ _)); refine blk_put (cs := #[.int .i64 (wrap64 (a5)), .int .u64 a0, .int .i64 (-1), .int .i64 (wrap64 (a3)), .int .u32 a1, .slice Ao44 x103005_6.length co44, .slice none 0 0]) ?_ 6 _ rfl; (with_reducible repeat (first | refine blk_drewN ?_ _ | refine blk_drew ?_ | refine blk_alloc ?_ _)); refine blk_put (cs := #[.int .i64 (wrap64 (a5)), .int .u64 a0, .int .i64 (-1), .int .i64 (wrap64 (a3)), .int .u32 a1, .slice none 0 0, .slice none 0 0]) ?_ 5 _ rfl; (with_reducible repeat (first | refine blk_drewN ?_ _ | refine blk_drew ?_ | refine blk_alloc ?_ _)); refine blk_put (cs := #[.int .i64 (wrap64 (a5)), .int .u64 a0, .int .i64 (-1), .int .i64 (wrap64 (a3)), .int .u32 0, .slice none 0 0, .slice none 0 0]) ?_ 4 _ rfl; (with_reducible repeat (first | refine blk_drewN ?_ _ | refine blk_drew ?_ | refine blk_alloc ?_ _)); refine blk_put (cs := #[.int .i64 (wrap64 (a5)), .int .u64 a0, .int .i64 (-1), .int .i64 0, .int .u32 0, .slice none 0 0, .slice none 0 0]) ?_ 3 _ rfl; (with_reducible repeat (first | refine blk_drewN ?_ _ | refine blk_drew ?_ | refine blk_alloc ?_ _)); refine blk_put (cs := #[.int .i64 (wrap64 (a5)), .int .u64 a0, .int .i64 0, .int .i64 0, .int .u32 0, .slice none 0 0, .slice none 0 0]) ?_ 2 _ rfl; (with_reducible repeat (first | refine blk_drewN ?_ _ | refine blk_drew ?_ | refine blk_alloc ?_ _)); refine blk_put (cs := #[.int .i64 (wrap64 (a5)), .int .u64 0, .int .i64 0, .int .i64 0, .int .u32 0, .slice none 0 0, .slice none 0 0]) ?_ 1 _ rfl; (with_reducible repeat (first | refine blk_drewN ?_ _ | refine blk_drew ?_ | refine blk_alloc ?_ _)); refine blk_put (cs := #[.int .i64 0, .int .u64 0, .int .i64 0, .int .i64 0, .int .u32 0, .slice none 0 0, .slice none 0 0]) ?_ 0 _ rfl; (with_reducible repeat (first | refine blk_drewN ?_ _ | refine blk_drew ?_ | refine blk_alloc ?_ _)); refine blk_far ?_ NB101_102.out _; (with_reducible repeat (first | refine blk_drewN ?_ _ | refine blk_drew ?_ | refine blk_alloc ?_ _)); refine blk_far ?_ NB101_102.out _; (with_reducible repeat (first | refine blk_drewN ?_ _ | refine blk_drew ?_ | refine blk_alloc ?_ _)); refine blk_far ?_ NB101_102.out _; (with_reducible repeat (first | refine blk_drewN ?_ _ | refine blk_drew ?_ | refine blk_alloc ?_ _)); exact BK101.out) Try.underlying28 rfl (by kernel_rfl)) rfl ?_
                 exact ⟨_, _, by first | rfl | (simp [errW_none, errW_some] <;> rfl) | (simp only [← hji31]; first | rfl | (simp [errW_none, errW_some] <;> rfl)) | (simp [*, errW_none, errW_some] <;> rfl), by (with_reducible repeat (first | apply Kd.R_alloc | apply Kd.R_drewN | apply Kd.R_drew)); exact Kd.R_mono (Kd.R_far (p := ⟨gb101, 6, none⟩) (Kd.R_far (p := ⟨gb101, 5, none⟩) (Kd.R_far (p := ⟨gb101, 4, none⟩) (Kd.R_far (p := ⟨gb101, 3, none⟩) (Kd.R_far (p := ⟨gb101, 2, none⟩) (Kd.R_far (p := ⟨gb101, 1, none⟩) (Kd.R_far (p := ⟨gb101, 0, none⟩) (Kd.R_far (p := ⟨gb102, 2, none⟩) (Kd.R_far (p := ⟨gb102, 0, none⟩) (Kd.R_far (p := ⟨gb102, 6, none⟩) (Kd.R_types (Kd.R_types HO_103005.out BK102.out (by decide)) BK101.out (by decide)) (fun _ hk => hk.1.2) (.slice Ao39 y113.length co39)) (fun _ hk => hk.1.2) (.int .i64 (wrap64 (a5)))) (fun _ hk => hk.1.2) (.int .i64 (-1))) (fun _ hk => hk.2) (.int .i64 (wrap64 (a5)))) (fun _ hk => hk.2) (.int .u64 a0)) (fun _ hk => hk.2) (.int .i64 (-1))) (fun _ hk => hk.2) (.int .i64 (wrap64 (a3)))) (fun _ hk => hk.2) (.int .u32 a1)) (fun _ hk => hk.2) (.slice Ao44 x103005_6.length co44)) (fun _ hk => hk.2) (.slice Ao39 y113.length co39)) (fun _ hk => hk.1.1), by (with_reducible repeat (first | apply Kd.R_alloc | apply Kd.R_drewN | apply Kd.R_drew)); exact Kd.R_mono (Kd.R_far (p := ⟨gb101, 6, none⟩) (Kd.R_far (p := ⟨gb101, 5, none⟩) (Kd.R_far (p := ⟨gb101, 4, none⟩) (Kd.R_far (p := ⟨gb101, 3, none⟩) (Kd.R_far (p := ⟨gb101, 2, none⟩) (Kd.R_far (p := ⟨gb101, 1, none⟩) (Kd.R_far (p := ⟨gb101, 0, none⟩) (Kd.R_far (p := ⟨gb102, 2, none⟩) (Kd.R_far (p := ⟨gb102, 0, none⟩) (Kd.R_far (p := ⟨gb102, 6, none⟩) (Kd.R_types (Kd.R_types HO115.out BK102.out (by decide)) BK101.out (by decide)) (fun _ hk => hk.1.2) (.slice Ao39 y113.length co39)) (fun _ hk => hk.1.2) (.int .i64 (wrap64 (a5)))) (fun _ hk => hk.1.2) (.int .i64 (-1))) (fun _ hk => hk.2) (.int .i64 (wrap64 (a5)))) (fun _ hk => hk.2) (.int .u64 a0)) (fun _ hk => hk.2) (.int .i64 (-1))) (fun _ hk => hk.2) (.int .i64 (wrap64 (a3)))) (fun _ hk => hk.2) (.int .u32 a1)) (fun _ hk => hk.2) (.slice Ao44 x103005_6.length co44)) (fun _ hk => hk.2) (.slice Ao39 y113.length co39)) (fun _ hk => hk.1.1), by repeat (first | (with_reducible first | exact HB.out | apply below_alloc | apply pw_below_drewN | apply below_drew1 | refine below_set ?_ GE101.out | refine below_set ?_ GE102.out) | exact HB.out)⟩
               · rw [if_neg c35] at H
                 have c35b0 : decide (230 < a5) = false := decide_eq_false c35
                 clear c35
                 simp only [Option.some.injEq, Prod.mk.injEq] at H
                 obtain ⟨rfl, rfl, rfl, rfl, rfl, rfl, rfl⟩ := H
                 try go_wp2
                 have n0_ := Aside0.mk (Kd.V_drew HO_4.out)
                 have n1_ := Aside0.mk (Kd.R_drew HO_103005.out)
                 have n2_ := Aside0.mk (blk_drew BK101.out)
                 have n3_ := Aside0.mk (blk_drew BK102.out)
                 have n4_ := Aside0.mk (below_drew1 HB.out)
                 clear HO_4
                 clear HO_103005
                 clear BK101
                 clear BK102
                 clear HB
                 have HO_4 := n0_
                 have HO_103005 := n1_
                 have BK101 := n2_
                 have BK102 := n3_
                 have HB := n4_
                 clear n0_ n1_ n2_ n3_ n4_
                 have q46 : ((ji31) : Int) ≤ ((l4.length : Int) : Int) := of_decide_eq_true (by first | (with_reducible assumption) | assumption)
                 obtain ⟨i046, hi046, _, hsz46, _⟩ := info_parts info5
                 have hroom46 : l4.length ≤ c4 := (Kd.V_reads' HO_4.out).2.1
                 have hC46 : Kd.F (Kd.int .u8) _ _ A4 l4.length l4 := (Kd.V_at (base := w.heap.size) HO_4.out).2.2
                 have hcut46 := cut_to (P := Try.prog) 25 5 .i64 Try.underlying25 hi046 A4 l4.length c4 (ji31) (of_decide_eq_true (by first | (with_reducible assumption) | assumption)) q46 hroom46
                 have hr46 := Kd.F_take (m := ((ji31) : Int).toNat) hC46 (by omega)
                 have hy46 : y108.length = ((ji31) : Int).toNat := (by rw [Ny108.out, List.length_take]; omega)
                 rw [← Ny108.out] at hr46
                 rw [← hy46] at hcut46
                 have HO112 := Aside0.mk (show Kd.V (Kd.int .u8) 5 _ w.heap.size _ (.slice A4 y108.length c4) y108 from Kd.V_mk (by omega) hr46)
                 have HC112 := Aside0.mk (show y108.length ≤ c4 from by omega)
                 clear hr46 hC46 hroom46 hi046 hsz46
                 have KY46 := Aside0.mk hy46
                 clear hy46
                 replace q46 := eq_true q46
                 refine start_ (n := 10) (S := fun w' => w'.cell? ⟨gb102, 0, none⟩ = some (.int .i64 (wrap64 (1 + (wrap64 (Int.tmod a5 8))))) ∧ w'.cell? ⟨gb102, 1, none⟩ = some (.int .u64 a0) ∧ w'.cell? ⟨gb102, 2, none⟩ = some (.int .i64 (wrap64 (a2))) ∧ w'.cell? ⟨gb102, 3, none⟩ = some (.int .i64 (wrap64 (a3))) ∧ w'.cell? ⟨gb102, 4, none⟩ = some (.int .u32 a1) ∧ w'.cell? ⟨gb102, 5, none⟩ = some (u103005) ∧ w'.cell? ⟨gb102, 6, none⟩ = some (.slice none 0 0)) (ds := [9]) #[false, false, false, false, false, false, false, false, false, false] (by kernel_rfl) rfl rfl ⟨(blk_cell BK102.out 0).trans rfl, (blk_cell BK102.out 1).trans rfl, (blk_cell BK102.out 2).trans rfl, (blk_cell BK102.out 3).trans rfl, (blk_cell BK102.out 4).trans rfl, (blk_cell BK102.out 5).trans rfl, (blk_cell BK102.out 6).trans rfl⟩ (fun hHeld => ?_); refine with_tabW scullerlaw13_Gram.tab8 scullerlaw13_Gram.bits8 (fun HT_ HW_ => ?_)
                 generalize wc.drew = w45 at HO_4 HO_103005 BK101 BK102 HB HO112 hHeld ⊢
                 refine pure_ (i := 0) (N := some 67) (v := ?_) (a' := ?_) #[true, false, false, false, false, false, false, false, false, false] rfl rfl (any_of HT_.out (by kernel_rfl)) (fun _ _ _ h => h) (Or.inl ⟨by rfl, ?_⟩) ?_ ?_
                 rotate_left
                 · intro w'
                   go_simp
                   with_reducible rfl
                 rotate_left
                 · simp only [Act.put, List.setIfInBounds_toArray, List.set_cons_zero, List.set_cons_succ, i64_w, i32_w]
                   rfl
                 refine pure_ (i := 2) (N := some 69) (v := ?_) (a' := ?_) #[true, false, true, false, false, false, false, false, false, false] rfl rfl (any_of HT_.out (by kernel_rfl)) (fun _ _ _ h => h) (Or.inl ⟨by rfl, ?_⟩) ?_ ?_
                 rotate_left
                 · intro w'
                   go_simp
                   with_reducible rfl
                 rotate_left
                 · simp only [Act.put, List.setIfInBounds_toArray, List.set_cons_zero, List.set_cons_succ, i64_w, i32_w]
                   rfl
                 refine pure_ (i := 3) (N := some 70) (v := ?_) (a' := ?_) #[true, false, true, true, false, false, false, false, false, false] rfl rfl (any_of HT_.out (by kernel_rfl)) (fun _ _ _ h => h) (Or.inl ⟨by rfl, ?_⟩) ?_ ?_
                 rotate_left
                 · intro w'
                   go_simp
                   with_reducible rfl
                 rotate_left
                 · simp only [Act.put, List.setIfInBounds_toArray, List.set_cons_zero, List.set_cons_succ, i64_w, i32_w]
                   rfl
                 refine pure_ (i := 4) (N := some 71) (v := ?_) (a' := ?_) #[true, false, true, true, true, false, false, false, false, false] rfl rfl (any_of HT_.out (by kernel_rfl)) (fun _ _ _ h => h) (Or.inl ⟨by rfl, ?_⟩) ?_ ?_
                 rotate_left
                 · intro w'
                   go_simp
                   with_reducible rfl
                 rotate_left
                 · simp only [Act.put, List.setIfInBounds_toArray, List.set_cons_zero, List.set_cons_succ, i64_w, i32_w]
                   rfl
                 refine pure_ (i := 5) (N := some 72) (v := ?_) (a' := ?_) #[true, false, true, true, true, true, false, false, false, false] rfl rfl (any_of HT_.out (by kernel_rfl)) (fun _ _ _ h => h) (Or.inl ⟨by rfl, ?_⟩) ?_ ?_
                 rotate_left
                 · intro w'
                   go_simp
                   with_reducible rfl
                 rotate_left
                 · simp only [Act.put, List.setIfInBounds_toArray, List.set_cons_zero, List.set_cons_succ, i64_w, i32_w]
                   rfl
                 refine pure_ (i := 6) (N := some 73) (v := ?_) (a' := ?_) #[true, false, true, true, true, true, true, false, false, false] rfl rfl (any_of HT_.out (by kernel_rfl)) (fun _ _ _ h => h) (Or.inl ⟨by rfl, ?_⟩) ?_ ?_
                 rotate_left
                 · intro w'
                   go_simp
                   with_reducible rfl
                 rotate_left
                 · simp only [Act.put, List.setIfInBounds_toArray, List.set_cons_zero, List.set_cons_succ, i64_w, i32_w]
                   rfl
                 refine take_ (i := 1) (N := some 68) (v := ?_) (a' := ?_) #[true, true, true, true, true, true, true, false, false, false] rfl rfl (take_ofW HT_.out HW_.out (by kernel_rfl)) (fun _ _ _ h => h) (Or.inl ⟨by rfl, ?_⟩) hHeld ?_ ?_
                 rotate_left
                 · rintro w' ⟨s0, s1, s2, s3, s4, s5, s6⟩
                   go_simp
                   with_reducible rfl
                 rotate_left
                 · simp only [Act.put, List.setIfInBounds_toArray, List.set_cons_zero, List.set_cons_succ, i64_w, i32_w]
                   rfl
                 refine one_ (i := 7) (N := some 74) #[true, true, true, true, true, true, true, true, false, false] rfl rfl (one_of HT_.out (by kernel_rfl)) (by decide) (fun K hK => ?_)
                 refine Kd.R_append_rows_step (Kd.int .u8) (w0 := w) w.heap.size (by rfl) (.tmp 68) (.tmp 73) 25 5 (.int .u8 0) 1 rfl Try.underlying25 info5 rfl (by decide) (by omega) (.slice none 0 0) ([] : List Int) y108 _ _ _ (fun k_ => (w.heap.size ≤ k_)) (fun _ => False) rfl rfl ?aO ?aR (fun _ _ h => h) (fun _ h => h.elim) ?aF ?aB ?aS ?aL ?_
                 (case aR => repeat (first | exact (Kd.V_reads' HO112.out).2.2 | (with_reducible refine Kd.C_alloc ?_ _) | (with_reducible refine Kd.C_drewN ?_ _) | (with_reducible refine Kd.C_drew ?_)))
                 (case aB => exact (by repeat (first | (with_reducible first | exact HB.out | apply below_alloc | apply pw_below_drewN | apply below_drew1 | refine below_set ?_ GE101.out | refine below_set ?_ GE102.out) | exact HB.out)))
                 (case aF => exact (fun k_ hk => (Nat.le_trans (below_size (by repeat (first | (with_reducible first | exact HB.out | apply below_alloc | apply pw_below_drewN | apply below_drew1 | refine below_set ?_ GE101.out | refine below_set ?_ GE102.out) | exact HB.out))) hk)))
                 (case aO => exact ((Kd.R_nil _ _ _ _ (fun k_ => (w.heap.size ≤ k_)))))
                 (case aS => exact (below_size (by repeat (first | (with_reducible first | exact HB.out | apply below_alloc | apply pw_below_drewN | apply below_drew1 | refine below_set ?_ GE101.out | refine below_set ?_ GE102.out) | exact HB.out))))
                 (case aL => have := LMc34.out; omega)
                 intro v114 w47 ho hb hg hat
                 rw [← Ny113.out] at ho
                 have n0_ := Aside0.mk (Kd.V_afterv (Kd.V_apart_nil (by (with_reducible repeat (first | apply Kd.V_alloc | apply Kd.V_drewN | apply Kd.V_drew)); exact HO_4.out)) hg hat)
                 have n1_ := Aside0.mk (Kd.R_grown (by (with_reducible repeat (first | apply Kd.R_alloc | apply Kd.R_drewN | apply Kd.R_drew)); exact HO_103005.out) hg (fun _ _ => by simp [Value.ownBlock]))
                 have n2_ := Aside0.mk (blk_grown (g := gb101) (o := .cells #[.int .i64 0, .int .u64 0, .int .i64 0, .int .i64 0, .int .u32 0, .slice none 0 0, .slice none 0 0] 28 (0, 0)) (by (with_reducible repeat (first | refine blk_drewN ?_ _ | refine blk_drew ?_ | refine blk_alloc ?_ _)); exact BK101.out) hg (by simp [Value.ownBlock]))
                 have n3_ := Aside0.mk (blk_grown (g := gb102) (o := .cells #[.int .i64 (wrap64 (1 + (wrap64 (Int.tmod a5 8)))), .int .u64 a0, .int .i64 (wrap64 (a2)), .int .i64 (wrap64 (a3)), .int .u32 a1, u103005, .slice none 0 0] 28 (0, 0)) (by (with_reducible repeat (first | refine blk_drewN ?_ _ | refine blk_drew ?_ | refine blk_alloc ?_ _)); exact BK102.out) hg (by simp [Value.ownBlock]))
                 have n4_ := Aside0.mk (Kd.V_afterv (Kd.V_apart_nil (by (with_reducible repeat (first | apply Kd.V_alloc | apply Kd.V_drewN | apply Kd.V_drew)); exact HO112.out)) hg hat)
                 have n5_ := Aside0.mk (hb)
                 have n6_ := Aside0.mk (ho)
                 clear HO_4
                 clear HO_103005
                 clear BK101
                 clear BK102
                 clear HO112
                 clear HB
                 have HO_4 := n0_
                 have HO_103005 := n1_
                 have BK101 := n2_
                 have BK102 := n3_
                 have HO112 := n4_
                 have HB := n5_
                 have HO115 := n6_
                 clear n0_ n1_ n2_ n3_ n4_ n5_ n6_
                 clear ho hb hg hat
                 obtain ⟨Ao48, co48, eo48⟩ := Kd.R_slice HO115.out
                 (first | subst eo48 | (injection eo48 with f1_ f2_ f3_; have f4_ := f1_.symm; have f5_ := f3_.symm; clear f1_ f2_ f3_; subst f4_; subst f5_))
                 refine hK.out _ _ ⟨(blk_cell BK102.out 0).trans rfl, (blk_cell BK102.out 1).trans rfl, (blk_cell BK102.out 2).trans rfl, (blk_cell BK102.out 3).trans rfl, (blk_cell BK102.out 4).trans rfl, (blk_cell BK102.out 5).trans rfl, (blk_cell BK102.out 6).trans rfl⟩ (fun hHeld => ?_)
                 clear hK K
                 refine norm_ (a' := ?_) ?_ ?_
                 rotate_left
                 · show Act.put _ (some 74) _ = _
                   simp only [Act.put, List.setIfInBounds_toArray, List.set_cons_zero, List.set_cons_succ, i64_w, i32_w]
                   rfl
                 refine pure_ (i := 8) (N := some 75) (v := ?_) (a' := ?_) #[true, true, true, true, true, true, true, true, true, false] rfl rfl (any_of HT_.out (by kernel_rfl)) (fun _ _ _ h => h) (Or.inl ⟨by rfl, ?_⟩) ?_ ?_
                 rotate_left
                 · intro w'
                   go_simp
                   with_reducible rfl
                 rotate_left
                 · simp only [Act.put, List.setIfInBounds_toArray, List.set_cons_zero, List.set_cons_succ, i64_w, i32_w]
                   rfl
                 refine last_ (i := 9) (N := none) #[true, true, true, true, true, true, true, true, true, true] rfl rfl (one_of HT_.out (by kernel_rfl)) (by decide) (fun K hK => ?_)
                 have hs49 : w47.cell? ⟨gb102, 6, none⟩ = some (.slice none 0 0) := (blk_cell BK102.out 6).trans rfl
                 have hfs49 := blk_frozen BK102.out 6
                 have hns49_0 := NB101_102.out
                 have hms49_0 := NB102_101.out
                 refine skip_ (w1 := ?_) (by rfl) rfl ?_ ?_
                 rotate_left
                 · go_simp
                   rfl
                 refine hK.out _ _ ?_
                 clear hK K
                 refine done_ (done_of HT_.out (by kernel_rfl)) ?_
                 have hnb50 := NB102_101.out
                 have hnc50 := NB101_102.out
                 have hcz51_0 : w47.cell? ⟨gb102, 0, none⟩ = some (.int .i64 (wrap64 (1 + (wrap64 (Int.tmod a5 8))))) := (blk_cell BK102.out 0).trans rfl
                 have hcz51_1 : w47.cell? ⟨gb102, 1, none⟩ = some (.int .u64 a0) := (blk_cell BK102.out 1).trans rfl
                 have hcz51_2 : w47.cell? ⟨gb102, 2, none⟩ = some (.int .i64 (wrap64 (a2))) := (blk_cell BK102.out 2).trans rfl
                 have hcz51_3 : w47.cell? ⟨gb102, 3, none⟩ = some (.int .i64 (wrap64 (a3))) := (blk_cell BK102.out 3).trans rfl
                 have hcz51_4 : w47.cell? ⟨gb102, 4, none⟩ = some (.int .u32 a1) := (blk_cell BK102.out 4).trans rfl
                 have hcz51_5 : w47.cell? ⟨gb102, 5, none⟩ = some (u103005) := (blk_cell BK102.out 5).trans rfl
                 have hcz51_6 : w47.cell? ⟨gb102, 6, none⟩ = some (.slice none 0 0) := (blk_cell BK102.out 6).trans rfl
                 have hfz51_0 := blk_frozen BK102.out 0
                 have hfz51_1 := blk_frozen BK102.out 1
                 have hfz51_2 := blk_frozen BK102.out 2
                 have hfz51_3 := blk_frozen BK102.out 3
                 have hfz51_4 := blk_frozen BK102.out 4
                 have hfz51_5 := blk_frozen BK102.out 5
                 have hfz51_6 := blk_frozen BK102.out 6
                 have hcz52_0 : w47.cell? ⟨gb101, 0, none⟩ = some (.int .i64 0) := (blk_cell BK101.out 0).trans rfl
                 have hcz52_1 : w47.cell? ⟨gb101, 1, none⟩ = some (.int .u64 0) := (blk_cell BK101.out 1).trans rfl
                 have hcz52_2 : w47.cell? ⟨gb101, 2, none⟩ = some (.int .i64 0) := (blk_cell BK101.out 2).trans rfl
                 have hcz52_3 : w47.cell? ⟨gb101, 3, none⟩ = some (.int .i64 0) := (blk_cell BK101.out 3).trans rfl
                 have hcz52_4 : w47.cell? ⟨gb101, 4, none⟩ = some (.int .u32 0) := (blk_cell BK101.out 4).trans rfl
                 have hcz52_5 : w47.cell? ⟨gb101, 5, none⟩ = some (.slice none 0 0) := (blk_cell BK101.out 5).trans rfl
                 have hcz52_6 : w47.cell? ⟨gb101, 6, none⟩ = some (.slice none 0 0) := (blk_cell BK101.out 6).trans rfl
                 have hfz52_0 := blk_frozen BK101.out 0
                 have hfz52_1 := blk_frozen BK101.out 1
                 have hfz52_2 := blk_frozen BK101.out 2
                 have hfz52_3 := blk_frozen BK101.out 3
                 have hfz52_4 := blk_frozen BK101.out 4
                 have hfz52_5 := blk_frozen BK101.out 5
                 have hfz52_6 := blk_frozen BK101.out 6
                 obtain ⟨Ao53, co53, eo53⟩ := Kd.R_slice HO_103005.out
                 subst eo53
                 try go_wp2
                 refine bodyPost_ret (results_cell_row rfl _ _ gb101 28 #[.int .i64 (wrap64 (1 + (wrap64 (Int.tmod a5 8)))), .int .u64 a0, .int .i64 (wrap64 (a2)), .int .i64 (wrap64 (a3)), .int .u32 a1, .slice Ao53 x103005_6.length co53, .slice Ao48 y113.length co48] (0, 0) _ rfl (by (with_reducible repeat (first | refine blk_drewN ?_ _ | refine blk_drew ?_ | refine blk_alloc ?_ _)); refine blk_put (cs := #[.int .i64 (wrap64 (1 + (wrap64 (Int.tmod a5 8)))), .int .u64 a0, .int .i64 (wrap64 (a2)), .int .i64 (wrap64 (a3)), .int .u32 a1, .slice Ao53 x103005_6.length co53, .slice none 0 0]) ?_ 6 _ rfl; (with_reducible repeat (first | refine blk_drewN ?_ _ | refine blk_drew ?_ | refine blk_alloc ?_ _)); refine blk_put (cs := #[.int .i64 (wrap64 (1 + (wrap64 (Int.tmod a5 8)))), .int .u64 a0, .int .i64 (wrap64 (a2)), .int .i64 (wrap64 (a3)), .int .u32 a1, .slice none 0 0, .slice none 0 0]) ?_ 5 _ rfl; (with_reducible repeat (first | refine blk_drewN ?_ _ | refine blk_drew ?_ | refine blk_alloc ?_ _)); refine blk_put (cs := #[.int .i64 (wrap64 (1 + (wrap64 (Int.tmod a5 8)))), .int .u64 a0, .int .i64 (wrap64 (a2)), .int .i64 (wrap64 (a3)), .int .u32 0, .slice none 0 0, .slice none 0 0]) ?_ 4 _ rfl; (with_reducible repeat (first | refine blk_drewN ?_ _ | refine blk_drew ?_ | refine blk_alloc ?_ _)); refine blk_put (cs := #[.int .i64 (wrap64 (1 + (wrap64 (Int.tmod a5 8)))), .int .u64 a0, .int .i64 (wrap64 (a2)), .int .i64 0, .int .u32 0, .slice none 0 0, .slice none 0 0]) ?_ 3 _ rfl; (with_reducible repeat (first | refine blk_drewN ?_ _ | refine blk_drew ?_ | refine blk_alloc ?_ _)); refine blk_put (cs := #[.int .i64 (wrap64 (1 + (wrap64 (Int.tmod a5 8)))), .int .u64 a0, .int .i64 0, .int .i64 0, .int .u32 0, .slice none 0 0, .slice none 0 0]) ?_ 2 _ rfl; (with_reducible repeat (first | refine blk_drewN ?_ _ | refine blk_drew ?_ | refine blk_alloc ?_ _)); refine blk_put (cs := #[.int .i64 (wrap64 (1 + (wrap64 (Int.tmod a5 8)))), .int .u64 0, .int .i64 0, .int .i64 0, .int .u32 0, .slice none 0 0, .slice none 0 0]) ?_ 1 _ rfl; (with_reducible repeat (first | refine blk_drewN ?_ _ | refine blk_drew ?_ | refine blk_alloc ?_ _)); refine blk_put (cs := #[.int .i64 0, .int .u64 0, .int .i64 0, .int .i64 0, .int .u32 0, .slice none 0 0, .slice none 0 0]) ?_ 0 _ rfl; (with_reducible repeat (first | refine blk_drewN ?_ _ | refine blk_drew ?_ | refine blk_alloc ?_ _)); refine blk_far ?_ NB101_102.out _; (with_reducible repeat (first | refine blk_drewN ?_ _ | refine blk_drew ?_ | refine blk_alloc ?_ _)); exact BK101.out) Try.underlying28 rfl (by kernel_rfl)) rfl ?_
                 exact ⟨_, _, by first | rfl | (simp [errW_none, errW_some] <;> rfl) | (simp only [← hji31]; first | rfl | (simp [errW_none, errW_some] <;> rfl)) | (simp [*, errW_none, errW_some] <;> rfl), by (with_reducible repeat (first | apply Kd.R_alloc | apply Kd.R_drewN | apply Kd.R_drew)); exact Kd.R_mono (Kd.R_far (p := ⟨gb101, 6, none⟩) (Kd.R_far (p := ⟨gb101, 5, none⟩) (Kd.R_far (p := ⟨gb101, 4, none⟩) (Kd.R_far (p := ⟨gb101, 3, none⟩) (Kd.R_far (p := ⟨gb101, 2, none⟩) (Kd.R_far (p := ⟨gb101, 1, none⟩) (Kd.R_far (p := ⟨gb101, 0, none⟩) (Kd.R_far (p := ⟨gb102, 6, none⟩) (Kd.R_types (Kd.R_types HO_103005.out BK102.out (by decide)) BK101.out (by decide)) (fun _ hk => hk.1.2) (.slice Ao48 y113.length co48)) (fun _ hk => hk.2) (.int .i64 (wrap64 (1 + (wrap64 (Int.tmod a5 8)))))) (fun _ hk => hk.2) (.int .u64 a0)) (fun _ hk => hk.2) (.int .i64 (wrap64 (a2)))) (fun _ hk => hk.2) (.int .i64 (wrap64 (a3)))) (fun _ hk => hk.2) (.int .u32 a1)) (fun _ hk => hk.2) (.slice Ao53 x103005_6.length co53)) (fun _ hk => hk.2) (.slice Ao48 y113.length co48)) (fun _ hk => hk.1.1), by (with_reducible repeat (first | apply Kd.R_alloc | apply Kd.R_drewN | apply Kd.R_drew)); exact Kd.R_mono (Kd.R_far (p := ⟨gb101, 6, none⟩) (Kd.R_far (p := ⟨gb101, 5, none⟩) (Kd.R_far (p := ⟨gb101, 4, none⟩) (Kd.R_far (p := ⟨gb101, 3, none⟩) (Kd.R_far (p := ⟨gb101, 2, none⟩) (Kd.R_far (p := ⟨gb101, 1, none⟩) (Kd.R_far (p := ⟨gb101, 0, none⟩) (Kd.R_far (p := ⟨gb102, 6, none⟩) (Kd.R_types (Kd.R_types HO115.out BK102.out (by decide)) BK101.out (by decide)) (fun _ hk => hk.1.2) (.slice Ao48 y113.length co48)) (fun _ hk => hk.2) (.int .i64 (wrap64 (1 + (wrap64 (Int.tmod a5 8)))))) (fun _ hk => hk.2) (.int .u64 a0)) (fun _ hk => hk.2) (.int .i64 (wrap64 (a2)))) (fun _ hk => hk.2) (.int .i64 (wrap64 (a3)))) (fun _ hk => hk.2) (.int .u32 a1)) (fun _ hk => hk.2) (.slice Ao53 x103005_6.length co53)) (fun _ hk => hk.2) (.slice Ao48 y113.length co48)) (fun _ hk => hk.1.1), by repeat (first | (with_reducible first | exact HB.out | apply below_alloc | apply pw_below_drewN | apply below_drew1 | refine below_set ?_ GE101.out | refine below_set ?_ GE102.out) | exact HB.out)⟩
             · rw [if_neg c34] at H
               exact absurd H (by simp)
           · rw [if_neg c33] at H
             exact absurd H (by simp)
         · rw [if_neg c32] at H
           exact absurd H (by simp)
       · replace c30 := Bool.eq_false_iff.mpr c30
         subst c30
         have H1 : (if a5 > 230 then (some (wrap64 (a5), a0, (-1), (wrap64 (a3)), a1, x103005_6, ([] : List Int))) else (some ((wrap64 (1 + (wrap64 (Int.tmod a5 8)))), a0, (wrap64 (a2)), (wrap64 (a3)), a1, x103005_6, ([] : List Int)))) = some (r1, r2, r3, r4, r5, r6, r7) := by rw [if_neg (show ¬ (false = true) by decide)] at H; exact H
         clear H
         have H := H1
         clear H1
         by_cases c54 : a5 > 230
         · rw [if_pos c54] at H
           have c54b0 : decide (230 < a5) = true := decide_eq_true c54
           clear c54
           simp only [Option.some.injEq, Prod.mk.injEq] at H
           obtain ⟨rfl, rfl, rfl, rfl, rfl, rfl, rfl⟩ := H
           have hnb55 := NB102_101.out
           have hnc55 := NB101_102.out
           have hcz56_0 : wc.cell? ⟨gb102, 0, none⟩ = some (.int .i64 (wrap64 (1 + (wrap64 (Int.tmod a5 8))))) := (blk_cell BK102.out 0).trans rfl
           have hcz56_1 : wc.cell? ⟨gb102, 1, none⟩ = some (.int .u64 a0) := (blk_cell BK102.out 1).trans rfl
           have hcz56_2 : wc.cell? ⟨gb102, 2, none⟩ = some (.int .i64 (wrap64 (a2))) := (blk_cell BK102.out 2).trans rfl
           have hcz56_3 : wc.cell? ⟨gb102, 3, none⟩ = some (.int .i64 (wrap64 (a3))) := (blk_cell BK102.out 3).trans rfl
           have hcz56_4 : wc.cell? ⟨gb102, 4, none⟩ = some (.int .u32 a1) := (blk_cell BK102.out 4).trans rfl
           have hcz56_5 : wc.cell? ⟨gb102, 5, none⟩ = some (u103005) := (blk_cell BK102.out 5).trans rfl
           have hcz56_6 : wc.cell? ⟨gb102, 6, none⟩ = some (.slice none 0 0) := (blk_cell BK102.out 6).trans rfl
           have hfz56_0 := blk_frozen BK102.out 0
           have hfz56_1 := blk_frozen BK102.out 1
           have hfz56_2 := blk_frozen BK102.out 2
           have hfz56_3 := blk_frozen BK102.out 3
           have hfz56_4 := blk_frozen BK102.out 4
           have hfz56_5 := blk_frozen BK102.out 5
           have hfz56_6 := blk_frozen BK102.out 6
           have hcz57_0 : wc.cell? ⟨gb101, 0, none⟩ = some (.int .i64 0) := (blk_cell BK101.out 0).trans rfl
           have hcz57_1 : wc.cell? ⟨gb101, 1, none⟩ = some (.int .u64 0) := (blk_cell BK101.out 1).trans rfl
           have hcz57_2 : wc.cell? ⟨gb101, 2, none⟩ = some (.int .i64 0) := (blk_cell BK101.out 2).trans rfl
           have hcz57_3 : wc.cell? ⟨gb101, 3, none⟩ = some (.int .i64 0) := (blk_cell BK101.out 3).trans rfl
           have hcz57_4 : wc.cell? ⟨gb101, 4, none⟩ = some (.int .u32 0) := (blk_cell BK101.out 4).trans rfl
           have hcz57_5 : wc.cell? ⟨gb101, 5, none⟩ = some (.slice none 0 0) := (blk_cell BK101.out 5).trans rfl
           have hcz57_6 : wc.cell? ⟨gb101, 6, none⟩ = some (.slice none 0 0) := (blk_cell BK101.out 6).trans rfl
           have hfz57_0 := blk_frozen BK101.out 0
           have hfz57_1 := blk_frozen BK101.out 1
           have hfz57_2 := blk_frozen BK101.out 2
           have hfz57_3 := blk_frozen BK101.out 3
           have hfz57_4 := blk_frozen BK101.out 4
           have hfz57_5 := blk_frozen BK101.out 5
           have hfz57_6 := blk_frozen BK101.out 6
           obtain ⟨Ao58, co58, eo58⟩ := Kd.R_slice HO_103005.out
           subst eo58
           go_wp2
           refine bodyPost_ret (results_cell_row rfl _ _ gb101 28 #[.int .i64 (wrap64 (a5)), .int .u64 a0, .int .i64 (-1), .int .i64 (wrap64 (a3)), .int .u32 a1, .slice Ao58 x103005_6.length co58, .slice none 0 0] (0, 0) _ rfl (by (with_reducible repeat (first | refine blk_drewN ?_ _ | refine blk_drew ?_ | refine blk_alloc ?_ _)); refine blk_put (cs := #[.int .i64 (wrap64 (a5)), .int .u64 a0, .int .i64 (-1), .int .i64 (wrap64 (a3)), .int .u32 a1, .slice Ao58 x103005_6.length co58, .slice none 0 0]) ?_ 6 _ rfl; (with_reducible repeat (first | refine blk_drewN ?_ _ | refine blk_drew ?_ | refine blk_alloc ?_ _)); refine blk_put (cs := #[.int .i64 (wrap64 (a5)), .int .u64 a0, .int .i64 (-1), .int .i64 (wrap64 (a3)), .int .u32 a1, .slice none 0 0, .slice none 0 0]) ?_ 5 _ rfl; (with_reducible repeat (first | refine blk_drewN ?_ _ | refine blk_drew ?_ | refine blk_alloc ?_ _)); refine blk_put (cs := #[.int .i64 (wrap64 (a5)), .int .u64 a0, .int .i64 (-1), .int .i64 (wrap64 (a3)), .int .u32 0, .slice none 0 0, .slice none 0 0]) ?_ 4 _ rfl; (with_reducible repeat (first | refine blk_drewN ?_ _ | refine blk_drew ?_ | refine blk_alloc ?_ _)); refine blk_put (cs := #[.int .i64 (wrap64 (a5)), .int .u64 a0, .int .i64 (-1), .int .i64 0, .int .u32 0, .slice none 0 0, .slice none 0 0]) ?_ 3 _ rfl; (with_reducible repeat (first | refine blk_drewN ?_ _ | refine blk_drew ?_ | refine blk_alloc ?_ _)); refine blk_put (cs := #[.int .i64 (wrap64 (a5)), .int .u64 a0, .int .i64 0, .int .i64 0, .int .u32 0, .slice none 0 0, .slice none 0 0]) ?_ 2 _ rfl; (with_reducible repeat (first | refine blk_drewN ?_ _ | refine blk_drew ?_ | refine blk_alloc ?_ _)); refine blk_put (cs := #[.int .i64 (wrap64 (a5)), .int .u64 0, .int .i64 0, .int .i64 0, .int .u32 0, .slice none 0 0, .slice none 0 0]) ?_ 1 _ rfl; (with_reducible repeat (first | refine blk_drewN ?_ _ | refine blk_drew ?_ | refine blk_alloc ?_ _)); refine blk_put (cs := #[.int .i64 0, .int .u64 0, .int .i64 0, .int .i64 0, .int .u32 0, .slice none 0 0, .slice none 0 0]) ?_ 0 _ rfl; (with_reducible repeat (first | refine blk_drewN ?_ _ | refine blk_drew ?_ | refine blk_alloc ?_ _)); refine blk_far ?_ NB101_102.out _; (with_reducible repeat (first | refine blk_drewN ?_ _ | refine blk_drew ?_ | refine blk_alloc ?_ _)); refine blk_far ?_ NB101_102.out _; (with_reducible repeat (first | refine blk_drewN ?_ _ | refine blk_drew ?_ | refine blk_alloc ?_ _)); exact BK101.out) Try.underlying28 rfl (by kernel_rfl)) rfl ?_
           exact ⟨_, _, by first | rfl | (simp [errW_none, errW_some] <;> rfl) | (simp [*, errW_none, errW_some] <;> rfl), by (with_reducible repeat (first | apply Kd.R_alloc | apply Kd.R_drewN | apply Kd.R_drew)); exact Kd.R_mono (Kd.R_far (p := ⟨gb101, 6, none⟩) (Kd.R_far (p := ⟨gb101, 5, none⟩) (Kd.R_far (p := ⟨gb101, 4, none⟩) (Kd.R_far (p := ⟨gb101, 3, none⟩) (Kd.R_far (p := ⟨gb101, 2, none⟩) (Kd.R_far (p := ⟨gb101, 1, none⟩) (Kd.R_far (p := ⟨gb101, 0, none⟩) (Kd.R_far (p := ⟨gb102, 2, none⟩) (Kd.R_far (p := ⟨gb102, 0, none⟩) (Kd.R_types (Kd.R_types HO_103005.out BK102.out (by decide)) BK101.out (by decide)) (fun _ hk => hk.1.2) (.int .i64 (wrap64 (a5)))) (fun _ hk => hk.1.2) (.int .i64 (-1))) (fun _ hk => hk.2) (.int .i64 (wrap64 (a5)))) (fun _ hk => hk.2) (.int .u64 a0)) (fun _ hk => hk.2) (.int .i64 (-1))) (fun _ hk => hk.2) (.int .i64 (wrap64 (a3)))) (fun _ hk => hk.2) (.int .u32 a1)) (fun _ hk => hk.2) (.slice Ao58 x103005_6.length co58)) (fun _ hk => hk.2) (.slice none 0 0)) (fun _ hk => hk.1.1), by first | exact Kd.R_nil _ _ _ _ _ | exact Kd.N_nil _ _ _ _ _ | exact Kd.V_nil _ _ _ _ _ | exact Kd.Q_nil _ _ _ _ _ | exact Kd.S_nil _ _ _ _ _, by repeat (first | (with_reducible first | exact HB.out | apply below_alloc | apply pw_below_drewN | apply below_drew1 | refine below_set ?_ GE101.out | refine below_set ?_ GE102.out) | exact HB.out)⟩
         · rw [if_neg c54] at H
           have c54b0 : decide (230 < a5) = false := decide_eq_false c54
           clear c54
           simp only [Option.some.injEq, Prod.mk.injEq] at H
           obtain ⟨rfl, rfl, rfl, rfl, rfl, rfl, rfl⟩ := H
           have hnb59 := NB102_101.out
           have hnc59 := NB101_102.out
           have hcz60_0 : wc.cell? ⟨gb102, 0, none⟩ = some (.int .i64 (wrap64 (1 + (wrap64 (Int.tmod a5 8))))) := (blk_cell BK102.out 0).trans rfl
           have hcz60_1 : wc.cell? ⟨gb102, 1, none⟩ = some (.int .u64 a0) := (blk_cell BK102.out 1).trans rfl
           have hcz60_2 : wc.cell? ⟨gb102, 2, none⟩ = some (.int .i64 (wrap64 (a2))) := (blk_cell BK102.out 2).trans rfl
           have hcz60_3 : wc.cell? ⟨gb102, 3, none⟩ = some (.int .i64 (wrap64 (a3))) := (blk_cell BK102.out 3).trans rfl
           have hcz60_4 : wc.cell? ⟨gb102, 4, none⟩ = some (.int .u32 a1) := (blk_cell BK102.out 4).trans rfl
           have hcz60_5 : wc.cell? ⟨gb102, 5, none⟩ = some (u103005) := (blk_cell BK102.out 5).trans rfl
           have hcz60_6 : wc.cell? ⟨gb102, 6, none⟩ = some (.slice none 0 0) := (blk_cell BK102.out 6).trans rfl
           have hfz60_0 := blk_frozen BK102.out 0
           have hfz60_1 := blk_frozen BK102.out 1
           have hfz60_2 := blk_frozen BK102.out 2
           have hfz60_3 := blk_frozen BK102.out 3
           have hfz60_4 := blk_frozen BK102.out 4
           have hfz60_5 := blk_frozen BK102.out 5
           have hfz60_6 := blk_frozen BK102.out 6
           have hcz61_0 : wc.cell? ⟨gb101, 0, none⟩ = some (.int .i64 0) := (blk_cell BK101.out 0).trans rfl
           have hcz61_1 : wc.cell? ⟨gb101, 1, none⟩ = some (.int .u64 0) := (blk_cell BK101.out 1).trans rfl
           have hcz61_2 : wc.cell? ⟨gb101, 2, none⟩ = some (.int .i64 0) := (blk_cell BK101.out 2).trans rfl
           have hcz61_3 : wc.cell? ⟨gb101, 3, none⟩ = some (.int .i64 0) := (blk_cell BK101.out 3).trans rfl
           have hcz61_4 : wc.cell? ⟨gb101, 4, none⟩ = some (.int .u32 0) := (blk_cell BK101.out 4).trans rfl
           have hcz61_5 : wc.cell? ⟨gb101, 5, none⟩ = some (.slice none 0 0) := (blk_cell BK101.out 5).trans rfl
           have hcz61_6 : wc.cell? ⟨gb101, 6, none⟩ = some (.slice none 0 0) := (blk_cell BK101.out 6).trans rfl
           have hfz61_0 := blk_frozen BK101.out 0
           have hfz61_1 := blk_frozen BK101.out 1
           have hfz61_2 := blk_frozen BK101.out 2
           have hfz61_3 := blk_frozen BK101.out 3
           have hfz61_4 := blk_frozen BK101.out 4
           have hfz61_5 := blk_frozen BK101.out 5
           have hfz61_6 := blk_frozen BK101.out 6
           obtain ⟨Ao62, co62, eo62⟩ := Kd.R_slice HO_103005.out
           subst eo62
           go_wp2
           refine bodyPost_ret (results_cell_row rfl _ _ gb101 28 #[.int .i64 (wrap64 (1 + (wrap64 (Int.tmod a5 8)))), .int .u64 a0, .int .i64 (wrap64 (a2)), .int .i64 (wrap64 (a3)), .int .u32 a1, .slice Ao62 x103005_6.length co62, .slice none 0 0] (0, 0) _ rfl (by (with_reducible repeat (first | refine blk_drewN ?_ _ | refine blk_drew ?_ | refine blk_alloc ?_ _)); refine blk_put (cs := #[.int .i64 (wrap64 (1 + (wrap64 (Int.tmod a5 8)))), .int .u64 a0, .int .i64 (wrap64 (a2)), .int .i64 (wrap64 (a3)), .int .u32 a1, .slice Ao62 x103005_6.length co62, .slice none 0 0]) ?_ 6 _ rfl; (with_reducible repeat (first | refine blk_drewN ?_ _ | refine blk_drew ?_ | refine blk_alloc ?_ _)); refine blk_put (cs := #[.int .i64 (wrap64 (1 + (wrap64 (Int.tmod a5 8)))), .int .u64 a0, .int .i64 (wrap64 (a2)), .int .i64 (wrap64 (a3)), .int .u32 a1, .slice none 0 0, .slice none 0 0]) ?_ 5 _ rfl; (with_reducible repeat (first | refine blk_drewN ?_ _ | refine blk_drew ?_ | refine blk_alloc ?_ _)); refine blk_put (cs := #[.int .i64 (wrap64 (1 + (wrap64 (Int.tmod a5 8)))), .int .u64 a0, .int .i64 (wrap64 (a2)), .int .i64 (wrap64 (a3)), .int .u32 0, .slice none 0 0, .slice none 0 0]) ?_ 4 _ rfl; (with_reducible repeat (first | refine blk_drewN ?_ _ | refine blk_drew ?_ | refine blk_alloc ?_ _)); refine blk_put (cs := #[.int .i64 (wrap64 (1 + (wrap64 (Int.tmod a5 8)))), .int .u64 a0, .int .i64 (wrap64 (a2)), .int .i64 0, .int .u32 0, .slice none 0 0, .slice none 0 0]) ?_ 3 _ rfl; (with_reducible repeat (first | refine blk_drewN ?_ _ | refine blk_drew ?_ | refine blk_alloc ?_ _)); refine blk_put (cs := #[.int .i64 (wrap64 (1 + (wrap64 (Int.tmod a5 8)))), .int .u64 a0, .int .i64 0, .int .i64 0, .int .u32 0, .slice none 0 0, .slice none 0 0]) ?_ 2 _ rfl; (with_reducible repeat (first | refine blk_drewN ?_ _ | refine blk_drew ?_ | refine blk_alloc ?_ _)); refine blk_put (cs := #[.int .i64 (wrap64 (1 + (wrap64 (Int.tmod a5 8)))), .int .u64 0, .int .i64 0, .int .i64 0, .int .u32 0, .slice none 0 0, .slice none 0 0]) ?_ 1 _ rfl; (with_reducible repeat (first | refine blk_drewN ?_ _ | refine blk_drew ?_ | refine blk_alloc ?_ _)); refine blk_put (cs := #[.int .i64 0, .int .u64 0, .int .i64 0, .int .i64 0, .int .u32 0, .slice none 0 0, .slice none 0 0]) ?_ 0 _ rfl; (with_reducible repeat (first | refine blk_drewN ?_ _ | refine blk_drew ?_ | refine blk_alloc ?_ _)); exact BK101.out) Try.underlying28 rfl (by kernel_rfl)) rfl ?_
           exact ⟨_, _, by first | rfl | (simp [errW_none, errW_some] <;> rfl) | (simp [*, errW_none, errW_some] <;> rfl), by (with_reducible repeat (first | apply Kd.R_alloc | apply Kd.R_drewN | apply Kd.R_drew)); exact Kd.R_mono (Kd.R_far (p := ⟨gb101, 6, none⟩) (Kd.R_far (p := ⟨gb101, 5, none⟩) (Kd.R_far (p := ⟨gb101, 4, none⟩) (Kd.R_far (p := ⟨gb101, 3, none⟩) (Kd.R_far (p := ⟨gb101, 2, none⟩) (Kd.R_far (p := ⟨gb101, 1, none⟩) (Kd.R_far (p := ⟨gb101, 0, none⟩) (Kd.R_types HO_103005.out BK101.out (by decide)) (fun _ hk => hk.2) (.int .i64 (wrap64 (1 + (wrap64 (Int.tmod a5 8)))))) (fun _ hk => hk.2) (.int .u64 a0)) (fun _ hk => hk.2) (.int .i64 (wrap64 (a2)))) (fun _ hk => hk.2) (.int .i64 (wrap64 (a3)))) (fun _ hk => hk.2) (.int .u32 a1)) (fun _ hk => hk.2) (.slice Ao62 x103005_6.length co62)) (fun _ hk => hk.2) (.slice none 0 0)) (fun _ hk => hk.1), by first | exact Kd.R_nil _ _ _ _ _ | exact Kd.N_nil _ _ _ _ _ | exact Kd.V_nil _ _ _ _ _ | exact Kd.Q_nil _ _ _ _ _ | exact Kd.S_nil _ _ _ _ _, by repeat (first | (with_reducible first | exact HB.out | apply below_alloc | apply pw_below_drewN | apply below_drew1 | refine below_set ?_ GE101.out | refine below_set ?_ GE102.out) | exact HB.out)⟩

end Go.Proofs.Ytoooceaoggkeeaa.F
end

section
/- The statements' own datagrams. No program in sight. -/
namespace Go.Proofs.Ytoooceaoggkeeaa.H
set_option linter.unusedVariables false
def pairC (c : List Int) (j : Nat) : Int := (c.getD (2 * j) 0 * 256 + c.getD (2 * j + 1) 0) % 4097
def pairsC (c : List Int) : Nat := min 4 (c.length / 2)
def sizesG (c : List Int) : List Int := (List.range (pairsC c)).map (pairC c)
def gramC (s m i o : Int) (c : List Int) (k : Int) : Int × Int × Int × Int × Int × List Int × List Int :=
 (if k > 230 then k else 1 + k % 8, s, if k > 230 then -1 else i, o, m, if k % 8 = 0 then sizesG c else [], if 1 ≤ k % 8 ∧ k % 8 ≤ 3 then c.take 64 else [])
theorem sizesG_length (c : List Int) : (sizesG c).length ≤ 4 := by
 unfold sizesG pairsC
 rw [List.length_map, List.length_range]
 omega
theorem sizesG_snoc (c : List Int) (j : Nat) : (List.range (j + 1)).map (pairC c) = (List.range j).map (pairC c) ++ [pairC c j] := by rw [List.range_succ, List.map_append]; rfl
end Go.Proofs.Ytoooceaoggkeeaa.H
end

section
namespace Go.Proofs.Ytoooceaoggkeeaa.F
open Go.RowKit Go.Proofs.YtoooceaoggkeeaaW.PrintWords Go.Proofs.YtoooceaoggkeeaaW.PrintLast Go.Proofs.YtoooceaoggkeeaaW.PrintMore
attribute [local go_sem] max2_int min2_int max_two min_two max_three min_three max_four min_four   -- for this text's walks alone
set_option linter.unusedVariables false
set_option linter.unusedSimpArgs false

open Go.Proofs.Ytoooceaoggkeeaa.H
def scullerlaw13_Gram_c.f (a0 a1 a2 a3 : Int) (l4 : List Int) (a5 : Int) : Option (Int × Int × Int × Int × Int × List Int × List Int) := if bytesB l4 = true ∧ l4.length ≤ 140737488351232 ∧ 0 ≤ a2 ∧ a2 ≤ 65535 ∧ 0 ≤ a3 ∧ a3 ≤ 65535 ∧ 0 ≤ a5 ∧ a5 ≤ 255 then some (gramC a0 a1 a2 a3 l4 a5) else none
theorem scullerlaw13_Gram.j2_to (c : List Int) (k K s i o m : Int) (S : List Int) (b : Bool) (hk : 0 ≤ k ∧ k ≤ 255) :
 scullerlaw13_Gram.j2 1 c k b K s i o m S = some (if k > 230 then k else K, s, if k > 230 then -1 else i, o, m, S, if b = true then c.take 64 else []) := by
 rw [scullerlaw13_Gram.j2]
 have hw : wrap64 k = k := by unfold wrap64; omega
 cases b
 · rw [if_neg (by decide), hw]
   split <;> rfl
 · have hmn : mn (c.length : Int) 64 = ((min c.length 64 : Nat) : Int) := by unfold mn; split <;> omega
   have ht : c.take (min c.length 64) = c.take 64 := by
    rw [Nat.min_comm, ← List.take_take, List.take_of_length_le (Nat.le_refl c.length)]
   rw [if_pos rfl, hmn, Int.toNat_natCast, ht, if_pos (by omega), if_pos (by omega), Option.bind_some, if_pos (by rw [List.length_take]; simp; omega), Option.bind_some, List.nil_append, hw]
   split <;> rfl
theorem scullerlaw13_Gram.j1_to (c : List Int) (k K s i o m : Int) (S : List Int) (hk : 0 ≤ k ∧ k ≤ 255) :
 scullerlaw13_Gram.j1 2 c k K s i o m S = some (if k > 230 then k else K, s, if k > 230 then -1 else i, o, m, S, if 2 ≤ K ∧ K ≤ 4 then c.take 64 else []) := by
 rw [scullerlaw13_Gram.j1]
 by_cases h2 : K ≥ 2
 · rw [if_pos h2, scullerlaw13_Gram.j2_to c k K s i o m S _ hk]
   by_cases h4 : K ≤ 4
   · rw [if_pos (decide_eq_true h4), if_pos (show 2 ≤ K ∧ K ≤ 4 from ⟨by omega, h4⟩)]
   · rw [if_neg (show ¬ decide (K ≤ 4) = true by simpa using h4), if_neg (show ¬ (2 ≤ K ∧ K ≤ 4) by omega)]
 · rw [if_neg h2, scullerlaw13_Gram.j2_to c k K s i o m S _ hk, if_neg (show ¬ false = true by decide), if_neg (show ¬ (2 ≤ K ∧ K ≤ 4) by omega)]
theorem scullerlaw13_Gram.l0_to (c : List Int) (hb : bytesB c = true) (hl : c.length ≤ 140737488351232) (k K s i o m : Int) (hk : 0 ≤ k ∧ k ≤ 255) : ∀ (d j : Nat), pairsC c - j = d → j ≤ pairsC c →
 ∃ q, scullerlaw13_Gram.l0 q c k ((2 * j : Nat) : Int) K s i o m ((List.range j).map (pairC c)) = some (if k > 230 then k else K, s, if k > 230 then -1 else i, o, m, sizesG c, if 2 ≤ K ∧ K ≤ 4 then c.take 64 else [])
 | 0, j, hd, hj => by
   obtain rfl : j = pairsC c := by omega
   have h1 := scullerlaw13_Gram.j1_to c k K s i o m (sizesG c) hk
   refine ⟨3, ?_⟩
   have hp : pairsC c = min 4 (c.length / 2) := rfl
   have hw : wrap64 (((2 * pairsC c : Nat) : Int) + 1) = ((2 * pairsC c + 1 : Nat) : Int) := by unfold wrap64; omega
   rw [scullerlaw13_Gram.l0, hw]
   by_cases ha : ((2 * pairsC c + 1 : Nat) : Int) < (c.length : Int)
   · rw [if_pos ha, if_neg (by omega)]
     exact h1
   · rw [if_neg ha]
     exact h1
 | d + 1, j, hd, hj => by
   have hp : pairsC c = min 4 (c.length / 2) := rfl
   obtain ⟨q, hq⟩ := scullerlaw13_Gram.l0_to c hb hl k K s i o m hk d (j + 1) (by omega) (by omega)
   refine ⟨q + 1, ?_⟩
   have hw : wrap64 (((2 * j : Nat) : Int) + 1) = ((2 * j + 1 : Nat) : Int) := by unfold wrap64; omega
   have hw2 : wrap64 (((2 * j : Nat) : Int) + 2) = ((2 * (j + 1) : Nat) : Int) := by unfold wrap64; omega
   have e0 : rd c ((2 * j : Nat) : Int) = c.getD (2 * j) 0 := rfl
   have e1 : rd c ((2 * j + 1 : Nat) : Int) = c.getD (2 * j + 1) 0 := rfl
   have b0 : 0 ≤ c.getD (2 * j) 0 ∧ c.getD (2 * j) 0 ≤ 255 := by
    rw [List.getD_eq_getElem?_getD, List.getElem?_eq_getElem (show 2 * j < c.length by omega)]
    exact bytesB_at hb _ (List.getElem_mem _)
   have b1 : 0 ≤ c.getD (2 * j + 1) 0 ∧ c.getD (2 * j + 1) 0 ≤ 255 := by
    rw [List.getD_eq_getElem?_getD, List.getElem?_eq_getElem (show 2 * j + 1 < c.length by omega)]
    exact bytesB_at hb _ (List.getElem_mem _)
   have ep : pairC c j = (c.getD (2 * j) 0 * 256 + c.getD (2 * j + 1) 0) % 4097 := rfl
   rw [scullerlaw13_Gram.l0, hw, hw2, if_pos (by omega), if_pos (by omega), if_pos (by omega), if_pos (by omega), if_pos (by omega), if_pos (by rw [List.length_map, List.length_range]; omega), e0, e1]
   generalize c.getD (2 * j) 0 = x at *
   generalize c.getD (2 * j + 1) 0 = y at *
   have w1 : wrap64 x = x := by unfold wrap64; omega
   have w2 : wrap64 y = y := by unfold wrap64; omega
   have w3 : wrap64 (x * 256) = x * 256 := by unfold wrap64; omega
   have w4 : wrap64 (x * 256 + y) = x * 256 + y := by unfold wrap64; omega
   rw [w1, w2, w3, w4, Int.tmod_eq_emod_of_nonneg (by omega), ← ep, ← sizesG_snoc]
   exact hq
theorem scullerlaw13_Gram_c.to {a0 a1 a2 a3 : Int} {l4 : List Int} {a5 : Int} {r : Int × Int × Int × Int × Int × List Int × List Int} (h : scullerlaw13_Gram_c.f a0 a1 a2 a3 l4 a5 = some r) : ∃ k, scullerlaw13_Gram.f k a0 a1 a2 a3 l4 a5 = some r := by
 unfold scullerlaw13_Gram_c.f at h
 split at h
 case isFalse => cases h
 case isTrue hh =>
 obtain ⟨hb, hl, h2, h2', h3, h3', h5, h5'⟩ := hh
 obtain rfl := Option.some.inj h
 have e0 : Int.tmod a5 8 = a5 % 8 := Int.tmod_eq_emod_of_nonneg h5
 have w1 : wrap64 (a5 % 8) = a5 % 8 := by unfold wrap64; omega
 have w2 : wrap64 (1 + a5 % 8) = 1 + a5 % 8 := by unfold wrap64; omega
 have w3 : wrap64 a2 = a2 := by unfold wrap64; omega
 have w4 : wrap64 a3 = a3 := by unfold wrap64; omega
 have eb : (if 2 ≤ 1 + a5 % 8 ∧ 1 + a5 % 8 ≤ 4 then l4.take 64 else []) = (if 1 ≤ a5 % 8 ∧ a5 % 8 ≤ 3 then l4.take 64 else []) := by
  by_cases h : 1 ≤ a5 % 8 ∧ a5 % 8 ≤ 3
  · rw [if_pos h, if_pos (show 2 ≤ 1 + a5 % 8 ∧ 1 + a5 % 8 ≤ 4 by omega)]
  · rw [if_neg h, if_neg (show ¬ (2 ≤ 1 + a5 % 8 ∧ 1 + a5 % 8 ≤ 4) by omega)]
 unfold scullerlaw13_Gram.f
 rw [e0, w1, w2, w3, w4, gramC]
 by_cases h0 : a5 % 8 = 0
 · obtain ⟨q, hq⟩ := scullerlaw13_Gram.l0_to l4 hb hl a5 (1 + a5 % 8) a0 a2 a3 a1 ⟨h5, h5'⟩ (pairsC l4) 0 (by omega) (by omega)
   refine ⟨q, ?_⟩
   rw [eb] at hq
   rw [if_pos (show 1 + a5 % 8 = 1 by omega), if_pos h0]
   exact hq
 · refine ⟨2, ?_⟩
   rw [if_neg (show ¬ 1 + a5 % 8 = 1 by omega), if_neg h0, scullerlaw13_Gram.j1_to l4 a5 (1 + a5 % 8) a0 a2 a3 a1 [] ⟨h5, h5'⟩, eb]

theorem scullerlaw13_Gram_c.calls (a0 : Int) (a1 : Int) (a2 : Int) (a3 : Int) (P4_ : Nat → Prop) (A4 : Option Addr) (c4 : Nat) (l4 : List Int) (a5 : Int) (r1 : Int) (r2 : Int) (r3 : Int) (r4 : Int) (r5 : Int) (r6 : List Int) (r7 : List Int) (w : World) (hs4 : Kd.V (Kd.int .u8) 5 w w.heap.size (fun k_ => P4_ k_) (.slice A4 l4.length c4) l4) (h : scullerlaw13_Gram_c.f a0 a1 a2 a3 l4 a5 = some (r1, r2, r3, r4, r5, r6, r7)) :
 Calls Try.prog 9 #[.int .u64 a0, .int .u32 a1, .int .u16 a2, .int .u16 a3, .slice A4 l4.length c4, .int .u8 a5] w fun e w' => ∃ v5_ v6_ : Value, e = .returned (.agg #[.int .i64 r1, .int .u64 r2, .int .i64 r3, .int .i64 r4, .int .u32 r5, v5_, v6_]) ∧ Kd.R (Kd.int .i64) 3 w' w.heap.size (fun k_ => (w.heap.size ≤ k_)) v5_ r6 ∧ Kd.R (Kd.int .u8) 5 w' w.heap.size (fun k_ => (w.heap.size ≤ k_)) v6_ r7 ∧ Below w.heap.size w w' := by
 obtain ⟨k_, hk_⟩ := scullerlaw13_Gram_c.to h
 exact scullerlaw13_Gram.calls k_ a0 a1 a2 a3 P4_ A4 c4 l4 a5 r1 r2 r3 r4 r5 r6 r7 w hs4 hk_

end Go.Proofs.Ytoooceaoggkeeaa.F
end

section
/- slices.Backward over bytes: the closure's contract for whatever loop body keeps the slice's box and its bytes. -/
namespace Go.Proofs.Ytoooceaoggkeeaa.H
open Go.RowKit Go.Shelf
open Go.Proofs.YtoooceaoggkeeaaW.PrintWords
attribute [local go_sem] Oper.semAt_some

/-- What comes: from the last to the first, with its place. -/
def back (xs : List Int) (k : Nat) : List (Int × Int) := (List.range k).map fun (j : Nat) => ((xs.length : Int) - 1 - j, rd xs ((xs.length : Int) - 1 - j))
theorem back_succ (xs : List Int) (k : Nat) : back xs (k + 1) = back xs k ++ [((xs.length : Int) - 1 - k, rd xs ((xs.length : Int) - 1 - k))] := by simp [back, List.range_succ]
theorem back_length (xs : List Int) (k : Nat) : (back xs k).length = k := by simp [back]

theorem backward_in (a : Option Addr) (len cap : Nat) (w : World) :
 CallsIn Fence.wide 9 Try.prog 40 #[.slice a len cap] w fun e w' => e = .returned (.func (.func 49) #[] #[.pointer (some ⟨w.heap.size, 0, none⟩)]) ∧ w' = w.alloc (.cells #[.slice a len cap] 25) := by
 refine callsIn_of_wp Try.func40 rfl trivial ?_ rfl
 simp only [Try.ntmps40, List.size_toArray, List.length_cons, List.length_nil, Nat.reduceAdd, Nat.reduceSub, Array.replicate_succ, Array.replicate_zero, List.push_toArray, List.append_toArray, List.nil_append, List.cons_append]
 gi_wp2
 go_ret
 exact ⟨rfl, rfl⟩

set_option maxRecDepth 100000 in
set_option maxHeartbeats 2000000 in
theorem backward1_in (l Bs n₀ : Nat) (S : Nat → Prop) (A : Option Addr) (cap : Nat) (xs : List Int) (hx : xs.length ≤ 1000000) (J Jx : List (Int × Int) → World → Prop)
 (hY : ∀ pre x W, J pre W → pre.length < xs.length → YieldAt Fence.wide 8 Try.prog l #[.int .i64 x.1, .int .u8 x.2] W fun e W' =>
   (e = .returned (.bool true) ∧ J (pre ++ [x]) W' ∧ Kset n₀ S W W') ∨ (e = .returned (.bool false) ∧ Jx (pre ++ [x]) W'))
 (W : World) (hBs : W.cell? ⟨Bs, 0, none⟩ = some (.slice A xs.length cap)) (hC : ∀ W', Kset n₀ S W W' → (Kd.int .u8).C W' A xs.length xs) (hBn : Bs < n₀) (hBS : ¬ S Bs) (h0 : J [] W) :
 CallsIn Fence.wide 9 Try.prog 49 #[.func (.yield l) #[] #[], .pointer (some ⟨Bs, 0, none⟩)] W fun e W' => (∃ v, e = .returned v) ∧
  ((∃ ys, ys = back xs xs.length ∧ J ys W') ∨ (∃ pre, (∃ k, k ≤ xs.length ∧ pre = back xs k) ∧ Jx pre W')) := by
 refine callsIn_of_wp Try.func49 rfl trivial ?_ rfl
 simp only [Try.ntmps49, List.size_toArray, List.length_cons, List.length_nil, Nat.reduceAdd, Nat.reduceSub, Array.replicate_succ, Array.replicate_zero, List.push_toArray, List.append_toArray, List.nil_append, List.cons_append]
 gi_wp2
 gi_loopw [3] (fun i wr => ∃ k : Nat, k ≤ xs.length ∧ i = .int .i64 ((xs.length : Int) - 1 - k) ∧ J (back xs k) wr ∧ Kset n₀ S W wr)
  (fun i _ => (intOf i + 1).toNat)
 case atStart => exact ⟨0, Nat.zero_le _, by simp, h0, Kset.refl _ _ _⟩
 case round =>
  obtain ⟨k, hk, rfl, hJs, hnx⟩ := hrel
  have hBs' : wr.cell? ⟨Bs, 0, none⟩ = some (.slice A xs.length cap) := (hnx.cell (p := ⟨Bs, 0, none⟩) hBn hBS).trans hBs
  by_cases hlt : k < xs.length
  · obtain ⟨ad, hA, hcx⟩ := ReadsInt.at_ (Kd.reads_of_C (d := (0 : Int)) (hC wr hnx)) ((xs.length : Int) - 1 - k) (by omega) (by omega)
    obtain ⟨fn, tmps, assign, body, hy, hR⟩ := hY _ ((xs.length : Int) - 1 - k, rd xs ((xs.length : Int) - 1 - k)) wr hJs (by rw [back_length]; exact hlt)
    dsimp only at hy
    rw [← back_succ] at hR
    subst hA
    obtain ⟨i, hi⟩ : ∃ i : Int, (xs.length : Int) - 1 - k = i := ⟨_, rfl⟩
    rw [hi] at hy hcx ⊢
    have hi0 : 0 ≤ i := by omega
    have hi1 : i < (xs.length : Int) := by omega
    have hi2 : i ≤ 1000000 := by omega
    have HI : Hid _ := hi
    clear hi
    gi_wp2
    refine hR.mono ?_
    rintro e W3 (⟨rfl, hJ3, hk3⟩ | ⟨rfl, hJx3⟩)
    · gi_wp2
      go_roundw
      case rel => exact ⟨k + 1, by omega, by rw [← HI.out]; congr 1; omega, hJ3, hnx.trans hk3⟩
      case measure => simp [intOf]; omega
    · gi_wp2
      refine bodyPost_ret (results_none rfl _ _ _) rfl ?_
      exact ⟨⟨_, rfl⟩, .inr ⟨_, ⟨k + 1, by omega, rfl⟩, hJx3⟩⟩
  · obtain rfl : k = xs.length := by omega
    have hneg : ((xs.length : Int) - 1 - (xs.length : Int)) = -1 := by omega
    rw [hneg]
    clear hneg
    gi_wp2
    go_end0
    exact ⟨⟨_, rfl⟩, .inl ⟨_, rfl, hJs⟩⟩

end Go.Proofs.Ytoooceaoggkeeaa.H
end

section
namespace Go.Proofs.Ytoooceaoggkeeaa.F
open Go.RowKit Go.Proofs.YtoooceaoggkeeaaW.PrintWords Go.Proofs.YtoooceaoggkeeaaW.PrintLast Go.Proofs.YtoooceaoggkeeaaW.PrintMore
attribute [local go_sem] max2_int min2_int max_two min_two max_three min_three max_four min_four   -- for this text's walks alone
set_option linter.unusedVariables false
set_option linter.unusedSimpArgs false

open Go.Shelf Go.Proofs.Ytoooceaoggkeeaa.H
attribute [local go_sem] Oper.semAt_some
/-! ### word_Get: given -/
def word_Get.f (l0 : List Int) : Option Int := if bytesB (l0.take 8) = true then some (getL (l0.take 8)) else none
def stepB (n c : Int) : Int := Go.bits .or .u64 (IntKind.u64.wrap (n * 256)) (IntKind.u64.wrap c)
theorem stepB_byte (n c : Int) (h0 : 0 ≤ n) (h1 : n < 72057594037927936) (h2 : 0 ≤ c) (h3 : c ≤ 255) : stepB n c = c + 256 * n := by
 have hk : ∀ z : Int, 0 ≤ z → z < 2 ^ 64 → IntKind.u64.wrap z = z := by
  intro z hz hz2
  simp [IntKind.wrap, IntKind.signed, IntKind.bits]
  omega
 unfold stepB
 rw [hk _ (by omega) (by omega), hk c (by omega) (by omega), bits_join .u64 64 (by decide) hk 8 (n * 256) c (by omega) (by omega) (by omega) h2 (by omega) (by omega)]
 omega
def foldB (pre : List (Int × Int)) : Int := pre.foldl (fun n x => stepB n x.2) 0
theorem foldB_snoc (pre : List (Int × Int)) (x : Int × Int) : foldB (pre ++ [x]) = stepB (foldB pre) x.2 := by simp [foldB]
theorem foldB_back {xs : List Int} (h8 : xs.length ≤ 8) (hc : ∀ c ∈ xs, 0 ≤ c ∧ c ≤ 255) : ∀ k, k ≤ xs.length → foldB (back xs k) = getL (xs.drop (xs.length - k))
 | 0, _ => by simp [foldB, back, getL]
 | k + 1, hk => by
   rw [back_succ, foldB_snoc, foldB_back h8 hc k (by omega)]
   have hlt : xs.length - (k + 1) < xs.length := by omega
   have hd : xs.drop (xs.length - (k + 1)) = xs[xs.length - (k + 1)] :: xs.drop (xs.length - k) := by
    rw [List.drop_eq_getElem_cons hlt]; congr 2; omega
   have hr : rd xs ((xs.length : Int) - 1 - k) = xs[xs.length - (k + 1)] := by
    have e : ((xs.length : Int) - 1 - k).toNat = xs.length - (k + 1) := by omega
    simp [rd, e, List.getD_eq_getElem?_getD, List.getElem?_eq_getElem hlt]
   rw [hd, hr]
   have hb := getL_bound 7 (xs.drop (xs.length - k)) (by simp; omega) (fun c h => hc c (List.mem_of_mem_drop h))
   have hx := hc _ (List.getElem_mem hlt)
   exact stepB_byte _ _ hb.1 (by omega) hx.1 hx.2
set_option maxHeartbeats 1000000 in
set_option maxRecDepth 100000 in
theorem word_Get.calls (A0 : Option Addr) (c0 : Nat) (l0 : List Int) (r : Int) (w : World) (hr0 : Kd.C (Kd.int .u8) w A0 l0.length l0) (hc0 : l0.length ≤ c0) (h : word_Get.f l0 = some r) :
 Calls Try.prog 24 #[.slice A0 l0.length c0] w fun e w' => e = .returned (.int .u64 r) ∧ Below w.heap.size w w' := by
 unfold word_Get.f at h
 split at h
 case isFalse => cases h
 case isTrue hb =>
 obtain rfl := Option.some.inj h
 clear h
 refine (callsIn_wide (n := 10)).1 ?_
 obtain ⟨xs, hxs⟩ : ∃ xs, l0.take 8 = xs := ⟨_, rfl⟩
 have hxl : xs.length = min 8 l0.length := by rw [← hxs, List.length_take]
 have hx8 : xs.length ≤ 8 := by omega
 have hC : (Kd.int .u8).C w A0 xs.length xs := by
  have := (ReadsInt.take_ (Kd.reads_of_C (d := (0 : Int)) hr0) (min 8 l0.length) (by omega))
  rw [← hxl] at this
  have e : l0.take xs.length = xs := by rw [hxl, ← hxs]; simp [List.take_eq_take_iff]
  rw [e] at this
  exact Kd.C_of_reads (d := (0 : Int)) this
 have hmn : (if (8 : Int) < (l0.length : Int) then 8 else (l0.length : Int)) = (xs.length : Int) := by split <;> omega
 have hle : xs.length ≤ l0.length := by omega
 rw [hxs] at hb ⊢
 have hcb := bytesB_at hb
 clear hb hxs hxl hr0
 refine callsIn_of_wp_marks Try.func24 rfl trivial ?_ rfl
 simp only [Try.ntmps24, List.size_toArray, List.length_cons, List.length_nil, Nat.reduceAdd, Nat.reduceSub, Array.replicate_succ, Array.replicate_zero, List.push_toArray, List.append_toArray, List.nil_append, List.cons_append]
 gi_wp2_with (refine ⟨trivial, ?_⟩; gi_at_call 40; refine (backward_in _ _ _ _).mono ?_; rintro e w' ⟨rfl, rfl⟩)
 have bN := Boxed.new w 22 (.int .u64 0)
 have bS := Boxed.new (w.alloc (.cells #[.int .u64 0] 22)) 25 (.slice A0 xs.length c0)
 rw [World.size_alloc] at bS
 have hB0 : Below w.heap.size w ((w.alloc (.cells #[.int .u64 0] 22)).alloc (.cells #[.slice A0 xs.length c0] 25)) := ((Below.refl _ w).alloc (Nat.le_refl _) _).alloc (by simp) _
 refine wpIn_rangeFunc_ownG (F := Fence.wide) (n := 10) rfl (by omega) (gf := 49) (lb := #[.pointer (some ⟨w.heap.size + 1, 0, none⟩)]) rfl trivial (enters_of Try.func49 (by kernel_rfl) rfl)
  (encs := fun x : Int × Int => #[.int .i64 x.1, .int .u8 x.2]) (Kp := Kset (w.heap.size + 2) (fun k => k = w.heap.size)) (S := fun ys => ys = back xs xs.length) (Sp := fun _ => True) (N := xs.length)
  (w0 := (w.alloc (.cells #[.int .u64 0] 22)).alloc (.cells #[.slice A0 xs.length c0] 25)) ?seq ksetK_t (ksetK_b (by simp)) (Below.refl _ _) (fun _ => rfl)
  (fun pre W => Boxed W w.heap.size 22 (.int .u64 (foldB pre)) ∧ Kset (w.heap.size + 2) (fun k => k = w.heap.size) ((w.alloc (.cells #[.int .u64 0] 22)).alloc (.cells #[.slice A0 xs.length c0] 25)) W)
  (fun _ _ _ => False) ?own (fun _ _ _ _ _ hs _ _ => hs) ?start
  (fun x => { tmps := #[.slice A0 l0.length c0, undef, .int .u64 0, .pointer (some ⟨w.heap.size, 0, none⟩), undef, .int .u8 x.2, .slice A0 l0.length c0, .slice A0 l0.length c0, .int .i64 l0.length, .int .i64 xs.length, .slice A0 xs.length c0, .func (.func 49) #[] #[.pointer (some ⟨w.heap.size + 1, 0, none⟩)], .int .i64 x.1, .int .u8 x.2, undef, undef, undef, undef, undef, undef], defers := [] }) ?assign ?body ?done ?stop
 case seq =>
  intro l J Jx W hW hJ hJx hY h0
  refine (backward1_in l (w.heap.size + 1) (w.heap.size + 2) (fun k => k = w.heap.size) A0 c0 xs (by omega) J Jx hY W ((hW.cell (p := ⟨w.heap.size + 1, 0, none⟩) (by simp)).trans bS.cell) (fun W' hk => C_kset hC (hB0.trans (hW.mono (by simp; omega))) hk (by omega) (fun k e => by omega)) (by omega) (by omega) h0).mono ?_
  rintro e W' ⟨he, ⟨ys, rfl, hj⟩ | ⟨pre, _, hj⟩⟩
  · exact ⟨he, .inl ⟨_, rfl, hj⟩⟩
  · exact ⟨he, .inr ⟨_, trivial, hj⟩⟩
 case own => exact OwnFrom.and (Own.from (boxed_own _ _ _) _) (ownFrom_kset (by simp) (by simp))
 case start => exact ⟨by simpa [foldB] using bN.alloc _, Kset.refl _ _ _⟩
 case assign =>
  intro l x W K hK
  gi_wp2
  exact hK
 case body =>
  rintro l pre x W ⟨hb, hk⟩ hlen
  have hc := hb.cell
  have hf := hb.frozen
  gi_wp2
  exact ⟨(KeepsOthers.setCell _ _ _).from _, Kset.setCell (B := w.heap.size + 2) (S := fun k => k = w.heap.size) (Kset.refl _ _ _) (p := ⟨w.heap.size, 0, none⟩) (.inl rfl) _, by rw [foldB_snoc]; exact hb.set _, hk.setCell (p := ⟨w.heap.size, 0, none⟩) (.inl rfl) _⟩
 case done =>
  rintro D ys W hD rfl ⟨hb, hk⟩ hK
  have hc := hb.cell
  gi_wp2
  refine ⟨by simp, .inl ⟨_, _, rfl, run_takeDeferred hK, ?_⟩⟩
  refine ⟨_, results_tmp rfl _ _ _, ?_, ?_⟩
  · rw [foldB_back hx8 hcb _ (Nat.le_refl _)]; simp
  · exact (hB0.trans (hk.below (by omega) (fun k e => by omega))).trans (belowK_b (w := w) (Nat.le_refl _) W D _ _ (by simp at hD; omega) hK rfl rfl)
 case stop =>
  rintro D c pre W _ _ h _
  exact h.elim

end Go.Proofs.Ytoooceaoggkeeaa.F
end

section
/- slices.Chunk over bytes: the closure's contract for whatever loop body keeps the slice's box. -/
namespace Go.Proofs.Ytoooceaoggkeeaa.H
open Go.RowKit Go.Shelf
open Go.Proofs.YtoooceaoggkeeaaW.PrintWords
set_option linter.unusedVariables false
set_option linter.unusedSimpArgs false
attribute [local go_sem] Oper.semAt_some
/-- How many pieces of m there are of L, and which the k-th is. -/
def chunkN (m L : Nat) : Nat := (L + m - 1) / m
theorem chunkN_lt {m L k : Nat} (hm : 1 ≤ m) : k < chunkN m L ↔ m * k < L := by
 unfold chunkN
 rw [Nat.lt_div_iff_mul_lt (by omega)]
 have : k * m = m * k := Nat.mul_comm _ _
 omega
def chunkE (m L k : Nat) : Nat := min m (L - m * k)
def chunkV (ad : Addr) (m L k : Nat) : Value := .slice (some (ad.add (m * k))) (chunkE m L k) (chunkE m L k)

theorem chunkB_in (a : Option Addr) (len cap : Nat) (m : Nat) (hm : 1 ≤ m) (w : World) :
 CallsIn Fence.wide 9 Try.prog 26 #[.slice a len cap, .int .i64 m] w fun e w' => e = .returned (.func (.func 41) #[] #[.pointer (some ⟨w.heap.size, 0, none⟩), .pointer (some ⟨w.heap.size + 1, 0, none⟩)]) ∧ w' = (w.alloc (.cells #[.slice a len cap] 25)).alloc (.cells #[.int .i64 m] 3) := by
 have hm1 : ¬ ((m : Int) < 1) := by omega
 refine callsIn_of_wp Try.func26 rfl trivial ?_ rfl
 simp only [Try.ntmps26, List.size_toArray, List.length_cons, List.length_nil, Nat.reduceAdd, Nat.reduceSub, Array.replicate_succ, Array.replicate_zero, List.push_toArray, List.append_toArray, List.nil_append, List.cons_append]
 have hb := (Boxed.new (w.alloc (.cells #[.slice a len cap] 25)) 3 (.int .i64 m)).cell
 rw [World.size_alloc] at hb
 gi_wp2
 go_ret
 exact ⟨rfl, rfl⟩

set_option maxRecDepth 100000 in
set_option maxHeartbeats 2000000 in
theorem chunkB1_in (l Bs Bn n₀ : Nat) (S : Nat → Prop) (A : Option Addr) (ad : Addr) (cap L m : Nat) (hA : 0 < L → A = some ad) (hm : 1 ≤ m) (hm2 : m ≤ 1000) (hx : L ≤ 1000000) (hcap : L ≤ cap) (J Jx : List Nat → World → Prop) (hJd : ∀ ys W n, J ys W → J ys (W.drewN n))
 (hY : ∀ pre k W, J pre W → pre.length < chunkN m L → YieldAt Fence.wide 8 Try.prog l #[chunkV ad m L k] W fun e W' =>
   (e = .returned (.bool true) ∧ J (pre ++ [k]) W' ∧ Kset n₀ S W W') ∨ (e = .returned (.bool false) ∧ Jx (pre ++ [k]) W'))
 (W : World) (hBs : W.cell? ⟨Bs, 0, none⟩ = some (.slice A L cap)) (hBnc : W.cell? ⟨Bn, 0, none⟩ = some (.int .i64 m)) (hBsn : Bs < n₀) (hBsS : ¬ S Bs) (hBnn : Bn < n₀) (hBnS : ¬ S Bn) (h0 : J [] W) :
 CallsIn Fence.wide 9 Try.prog 41 #[.func (.yield l) #[] #[], .pointer (some ⟨Bs, 0, none⟩), .pointer (some ⟨Bn, 0, none⟩)] W fun e W' => (∃ v, e = .returned v) ∧
  ((∃ ys, ys = List.range (chunkN m L) ∧ J ys W') ∨ (∃ pre, (∃ k, k ≤ chunkN m L ∧ pre = List.range k) ∧ Jx pre W')) := by
 refine callsIn_of_wp Try.func41 rfl trivial ?_ rfl
 simp only [Try.ntmps41, List.size_toArray, List.length_cons, List.length_nil, Nat.reduceAdd, Nat.reduceSub, Array.replicate_succ, Array.replicate_zero, List.push_toArray, List.append_toArray, List.nil_append, List.cons_append]
 gi_wp2
 gi_loopw [4] (fun v wr => ∃ k i : Nat, k ≤ chunkN m L ∧ i = m * k ∧ v = .int .i64 i ∧ J (List.range k) wr ∧ Kset n₀ S W wr)
  (fun v _ => L + m - (intOf v).toNat)
 case atStart => exact ⟨0, 0, Nat.zero_le _, rfl, rfl, h0, Kset.refl _ _ _⟩
 case round =>
  obtain ⟨k, i, hk, hi, rfl, hJs, hnx⟩ := hrel
  have hBs' : wr.cell? ⟨Bs, 0, none⟩ = some (.slice A L cap) := (hnx.cell (p := ⟨Bs, 0, none⟩) hBsn hBsS).trans hBs
  have hBn' : wr.cell? ⟨Bn, 0, none⟩ = some (.int .i64 m) := (hnx.cell (p := ⟨Bn, 0, none⟩) hBnn hBnS).trans hBnc
  by_cases hlt : i < L
  · have hkc : k < chunkN m L := (chunkN_lt hm).2 (by omega)
    obtain rfl := hA (by omega)
    have hik : i = m * k := hi
    obtain ⟨e, he⟩ : ∃ e, chunkE m L k = e := ⟨_, rfl⟩
    have he2 : e = min m (L - i) := by rw [hik, ← he]; rfl
    have he1 : 1 ≤ e := by omega
    have he3 : i + e ≤ L := by omega
    have hmn : (if L - i < m then ((L - i : Nat) : Int) else (m : Int)) = (e : Int) := by split <;> omega
    have hmn2 : min (m : Int) ((L - i : Nat) : Int) = (e : Int) := by omega
    have hsucc : i + m = m * (k + 1) := by rw [Nat.mul_succ]; omega
    have hV : chunkV ad m L k = .slice (some (ad.add i)) e e := by rw [chunkV, ← hik, he]
    have hiL : i ≤ L := by omega
    have hci : ¬ (cap = i) := by omega
    have HS : Hid _ := hsucc
    have HKC : Hid _ := hkc
    have HV : Hid _ := hV
    clear hi hik he he2 hsucc hkc hV
    gi_wp2
    refine wpIn_region_quiet_lit rfl (by kernel_rfl) (by kernel_rfl) ?_
    repeat (quiet_step_in (fail))
    refine wpQuietIn_nil ?_
    rintro _ ⟨nq, rfl⟩

    have hBs2 : (wr.drewN nq).cell? ⟨Bs, 0, none⟩ = some (.slice (some ad) L cap) := hBs'
    have hBn2 : (wr.drewN nq).cell? ⟨Bn, 0, none⟩ = some (.int .i64 m) := hBn'
    have hnx2 : Kset n₀ S W (wr.drewN nq) := hnx.trans ⟨rfl, rfl, rfl, Nat.le_refl _, fun _ _ _ => rfl⟩
    obtain ⟨fn, tmps, assign, body, hy, hR⟩ := hY (List.range k) k (wr.drewN nq) (hJd _ _ _ hJs) (by rw [List.length_range]; exact HKC.out)
    obtain ⟨w2, hw2⟩ : ∃ w2, wr.drewN nq = w2 := ⟨_, rfl⟩
    rw [HV.out] at hy
    rw [hw2] at hBs2 hBn2 hnx2 hy hR ⊢
    rw [← List.range_succ] at hR
    obtain ⟨x, hx⟩ : ∃ x, i + e = x := ⟨_, rfl⟩
    have hs1 : ((i : Int) + e) = (x : Int) := by omega
    have hie : i ≤ x := by omega
    have hec : x ≤ cap := by omega
    have hei : ¬ (x = i) := by omega
    have hes : x - i = e := by omega
    clear hx
    clear hBs' hBn' hw2 hmn hmn2 hci
    gi_wp2
    refine hR.mono ?_
    rintro e3 W3 (⟨rfl, hJ3, hk3⟩ | ⟨rfl, hJx3⟩)
    · have hBn3 : W3.cell? ⟨Bn, 0, none⟩ = some (.int .i64 m) := (hk3.cell (p := ⟨Bn, 0, none⟩) hBnn hBnS).trans hBn2
      obtain ⟨y, hy2⟩ : ∃ y, i + m = y := ⟨_, rfl⟩
      have hy3 : (i : Int) + m = (y : Int) := by omega
      have hy4 : y ≤ 1001000 := by omega
      have HY : Hid _ := hy2
      clear hy2
      gi_wp2
      go_roundw
      case rel => exact ⟨k + 1, y, HKC.out, by rw [← HY.out]; exact HS.out, rfl, hJ3, hnx2.trans hk3⟩
      case measure => have := HY.out; simp [intOf]; omega
    · gi_wp2
      refine bodyPost_ret (results_none rfl _ _ _) rfl ?_
      exact ⟨⟨_, rfl⟩, .inr ⟨_, ⟨k + 1, HKC.out, rfl⟩, hJx3⟩⟩
  · obtain rfl : k = chunkN m L := by
     have := mt (chunkN_lt (L := L) (k := k) hm).1 (by omega)
     omega
    clear hi
    gi_wp2
    go_end0
    exact ⟨⟨_, rfl⟩, .inl ⟨_, rfl, hJs⟩⟩
end Go.Proofs.Ytoooceaoggkeeaa.H
end
