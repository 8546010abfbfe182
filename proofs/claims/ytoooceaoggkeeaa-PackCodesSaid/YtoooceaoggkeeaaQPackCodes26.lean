/- Proved: at every input in bounds the statement PackCodes of the pack layer answers yes: Encode, Parse and Same of any datagram and bytes, and of choices, are what the chapter says.
Text 26 of 30; functions told as plain ones, with the contracts of their calls. -/
import Derived.Test.YtoooceaoggkeeaaQPackCodes22
import Derived.Test.YtoooceaoggkeeaaQPackCodes23
import Derived.Test.YtoooceaoggkeeaaQPackCodes24
section
namespace Go.Proofs.Ytoooceaoggkeeaa.F
open Go.RowKit Go.Proofs.YtoooceaoggkeeaaW.PrintWords Go.Proofs.YtoooceaoggkeeaaW.PrintLast Go.Proofs.YtoooceaoggkeeaaW.PrintMore
attribute [local go_sem] max2_int min2_int max_two min_two max_three min_three max_four min_four   -- for this text's walks alone
set_option linter.unusedVariables false
set_option linter.unusedSimpArgs false

/-! ### scullerlaw13_Gram: function 9 -/
mutual
def scullerlaw13_Gram.j1 : Nat → List Int → Int → Int → Int → Int → Int → Int → List Int → Option (Int × Int × Int × Int × Int × List Int × List Int)
 | 0, _, _, _, _, _, _, _, _ => none
 | k + 1, x4, x5, x103000, x103001, x103002, x103003, x103004, x103005 => if x103000 ≥ 2 then (scullerlaw13_Gram.j2 k x4 x5 (decide (x103000 ≤ 4)) x103000 x103001 x103002 x103003 x103004 x103005) else (scullerlaw13_Gram.j2 k x4 x5 false x103000 x103001 x103002 x103003 x103004 x103005)
def scullerlaw13_Gram.j2 : Nat → List Int → Int → Bool → Int → Int → Int → Int → Int → List Int → Option (Int × Int × Int × Int × Int × List Int × List Int)
 | 0, _, _, _, _, _, _, _, _, _ => none
 | k + 1, x4, x5, x66, x103000, x103001, x103002, x103003, x103004, x103005 => if x66 = true then (if 0 ≤ (mn (x4.length : Int) 64) then (if (mn (x4.length : Int) 64) ≤ (x4.length : Int) then ((some (x4.take ((mn (x4.length : Int) 64) : Int).toNat : List Int)).bind fun y108 => (if ([] : List Int).length + y108.length < 140737488355328 then ((some (([] : List Int) ++ y108 : List Int)).bind fun y113 => (if x5 > 230 then (some (wrap64 (x5), x103001, (-1), x103003, x103004, x103005, y113)) else (some (x103000, x103001, x103002, x103003, x103004, x103005, y113)))) else (none))) else (none)) else (none)) else (if x5 > 230 then (some (wrap64 (x5), x103001, (-1), x103003, x103004, x103005, ([] : List Int))) else (some (x103000, x103001, x103002, x103003, x103004, x103005, ([] : List Int))))
def scullerlaw13_Gram.l0 : Nat → List Int → Int → Int → Int → Int → Int → Int → Int → List Int → Option (Int × Int × Int × Int × Int × List Int × List Int)
 | 0, _, _, _, _, _, _, _, _, _ => none
 | k + 1, x4, x5, x14, x103000, x103001, x103002, x103003, x103004, x103005 => if (wrap64 (x14 + 1)) < (x4.length : Int) then (if x14 < 8 then (if 0 ≤ x14 then (if x14 < (x4.length : Int) then (if 0 ≤ (wrap64 (x14 + 1)) then (if x103005.length < 17592186044416 then (scullerlaw13_Gram.l0 k x4 x5 (wrap64 (x14 + 2)) x103000 x103001 x103002 x103003 x103004 (x103005 ++ [Int.tmod (wrap64 ((wrap64 ((wrap64 (rd x4 x14)) * 256)) + (wrap64 (rd x4 (wrap64 (x14 + 1)))))) 4097])) else (none)) else (none)) else (none)) else (none)) else (scullerlaw13_Gram.j1 k x4 x5 x103000 x103001 x103002 x103003 x103004 x103005)) else (scullerlaw13_Gram.j1 k x4 x5 x103000 x103001 x103002 x103003 x103004 x103005)
end
def scullerlaw13_Gram.f (k : Nat) (a0 : Int) (a1 : Int) (a2 : Int) (a3 : Int) (l4 : List Int) (a5 : Int) : Option (Int × Int × Int × Int × Int × List Int × List Int) := if (wrap64 (1 + (wrap64 (Int.tmod a5 8)))) = 1 then (scullerlaw13_Gram.l0 k l4 a5 0 (wrap64 (1 + (wrap64 (Int.tmod a5 8)))) a0 (wrap64 (a2)) (wrap64 (a3)) a1 ([] : List Int)) else (scullerlaw13_Gram.j1 k l4 a5 (wrap64 (1 + (wrap64 (Int.tmod a5 8)))) a0 (wrap64 (a2)) (wrap64 (a3)) a1 ([] : List Int))
theorem scullerlaw13_Gram.mono_l : ∀ k, (∀ y0 y1 y2 y3 y4 y5 y6 y7, LeO (scullerlaw13_Gram.j1 k y0 y1 y2 y3 y4 y5 y6 y7) (scullerlaw13_Gram.j1 (k + 1) y0 y1 y2 y3 y4 y5 y6 y7)) ∧ (∀ y0 y1 y2 y3 y4 y5 y6 y7 y8, LeO (scullerlaw13_Gram.j2 k y0 y1 y2 y3 y4 y5 y6 y7 y8) (scullerlaw13_Gram.j2 (k + 1) y0 y1 y2 y3 y4 y5 y6 y7 y8)) ∧ (∀ y0 y1 y2 y3 y4 y5 y6 y7 y8, LeO (scullerlaw13_Gram.l0 k y0 y1 y2 y3 y4 y5 y6 y7 y8) (scullerlaw13_Gram.l0 (k + 1) y0 y1 y2 y3 y4 y5 y6 y7 y8))
 | 0 => ⟨fun _ _ _ _ _ _ _ _ r h => by simp [scullerlaw13_Gram.j1] at h, fun _ _ _ _ _ _ _ _ _ r h => by simp [scullerlaw13_Gram.j2] at h, fun _ _ _ _ _ _ _ _ _ r h => by simp [scullerlaw13_Gram.l0] at h⟩
 | k + 1 => by
   obtain ⟨ih0, ih1, ih2⟩ := scullerlaw13_Gram.mono_l k
   refine ⟨?_, ?_, ?_⟩
   · intro y0 y1 y2 y3 y4 y5 y6 y7
     unfold scullerlaw13_Gram.j1
     repeat' first
     | (with_reducible exact ih0 _ _ _ _ _ _ _ _)
     | (with_reducible exact ih1 _ _ _ _ _ _ _ _ _)
     | (with_reducible exact ih2 _ _ _ _ _ _ _ _ _)
     | (with_reducible exact LeO.refl _)
     | (with_reducible exact LeO.none _)
     | (with_reducible refine LeO.ite ?_ ?_)
     | (with_reducible refine LeO.bind ?_ (fun _ => ?_))
     | exact ih0 _ _ _ _ _ _ _ _
     | exact ih1 _ _ _ _ _ _ _ _ _
     | exact ih2 _ _ _ _ _ _ _ _ _
     | exact LeO.none _
     | refine LeO.ite ?_ ?_
     | refine LeO.bind ?_ (fun _ => ?_)
   · intro y0 y1 y2 y3 y4 y5 y6 y7 y8
     unfold scullerlaw13_Gram.j2
     repeat' first
     | (with_reducible exact ih0 _ _ _ _ _ _ _ _)
     | (with_reducible exact ih1 _ _ _ _ _ _ _ _ _)
     | (with_reducible exact ih2 _ _ _ _ _ _ _ _ _)
     | (with_reducible exact LeO.refl _)
     | (with_reducible exact LeO.none _)
     | (with_reducible refine LeO.ite ?_ ?_)
     | (with_reducible refine LeO.bind ?_ (fun _ => ?_))
     | exact ih0 _ _ _ _ _ _ _ _
     | exact ih1 _ _ _ _ _ _ _ _ _
     | exact ih2 _ _ _ _ _ _ _ _ _
     | exact LeO.none _
     | refine LeO.ite ?_ ?_
     | refine LeO.bind ?_ (fun _ => ?_)
   · intro y0 y1 y2 y3 y4 y5 y6 y7 y8
     unfold scullerlaw13_Gram.l0
     repeat' first
     | (with_reducible exact ih0 _ _ _ _ _ _ _ _)
     | (with_reducible exact ih1 _ _ _ _ _ _ _ _ _)
     | (with_reducible exact ih2 _ _ _ _ _ _ _ _ _)
     | (with_reducible exact LeO.refl _)
     | (with_reducible exact LeO.none _)
     | (with_reducible refine LeO.ite ?_ ?_)
     | (with_reducible refine LeO.bind ?_ (fun _ => ?_))
     | exact ih0 _ _ _ _ _ _ _ _
     | exact ih1 _ _ _ _ _ _ _ _ _
     | exact ih2 _ _ _ _ _ _ _ _ _
     | exact LeO.none _
     | refine LeO.ite ?_ ?_
     | refine LeO.bind ?_ (fun _ => ?_)
theorem scullerlaw13_Gram.mono : ∀ a0 a1 a2 a3 a4 a5 k, LeO (scullerlaw13_Gram.f k a0 a1 a2 a3 a4 a5) (scullerlaw13_Gram.f (k + 1) a0 a1 a2 a3 a4 a5) := by
 intro a0 a1 a2 a3 a4 a5 k
 obtain ⟨ih0, ih1, ih2⟩ := scullerlaw13_Gram.mono_l k
 unfold scullerlaw13_Gram.f
 repeat' first
  | (with_reducible exact ih0 _ _ _ _ _ _ _ _)
  | (with_reducible exact ih1 _ _ _ _ _ _ _ _ _)
  | (with_reducible exact ih2 _ _ _ _ _ _ _ _ _)
  | (with_reducible exact LeO.refl _)
  | (with_reducible exact LeO.none _)
  | (with_reducible refine LeO.ite ?_ ?_)
  | (with_reducible refine LeO.bind ?_ (fun _ => ?_))
  | exact ih0 _ _ _ _ _ _ _ _
  | exact ih1 _ _ _ _ _ _ _ _ _
  | exact ih2 _ _ _ _ _ _ _ _ _
  | exact LeO.none _
  | refine LeO.ite ?_ ?_
  | refine LeO.bind ?_ (fun _ => ?_)
def scullerlaw13_Gram.T6 : Bool × List (List Nat × List Nat) := (true, [([], []), ([0], [0]), ([], []), ([], []), ([2, 3], [2, 3]), ([4], [4]), ([5], [5]), ([6], [6]), ([], []), ([], []), ([9], [9]), ([8, 10], [8, 10]), ([11], [11]), ([12], [12]), ([7, 13], [7, 13]), ([14], [14]), ([15], [15]), ([1, 16], [1, 16]), ([0, 1, 2, 3, 4, 5, 6, 7, 8, 9, 10, 11, 12, 13, 14, 15, 16, 17], []), ([18, 17, 17, 0, 1, 2, 3, 4, 5, 6, 7, 8, 9, 10, 11, 12, 13, 14, 15, 16, 17], [17, 18])])
def scullerlaw13_Gram.B6 : List Nat := [0, 1, 0, 0, 12, 28, 60, 124, 0, 0, 512, 1792, 3840, 7936, 16380, 32764, 65532, 131071, 262143, 524287]
theorem scullerlaw13_Gram.tab6 : rtab .any (opsOf Try.f9 6) = scullerlaw13_Gram.T6 := by kernel_rfl
theorem scullerlaw13_Gram.bits6 : waitsOk scullerlaw13_Gram.T6.2 scullerlaw13_Gram.B6 = true := by kernel_rfl
def scullerlaw13_Gram.T8 : Bool × List (List Nat × List Nat) := (true, [([], []), ([0], [0]), ([], []), ([], []), ([3], [3]), ([4], [4]), ([2, 5], [2, 5]), ([1, 6], [1, 6]), ([0, 1, 2, 3, 4, 5, 6, 7], []), ([8, 7, 7, 0, 1, 2, 3, 4, 5, 6, 7], [7, 8])])
def scullerlaw13_Gram.B8 : List Nat := [0, 1, 0, 0, 8, 24, 60, 127, 255, 511]
theorem scullerlaw13_Gram.tab8 : rtab .any (opsOf Try.f9 8) = scullerlaw13_Gram.T8 := by kernel_rfl
theorem scullerlaw13_Gram.bits8 : waitsOk scullerlaw13_Gram.T8.2 scullerlaw13_Gram.B8 = true := by kernel_rfl
set_option maxHeartbeats 8000000 in
set_option maxRecDepth 100000 in
theorem scullerlaw13_Gram.calls (k : Nat) (a0 : Int) (a1 : Int) (a2 : Int) (a3 : Int) (P4_ : Nat → Prop) (A4 : Option Addr) (c4 : Nat) (l4 : List Int) (a5 : Int) (r1 : Int) (r2 : Int) (r3 : Int) (r4 : Int) (r5 : Int) (r6 : List Int) (r7 : List Int) (w : World) (hs4 : Kd.V (Kd.int .u8) 5 w w.heap.size (fun k_ => P4_ k_) (.slice A4 l4.length c4) l4) (h : scullerlaw13_Gram.f k a0 a1 a2 a3 l4 a5 = some (r1, r2, r3, r4, r5, r6, r7)) :
 Calls Try.prog 9 #[.int .u64 a0, .int .u32 a1, .int .u16 a2, .int .u16 a3, .slice A4 l4.length c4, .int .u8 a5] w fun e w' => ∃ v5_ v6_ : Value, e = .returned (.agg #[.int .i64 r1, .int .u64 r2, .int .i64 r3, .int .i64 r4, .int .u32 r5, v5_, v6_]) ∧ Kd.R (Kd.int .i64) 3 w' w.heap.size (fun k_ => (w.heap.size ≤ k_)) v5_ r6 ∧ Kd.R (Kd.int .u8) 5 w' w.heap.size (fun k_ => (w.heap.size ≤ k_)) v6_ r7 ∧ Below w.heap.size w w' := by
 have hu28 := Try.underlying28
 have HO4 := Aside0.mk (show Kd.V (Kd.int .u8) 5 w w.heap.size (fun k_ => (P4_ k_ ∨ w.heap.size ≤ k_)) (.slice A4 l4.length c4) l4 from Kd.V_mono hs4 (fun k_ hk => .inl hk))
 have HB := Aside0.mk (Below.refl w.heap.size w)
 have H : (if (wrap64 (1 + (wrap64 (Int.tmod a5 8)))) = 1 then (scullerlaw13_Gram.l0 k l4 a5 0 (wrap64 (1 + (wrap64 (Int.tmod a5 8)))) a0 (wrap64 (a2)) (wrap64 (a3)) a1 ([] : List Int)) else (scullerlaw13_Gram.j1 k l4 a5 (wrap64 (1 + (wrap64 (Int.tmod a5 8)))) a0 (wrap64 (a2)) (wrap64 (a3)) a1 ([] : List Int))) = some (r1, r2, r3, r4, r5, r6, r7) := h
 clear h
 have HC7 := Aside0.mk H
 clear H
 go_enter Try.func9, Try.ntmps9
 go_upto_if 28 with (first | ((with_reducible refine gate_dst (N := 12) rfl ?_); refine box_event ?hg (N := 12) ?hd (cs := #[.int .i64 0, .int .u64 0, .int .i64 0, .int .i64 0, .int .u32 0, .slice none 0 0, .slice none 0 0]) (t := 28) ?hr ?_; (case hd => rfl); (case hg => rfl); (case hr => first | (go_simp; done) | (go_simp; rfl)); intro gb101 hg w8 hbox hb; have n0_ := Aside0.mk (Kd.V_below (Kd.V_elderB (by (with_reducible repeat (first | apply Kd.V_alloc | apply Kd.V_drewN | apply Kd.V_drew)); exact HO4.out) gb101 (Nat.le_of_eq hg.symm)) hb); have n1_ := Aside0.mk (below_step (by repeat (first | (with_reducible first | exact HB.out | apply below_alloc | apply pw_below_drewN | apply below_drew1) | exact HB.out)) hb); have n2_ := Aside0.mk (hbox); have n3_ := Aside0.mk ((by rw [hg]; exact (below_size (by repeat (first | (with_reducible first | exact HB.out | apply below_alloc | apply pw_below_drewN | apply below_drew1) | exact HB.out))) : w.heap.size ≤ gb101)); have n4_ := Aside0.mk ((by rw [hg]; exact (below_size (by repeat (first | (with_reducible first | exact HB.out | apply below_alloc | apply pw_below_drewN | apply below_drew1) | exact HB.out))) : w.heap.size ≤ gb101)); clear HO4; clear HB; have HO4 := n0_; have HB := n1_; have BK101 := n2_; have GW101 := n3_; have GE101 := n4_; clear n0_ n1_ n2_ n3_ n4_; clear hb hbox hg) | ((with_reducible refine gate_dst (N := 13) rfl ?_); refine box_event ?hg (N := 13) ?hd (cs := #[.int .i64 0, .int .u64 0, .int .i64 0, .int .i64 0, .int .u32 0, .slice none 0 0, .slice none 0 0]) (t := 28) ?hr ?_; (case hd => rfl); (case hg => rfl); (case hr => first | (go_simp; done) | (go_simp; rfl)); intro gb102 hg w9 hbox hb; have n0_ := Aside0.mk (Kd.V_below (Kd.V_elderB (by (with_reducible repeat (first | apply Kd.V_alloc | apply Kd.V_drewN | apply Kd.V_drew)); exact HO4.out) gb102 (Nat.le_of_eq hg.symm)) hb); have n1_ := Aside0.mk (blk_below (g := gb101) (o := .cells #[.int .i64 0, .int .u64 0, .int .i64 0, .int .i64 0, .int .u32 0, .slice none 0 0, .slice none 0 0] 28 (0, 0)) (by (with_reducible repeat (first | refine blk_drewN ?_ _ | refine blk_drew ?_ | refine blk_alloc ?_ _)); exact BK101.out) hb); have n2_ := Aside0.mk (below_step (by repeat (first | (with_reducible first | exact HB.out | apply below_alloc | apply pw_below_drewN | apply below_drew1 | refine below_set ?_ GE101.out) | exact HB.out)) hb); have n3_ := Aside0.mk (hbox); have n4_ := Aside0.mk ((by rw [hg]; exact (below_size (by repeat (first | (with_reducible first | exact HB.out | apply below_alloc | apply pw_below_drewN | apply below_drew1 | refine below_set ?_ GE101.out) | exact HB.out))) : w.heap.size ≤ gb102)); have n5_ := Aside0.mk ((by rw [hg]; exact (below_size (by repeat (first | (with_reducible first | exact HB.out | apply below_alloc | apply pw_below_drewN | apply below_drew1 | refine below_set ?_ GE101.out) | exact HB.out))) : w.heap.size ≤ gb102)); have n6_ := Aside0.mk ((by rw [hg]; exact Nat.ne_of_lt (blk_lt (g := gb101) (o := .cells #[.int .i64 0, .int .u64 0, .int .i64 0, .int .i64 0, .int .u32 0, .slice none 0 0, .slice none 0 0] 28 (0, 0)) (by (with_reducible repeat (first | refine blk_drewN ?_ _ | refine blk_drew ?_ | refine blk_alloc ?_ _)); exact BK101.out)) : gb101 ≠ gb102)); have n7_ := Aside0.mk ((by rw [hg]; exact Nat.ne_of_gt (blk_lt (g := gb101) (o := .cells #[.int .i64 0, .int .u64 0, .int .i64 0, .int .i64 0, .int .u32 0, .slice none 0 0, .slice none 0 0] 28 (0, 0)) (by (with_reducible repeat (first | refine blk_drewN ?_ _ | refine blk_drew ?_ | refine blk_alloc ?_ _)); exact BK101.out)) : gb102 ≠ gb101)); clear HO4; clear BK101; clear HB; have HO4 := n0_; have BK101 := n1_; have HB := n2_; have BK102 := n3_; have GW102 := n4_; have GE102 := n5_; have NB101_102 := n6_; have NB102_101 := n7_; clear n0_ n1_ n2_ n3_ n4_ n5_ n6_ n7_; clear hb hbox hg; have hnb10 := NB102_101.out; have hnc10 := NB101_102.out; have hcz11_0 : w9.cell? ⟨gb102, 0, none⟩ = some (.int .i64 0) := (blk_cell BK102.out 0).trans rfl; have hcz11_1 : w9.cell? ⟨gb102, 1, none⟩ = some (.int .u64 0) := (blk_cell BK102.out 1).trans rfl; have hcz11_2 : w9.cell? ⟨gb102, 2, none⟩ = some (.int .i64 0) := (blk_cell BK102.out 2).trans rfl; have hcz11_3 : w9.cell? ⟨gb102, 3, none⟩ = some (.int .i64 0) := (blk_cell BK102.out 3).trans rfl; have hcz11_4 : w9.cell? ⟨gb102, 4, none⟩ = some (.int .u32 0) := (blk_cell BK102.out 4).trans rfl; have hcz11_5 : w9.cell? ⟨gb102, 5, none⟩ = some (.slice none 0 0) := (blk_cell BK102.out 5).trans rfl; have hcz11_6 : w9.cell? ⟨gb102, 6, none⟩ = some (.slice none 0 0) := (blk_cell BK102.out 6).trans rfl; have hfz11_0 := blk_frozen BK102.out 0; have hfz11_1 := blk_frozen BK102.out 1; have hfz11_2 := blk_frozen BK102.out 2; have hfz11_3 := blk_frozen BK102.out 3; have hfz11_4 := blk_frozen BK102.out 4; have hfz11_5 := blk_frozen BK102.out 5; have hfz11_6 := blk_frozen BK102.out 6))
 (try simp only [Act.put, List.setIfInBounds_toArray, List.set_cons_zero, List.set_cons_succ])
 go_cut [] (fun wc => ∃ (kq : Nat) (x103005_6 : List Int) (u103005 : Value), Aside0 (scullerlaw13_Gram.j1 kq l4 a5 (wrap64 (1 + (wrap64 (Int.tmod a5 8)))) a0 (wrap64 (a2)) (wrap64 (a3)) a1 x103005_6 = some (r1, r2, r3, r4, r5, r6, r7)) ∧ Aside0 (kq ≤ k) ∧ Aside0 (Kd.V (Kd.int .u8) 5 wc w.heap.size (fun k_ => (P4_ k_ ∨ w.heap.size ≤ k_) ∧ some k_ ≠ (u103005 : Value).ownBlock ∧ k_ ≠ gb101 ∧ k_ ≠ gb102) (.slice A4 l4.length c4) l4) ∧ Aside0 (Kd.R (Kd.int .i64) 3 wc w.heap.size (fun k_ => (w.heap.size ≤ k_)) u103005 x103005_6) ∧ Aside0 (wc.heap[gb101]? = some (.cells #[.int .i64 0, .int .u64 0, .int .i64 0, .int .i64 0, .int .u32 0, (.slice none 0 0), (.slice none 0 0)] 28 (0, 0))) ∧ Aside0 (wc.heap[gb102]? = some (.cells #[.int .i64 (wrap64 (1 + (wrap64 (Int.tmod a5 8)))), .int .u64 a0, .int .i64 (wrap64 (a2)), .int .i64 (wrap64 (a3)), .int .u32 a1, u103005, (.slice none 0 0)] 28 (0, 0))) ∧ Aside0 (Below w.heap.size w wc))
 case first =>
  have H := HC7.out
  clear HC7
  by_cases c12 : (wrap64 (1 + (wrap64 (Int.tmod a5 8)))) = 1
  · rw [if_pos c12] at H
    have c12b0 : ((wrap64 (1 + (wrap64 (Int.tmod a5 8)))) == 1) = true := beq_iff_eq.mpr c12
    have c12b1 : ((wrap64 (1 + (wrap64 (Int.tmod a5 8)))) != 1) = false := bne_eq_false_iff_eq.mpr c12
    clear c12
    (first | rw [c12b0] | (simp only [i64_w, i32_w]; rw [c12b0]) | skip)
    have H' := Aside0.mk H
    clear H
    go_wp2
    go_loopg [14] k (fun kq v14 w' => ∃ (x14_1 : Int) (x103005_1 : List Int) (u103005 : Value), v14 = .int .i64 x14_1 ∧ Aside0 (scullerlaw13_Gram.l0 kq l4 a5 x14_1 (wrap64 (1 + (wrap64 (Int.tmod a5 8)))) a0 (wrap64 (a2)) (wrap64 (a3)) a1 x103005_1 = some (r1, r2, r3, r4, r5, r6, r7)) ∧ Aside0 (kq ≤ k) ∧ Aside0 (Kd.V (Kd.int .u8) 5 w' w.heap.size (fun k_ => (P4_ k_ ∨ w.heap.size ≤ k_) ∧ some k_ ≠ (u103005 : Value).ownBlock ∧ k_ ≠ gb101 ∧ k_ ≠ gb102) (.slice A4 l4.length c4) l4) ∧ Aside0 (Kd.R (Kd.int .i64) 3 w' w.heap.size (fun k_ => (w.heap.size ≤ k_)) u103005 x103005_1) ∧ Aside0 (w'.heap[gb101]? = some (.cells #[.int .i64 0, .int .u64 0, .int .i64 0, .int .i64 0, .int .u32 0, (.slice none 0 0), (.slice none 0 0)] 28 (0, 0))) ∧ Aside0 (w'.heap[gb102]? = some (.cells #[.int .i64 (wrap64 (1 + (wrap64 (Int.tmod a5 8)))), .int .u64 a0, .int .i64 (wrap64 (a2)), .int .i64 (wrap64 (a3)), .int .u32 a1, u103005, (.slice none 0 0)] 28 (0, 0))) ∧ Aside0 (Below w.heap.size w w'))
    case atStart => exact ⟨(0), (([] : List Int)), (.slice none 0 0), (by first | rfl | (simp; done) | (simp [*]; done)), H', ⟨Nat.le_refl _⟩, ⟨by (with_reducible repeat (first | apply Kd.V_alloc | apply Kd.V_drewN | apply Kd.V_drew)); exact Kd.V_mono (Kd.V_far (p := ⟨gb102, 6, none⟩) (Kd.V_far (p := ⟨gb102, 5, none⟩) (Kd.V_far (p := ⟨gb102, 4, none⟩) (Kd.V_far (p := ⟨gb102, 3, none⟩) (Kd.V_far (p := ⟨gb102, 2, none⟩) (Kd.V_far (p := ⟨gb102, 1, none⟩) (Kd.V_far (p := ⟨gb102, 0, none⟩) (Kd.V_mono HO4.out (fun k_ hk => (⟨hk, hk.2⟩ : _ ∧ k_ ≠ gb102))) (fun _ hk => hk.2) (.int .i64 (wrap64 (1 + (wrap64 (Int.tmod a5 8)))))) (fun _ hk => hk.2) (.int .u64 a0)) (fun _ hk => hk.2) (.int .i64 (wrap64 (a2)))) (fun _ hk => hk.2) (.int .i64 (wrap64 (a3)))) (fun _ hk => hk.2) (.int .u32 a1)) (fun _ hk => hk.2) (.slice none 0 0)) (fun _ hk => hk.2) (.slice none 0 0)) (fun _ hk => ⟨hk.1.1.1, ⟨(by simp [Value.ownBlock]), ⟨hk.1.1.2, hk.1.2⟩⟩⟩)⟩, ⟨by first | exact Kd.R_nil _ _ _ _ _ | exact Kd.N_nil _ _ _ _ _ | exact Kd.V_nil _ _ _ _ _ | exact Kd.Q_nil _ _ _ _ _ | exact Kd.S_nil _ _ _ _ _⟩, ⟨by (with_reducible repeat (first | refine blk_drewN ?_ _ | refine blk_drew ?_ | refine blk_alloc ?_ _)); refine blk_far ?_ NB101_102.out _; (with_reducible repeat (first | refine blk_drewN ?_ _ | refine blk_drew ?_ | refine blk_alloc ?_ _)); refine blk_far ?_ NB101_102.out _; (with_reducible repeat (first | refine blk_drewN ?_ _ | refine blk_drew ?_ | refine blk_alloc ?_ _)); refine blk_far ?_ NB101_102.out _; (with_reducible repeat (first | refine blk_drewN ?_ _ | refine blk_drew ?_ | refine blk_alloc ?_ _)); refine blk_far ?_ NB101_102.out _; (with_reducible repeat (first | refine blk_drewN ?_ _ | refine blk_drew ?_ | refine blk_alloc ?_ _)); refine blk_far ?_ NB101_102.out _; (with_reducible repeat (first | refine blk_drewN ?_ _ | refine blk_drew ?_ | refine blk_alloc ?_ _)); refine blk_far ?_ NB101_102.out _; (with_reducible repeat (first | refine blk_drewN ?_ _ | refine blk_drew ?_ | refine blk_alloc ?_ _)); refine blk_far ?_ NB101_102.out _; (with_reducible repeat (first | refine blk_drewN ?_ _ | refine blk_drew ?_ | refine blk_alloc ?_ _)); exact BK101.out⟩, ⟨by (with_reducible repeat (first | refine blk_drewN ?_ _ | refine blk_drew ?_ | refine blk_alloc ?_ _)); refine blk_put (cs := #[.int .i64 (wrap64 (1 + (wrap64 (Int.tmod a5 8)))), .int .u64 a0, .int .i64 (wrap64 (a2)), .int .i64 (wrap64 (a3)), .int .u32 a1, .slice none 0 0, .slice none 0 0]) ?_ 6 _ rfl; (with_reducible repeat (first | refine blk_drewN ?_ _ | refine blk_drew ?_ | refine blk_alloc ?_ _)); refine blk_put (cs := #[.int .i64 (wrap64 (1 + (wrap64 (Int.tmod a5 8)))), .int .u64 a0, .int .i64 (wrap64 (a2)), .int .i64 (wrap64 (a3)), .int .u32 a1, .slice none 0 0, .slice none 0 0]) ?_ 5 _ rfl; (with_reducible repeat (first | refine blk_drewN ?_ _ | refine blk_drew ?_ | refine blk_alloc ?_ _)); refine blk_put (cs := #[.int .i64 (wrap64 (1 + (wrap64 (Int.tmod a5 8)))), .int .u64 a0, .int .i64 (wrap64 (a2)), .int .i64 (wrap64 (a3)), .int .u32 0, .slice none 0 0, .slice none 0 0]) ?_ 4 _ rfl; (with_reducible repeat (first | refine blk_drewN ?_ _ | refine blk_drew ?_ | refine blk_alloc ?_ _)); refine blk_put (cs := #[.int .i64 (wrap64 (1 + (wrap64 (Int.tmod a5 8)))), .int .u64 a0, .int .i64 (wrap64 (a2)), .int .i64 0, .int .u32 0, .slice none 0 0, .slice none 0 0]) ?_ 3 _ rfl; (with_reducible repeat (first | refine blk_drewN ?_ _ | refine blk_drew ?_ | refine blk_alloc ?_ _)); refine blk_put (cs := #[.int .i64 (wrap64 (1 + (wrap64 (Int.tmod a5 8)))), .int .u64 a0, .int .i64 0, .int .i64 0, .int .u32 0, .slice none 0 0, .slice none 0 0]) ?_ 2 _ rfl; (with_reducible repeat (first | refine blk_drewN ?_ _ | refine blk_drew ?_ | refine blk_alloc ?_ _)); refine blk_put (cs := #[.int .i64 (wrap64 (1 + (wrap64 (Int.tmod a5 8)))), .int .u64 0, .int .i64 0, .int .i64 0, .int .u32 0, .slice none 0 0, .slice none 0 0]) ?_ 1 _ rfl; (with_reducible repeat (first | refine blk_drewN ?_ _ | refine blk_drew ?_ | refine blk_alloc ?_ _)); refine blk_put (cs := #[.int .i64 0, .int .u64 0, .int .i64 0, .int .i64 0, .int .u32 0, .slice none 0 0, .slice none 0 0]) ?_ 0 _ rfl; (with_reducible repeat (first | refine blk_drewN ?_ _ | refine blk_drew ?_ | refine blk_alloc ?_ _)); exact BK102.out⟩, ⟨by repeat (first | (with_reducible first | exact HB.out | apply below_alloc | apply pw_below_drewN | apply below_drew1 | refine below_set ?_ GE101.out | refine below_set ?_ GE102.out) | exact HB.out)⟩⟩
    case round =>
     clear H'
     try clear c1
     try clear p2
     try clear c4
     try clear p6
     try clear c9
     try clear c10
     try clear c12
     try clear c12b0
     try clear c12b1
     try clear hcz11_0
     try clear hcz11_1
     try clear hcz11_2
     try clear hcz11_3
     try clear hcz11_4
     try clear hcz11_5
     try clear hcz11_6
     try clear hfz11_0
     try clear hfz11_1
     try clear hfz11_2
     try clear hfz11_3
     try clear hfz11_4
     try clear hfz11_5
     try clear hfz11_6
     obtain ⟨x14_1, x103005_1, u103005, rfl, HA, HK1, HO_4, HO_103005, BK101, BK102, HB⟩ := hrel
     cases gk with
     | zero => exact absurd HA.out (by simp [scullerlaw13_Gram.l0])
     | succ k1 =>
       have H := HA.out
       clear HA
       simp only [scullerlaw13_Gram.l0] at H
       by_cases c13 : (wrap64 (x14_1 + 1)) < (l4.length : Int)
       · rw [if_pos c13] at H
         have c13b0 : decide ((wrap64 (x14_1 + 1)) < (l4.length : Int)) = true := decide_eq_true c13
         clear c13
         by_cases c14 : x14_1 < 8
         · rw [if_pos c14] at H
           have c14b0 : decide (x14_1 < 8) = true := decide_eq_true c14
           clear c14
           by_cases c15 : 0 ≤ x14_1
           · rw [if_pos c15] at H
             have c15b0 : decide (0 ≤ x14_1) = true := decide_eq_true c15
             clear c15
             by_cases c16 : x14_1 < (l4.length : Int)
             · rw [if_pos c16] at H
               have c16b0 : decide (x14_1 < (l4.length : Int)) = true := decide_eq_true c16
               clear c16
               obtain ⟨ji17, hji17⟩ : ∃ j_ : Int, (wrap64 (x14_1 + 1)) = j_ := ⟨_, rfl⟩
               replace H : (if 0 ≤ (ji17) then (if x103005_1.length < 17592186044416 then (scullerlaw13_Gram.l0 k1 l4 a5 (wrap64 (x14_1 + 2)) (wrap64 (1 + (wrap64 (Int.tmod a5 8)))) a0 (wrap64 (a2)) (wrap64 (a3)) a1 (x103005_1 ++ [Int.tmod (wrap64 ((wrap64 ((wrap64 (rd l4 x14_1)) * 256)) + (wrap64 (rd l4 (ji17))))) 4097])) else (none)) else (none)) = some (r1, r2, r3, r4, r5, r6, r7) := by first | (rw [hji17] at H; exact H) | (simp only [hji17] at H ⊢; exact H)
               (try rw [hji17] at c13b0)
               have hji17w : (IntKind.i64.wrap (x14_1 + 1)) = ji17 := (i64_w _).trans hji17
               by_cases c18 : 0 ≤ (ji17)
               · rw [if_pos c18] at H
                 have c18b0 : decide (0 ≤ (ji17)) = true := decide_eq_true c18
                 clear c18
                 by_cases c19 : x103005_1.length < 17592186044416
                 · rw [if_pos c19] at H
                   have LMc19 := Aside0.mk c19
                   clear c19
                   obtain ⟨y105, hy105⟩ : ∃ y_ : List Int, y_ = (x103005_1 ++ [Int.tmod (wrap64 ((wrap64 ((wrap64 (rd l4 x14_1)) * 256)) + (wrap64 (rd l4 (ji17))))) 4097]) := ⟨_, rfl⟩
                   replace H : (scullerlaw13_Gram.l0 k1 l4 a5 (wrap64 (x14_1 + 2)) (wrap64 (1 + (wrap64 (Int.tmod a5 8)))) a0 (wrap64 (a2)) (wrap64 (a3)) a1 y105) = some (r1, r2, r3, r4, r5, r6, r7) := by first | (rw [hy105]; with_reducible exact H) | (have H2_ := (Option.bind_some _ _).symm.trans H; rw [hy105]; with_reducible exact H2_) | (have H2_ := (Option.bind_some _ _).symm.trans H; with_reducible exact H2_) | with_reducible exact H | (rw [hy105]; exact H) | exact H
                   have Ny105 := Aside0.mk hy105
                   clear hy105
                   have H' := Aside0.mk H
                   clear H
                   try go_wp2
                   have n0_ := Aside0.mk (Kd.V_drew HO_4.out)
                   have n1_ := Aside0.mk (Kd.R_drew HO_103005.out)
                   have n2_ := Aside0.mk (blk_drew BK101.out)
                   have n3_ := Aside0.mk (blk_drew BK102.out)
                   have n4_ := Aside0.mk (below_drew1 HB.out)
                   clear HO_4
                   clear HO_103005
                   clear BK101
                   clear BK102
                   clear HB
                   have HO_4 := n0_
                   have HO_103005 := n1_
                   have BK101 := n2_
                   have BK102 := n3_
                   have HB := n4_
                   clear n0_ n1_ n2_ n3_ n4_
                   have p103 : 0 ≤ (x14_1 : Int) := of_decide_eq_true (by first | (with_reducible assumption) | assumption)
                   have q103 : x14_1 < (l4.length : Int) := of_decide_eq_true (by first | (with_reducible assumption) | assumption)
                   obtain ⟨ad103, e103, hx103_0⟩ := Kd.at_int (Kd.V_reads' HO_4.out).2.2 x14_1 p103 q103
                   cases e103
                   replace p103 := eq_true p103
                   replace q103 := eq_true q103
                   have p104 : 0 ≤ ((ji17) : Int) := of_decide_eq_true (by first | (with_reducible assumption) | assumption)
                   have q104 : (ji17) < (l4.length : Int) := of_decide_eq_true (by first | (with_reducible assumption) | assumption)
                   obtain ⟨ad104, e104, hx104_0⟩ := Kd.at_int (Kd.V_reads' HO_4.out).2.2 (ji17) p104 q104
                   obtain rfl : ad103 = ad104 := (by injection e104)
                   replace p104 := eq_true p104
                   replace q104 := eq_true q104
                   refine start_ (n := 20) (S := fun w' => w'.cell? ⟨gb102, 0, none⟩ = some (.int .i64 (wrap64 (1 + (wrap64 (Int.tmod a5 8))))) ∧ w'.cell? ⟨gb102, 1, none⟩ = some (.int .u64 a0) ∧ w'.cell? ⟨gb102, 2, none⟩ = some (.int .i64 (wrap64 (a2))) ∧ w'.cell? ⟨gb102, 3, none⟩ = some (.int .i64 (wrap64 (a3))) ∧ w'.cell? ⟨gb102, 4, none⟩ = some (.int .u32 a1) ∧ w'.cell? ⟨gb102, 5, none⟩ = some (u103005) ∧ w'.cell? ⟨gb102, 6, none⟩ = some (.slice none 0 0) ∧ w'.cell? (ad103.add (x14_1).toNat) = some (.int .u8 (rd l4 x14_1)) ∧ w'.cell? (ad103.add ((ji17)).toNat) = some (.int .u8 (rd l4 (ji17)))) (ds := [17, 19]) #[false, false, false, false, false, false, false, false, false, false, false, false, false, false, false, false, false, false, false, false] (by kernel_rfl) rfl rfl ⟨(blk_cell BK102.out 0).trans rfl, (blk_cell BK102.out 1).trans rfl, (blk_cell BK102.out 2).trans rfl, (blk_cell BK102.out 3).trans rfl, (blk_cell BK102.out 4).trans rfl, (blk_cell BK102.out 5).trans rfl, (blk_cell BK102.out 6).trans rfl, hx103_0, hx104_0⟩ (fun hHeld => ?_); refine with_tabW scullerlaw13_Gram.tab6 scullerlaw13_Gram.bits6 (fun HT_ HW_ => ?_)
                   generalize wr.drew = w20 at HO_4 HO_103005 BK101 BK102 HB hx103_0 hx104_0 hHeld ⊢
                   refine pure_ (i := 0) (N := some 40) (v := ?_) (a' := ?_) #[true, false, false, false, false, false, false, false, false, false, false, false, false, false, false, false, false, false, false, false] rfl rfl (any_of HT_.out (by kernel_rfl)) (fun _ _ _ h => h) (Or.inl ⟨by rfl, ?_⟩) ?_ ?_
                   rotate_left
                   · intro w'
                     go_simp
                     with_reducible rfl
                   rotate_left
                   · simp only [Act.put, List.setIfInBounds_toArray, List.set_cons_zero, List.set_cons_succ, i64_w, i32_w]
                     rfl
                   refine pure_ (i := 2) (N := some 42) (v := ?_) (a' := ?_) #[true, false, true, false, false, false, false, false, false, false, false, false, false, false, false, false, false, false, false, false] rfl rfl (any_of HT_.out (by kernel_rfl)) (fun _ _ _ h => h) (Or.inl ⟨by rfl, ?_⟩) ?_ ?_
                   rotate_left
                   · intro w'
                     go_simp
                     with_reducible rfl
                   rotate_left
                   · simp only [Act.put, List.setIfInBounds_toArray, List.set_cons_zero, List.set_cons_succ, i64_w, i32_w]
                     rfl
                   refine pure_ (i := 3) (N := some 43) (v := ?_) (a' := ?_) #[true, false, true, true, false, false, false, false, false, false, false, false, false, false, false, false, false, false, false, false] rfl rfl (any_of HT_.out (by kernel_rfl)) (fun _ _ _ h => h) (Or.inl ⟨by rfl, ?_⟩) ?_ ?_
                   rotate_left
                   · intro w'
                     go_simp
                     with_reducible rfl
                   rotate_left
                   · simp only [Act.put, List.setIfInBounds_toArray, List.set_cons_zero, List.set_cons_succ, i64_w, i32_w]
                     rfl
                   refine pure_ (i := 4) (N := some 44) (v := ?_) (a' := ?_) #[true, false, true, true, true, false, false, false, false, false, false, false, false, false, false, false, false, false, false, false] rfl rfl (any_of HT_.out (by kernel_rfl)) (fun _ _ _ h => h) (Or.inl ⟨by rfl, ?_⟩) ?_ ?_
                   rotate_left
                   · intro w'
                     go_simp
                     with_reducible rfl
                   rotate_left
                   · simp only [Act.put, List.setIfInBounds_toArray, List.set_cons_zero, List.set_cons_succ, i64_w, i32_w]
                     rfl
                   refine pure_ (i := 8) (N := some 48) (v := ?_) (a' := ?_) #[true, false, true, true, true, false, false, false, true, false, false, false, false, false, false, false, false, false, false, false] rfl rfl (any_of HT_.out (by kernel_rfl)) (fun _ _ _ h => h) (Or.inl ⟨by rfl, ?_⟩) ?_ ?_
                   rotate_left
                   · intro w'
                     go_simp
                     with_reducible rfl
                   rotate_left
                   · simp only [Act.put, List.setIfInBounds_toArray, List.set_cons_zero, List.set_cons_succ, i64_w, i32_w]
                     rfl
                   refine pure_ (i := 9) (N := some 49) (v := ?_) (a' := ?_) #[true, false, true, true, true, false, false, false, true, true, false, false, false, false, false, false, false, false, false, false] rfl rfl (any_of HT_.out (by kernel_rfl)) (fun _ _ _ h => h) (Or.inl ⟨by rfl, ?_⟩) ?_ ?_
                   rotate_left
                   · intro w'
                     go_simp
                     with_reducible rfl
                   rotate_left
                   · simp only [Act.put, List.setIfInBounds_toArray, List.set_cons_zero, List.set_cons_succ, i64_w, i32_w]
                     rfl
                   refine pure_ (i := 10) (N := some 50) (v := ?_) (a' := ?_) #[true, false, true, true, true, false, false, false, true, true, true, false, false, false, false, false, false, false, false, false] rfl rfl (any_of HT_.out (by kernel_rfl)) (fun _ _ _ h => h) (Or.inl ⟨by rfl, ?_⟩) ?_ ?_
                   rotate_left
                   · intro w'
                     go_simp
                     with_reducible rfl
                   rotate_left
                   · simp only [Act.put, List.setIfInBounds_toArray, List.set_cons_zero, List.set_cons_succ, i64_w, i32_w]
                     rfl
                   refine pure_ (i := 11) (N := some 51) (v := ?_) (a' := ?_) #[true, false, true, true, true, false, false, false, true, true, true, true, false, false, false, false, false, false, false, false] rfl rfl (any_of HT_.out (by kernel_rfl)) (fun _ _ _ h => h) (Or.inl ⟨by rfl, ?_⟩) ?_ ?_
                   rotate_left
                   · intro w'
                     go_simp
                     with_reducible rfl
                   rotate_left
                   · simp only [Act.put, List.setIfInBounds_toArray, List.set_cons_zero, List.set_cons_succ, i64_w, i32_w]
                     rfl
                   refine take_ (i := 1) (N := some 41) (v := ?_) (a' := ?_) #[true, true, true, true, true, false, false, false, true, true, true, true, false, false, false, false, false, false, false, false] rfl rfl (take_ofW HT_.out HW_.out (by kernel_rfl)) (fun _ _ _ h => h) (Or.inl ⟨by rfl, ?_⟩) hHeld ?_ ?_
                   rotate_left
                   · rintro w' ⟨s0, s1, s2, s3, s4, s5, s6, s7, s8⟩
                     go_simp
                     with_reducible rfl
                   rotate_left
                   · simp only [Act.put, List.setIfInBounds_toArray, List.set_cons_zero, List.set_cons_succ, i64_w, i32_w]
                     rfl
                   refine take_ (i := 5) (N := some 45) (v := ?_) (a' := ?_) #[true, true, true, true, true, true, false, false, true, true, true, true, false, false, false, false, false, false, false, false] rfl rfl (take_ofW HT_.out HW_.out (by kernel_rfl)) (fun _ _ _ h => h) (Or.inl ⟨by rfl, ?_⟩) hHeld ?_ ?_
                   rotate_left
                   · rintro w' ⟨s0, s1, s2, s3, s4, s5, s6, s7, s8⟩
                     go_simp
                     with_reducible rfl
                   rotate_left
                   · simp only [Act.put, List.setIfInBounds_toArray, List.set_cons_zero, List.set_cons_succ, i64_w, i32_w]
                     rfl
                   refine pure_ (i := 6) (N := some 46) (v := ?_) (a' := ?_) #[true, true, true, true, true, true, true, false, true, true, true, true, false, false, false, false, false, false, false, false] rfl rfl (any_of HT_.out (by kernel_rfl)) (fun _ _ _ h => h) (Or.inl ⟨by rfl, ?_⟩) ?_ ?_
                   rotate_left
                   · intro w'
                     go_simp
                     with_reducible rfl
                   rotate_left
                   · simp only [Act.put, List.setIfInBounds_toArray, List.set_cons_zero, List.set_cons_succ, i64_w, i32_w]
                     rfl
                   refine pure_ (i := 7) (N := some 47) (v := ?_) (a' := ?_) #[true, true, true, true, true, true, true, true, true, true, true, true, false, false, false, false, false, false, false, false] rfl rfl (any_of HT_.out (by kernel_rfl)) (fun _ _ _ h => h) (Or.inl ⟨by rfl, ?_⟩) ?_ ?_
                   rotate_left
                   · intro w'
                     go_simp
                     with_reducible rfl
                   rotate_left
                   · simp only [Act.put, List.setIfInBounds_toArray, List.set_cons_zero, List.set_cons_succ, i64_w, i32_w]
                     rfl
                   refine take_ (i := 12) (N := some 52) (v := ?_) (a' := ?_) #[true, true, true, true, true, true, true, true, true, true, true, true, true, false, false, false, false, false, false, false] rfl rfl (take_ofW HT_.out HW_.out (by kernel_rfl)) (fun _ _ _ h => h) (Or.inl ⟨by rfl, ?_⟩) hHeld ?_ ?_
                   rotate_left
                   · rintro w' ⟨s0, s1, s2, s3, s4, s5, s6, s7, s8⟩
                     go_simp
                     with_reducible rfl
                   rotate_left
                   · simp only [Act.put, List.setIfInBounds_toArray, List.set_cons_zero, List.set_cons_succ, i64_w, i32_w]
                     rfl
                   refine pure_ (i := 13) (N := some 53) (v := ?_) (a' := ?_) #[true, true, true, true, true, true, true, true, true, true, true, true, true, true, false, false, false, false, false, false] rfl rfl (any_of HT_.out (by kernel_rfl)) (fun _ _ _ h => h) (Or.inl ⟨by rfl, ?_⟩) ?_ ?_
                   rotate_left
                   · intro w'
                     go_simp
                     with_reducible rfl
                   rotate_left
                   · simp only [Act.put, List.setIfInBounds_toArray, List.set_cons_zero, List.set_cons_succ, i64_w, i32_w]
                     rfl
                   refine pure_ (i := 14) (N := some 54) (v := ?_) (a' := ?_) #[true, true, true, true, true, true, true, true, true, true, true, true, true, true, true, false, false, false, false, false] rfl rfl (any_of HT_.out (by kernel_rfl)) (fun _ _ _ h => h) (Or.inl ⟨by rfl, ?_⟩) ?_ ?_
                   rotate_left
                   · intro w'
                     go_simp
                     with_reducible rfl
                   rotate_left
                   · simp only [Act.put, List.setIfInBounds_toArray, List.set_cons_zero, List.set_cons_succ, i64_w, i32_w]
                     rfl
                   refine pure_ (i := 15) (N := some 55) (v := ?_) (a' := ?_) #[true, true, true, true, true, true, true, true, true, true, true, true, true, true, true, true, false, false, false, false] rfl rfl (any_of HT_.out (by kernel_rfl)) (fun _ _ _ h => h) (Or.inl ⟨by rfl, ?_⟩) ?_ ?_
                   rotate_left
                   · intro w'
                     go_simp
                     with_reducible rfl
                   rotate_left
                   · simp only [Act.put, List.setIfInBounds_toArray, List.set_cons_zero, List.set_cons_succ, i64_w, i32_w]
                     rfl
                   refine one_ (i := 16) (N := some 56) #[true, true, true, true, true, true, true, true, true, true, true, true, true, true, true, true, true, false, false, false] rfl rfl (one_of HT_.out (by kernel_rfl)) (by decide) (fun K hK => ?_)
                   refine value_ (w1 := ?_) (v := ?_) (by rfl) rfl ?_ ?_
                   rotate_left 2
                   · go_simp
                     constructor
                     · rfl
                     · rfl
                   refine hK.out _ _ ⟨(blk_cell (blk_alloc BK102.out _) 0).trans rfl, (blk_cell (blk_alloc BK102.out _) 1).trans rfl, (blk_cell (blk_alloc BK102.out _) 2).trans rfl, (blk_cell (blk_alloc BK102.out _) 3).trans rfl, (blk_cell (blk_alloc BK102.out _) 4).trans rfl, (blk_cell (blk_alloc BK102.out _) 5).trans rfl, (blk_cell (blk_alloc BK102.out _) 6).trans rfl, (World.cell?_alloc_lt _ _ _ (World.block_lt_of_cell? _ _ (hHeld.2.2.2.2.2.2.2.1))).trans (hHeld.2.2.2.2.2.2.2.1), (World.cell?_alloc_lt _ _ _ (World.block_lt_of_cell? _ _ (hHeld.2.2.2.2.2.2.2.2))).trans (hHeld.2.2.2.2.2.2.2.2)⟩ (fun hHeld => ?_)
                   clear hK K
                   refine norm_ (a' := ?_) ?_ ?_
                   rotate_left
                   · show Act.put _ (some 56) _ = _
                     simp only [Act.put, List.setIfInBounds_toArray, List.set_cons_zero, List.set_cons_succ, i64_w, i32_w]
                     rfl
                   refine last_ (i := 17) (N := some 57) #[true, true, true, true, true, true, true, true, true, true, true, true, true, true, true, true, true, true, false, false] rfl rfl (one_of HT_.out (by kernel_rfl)) (by decide) (fun K hK => ?_)
                   refine Kd.R_append_step (Kd.int .i64) (w0 := w) w.heap.size (by rfl) (.tmp 41) (.tmp 56) 26 3 (.int .i64 0) 8 rfl Try.underlying26 info3 rfl (by decide) (by omega) u103005 x103005_1 (Int.tmod (wrap64 ((wrap64 ((wrap64 (rd l4 x14_1)) * 256)) + (wrap64 (rd l4 (ji17))))) 4097) [.int .i64 (Int.tmod (wrap64 ((wrap64 ((wrap64 (rd l4 x14_1)) * 256)) + (wrap64 (rd l4 (ji17))))) 4097)] (fun k_ => (w.heap.size ≤ k_)) (fun _ => False) rfl rfl ?aP (fun _ hk => hk.elim) ?aF ?aO ?aB ?aS ?aL ?_
                   (case aP => exact rfl)
                   (case aB => exact (by repeat (first | (with_reducible first | exact HB.out | apply below_alloc | apply pw_below_drewN | apply below_drew1 | refine below_set ?_ GE101.out | refine below_set ?_ GE102.out) | exact HB.out)))
                   (case aF => exact (fun k_ hk => (Nat.le_trans (below_size (by repeat (first | (with_reducible first | exact HB.out | apply below_alloc | apply pw_below_drewN | apply below_drew1 | refine below_set ?_ GE101.out | refine below_set ?_ GE102.out) | exact HB.out))) hk)))
                   (case aO => exact (by (with_reducible repeat (first | apply Kd.R_alloc | apply Kd.R_drewN | apply Kd.R_drew)); exact HO_103005.out))
                   (case aS => exact (below_size (by repeat (first | (with_reducible first | exact HB.out | apply below_alloc | apply pw_below_drewN | apply below_drew1 | refine below_set ?_ GE101.out | refine below_set ?_ GE102.out) | exact HB.out))))
                   (case aL => have := LMc19.out; omega)
                   intro v106 w21 ho hb hg hat
                   rw [← Ny105.out] at ho
                   have n0_ := Aside0.mk (Kd.V_afterv (ok := (fun k_ => (P4_ k_ ∨ w.heap.size ≤ k_) ∧ k_ ≠ gb101 ∧ k_ ≠ gb102)) (by (with_reducible repeat (first | apply Kd.V_alloc | apply Kd.V_drewN | apply Kd.V_drew)); exact Kd.V_mono HO_4.out (fun _ hk => ⟨⟨hk.1, ⟨hk.2.2.1, hk.2.2.2⟩⟩, hk.2.1⟩)) hg hat)
                   have n1_ := Aside0.mk (blk_grown (g := gb101) (o := .cells #[.int .i64 0, .int .u64 0, .int .i64 0, .int .i64 0, .int .u32 0, .slice none 0 0, .slice none 0 0] 28 (0, 0)) (by (with_reducible repeat (first | refine blk_drewN ?_ _ | refine blk_drew ?_ | refine blk_alloc ?_ _)); exact BK101.out) hg (Kd.R_ne HO_103005.out BK101.out (by decide)))
                   have n2_ := Aside0.mk (blk_grown (g := gb102) (o := .cells #[.int .i64 (wrap64 (1 + (wrap64 (Int.tmod a5 8)))), .int .u64 a0, .int .i64 (wrap64 (a2)), .int .i64 (wrap64 (a3)), .int .u32 a1, u103005, .slice none 0 0] 28 (0, 0)) (by (with_reducible repeat (first | refine blk_drewN ?_ _ | refine blk_drew ?_ | refine blk_alloc ?_ _)); exact BK102.out) hg (Kd.R_ne HO_103005.out BK102.out (by decide)))
                   have n3_ := Aside0.mk (hb)
                   have n4_ := Aside0.mk (ho)
                   clear HO_4
                   clear BK101
                   clear BK102
                   clear HB
                   clear HO_103005
                   have HO_4 := n0_
                   have BK101 := n1_
                   have BK102 := n2_
                   have HB := n3_
                   have HO107 := n4_
                   clear n0_ n1_ n2_ n3_ n4_
                   clear ho hb hg hat
                   obtain ⟨Ao22, co22, eo22⟩ := Kd.R_slice HO107.out
                   (first | subst eo22 | (injection eo22 with f1_ f2_ f3_; have f4_ := f1_.symm; have f5_ := f3_.symm; clear f1_ f2_ f3_; subst f4_; subst f5_))
                   refine hK.out _ _ ?_
                   clear hK K
                   refine norm_ (a' := ?_) ?_ ?_
                   rotate_left
                   · show Act.put _ (some 57) _ = _
                     simp only [Act.put, List.setIfInBounds_toArray, List.set_cons_zero, List.set_cons_succ, i64_w, i32_w]
                     rfl
                   refine pure_ (i := 18) (N := some 58) (v := ?_) (a' := ?_) #[true, true, true, true, true, true, true, true, true, true, true, true, true, true, true, true, true, true, true, false] rfl rfl (any_of HT_.out (by kernel_rfl)) (fun _ _ _ h => h) (Or.inl ⟨by rfl, ?_⟩) ?_ ?_
                   rotate_left
                   · intro w'
                     go_simp
                     with_reducible rfl
                   rotate_left
                   · simp only [Act.put, List.setIfInBounds_toArray, List.set_cons_zero, List.set_cons_succ, i64_w, i32_w]
                     rfl
                   refine last_ (i := 19) (N := none) #[true, true, true, true, true, true, true, true, true, true, true, true, true, true, true, true, true, true, true, true] rfl rfl (one_of HT_.out (by kernel_rfl)) (by decide) (fun K hK => ?_)
                   have hs23 : w21.cell? ⟨gb102, 5, none⟩ = some (u103005) := (blk_cell BK102.out 5).trans rfl
                   have hfs23 := blk_frozen BK102.out 5
                   have hns23_0 := NB101_102.out
                   have hms23_0 := NB102_101.out
                   refine skip_ (w1 := ?_) (by rfl) rfl ?_ ?_
                   rotate_left
                   · go_simp
                     rfl
                   refine hK.out _ _ ?_
                   clear hK K
                   refine done_ (done_of HT_.out (by kernel_rfl)) ?_
                   try go_wp2
                   go_roundg k1
                   case measure => have := HK1.out; omega
                   case rel => exact ⟨(wrap64 (x14_1 + 2)), (y105), (.slice Ao22 y105.length co22), (by first | rfl | (simp; done) | (simp [*]; done)), H', ⟨by have := HK1.out; omega⟩, ⟨by (with_reducible repeat (first | apply Kd.V_alloc | apply Kd.V_drewN | apply Kd.V_drew)); exact Kd.V_mono (Kd.V_far (p := ⟨gb102, 5, none⟩) (Kd.V_mono HO_4.out (fun k_ hk => (⟨hk, hk.1.2.2⟩ : _ ∧ k_ ≠ gb102))) (fun _ hk => hk.2) (.slice Ao22 y105.length co22)) (fun _ hk => ⟨hk.1.1.1, ⟨hk.1.2, ⟨hk.1.1.2.1, hk.1.1.2.2⟩⟩⟩)⟩, ⟨by (with_reducible repeat (first | apply Kd.R_alloc | apply Kd.R_drewN | apply Kd.R_drew)); exact Kd.R_mono (Kd.R_far (p := ⟨gb102, 5, none⟩) (Kd.R_types HO107.out BK102.out (by decide)) (fun _ hk => hk.2) (.slice Ao22 y105.length co22)) (fun _ hk => hk.1)⟩, ⟨by (with_reducible repeat (first | refine blk_drewN ?_ _ | refine blk_drew ?_ | refine blk_alloc ?_ _)); refine blk_far ?_ NB101_102.out _; (with_reducible repeat (first | refine blk_drewN ?_ _ | refine blk_drew ?_ | refine blk_alloc ?_ _)); exact BK101.out⟩, ⟨by (with_reducible repeat (first | refine blk_drewN ?_ _ | refine blk_drew ?_ | refine blk_alloc ?_ _)); refine blk_put (cs := #[.int .i64 (wrap64 (1 + (wrap64 (Int.tmod a5 8)))), .int .u64 a0, .int .i64 (wrap64 (a2)), .int .i64 (wrap64 (a3)), .int .u32 a1, u103005, .slice none 0 0]) ?_ 5 _ rfl; (with_reducible repeat (first | refine blk_drewN ?_ _ | refine blk_drew ?_ | refine blk_alloc ?_ _)); exact BK102.out⟩, ⟨by repeat (first | (with_reducible first | exact HB.out | apply below_alloc | apply pw_below_drewN | apply below_drew1 | refine below_set ?_ GE101.out | refine below_set ?_ GE102.out) | exact HB.out)⟩⟩
                 · rw [if_neg c19] at H
                   exact absurd H (by simp)
               · rw [if_neg c18] at H
                 exact absurd H (by simp)
             · rw [if_neg c16] at H
               exact absurd H (by simp)
           · rw [if_neg c15] at H
             exact absurd H (by simp)
         · rw [if_neg c14] at H
           have c14b0 : decide (x14_1 < 8) = false := decide_eq_false c14
           clear c14
           have H' := Aside0.mk H
           clear H
           go_wp2
           go_meet
           case rel => exact ⟨_, (x103005_1), (u103005), H', ⟨by have := HK1.out; first | omega | exact Nat.le_refl _⟩, ⟨by (with_reducible repeat (first | apply Kd.V_alloc | apply Kd.V_drewN | apply Kd.V_drew)); exact HO_4.out⟩, ⟨by (with_reducible repeat (first | apply Kd.R_alloc | apply Kd.R_drewN | apply Kd.R_drew)); exact HO_103005.out⟩, ⟨by (with_reducible repeat (first | refine blk_drewN ?_ _ | refine blk_drew ?_ | refine blk_alloc ?_ _)); exact BK101.out⟩, ⟨by (with_reducible repeat (first | refine blk_drewN ?_ _ | refine blk_drew ?_ | refine blk_alloc ?_ _)); exact BK102.out⟩, ⟨by repeat (first | (with_reducible first | exact HB.out | apply below_alloc | apply pw_below_drewN | apply below_drew1 | refine below_set ?_ GE101.out | refine below_set ?_ GE102.out) | exact HB.out)⟩⟩
       · rw [if_neg c13] at H
         have c13b0 : decide ((wrap64 (x14_1 + 1)) < (l4.length : Int)) = false := decide_eq_false c13
         clear c13
         have H' := Aside0.mk H
         clear H
         go_wp2
         go_meet
         case rel => exact ⟨_, (x103005_1), (u103005), H', ⟨by have := HK1.out; first | omega | exact Nat.le_refl _⟩, ⟨by (with_reducible repeat (first | apply Kd.V_alloc | apply Kd.V_drewN | apply Kd.V_drew)); exact HO_4.out⟩, ⟨by (with_reducible repeat (first | apply Kd.R_alloc | apply Kd.R_drewN | apply Kd.R_drew)); exact HO_103005.out⟩, ⟨by (with_reducible repeat (first | refine blk_drewN ?_ _ | refine blk_drew ?_ | refine blk_alloc ?_ _)); exact BK101.out⟩, ⟨by (with_reducible repeat (first | refine blk_drewN ?_ _ | refine blk_drew ?_ | refine blk_alloc ?_ _)); exact BK102.out⟩, ⟨by repeat (first | (with_reducible first | exact HB.out | apply below_alloc | apply pw_below_drewN | apply below_drew1 | refine below_set ?_ GE101.out | refine below_set ?_ GE102.out) | exact HB.out)⟩⟩
  · rw [if_neg c12] at H
    have c12b0 : ((wrap64 (1 + (wrap64 (Int.tmod a5 8)))) == 1) = false := beq_eq_false_iff_ne.mpr c12
    have c12b1 : ((wrap64 (1 + (wrap64 (Int.tmod a5 8)))) != 1) = true := bne_iff_ne.mpr c12
    (first | rw [c12b0] | (simp only [i64_w, i32_w]; rw [c12b0]) | skip)
    have H' := Aside0.mk H
    clear H
    go_wp2
    go_meet
    case rel => exact ⟨_, (([] : List Int)), (.slice none 0 0), H', ⟨by first | omega | exact Nat.le_refl _⟩, ⟨by (with_reducible repeat (first | apply Kd.V_alloc | apply Kd.V_drewN | apply Kd.V_drew)); exact Kd.V_mono (Kd.V_far (p := ⟨gb102, 6, none⟩) (Kd.V_far (p := ⟨gb102, 5, none⟩) (Kd.V_far (p := ⟨gb102, 4, none⟩) (Kd.V_far (p := ⟨gb102, 3, none⟩) (Kd.V_far (p := ⟨gb102, 2, none⟩) (Kd.V_far (p := ⟨gb102, 1, none⟩) (Kd.V_far (p := ⟨gb102, 0, none⟩) (Kd.V_mono HO4.out (fun k_ hk => (⟨hk, hk.2⟩ : _ ∧ k_ ≠ gb102))) (fun _ hk => hk.2) (.int .i64 (wrap64 (1 + (wrap64 (Int.tmod a5 8)))))) (fun _ hk => hk.2) (.int .u64 a0)) (fun _ hk => hk.2) (.int .i64 (wrap64 (a2)))) (fun _ hk => hk.2) (.int .i64 (wrap64 (a3)))) (fun _ hk => hk.2) (.int .u32 a1)) (fun _ hk => hk.2) (.slice none 0 0)) (fun _ hk => hk.2) (.slice none 0 0)) (fun _ hk => ⟨hk.1.1.1, ⟨(by simp [Value.ownBlock]), ⟨hk.1.1.2, hk.1.2⟩⟩⟩)⟩, ⟨by first | exact Kd.R_nil _ _ _ _ _ | exact Kd.N_nil _ _ _ _ _ | exact Kd.V_nil _ _ _ _ _ | exact Kd.Q_nil _ _ _ _ _ | exact Kd.S_nil _ _ _ _ _⟩, ⟨by (with_reducible repeat (first | refine blk_drewN ?_ _ | refine blk_drew ?_ | refine blk_alloc ?_ _)); refine blk_far ?_ NB101_102.out _; (with_reducible repeat (first | refine blk_drewN ?_ _ | refine blk_drew ?_ | refine blk_alloc ?_ _)); refine blk_far ?_ NB101_102.out _; (with_reducible repeat (first | refine blk_drewN ?_ _ | refine blk_drew ?_ | refine blk_alloc ?_ _)); refine blk_far ?_ NB101_102.out _; (with_reducible repeat (first | refine blk_drewN ?_ _ | refine blk_drew ?_ | refine blk_alloc ?_ _)); refine blk_far ?_ NB101_102.out _; (with_reducible repeat (first | refine blk_drewN ?_ _ | refine blk_drew ?_ | refine blk_alloc ?_ _)); refine blk_far ?_ NB101_102.out _; (with_reducible repeat (first | refine blk_drewN ?_ _ | refine blk_drew ?_ | refine blk_alloc ?_ _)); refine blk_far ?_ NB101_102.out _; (with_reducible repeat (first | refine blk_drewN ?_ _ | refine blk_drew ?_ | refine blk_alloc ?_ _)); refine blk_far ?_ NB101_102.out _; (with_reducible repeat (first | refine blk_drewN ?_ _ | refine blk_drew ?_ | refine blk_alloc ?_ _)); exact BK101.out⟩, ⟨by (with_reducible repeat (first | refine blk_drewN ?_ _ | refine blk_drew ?_ | refine blk_alloc ?_ _)); refine blk_put (cs := #[.int .i64 (wrap64 (1 + (wrap64 (Int.tmod a5 8)))), .int .u64 a0, .int .i64 (wrap64 (a2)), .int .i64 (wrap64 (a3)), .int .u32 a1, .slice none 0 0, .slice none 0 0]) ?_ 6 _ rfl; (with_reducible repeat (first | refine blk_drewN ?_ _ | refine blk_drew ?_ | refine blk_alloc ?_ _)); refine blk_put (cs := #[.int .i64 (wrap64 (1 + (wrap64 (Int.tmod a5 8)))), .int .u64 a0, .int .i64 (wrap64 (a2)), .int .i64 (wrap64 (a3)), .int .u32 a1, .slice none 0 0, .slice none 0 0]) ?_ 5 _ rfl; (with_reducible repeat (first | refine blk_drewN ?_ _ | refine blk_drew ?_ | refine blk_alloc ?_ _)); refine blk_put (cs := #[.int .i64 (wrap64 (1 + (wrap64 (Int.tmod a5 8)))), .int .u64 a0, .int .i64 (wrap64 (a2)), .int .i64 (wrap64 (a3)), .int .u32 0, .slice none 0 0, .slice none 0 0]) ?_ 4 _ rfl; (with_reducible repeat (first | refine blk_drewN ?_ _ | refine blk_drew ?_ | refine blk_alloc ?_ _)); refine blk_put (cs := #[.int .i64 (wrap64 (1 + (wrap64 (Int.tmod a5 8)))), .int .u64 a0, .int .i64 (wrap64 (a2)), .int .i64 0, .int .u32 0, .slice none 0 0, .slice none 0 0]) ?_ 3 _ rfl; (with_reducible repeat (first | refine blk_drewN ?_ _ | refine blk_drew ?_ | refine blk_alloc ?_ _)); refine blk_put (cs := #[.int .i64 (wrap64 (1 + (wrap64 (Int.tmod a5 8)))), .int .u64 a0, .int .i64 0, .int .i64 0, .int .u32 0, .slice none 0 0, .slice none 0 0]) ?_ 2 _ rfl; (with_reducible repeat (first | refine blk_drewN ?_ _ | refine blk_drew ?_ | refine blk_alloc ?_ _)); refine blk_put (cs := #[.int .i64 (wrap64 (1 + (wrap64 (Int.tmod a5 8)))), .int .u64 0, .int .i64 0, .int .i64 0, .int .u32 0, .slice none 0 0, .slice none 0 0]) ?_ 1 _ rfl; (with_reducible repeat (first | refine blk_drewN ?_ _ | refine blk_drew ?_ | refine blk_alloc ?_ _)); refine blk_put (cs := #[.int .i64 0, .int .u64 0, .int .i64 0, .int .i64 0, .int .u32 0, .slice none 0 0, .slice none 0 0]) ?_ 0 _ rfl; (with_reducible repeat (first | refine blk_drewN ?_ _ | refine blk_drew ?_ | refine blk_alloc ?_ _)); exact BK102.out⟩, ⟨by repeat (first | (with_reducible first | exact HB.out | apply below_alloc | apply pw_below_drewN | apply below_drew1 | refine below_set ?_ GE101.out | refine below_set ?_ GE102.out) | exact HB.out)⟩⟩
 case rest =>
  clear HC7
  try clear c1
  try clear p1
  try clear q1
  try clear hx1
  try clear p2
  try clear c4
  try clear p6
  try clear c9
  try clear c10
  try clear p10
  try clear q10
  try clear hx10
  try clear c12
  try clear c12b0
  try clear c12b1
  try clear c13
  try clear c13b0
  try clear c14
  try clear c14b0
  try clear c15
  try clear c15b0
  try clear c16
  try clear c16b0
  try clear c18
  try clear c18b0
  try clear c19
  try clear hcz11_0
  try clear hcz11_1
  try clear hcz11_2
  try clear hcz11_3
  try clear hcz11_4
  try clear hcz11_5
  try clear hcz11_6
  try clear hfz11_0
  try clear hfz11_1
  try clear hfz11_2
  try clear hfz11_3
  try clear hfz11_4
  try clear hfz11_5
  try clear hfz11_6
  try clear hx103_0
  try clear hx104_0
  try clear p103
  try clear p104
  try clear p2
  try clear p6
  try clear q103
  try clear q104
  obtain ⟨kq, x103005_6, u103005, HA, HJ6, HO_4, HO_103005, BK101, BK102, HB⟩ := hcut
  cases kq with
  | zero => exact absurd HA.out (by simp [scullerlaw13_Gram.j1])
  | succ kj6 =>
    have H := HA.out
    clear HA
    simp only [scullerlaw13_Gram.j1] at H
    have HC24 := Aside0.mk H
    clear H
    go_upto_region 7 with (fail)
    go_cut [66] (fun v66 wc => ∃ (kq : Nat) (x66_23 : Bool), v66 = .bool x66_23 ∧ Aside0 (scullerlaw13_Gram.j2 kq l4 a5 x66_23 (wrap64 (1 + (wrap64 (Int.tmod a5 8)))) a0 (wrap64 (a2)) (wrap64 (a3)) a1 x103005_6 = some (r1, r2, r3, r4, r5, r6, r7)) ∧ Aside0 (kq ≤ kj6) ∧ Aside0 (Kd.V (Kd.int .u8) 5 wc w.heap.size (fun k_ => (P4_ k_ ∨ w.heap.size ≤ k_) ∧ some k_ ≠ (u103005 : Value).ownBlock ∧ k_ ≠ gb101 ∧ k_ ≠ gb102) (.slice A4 l4.length c4) l4) ∧ Aside0 (Kd.R (Kd.int .i64) 3 wc w.heap.size (fun k_ => (w.heap.size ≤ k_)) u103005 x103005_6) ∧ Aside0 (wc.heap[gb101]? = some (.cells #[.int .i64 0, .int .u64 0, .int .i64 0, .int .i64 0, .int .u32 0, (.slice none 0 0), (.slice none 0 0)] 28 (0, 0))) ∧ Aside0 (wc.heap[gb102]? = some (.cells #[.int .i64 (wrap64 (1 + (wrap64 (Int.tmod a5 8)))), .int .u64 a0, .int .i64 (wrap64 (a2)), .int .i64 (wrap64 (a3)), .int .u32 a1, u103005, (.slice none 0 0)] 28 (0, 0))) ∧ Aside0 (Below w.heap.size w wc))
    case first =>
     have H := HC24.out
     clear HC24
     by_cases c25 : (wrap64 (1 + (wrap64 (Int.tmod a5 8)))) ≥ 2
     · rw [if_pos c25] at H
       have c25b0 : decide (2 ≤ (wrap64 (1 + (wrap64 (Int.tmod a5 8))))) = true := decide_eq_true c25
       clear c25
       (first | rw [c25b0] | (simp only [i64_w, i32_w]; rw [c25b0]) | skip)
       have H' := Aside0.mk H
       clear H
       have hnb26 := NB102_101.out
       have hnc26 := NB101_102.out
       have hcz27_0 : wc.cell? ⟨gb102, 0, none⟩ = some (.int .i64 (wrap64 (1 + (wrap64 (Int.tmod a5 8))))) := (blk_cell BK102.out 0).trans rfl
       have hcz27_1 : wc.cell? ⟨gb102, 1, none⟩ = some (.int .u64 a0) := (blk_cell BK102.out 1).trans rfl
       have hcz27_2 : wc.cell? ⟨gb102, 2, none⟩ = some (.int .i64 (wrap64 (a2))) := (blk_cell BK102.out 2).trans rfl
       have hcz27_3 : wc.cell? ⟨gb102, 3, none⟩ = some (.int .i64 (wrap64 (a3))) := (blk_cell BK102.out 3).trans rfl
       have hcz27_4 : wc.cell? ⟨gb102, 4, none⟩ = some (.int .u32 a1) := (blk_cell BK102.out 4).trans rfl
       have hcz27_5 : wc.cell? ⟨gb102, 5, none⟩ = some (u103005) := (blk_cell BK102.out 5).trans rfl
       have hcz27_6 : wc.cell? ⟨gb102, 6, none⟩ = some (.slice none 0 0) := (blk_cell BK102.out 6).trans rfl
       have hfz27_0 := blk_frozen BK102.out 0
       have hfz27_1 := blk_frozen BK102.out 1
       have hfz27_2 := blk_frozen BK102.out 2
       have hfz27_3 := blk_frozen BK102.out 3
       have hfz27_4 := blk_frozen BK102.out 4
       have hfz27_5 := blk_frozen BK102.out 5
       have hfz27_6 := blk_frozen BK102.out 6
       go_wp2
       go_meet
       case rel => exact ⟨_, (decide ((wrap64 (1 + (wrap64 (Int.tmod a5 8)))) ≤ 4)), (by first | rfl | (simp; done) | (simp [*]; done)), H', ⟨by have := HJ6.out; first | omega | exact Nat.le_refl _⟩, ⟨by (with_reducible repeat (first | apply Kd.V_alloc | apply Kd.V_drewN | apply Kd.V_drew)); exact HO_4.out⟩, ⟨by (with_reducible repeat (first | apply Kd.R_alloc | apply Kd.R_drewN | apply Kd.R_drew)); exact HO_103005.out⟩, ⟨by (with_reducible repeat (first | refine blk_drewN ?_ _ | refine blk_drew ?_ | refine blk_alloc ?_ _)); exact BK101.out⟩, ⟨by (with_reducible repeat (first | refine blk_drewN ?_ _ | refine blk_drew ?_ | refine blk_alloc ?_ _)); exact BK102.out⟩, ⟨by repeat (first | (with_reducible first | exact HB.out | apply below_alloc | apply pw_below_drewN | apply below_drew1 | refine below_set ?_ GE101.out | refine below_set ?_ GE102.out) | exact HB.out)⟩⟩
     · rw [if_neg c25] at H
       have c25b0 : decide (2 ≤ (wrap64 (1 + (wrap64 (Int.tmod a5 8))))) = false := decide_eq_false c25
       clear c25
       (first | rw [c25b0] | (simp only [i64_w, i32_w]; rw [c25b0]) | skip)
       have H' := Aside0.mk H
       clear H
       have hnb28 := NB102_101.out
       have hnc28 := NB101_102.out
       have hcz29_0 : wc.cell? ⟨gb102, 0, none⟩ = some (.int .i64 (wrap64 (1 + (wrap64 (Int.tmod a5 8))))) := (blk_cell BK102.out 0).trans rfl
       have hcz29_1 : wc.cell? ⟨gb102, 1, none⟩ = some (.int .u64 a0) := (blk_cell BK102.out 1).trans rfl
       have hcz29_2 : wc.cell? ⟨gb102, 2, none⟩ = some (.int .i64 (wrap64 (a2))) := (blk_cell BK102.out 2).trans rfl
       have hcz29_3 : wc.cell? ⟨gb102, 3, none⟩ = some (.int .i64 (wrap64 (a3))) := (blk_cell BK102.out 3).trans rfl
       have hcz29_4 : wc.cell? ⟨gb102, 4, none⟩ = some (.int .u32 a1) := (blk_cell BK102.out 4).trans rfl
       have hcz29_5 : wc.cell? ⟨gb102, 5, none⟩ = some (u103005) := (blk_cell BK102.out 5).trans rfl
       have hcz29_6 : wc.cell? ⟨gb102, 6, none⟩ = some (.slice none 0 0) := (blk_cell BK102.out 6).trans rfl
       have hfz29_0 := blk_frozen BK102.out 0
       have hfz29_1 := blk_frozen BK102.out 1
       have hfz29_2 := blk_frozen BK102.out 2
       have hfz29_3 := blk_frozen BK102.out 3
       have hfz29_4 := blk_frozen BK102.out 4
       have hfz29_5 := blk_frozen BK102.out 5
       have hfz29_6 := blk_frozen BK102.out 6
       go_wp2
       go_meet
       case rel => exact ⟨_, (false), (by first | rfl | (simp; done) | (simp [*]; done)), H', ⟨by have := HJ6.out; first | omega | exact Nat.le_refl _⟩, ⟨by (with_reducible repeat (first | apply Kd.V_alloc | apply Kd.V_drewN | apply Kd.V_drew)); exact HO_4.out⟩, ⟨by (with_reducible repeat (first | apply Kd.R_alloc | apply Kd.R_drewN | apply Kd.R_drew)); exact HO_103005.out⟩, ⟨by (with_reducible repeat (first | refine blk_drewN ?_ _ | refine blk_drew ?_ | refine blk_alloc ?_ _)); exact BK101.out⟩, ⟨by (with_reducible repeat (first | refine blk_drewN ?_ _ | refine blk_drew ?_ | refine blk_alloc ?_ _)); exact BK102.out⟩, ⟨by repeat (first | (with_reducible first | exact HB.out | apply below_alloc | apply pw_below_drewN | apply below_drew1 | refine below_set ?_ GE101.out | refine below_set ?_ GE102.out) | exact HB.out)⟩⟩
    case rest =>
     clear HC24
     try clear c1
     try clear p1
     try clear q1
     try clear hx1
     try clear c2
     try clear p2
     try clear c4
     try clear p6
     try clear c9
     try clear c10
     try clear p10
     try clear q10
     try clear hx10
     try clear c12
     try clear c12b0
     try clear c12b1
     try clear c13
     try clear c13b0
     try clear c14
     try clear c14b0
     try clear c15
     try clear c15b0
     try clear c16
     try clear c16b0
     try clear c18
     try clear c18b0
     try clear c19
     try clear c25
     try clear c25b0
     try clear c26
     try clear c28
     try clear hcz11_0
     try clear hcz11_1
     try clear hcz11_2
     try clear hcz11_3
     try clear hcz11_4
     try clear hcz11_5
     try clear hcz11_6
     try clear hcz27_0
     try clear hcz27_1
     try clear hcz27_2
     try clear hcz27_3
     try clear hcz27_4
     try clear hcz27_5
     try clear hcz27_6
     try clear hcz29_0
     try clear hcz29_1
     try clear hcz29_2
     try clear hcz29_3
     try clear hcz29_4
     try clear hcz29_5
     try clear hcz29_6
     try clear hfz11_0
     try clear hfz11_1
     try clear hfz11_2
     try clear hfz11_3
     try clear hfz11_4
     try clear hfz11_5
     try clear hfz11_6
     try clear hfz27_0
     try clear hfz27_1
     try clear hfz27_2
     try clear hfz27_3
     try clear hfz27_4
     try clear hfz27_5
     try clear hfz27_6
     try clear hfz29_0
     try clear hfz29_1
     try clear hfz29_2
     try clear hfz29_3
     try clear hfz29_4
     try clear hfz29_5
     try clear hfz29_6
     try clear hx103_0
     try clear hx104_0
     try clear p1
     try clear p10
     try clear p103
     try clear p104
     try clear p2
     try clear p6
     try clear q1
     try clear q10
     try clear q103
     try clear q104
     obtain ⟨kq, x66_23, rfl, HA, HJ23, HO_4, HO_103005, BK101, BK102, HB⟩ := hcut
     cases kq with
     | zero => exact absurd HA.out (by simp [scullerlaw13_Gram.j2])
     | succ kj23 =>
       have H := HA.out
       clear HA
       simp only [scullerlaw13_Gram.j2] at H
       by_cases c30 : x66_23 = true
       · subst c30
         have H1 : (if 0 ≤ (mn (l4.length : Int) 64) then (if (mn (l4.length : Int) 64) ≤ (l4.length : Int) then ((some (l4.take ((mn (l4.length : Int) 64) : Int).toNat : List Int)).bind fun y108 => (if ([] : List Int).length + y108.length < 140737488355328 then ((some (([] : List Int) ++ y108 : List Int)).bind fun y113 => (if a5 > 230 then (some (wrap64 (a5), a0, (-1), (wrap64 (a3)), a1, x103005_6, y113)) else (some ((wrap64 (1 + (wrap64 (Int.tmod a5 8)))), a0, (wrap64 (a2)), (wrap64 (a3)), a1, x103005_6, y113)))) else (none))) else (none)) else (none)) = some (r1, r2, r3, r4, r5, r6, r7) := by rw [if_pos rfl] at H; exact H
         clear H
         have H := H1
         clear H1
         obtain ⟨ji31, hji31⟩ : ∃ j_ : Int, (mn (l4.length : Int) 64) = j_ := ⟨_, rfl⟩
         replace H : (if 0 ≤ (ji31) then (if (ji31) ≤ (l4.length : Int) then ((some (l4.take ((ji31) : Int).toNat : List Int)).bind fun y108 => (if ([] : List Int).length + y108.length < 140737488355328 then ((some (([] : List Int) ++ y108 : List Int)).bind fun y113 => (if a5 > 230 then (some (wrap64 (a5), a0, (-1), (wrap64 (a3)), a1, x103005_6, y113)) else (some ((wrap64 (1 + (wrap64 (Int.tmod a5 8)))), a0, (wrap64 (a2)), (wrap64 (a3)), a1, x103005_6, y113)))) else (none))) else (none)) else (none)) = some (r1, r2, r3, r4, r5, r6, r7) := by first | (rw [hji31] at H; exact H) | (simp only [hji31] at H ⊢; exact H)
         have hji31_ : (if 64 < (l4.length : Int) then 64 else (l4.length : Int)) = ji31 := hji31
         by_cases c32 : 0 ≤ (ji31)
         · rw [if_pos c32] at H
           have c32b0 := eq_true c32
           have c32b1 : decide (0 ≤ (ji31)) = true := decide_eq_true c32
           clear c32
           by_cases c33 : (ji31) ≤ (l4.length : Int)
           · rw [if_pos c33] at H
             have c33b0 := eq_true c33
             have c33b1 : decide ((ji31) ≤ (l4.length : Int)) = true := decide_eq_true c33
             clear c33
             obtain ⟨y108, hy108⟩ : ∃ y_ : List Int, y_ = (l4.take ((ji31) : Int).toNat) := ⟨_, rfl⟩
             replace H : (if ([] : List Int).length + y108.length < 140737488355328 then ((some (([] : List Int) ++ y108 : List Int)).bind fun y113 => (if a5 > 230 then (some (wrap64 (a5), a0, (-1), (wrap64 (a3)), a1, x103005_6, y113)) else (some ((wrap64 (1 + (wrap64 (Int.tmod a5 8)))), a0, (wrap64 (a2)), (wrap64 (a3)), a1, x103005_6, y113)))) else (none)) = some (r1, r2, r3, r4, r5, r6, r7) := by first | (rw [hy108]; with_reducible exact H) | (have H2_ := (Option.bind_some _ _).symm.trans H; rw [hy108]; with_reducible exact H2_) | (have H2_ := (Option.bind_some _ _).symm.trans H; with_reducible exact H2_) | with_reducible exact H | (rw [hy108]; exact H) | exact H
             have Ny108 := Aside0.mk hy108
             clear hy108
             by_cases c34 : ([] : List Int).length + y108.length < 140737488355328
             · rw [if_pos c34] at H
               have LMc34 := Aside0.mk c34
               clear c34
               obtain ⟨y113, hy113⟩ : ∃ y_ : List Int, y_ = (([] : List Int) ++ y108) := ⟨_, rfl⟩
               replace H : (if a5 > 230 then (some (wrap64 (a5), a0, (-1), (wrap64 (a3)), a1, x103005_6, y113)) else (some ((wrap64 (1 + (wrap64 (Int.tmod a5 8)))), a0, (wrap64 (a2)), (wrap64 (a3)), a1, x103005_6, y113))) = some (r1, r2, r3, r4, r5, r6, r7) := by first | (rw [hy113]; with_reducible exact H) | (have H2_ := (Option.bind_some _ _).symm.trans H; rw [hy113]; with_reducible exact H2_) | (have H2_ := (Option.bind_some _ _).symm.trans H; with_reducible exact H2_) | with_reducible exact H | (rw [hy113]; exact H) | exact H
               have Ny113 := Aside0.mk hy113
               clear hy113
               by_cases c35 : a5 > 230
               · rw [if_pos c35] at H
                 have c35b0 : decide (230 < a5) = true := decide_eq_true c35
                 clear c35
                 simp only [Option.some.injEq, Prod.mk.injEq] at H
                 obtain ⟨rfl, rfl, rfl, rfl, rfl, rfl, rfl⟩ := H
                 try go_wp2
                 have n0_ := Aside0.mk (Kd.V_drew HO_4.out)
                 have n1_ := Aside0.mk (Kd.R_drew HO_103005.out)
                 have n2_ := Aside0.mk (blk_drew BK101.out)
                 have n3_ := Aside0.mk (blk_drew BK102.out)
                 have n4_ := Aside0.mk (below_drew1 HB.out)
                 clear HO_4
                 clear HO_103005
                 clear BK101
                 clear BK102
                 clear HB
                 have HO_4 := n0_
                 have HO_103005 := n1_
                 have BK101 := n2_
                 have BK102 := n3_
                 have HB := n4_
                 clear n0_ n1_ n2_ n3_ n4_
                 have q37 : ((ji31) : Int) ≤ ((l4.length : Int) : Int) := of_decide_eq_true (by first | (with_reducible assumption) | assumption)
                 obtain ⟨i037, hi037, _, hsz37, _⟩ := info_parts info5
                 have hroom37 : l4.length ≤ c4 := (Kd.V_reads' HO_4.out).2.1
                 have hC37 : Kd.F (Kd.int .u8) _ _ A4 l4.length l4 := (Kd.V_at (base := w.heap.size) HO_4.out).2.2
                 have hcut37 := cut_to (P := Try.prog) 25 5 .i64 Try.underlying25 hi037 A4 l4.length c4 (ji31) (of_decide_eq_true (by first | (with_reducible assumption) | assumption)) q37 hroom37
                 have hr37 := Kd.F_take (m := ((ji31) : Int).toNat) hC37 (by omega)
                 have hy37 : y108.length = ((ji31) : Int).toNat := (by rw [Ny108.out, List.length_take]; omega)
                 rw [← Ny108.out] at hr37
                 rw [← hy37] at hcut37
                 have HO112 := Aside0.mk (show Kd.V (Kd.int .u8) 5 _ w.heap.size _ (.slice A4 y108.length c4) y108 from Kd.V_mk (by omega) hr37)
                 have HC112 := Aside0.mk (show y108.length ≤ c4 from by omega)
                 clear hr37 hC37 hroom37 hi037 hsz37
                 have KY37 := Aside0.mk hy37
                 clear hy37
                 replace q37 := eq_true q37
                 refine start_ (n := 10) (S := fun w' => w'.cell? ⟨gb102, 0, none⟩ = some (.int .i64 (wrap64 (1 + (wrap64 (Int.tmod a5 8))))) ∧ w'.cell? ⟨gb102, 1, none⟩ = some (.int .u64 a0) ∧ w'.cell? ⟨gb102, 2, none⟩ = some (.int .i64 (wrap64 (a2))) ∧ w'.cell? ⟨gb102, 3, none⟩ = some (.int .i64 (wrap64 (a3))) ∧ w'.cell? ⟨gb102, 4, none⟩ = some (.int .u32 a1) ∧ w'.cell? ⟨gb102, 5, none⟩ = some (u103005) ∧ w'.cell? ⟨gb102, 6, none⟩ = some (.slice none 0 0)) (ds := [9]) #[false, false, false, false, false, false, false, false, false, false] (by kernel_rfl) rfl rfl ⟨(blk_cell BK102.out 0).trans rfl, (blk_cell BK102.out 1).trans rfl, (blk_cell BK102.out 2).trans rfl, (blk_cell BK102.out 3).trans rfl, (blk_cell BK102.out 4).trans rfl, (blk_cell BK102.out 5).trans rfl, (blk_cell BK102.out 6).trans rfl⟩ (fun hHeld => ?_); refine with_tabW scullerlaw13_Gram.tab8 scullerlaw13_Gram.bits8 (fun HT_ HW_ => ?_)
                 generalize wc.drew = w36 at HO_4 HO_103005 BK101 BK102 HB HO112 hHeld ⊢
                 refine pure_ (i := 0) (N := some 67) (v := ?_) (a' := ?_) #[true, false, false, false, false, false, false, false, false, false] rfl rfl (any_of HT_.out (by kernel_rfl)) (fun _ _ _ h => h) (Or.inl ⟨by rfl, ?_⟩) ?_ ?_
                 rotate_left
                 · intro w'
                   go_simp
                   with_reducible rfl
                 rotate_left
                 · simp only [Act.put, List.setIfInBounds_toArray, List.set_cons_zero, List.set_cons_succ, i64_w, i32_w]
                   rfl
                 refine pure_ (i := 2) (N := some 69) (v := ?_) (a' := ?_) #[true, false, true, false, false, false, false, false, false, false] rfl rfl (any_of HT_.out (by kernel_rfl)) (fun _ _ _ h => h) (Or.inl ⟨by rfl, ?_⟩) ?_ ?_
                 rotate_left
                 · intro w'
                   go_simp
                   with_reducible rfl
                 rotate_left
                 · simp only [Act.put, List.setIfInBounds_toArray, List.set_cons_zero, List.set_cons_succ, i64_w, i32_w]
                   rfl
                 refine pure_ (i := 3) (N := some 70) (v := ?_) (a' := ?_) #[true, false, true, true, false, false, false, false, false, false] rfl rfl (any_of HT_.out (by kernel_rfl)) (fun _ _ _ h => h) (Or.inl ⟨by rfl, ?_⟩) ?_ ?_
                 rotate_left
                 · intro w'
                   go_simp
                   with_reducible rfl
                 rotate_left
                 · simp only [Act.put, List.setIfInBounds_toArray, List.set_cons_zero, List.set_cons_succ, i64_w, i32_w]
                   rfl
                 refine pure_ (i := 4) (N := some 71) (v := ?_) (a' := ?_) #[true, false, true, true, true, false, false, false, false, false] rfl rfl (any_of HT_.out (by kernel_rfl)) (fun _ _ _ h => h) (Or.inl ⟨by rfl, ?_⟩) ?_ ?_
                 rotate_left
                 · intro w'
                   go_simp
                   with_reducible rfl
                 rotate_left
                 · simp only [Act.put, List.setIfInBounds_toArray, List.set_cons_zero, List.set_cons_succ, i64_w, i32_w]
                   rfl
                 refine pure_ (i := 5) (N := some 72) (v := ?_) (a' := ?_) #[true, false, true, true, true, true, false, false, false, false] rfl rfl (any_of HT_.out (by kernel_rfl)) (fun _ _ _ h => h) (Or.inl ⟨by rfl, ?_⟩) ?_ ?_
                 rotate_left
                 · intro w'
                   go_simp
                   with_reducible rfl
                 rotate_left
                 · simp only [Act.put, List.setIfInBounds_toArray, List.set_cons_zero, List.set_cons_succ, i64_w, i32_w]
                   rfl
                 refine pure_ (i := 6) (N := some 73) (v := ?_) (a' := ?_) #[true, false, true, true, true, true, true, false, false, false] rfl rfl (any_of HT_.out (by kernel_rfl)) (fun _ _ _ h => h) (Or.inl ⟨by rfl, ?_⟩) ?_ ?_
                 rotate_left
                 · intro w'
                   go_simp
                   with_reducible rfl
                 rotate_left
                 · simp only [Act.put, List.setIfInBounds_toArray, List.set_cons_zero, List.set_cons_succ, i64_w, i32_w]
                   rfl
                 refine take_ (i := 1) (N := some 68) (v := ?_) (a' := ?_) #[true, true, true, true, true, true, true, false, false, false] rfl rfl (take_ofW HT_.out HW_.out (by kernel_rfl)) (fun _ _ _ h => h) (Or.inl ⟨by rfl, ?_⟩) hHeld ?_ ?_
                 rotate_left
                 · rintro w' ⟨s0, s1, s2, s3, s4, s5, s6⟩
                   go_simp
                   with_reducible rfl
                 rotate_left
                 · simp only [Act.put, List.setIfInBounds_toArray, List.set_cons_zero, List.set_cons_succ, i64_w, i32_w]
                   rfl
                 refine one_ (i := 7) (N := some 74) #[true, true, true, true, true, true, true, true, false, false] rfl rfl (one_of HT_.out (by kernel_rfl)) (by decide) (fun K hK => ?_)
                 refine Kd.R_append_rows_step (Kd.int .u8) (w0 := w) w.heap.size (by rfl) (.tmp 68) (.tmp 73) 25 5 (.int .u8 0) 1 rfl Try.underlying25 info5 rfl (by decide) (by omega) (.slice none 0 0) ([] : List Int) y108 _ _ _ (fun k_ => (w.heap.size ≤ k_)) (fun _ => False) rfl rfl ?aO ?aR (fun _ _ h => h) (fun _ h => h.elim) ?aF ?aB ?aS ?aL ?_
                 (case aR => repeat (first | exact (Kd.V_reads' HO112.out).2.2 | (with_reducible refine Kd.C_alloc ?_ _) | (with_reducible refine Kd.C_drewN ?_ _) | (with_reducible refine Kd.C_drew ?_)))
                 (case aB => exact (by repeat (first | (with_reducible first | exact HB.out | apply below_alloc | apply pw_below_drewN | apply below_drew1 | refine below_set ?_ GE101.out | refine below_set ?_ GE102.out) | exact HB.out)))
                 (case aF => exact (fun k_ hk => (Nat.le_trans (below_size (by repeat (first | (with_reducible first | exact HB.out | apply below_alloc | apply pw_below_drewN | apply below_drew1 | refine below_set ?_ GE101.out | refine below_set ?_ GE102.out) | exact HB.out))) hk)))
                 (case aO => exact ((Kd.R_nil _ _ _ _ (fun k_ => (w.heap.size ≤ k_)))))
                 (case aS => exact (below_size (by repeat (first | (with_reducible first | exact HB.out | apply below_alloc | apply pw_below_drewN | apply below_drew1 | refine below_set ?_ GE101.out | refine below_set ?_ GE102.out) | exact HB.out))))
                 (case aL => have := LMc34.out; omega)
                 intro v114 w38 ho hb hg hat
                 rw [← Ny113.out] at ho
                 have n0_ := Aside0.mk (Kd.V_afterv (Kd.V_apart_nil (by (with_reducible repeat (first | apply Kd.V_alloc | apply Kd.V_drewN | apply Kd.V_drew)); exact HO_4.out)) hg hat)
                 have n1_ := Aside0.mk (Kd.R_grown (by (with_reducible repeat (first | apply Kd.R_alloc | apply Kd.R_drewN | apply Kd.R_drew)); exact HO_103005.out) hg (fun _ _ => by simp [Value.ownBlock]))
                 have n2_ := Aside0.mk (blk_grown (g := gb101) (o := .cells #[.int .i64 0, .int .u64 0, .int .i64 0, .int .i64 0, .int .u32 0, .slice none 0 0, .slice none 0 0] 28 (0, 0)) (by (with_reducible repeat (first | refine blk_drewN ?_ _ | refine blk_drew ?_ | refine blk_alloc ?_ _)); exact BK101.out) hg (by simp [Value.ownBlock]))
                 have n3_ := Aside0.mk (blk_grown (g := gb102) (o := .cells #[.int .i64 (wrap64 (1 + (wrap64 (Int.tmod a5 8)))), .int .u64 a0, .int .i64 (wrap64 (a2)), .int .i64 (wrap64 (a3)), .int .u32 a1, u103005, .slice none 0 0] 28 (0, 0)) (by (with_reducible repeat (first | refine blk_drewN ?_ _ | refine blk_drew ?_ | refine blk_alloc ?_ _)); exact BK102.out) hg (by simp [Value.ownBlock]))
                 have n4_ := Aside0.mk (Kd.V_afterv (Kd.V_apart_nil (by (with_reducible repeat (first | apply Kd.V_alloc | apply Kd.V_drewN | apply Kd.V_drew)); exact HO112.out)) hg hat)
                 have n5_ := Aside0.mk (hb)
                 have n6_ := Aside0.mk (ho)
                 clear HO_4
                 clear HO_103005
                 clear BK101
                 clear BK102
                 clear HO112
                 clear HB
                 have HO_4 := n0_
                 have HO_103005 := n1_
                 have BK101 := n2_
                 have BK102 := n3_
                 have HO112 := n4_
                 have HB := n5_
                 have HO115 := n6_
                 clear n0_ n1_ n2_ n3_ n4_ n5_ n6_
                 clear ho hb hg hat
                 obtain ⟨Ao39, co39, eo39⟩ := Kd.R_slice HO115.out
                 (first | subst eo39 | (injection eo39 with f1_ f2_ f3_; have f4_ := f1_.symm; have f5_ := f3_.symm; clear f1_ f2_ f3_; subst f4_; subst f5_))
                 refine hK.out _ _ ⟨(blk_cell BK102.out 0).trans rfl, (blk_cell BK102.out 1).trans rfl, (blk_cell BK102.out 2).trans rfl, (blk_cell BK102.out 3).trans rfl, (blk_cell BK102.out 4).trans rfl, (blk_cell BK102.out 5).trans rfl, (blk_cell BK102.out 6).trans rfl⟩ (fun hHeld => ?_)
                 clear hK K
                 refine norm_ (a' := ?_) ?_ ?_
                 rotate_left
                 · show Act.put _ (some 74) _ = _
                   simp only [Act.put, List.setIfInBounds_toArray, List.set_cons_zero, List.set_cons_succ, i64_w, i32_w]
                   rfl
                 refine pure_ (i := 8) (N := some 75) (v := ?_) (a' := ?_) #[true, true, true, true, true, true, true, true, true, false] rfl rfl (any_of HT_.out (by kernel_rfl)) (fun _ _ _ h => h) (Or.inl ⟨by rfl, ?_⟩) ?_ ?_
                 rotate_left
                 · intro w'
                   go_simp
                   with_reducible rfl
                 rotate_left
                 · simp only [Act.put, List.setIfInBounds_toArray, List.set_cons_zero, List.set_cons_succ, i64_w, i32_w]
                   rfl
                 refine last_ (i := 9) (N := none) #[true, true, true, true, true, true, true, true, true, true] rfl rfl (one_of HT_.out (by kernel_rfl)) (by decide) (fun K hK => ?_)
                 have hs40 : w38.cell? ⟨gb102, 6, none⟩ = some (.slice none 0 0) := (blk_cell BK102.out 6).trans rfl
                 have hfs40 := blk_frozen BK102.out 6
                 have hns40_0 := NB101_102.out
                 have hms40_0 := NB102_101.out
                 refine skip_ (w1 := ?_) (by rfl) rfl ?_ ?_
                 rotate_left
                 · go_simp
                   rfl
                 refine hK.out _ _ ?_
                 clear hK K
                 refine done_ (done_of HT_.out (by kernel_rfl)) ?_
                 have hnb41 := NB102_101.out
                 have hnc41 := NB101_102.out
                 have hcz42_0 : w38.cell? ⟨gb102, 0, none⟩ = some (.int .i64 (wrap64 (1 + (wrap64 (Int.tmod a5 8))))) := (blk_cell BK102.out 0).trans rfl
                 have hcz42_1 : w38.cell? ⟨gb102, 1, none⟩ = some (.int .u64 a0) := (blk_cell BK102.out 1).trans rfl
                 have hcz42_2 : w38.cell? ⟨gb102, 2, none⟩ = some (.int .i64 (wrap64 (a2))) := (blk_cell BK102.out 2).trans rfl
                 have hcz42_3 : w38.cell? ⟨gb102, 3, none⟩ = some (.int .i64 (wrap64 (a3))) := (blk_cell BK102.out 3).trans rfl
                 have hcz42_4 : w38.cell? ⟨gb102, 4, none⟩ = some (.int .u32 a1) := (blk_cell BK102.out 4).trans rfl
                 have hcz42_5 : w38.cell? ⟨gb102, 5, none⟩ = some (u103005) := (blk_cell BK102.out 5).trans rfl
                 have hcz42_6 : w38.cell? ⟨gb102, 6, none⟩ = some (.slice none 0 0) := (blk_cell BK102.out 6).trans rfl
                 have hfz42_0 := blk_frozen BK102.out 0
                 have hfz42_1 := blk_frozen BK102.out 1
                 have hfz42_2 := blk_frozen BK102.out 2
                 have hfz42_3 := blk_frozen BK102.out 3
                 have hfz42_4 := blk_frozen BK102.out 4
                 have hfz42_5 := blk_frozen BK102.out 5
                 have hfz42_6 := blk_frozen BK102.out 6
                 have hcz43_0 : w38.cell? ⟨gb101, 0, none⟩ = some (.int .i64 0) := (blk_cell BK101.out 0).trans rfl
                 have hcz43_1 : w38.cell? ⟨gb101, 1, none⟩ = some (.int .u64 0) := (blk_cell BK101.out 1).trans rfl
                 have hcz43_2 : w38.cell? ⟨gb101, 2, none⟩ = some (.int .i64 0) := (blk_cell BK101.out 2).trans rfl
                 have hcz43_3 : w38.cell? ⟨gb101, 3, none⟩ = some (.int .i64 0) := (blk_cell BK101.out 3).trans rfl
                 have hcz43_4 : w38.cell? ⟨gb101, 4, none⟩ = some (.int .u32 0) := (blk_cell BK101.out 4).trans rfl
                 have hcz43_5 : w38.cell? ⟨gb101, 5, none⟩ = some (.slice none 0 0) := (blk_cell BK101.out 5).trans rfl
                 have hcz43_6 : w38.cell? ⟨gb101, 6, none⟩ = some (.slice none 0 0) := (blk_cell BK101.out 6).trans rfl
                 have hfz43_0 := blk_frozen BK101.out 0
                 have hfz43_1 := blk_frozen BK101.out 1
                 have hfz43_2 := blk_frozen BK101.out 2
                 have hfz43_3 := blk_frozen BK101.out 3
                 have hfz43_4 := blk_frozen BK101.out 4
                 have hfz43_5 := blk_frozen BK101.out 5
                 have hfz43_6 := blk_frozen BK101.out 6
                 obtain ⟨Ao44, co44, eo44⟩ := Kd.R_slice HO_103005.out
                 subst eo44
                 try go_wp2
                 refine bodyPost_ret (results_cell_row rfl _ _ gb101 28 #[.int .i64 (wrap64 (a5)), .int .u64 a0, .int .i64 (-1), .int .i64 (wrap64 (a3)), .int .u32 a1, .slice Ao44 x103005_6.length co44, .slice Ao39 y113.length co39] (0, 0) _ rfl (by (with_reducible repeat (first | refine blk_drewN ?_ _ | refine blk_drew ?_ | refine blk_alloc ?_ _)); refine blk_put (cs := #[.int .i64 (wrap64 (a5)), .int .u64 a0, .int .i64 (-1), .int .i64 (wrap64 (a3)), .int .u32 a1, .slice Ao44 x103005_6.length co44, .slice none 0 0]) ?_ 6 _ rfl; (with_reducible repeat (first | refine blk_drewN ?_ _ | refine blk_drew ?_ | refine blk_alloc ?_ _)); refine blk_put (cs := #[.int .i64 (wrap64 (a5)), .int .u64 a0, .int .i64 (-1), .int .i64 (wrap64 (a3)), .int .u32 a1, .slice none 0 0, .slice none 0 0]) ?_ 5 _ rfl; (with_reducible repeat (first | refine blk_drewN ?_ _ | refine blk_drew ?_ | refine blk_alloc ?_ _)); refine blk_put (cs := #[.int .i64 (wrap64 (a5)), .int .u64 a0, .int .i64 (-1), .int .i64 (wrap64 (a3)), .int .u32 0, .slice none 0 0, .slice none 0 0]) ?_ 4 _ rfl; (with_reducible repeat (first | refine blk_drewN ?_ _ | refine blk_drew ?_ | refine blk_alloc ?_ _)); refine blk_put (cs := #[.int .i64 (wrap64 (a5)), .int .u64 a0, .int .i64 (-1), .int .i64 0, .int .u32 0, .slice none 0 0, .slice none 0 0]) ?_ 3 _ rfl; (with_reducible repeat (first | refine blk_drewN ?_ _ | refine blk_drew ?_ | refine blk_alloc ?_ _)); refine blk_put (cs := #[.int .i64 (wrap64 (a5)), .int .u64 a0, .int .i64 0, .int .i64 0, .int .u32 0, .slice none 0 0, .slice none 0 0]) ?_ 2 _ rfl; (with_reducible repeat (first | refine blk_drewN ?_ _ | refine blk_drew ?_ | refine blk_alloc ?_ _)); refine blk_put (cs := #[.int .i64 (wrap64 (a5)), .int .u64 0, .int .i64 0, .int .i64 0, .int .u32 0, .slice none 0 0, .slice none 0 0]) ?_ 1 _ rfl; (with_reducible repeat (first | refine blk_drewN ?_ _ | refine blk_drew ?_ | refine blk_alloc ?_ _)); refine blk_put (cs := #[.int .i64 0, .int .u64 0, .int .i64 0, .int .i64 0, .int .u32 0, .slice none 0 0, .slice none 0 0]) ?_ 0 _ rfl; (with_reducible repeat (first | refine blk_drewN ?_ _ | refine blk_drew ?_ | refine blk_alloc ?_ _)); refine blk_far ?_ NB101_102.out _; (with_reducible repeat (first | refine blk_drewN ?_ _ | refine blk_drew ?_ | refine blk_alloc ?_ _)); refine blk_far ?_ NB101_102.out _; (with_reducible repeat (first | refine blk_drewN ?_ _ | refine blk_drew ?_ | refine blk_alloc ?_ _)); refine blk_far ?_ NB101_102.out _; (with_reducible repeat (first | refine blk_drewN ?_ _ | refine blk_drew ?_ | refine blk_alloc ?_ _)); exact BK101.out) Try.underlying28 rfl (by kernel_rfl)) rfl ?_
                 exact ⟨_, _, by first | rfl | (simp [errW_none, errW_some] <;> rfl) | (simp only [← hji31]; first | rfl | (simp [errW_none, errW_some] <;> rfl)) | (simp [*, errW_none, errW_some] <;> rfl), by (with_reducible repeat (first | apply Kd.R_alloc | apply Kd.R_drewN | apply Kd.R_drew)); exact Kd.R_mono (Kd.R_far (p := ⟨gb101, 6, none⟩) (Kd.R_far (p := ⟨gb101, 5, none⟩) (Kd.R_far (p := ⟨gb101, 4, none⟩) (Kd.R_far (p := ⟨gb101, 3, none⟩) (Kd.R_far (p := ⟨gb101, 2, none⟩) (Kd.R_far (p := ⟨gb101, 1, none⟩) (Kd.R_far (p := ⟨gb101, 0, none⟩) (Kd.R_far (p := ⟨gb102, 2, none⟩) (Kd.R_far (p := ⟨gb102, 0, none⟩) (Kd.R_far (p := ⟨gb102, 6, none⟩) (Kd.R_types (Kd.R_types HO_103005.out BK102.out (by decide)) BK101.out (by decide)) (fun _ hk => hk.1.2) (.slice Ao39 y113.length co39)) (fun _ hk => hk.1.2) (.int .i64 (wrap64 (a5)))) (fun _ hk => hk.1.2) (.int .i64 (-1))) (fun _ hk => hk.2) (.int .i64 (wrap64 (a5)))) (fun _ hk => hk.2) (.int .u64 a0)) (fun _ hk => hk.2) (.int .i64 (-1))) (fun _ hk => hk.2) (.int .i64 (wrap64 (a3)))) (fun _ hk => hk.2) (.int .u32 a1)) (fun _ hk => hk.2) (.slice Ao44 x103005_6.length co44)) (fun _ hk => hk.2) (.slice Ao39 y113.length co39)) (fun _ hk => hk.1.1), by (with_reducible repeat (first | apply Kd.R_alloc | apply Kd.R_drewN | apply Kd.R_drew)); exact Kd.R_mono (Kd.R_far (p := ⟨gb101, 6, none⟩) (Kd.R_far (p := ⟨gb101, 5, none⟩) (Kd.R_far (p := ⟨gb101, 4, none⟩) (Kd.R_far (p := ⟨gb101, 3, none⟩) (Kd.R_far (p := ⟨gb101, 2, none⟩) (Kd.R_far (p := ⟨gb101, 1, none⟩) (Kd.R_far (p := ⟨gb101, 0, none⟩) (Kd.R_far (p := ⟨gb102, 2, none⟩) (Kd.R_far (p := ⟨gb102, 0, none⟩) (Kd.R_far (p := ⟨gb102, 6, none⟩) (Kd.R_types (Kd.R_types HO115.out BK102.out (by decide)) BK101.out (by decide)) (fun _ hk => hk.1.2) (.slice Ao39 y113.length co39)) (fun _ hk => hk.1.2) (.int .i64 (wrap64 (a5)))) (fun _ hk => hk.1.2) (.int .i64 (-1))) (fun _ hk => hk.2) (.int .i64 (wrap64 (a5)))) (fun _ hk => hk.2) (.int .u64 a0)) (fun _ hk => hk.2) (.int .i64 (-1))) (fun _ hk => hk.2) (.int .i64 (wrap64 (a3)))) (fun _ hk => hk.2) (.int .u32 a1)) (fun _ hk => hk.2) (.slice Ao44 x103005_6.length co44)) (fun _ hk => hk.2) (.slice Ao39 y113.length co39)) (fun _ hk => hk.1.1), by repeat (first | (with_reducible first | exact HB.out | apply below_alloc | apply pw_below_drewN | apply below_drew1 | refine below_set ?_ GE101.out | refine below_set ?_ GE102.out) | exact HB.out)⟩
               · rw [if_neg c35] at H
                 have c35b0 : decide (230 < a5) = false := decide_eq_false c35
                 clear c35
                 simp only [Option.some.injEq, Prod.mk.injEq] at H
                 obtain ⟨rfl, rfl, rfl, rfl, rfl, rfl, rfl⟩ := H
                 try go_wp2
                 have n0_ := Aside0.mk (Kd.V_drew HO_4.out)
                 have n1_ := Aside0.mk (Kd.R_drew HO_103005.out)
                 have n2_ := Aside0.mk (blk_drew BK101.out)
                 have n3_ := Aside0.mk (blk_drew BK102.out)
                 have n4_ := Aside0.mk (below_drew1 HB.out)
                 clear HO_4
                 clear HO_103005
                 clear BK101
                 clear BK102
                 clear HB
                 have HO_4 := n0_
                 have HO_103005 := n1_
                 have BK101 := n2_
                 have BK102 := n3_
                 have HB := n4_
                 clear n0_ n1_ n2_ n3_ n4_
                 have q46 : ((ji31) : Int) ≤ ((l4.length : Int) : Int) := of_decide_eq_true (by first | (with_reducible assumption) | assumption)
                 obtain ⟨i046, hi046, _, hsz46, _⟩ := info_parts info5
                 have hroom46 : l4.length ≤ c4 := (Kd.V_reads' HO_4.out).2.1
                 have hC46 : Kd.F (Kd.int .u8) _ _ A4 l4.length l4 := (Kd.V_at (base := w.heap.size) HO_4.out).2.2
                 have hcut46 := cut_to (P := Try.prog) 25 5 .i64 Try.underlying25 hi046 A4 l4.length c4 (ji31) (of_decide_eq_true (by first | (with_reducible assumption) | assumption)) q46 hroom46
                 have hr46 := Kd.F_take (m := ((ji31) : Int).toNat) hC46 (by omega)
                 have hy46 : y108.length = ((ji31) : Int).toNat := (by rw [Ny108.out, List.length_take]; omega)
                 rw [← Ny108.out] at hr46
                 rw [← hy46] at hcut46
                 have HO112 := Aside0.mk (show Kd.V (Kd.int .u8) 5 _ w.heap.size _ (.slice A4 y108.length c4) y108 from Kd.V_mk (by omega) hr46)
                 have HC112 := Aside0.mk (show y108.length ≤ c4 from by omega)
                 clear hr46 hC46 hroom46 hi046 hsz46
                 have KY46 := Aside0.mk hy46
                 clear hy46
                 replace q46 := eq_true q46
                 refine start_ (n := 10) (S := fun w' => w'.cell? ⟨gb102, 0, none⟩ = some (.int .i64 (wrap64 (1 + (wrap64 (Int.tmod a5 8))))) ∧ w'.cell? ⟨gb102, 1, none⟩ = some (.int .u64 a0) ∧ w'.cell? ⟨gb102, 2, none⟩ = some (.int .i64 (wrap64 (a2))) ∧ w'.cell? ⟨gb102, 3, none⟩ = some (.int .i64 (wrap64 (a3))) ∧ w'.cell? ⟨gb102, 4, none⟩ = some (.int .u32 a1) ∧ w'.cell? ⟨gb102, 5, none⟩ = some (u103005) ∧ w'.cell? ⟨gb102, 6, none⟩ = some (.slice none 0 0)) (ds := [9]) #[false, false, false, false, false, false, false, false, false, false] (by kernel_rfl) rfl rfl ⟨(blk_cell BK102.out 0).trans rfl, (blk_cell BK102.out 1).trans rfl, (blk_cell BK102.out 2).trans rfl, (blk_cell BK102.out 3).trans rfl, (blk_cell BK102.out 4).trans rfl, (blk_cell BK102.out 5).trans rfl, (blk_cell BK102.out 6).trans rfl⟩ (fun hHeld => ?_); refine with_tabW scullerlaw13_Gram.tab8 scullerlaw13_Gram.bits8 (fun HT_ HW_ => ?_)
                 generalize wc.drew = w45 at HO_4 HO_103005 BK101 BK102 HB HO112 hHeld ⊢
                 refine pure_ (i := 0) (N := some 67) (v := ?_) (a' := ?_) #[true, false, false, false, false, false, false, false, false, false] rfl rfl (any_of HT_.out (by kernel_rfl)) (fun _ _ _ h => h) (Or.inl ⟨by rfl, ?_⟩) ?_ ?_
                 rotate_left
                 · intro w'
                   go_simp
                   with_reducible rfl
                 rotate_left
                 · simp only [Act.put, List.setIfInBounds_toArray, List.set_cons_zero, List.set_cons_succ, i64_w, i32_w]
                   rfl
                 refine pure_ (i := 2) (N := some 69) (v := ?_) (a' := ?_) #[true, false, true, false, false, false, false, false, false, false] rfl rfl (any_of HT_.out (by kernel_rfl)) (fun _ _ _ h => h) (Or.inl ⟨by rfl, ?_⟩) ?_ ?_
                 rotate_left
                 · intro w'
                   go_simp
                   with_reducible rfl
                 rotate_left
                 · simp only [Act.put, List.setIfInBounds_toArray, List.set_cons_zero, List.set_cons_succ, i64_w, i32_w]
                   rfl
                 refine pure_ (i := 3) (N := some 70) (v := ?_) (a' := ?_) #[true, false, true, true, false, false, false, false, false, false] rfl rfl (any_of HT_.out (by kernel_rfl)) (fun _ _ _ h => h) (Or.inl ⟨by rfl, ?_⟩) ?_ ?_
                 rotate_left
                 · intro w'
                   go_simp
                   with_reducible rfl
                 rotate_left
                 · simp only [Act.put, List.setIfInBounds_toArray, List.set_cons_zero, List.set_cons_succ, i64_w, i32_w]
                   rfl
                 refine pure_ (i := 4) (N := some 71) (v := ?_) (a' := ?_) #[true, false, true, true, true, false, false, false, false, false] rfl rfl (any_of HT_.out (by kernel_rfl)) (fun _ _ _ h => h) (Or.inl ⟨by rfl, ?_⟩) ?_ ?_
                 rotate_left
                 · intro w'
                   go_simp
                   with_reducible rfl
                 rotate_left
                 · simp only [Act.put, List.setIfInBounds_toArray, List.set_cons_zero, List.set_cons_succ, i64_w, i32_w]
                   rfl
                 refine pure_ (i := 5) (N := some 72) (v := ?_) (a' := ?_) #[true, false, true, true, true, true, false, false, false, false] rfl rfl (any_of HT_.out (by kernel_rfl)) (fun _ _ _ h => h) (Or.inl ⟨by rfl, ?_⟩) ?_ ?_
                 rotate_left
                 · intro w'
                   go_simp
                   with_reducible rfl
                 rotate_left
                 · simp only [Act.put, List.setIfInBounds_toArray, List.set_cons_zero, List.set_cons_succ, i64_w, i32_w]
                   rfl
                 refine pure_ (i := 6) (N := some 73) (v := ?_) (a' := ?_) #[true, false, true, true, true, true, true, false, false, false] rfl rfl (any_of HT_.out (by kernel_rfl)) (fun _ _ _ h => h) (Or.inl ⟨by rfl, ?_⟩) ?_ ?_
                 rotate_left
                 · intro w'
                   go_simp
                   with_reducible rfl
                 rotate_left
                 · simp only [Act.put, List.setIfInBounds_toArray, List.set_cons_zero, List.set_cons_succ, i64_w, i32_w]
                   rfl
                 refine take_ (i := 1) (N := some 68) (v := ?_) (a' := ?_) #[true, true, true, true, true, true, true, false, false, false] rfl rfl (take_ofW HT_.out HW_.out (by kernel_rfl)) (fun _ _ _ h => h) (Or.inl ⟨by rfl, ?_⟩) hHeld ?_ ?_
                 rotate_left
                 · rintro w' ⟨s0, s1, s2, s3, s4, s5, s6⟩
                   go_simp
                   with_reducible rfl
                 rotate_left
                 · simp only [Act.put, List.setIfInBounds_toArray, List.set_cons_zero, List.set_cons_succ, i64_w, i32_w]
                   rfl
                 refine one_ (i := 7) (N := some 74) #[true, true, true, true, true, true, true, true, false, false] rfl rfl (one_of HT_.out (by kernel_rfl)) (by decide) (fun K hK => ?_)
                 refine Kd.R_append_rows_step (Kd.int .u8) (w0 := w) w.heap.size (by rfl) (.tmp 68) (.tmp 73) 25 5 (.int .u8 0) 1 rfl Try.underlying25 info5 rfl (by decide) (by omega) (.slice none 0 0) ([] : List Int) y108 _ _ _ (fun k_ => (w.heap.size ≤ k_)) (fun _ => False) rfl rfl ?aO ?aR (fun _ _ h => h) (fun _ h => h.elim) ?aF ?aB ?aS ?aL ?_
                 (case aR => repeat (first | exact (Kd.V_reads' HO112.out).2.2 | (with_reducible refine Kd.C_alloc ?_ _) | (with_reducible refine Kd.C_drewN ?_ _) | (with_reducible refine Kd.C_drew ?_)))
                 (case aB => exact (by repeat (first | (with_reducible first | exact HB.out | apply below_alloc | apply pw_below_drewN | apply below_drew1 | refine below_set ?_ GE101.out | refine below_set ?_ GE102.out) | exact HB.out)))
                 (case aF => exact (fun k_ hk => (Nat.le_trans (below_size (by repeat (first | (with_reducible first | exact HB.out | apply below_alloc | apply pw_below_drewN | apply below_drew1 | refine below_set ?_ GE101.out | refine below_set ?_ GE102.out) | exact HB.out))) hk)))
                 (case aO => exact ((Kd.R_nil _ _ _ _ (fun k_ => (w.heap.size ≤ k_)))))
                 (case aS => exact (below_size (by repeat (first | (with_reducible first | exact HB.out | apply below_alloc | apply pw_below_drewN | apply below_drew1 | refine below_set ?_ GE101.out | refine below_set ?_ GE102.out) | exact HB.out))))
                 (case aL => have := LMc34.out; omega)
                 intro v114 w47 ho hb hg hat
                 rw [← Ny113.out] at ho
                 have n0_ := Aside0.mk (Kd.V_afterv (Kd.V_apart_nil (by (with_reducible repeat (first | apply Kd.V_alloc | apply Kd.V_drewN | apply Kd.V_drew)); exact HO_4.out)) hg hat)
                 have n1_ := Aside0.mk (Kd.R_grown (by (with_reducible repeat (first | apply Kd.R_alloc | apply Kd.R_drewN | apply Kd.R_drew)); exact HO_103005.out) hg (fun _ _ => by simp [Value.ownBlock]))
                 have n2_ := Aside0.mk (blk_grown (g := gb101) (o := .cells #[.int .i64 0, .int .u64 0, .int .i64 0, .int .i64 0, .int .u32 0, .slice none 0 0, .slice none 0 0] 28 (0, 0)) (by (with_reducible repeat (first | refine blk_drewN ?_ _ | refine blk_drew ?_ | refine blk_alloc ?_ _)); exact BK101.out) hg (by simp [Value.ownBlock]))
                 have n3_ := Aside0.mk (blk_grown (g := gb102) (o := .cells #[.int .i64 (wrap64 (1 + (wrap64 (Int.tmod a5 8)))), .int .u64 a0, .int .i64 (wrap64 (a2)), .int .i64 (wrap64 (a3)), .int .u32 a1, u103005, .slice none 0 0] 28 (0, 0)) (by (with_reducible repeat (first | refine blk_drewN ?_ _ | refine blk_drew ?_ | refine blk_alloc ?_ _)); exact BK102.out) hg (by simp [Value.ownBlock]))
                 have n4_ := Aside0.mk (Kd.V_afterv (Kd.V_apart_nil (by (with_reducible repeat (first | apply Kd.V_alloc | apply Kd.V_drewN | apply Kd.V_drew)); exact HO112.out)) hg hat)
                 have n5_ := Aside0.mk (hb)
                 have n6_ := Aside0.mk (ho)
                 clear HO_4
                 clear HO_103005
                 clear BK101
                 clear BK102
                 clear HO112
                 clear HB
                 have HO_4 := n0_
                 have HO_103005 := n1_
                 have BK101 := n2_
                 have BK102 := n3_
                 have HO112 := n4_
                 have HB := n5_
                 have HO115 := n6_
                 clear n0_ n1_ n2_ n3_ n4_ n5_ n6_
                 clear ho hb hg hat
                 obtain ⟨Ao48, co48, eo48⟩ := Kd.R_slice HO115.out
                 (first | subst eo48 | (injection eo48 with f1_ f2_ f3_; have f4_ := f1_.symm; have f5_ := f3_.symm; clear f1_ f2_ f3_; subst f4_; subst f5_))
                 refine hK.out _ _ ⟨(blk_cell BK102.out 0).trans rfl, (blk_cell BK102.out 1).trans rfl, (blk_cell BK102.out 2).trans rfl, (blk_cell BK102.out 3).trans rfl, (blk_cell BK102.out 4).trans rfl, (blk_cell BK102.out 5).trans rfl, (blk_cell BK102.out 6).trans rfl⟩ (fun hHeld => ?_)
                 clear hK K
                 refine norm_ (a' := ?_) ?_ ?_
                 rotate_left
                 · show Act.put _ (some 74) _ = _
                   simp only [Act.put, List.setIfInBounds_toArray, List.set_cons_zero, List.set_cons_succ, i64_w, i32_w]
                   rfl
                 refine pure_ (i := 8) (N := some 75) (v := ?_) (a' := ?_) #[true, true, true, true, true, true, true, true, true, false] rfl rfl (any_of HT_.out (by kernel_rfl)) (fun _ _ _ h => h) (Or.inl ⟨by rfl, ?_⟩) ?_ ?_
                 rotate_left
                 · intro w'
                   go_simp
                   with_reducible rfl
                 rotate_left
                 · simp only [Act.put, List.setIfInBounds_toArray, List.set_cons_zero, List.set_cons_succ, i64_w, i32_w]
                   rfl
                 refine last_ (i := 9) (N := none) #[true, true, true, true, true, true, true, true, true, true] rfl rfl (one_of HT_.out (by kernel_rfl)) (by decide) (fun K hK => ?_)
                 have hs49 : w47.cell? ⟨gb102, 6, none⟩ = some (.slice none 0 0) := (blk_cell BK102.out 6).trans rfl
                 have hfs49 := blk_frozen BK102.out 6
                 have hns49_0 := NB101_102.out
                 have hms49_0 := NB102_101.out
                 refine skip_ (w1 := ?_) (by rfl) rfl ?_ ?_
                 rotate_left
                 · go_simp
                   rfl
                 refine hK.out _ _ ?_
                 clear hK K
                 refine done_ (done_of HT_.out (by kernel_rfl)) ?_
                 have hnb50 := NB102_101.out
                 have hnc50 := NB101_102.out
                 have hcz51_0 : w47.cell? ⟨gb102, 0, none⟩ = some (.int .i64 (wrap64 (1 + (wrap64 (Int.tmod a5 8))))) := (blk_cell BK102.out 0).trans rfl
                 have hcz51_1 : w47.cell? ⟨gb102, 1, none⟩ = some (.int .u64 a0) := (blk_cell BK102.out 1).trans rfl
                 have hcz51_2 : w47.cell? ⟨gb102, 2, none⟩ = some (.int .i64 (wrap64 (a2))) := (blk_cell BK102.out 2).trans rfl
                 have hcz51_3 : w47.cell? ⟨gb102, 3, none⟩ = some (.int .i64 (wrap64 (a3))) := (blk_cell BK102.out 3).trans rfl
                 have hcz51_4 : w47.cell? ⟨gb102, 4, none⟩ = some (.int .u32 a1) := (blk_cell BK102.out 4).trans rfl
                 have hcz51_5 : w47.cell? ⟨gb102, 5, none⟩ = some (u103005) := (blk_cell BK102.out 5).trans rfl
                 have hcz51_6 : w47.cell? ⟨gb102, 6, none⟩ = some (.slice none 0 0) := (blk_cell BK102.out 6).trans rfl
                 have hfz51_0 := blk_frozen BK102.out 0
                 have hfz51_1 := blk_frozen BK102.out 1
                 have hfz51_2 := blk_frozen BK102.out 2
                 have hfz51_3 := blk_frozen BK102.out 3
                 have hfz51_4 := blk_frozen BK102.out 4
                 have hfz51_5 := blk_frozen BK102.out 5
                 have hfz51_6 := blk_frozen BK102.out 6
                 have hcz52_0 : w47.cell? ⟨gb101, 0, none⟩ = some (.int .i64 0) := (blk_cell BK101.out 0).trans rfl
                 have hcz52_1 : w47.cell? ⟨gb101, 1, none⟩ = some (.int .u64 0) := (blk_cell BK101.out 1).trans rfl
                 have hcz52_2 : w47.cell? ⟨gb101, 2, none⟩ = some (.int .i64 0) := (blk_cell BK101.out 2).trans rfl
                 have hcz52_3 : w47.cell? ⟨gb101, 3, none⟩ = some (.int .i64 0) := (blk_cell BK101.out 3).trans rfl
                 have hcz52_4 : w47.cell? ⟨gb101, 4, none⟩ = some (.int .u32 0) := (blk_cell BK101.out 4).trans rfl
                 have hcz52_5 : w47.cell? ⟨gb101, 5, none⟩ = some (.slice none 0 0) := (blk_cell BK101.out 5).trans rfl
                 have hcz52_6 : w47.cell? ⟨gb101, 6, none⟩ = some (.slice none 0 0) := (blk_cell BK101.out 6).trans rfl
                 have hfz52_0 := blk_frozen BK101.out 0
                 have hfz52_1 := blk_frozen BK101.out 1
                 have hfz52_2 := blk_frozen BK101.out 2
                 have hfz52_3 := blk_frozen BK101.out 3
                 have hfz52_4 := blk_frozen BK101.out 4
                 have hfz52_5 := blk_frozen BK101.out 5
                 have hfz52_6 := blk_frozen BK101.out 6
                 obtain ⟨Ao53, co53, eo53⟩ := Kd.R_slice HO_103005.out
                 subst eo53
                 try go_wp2
                 refine bodyPost_ret (results_cell_row rfl _ _ gb101 28 #[.int .i64 (wrap64 (1 + (wrap64 (Int.tmod a5 8)))), .int .u64 a0, .int .i64 (wrap64 (a2)), .int .i64 (wrap64 (a3)), .int .u32 a1, .slice Ao53 x103005_6.length co53, .slice Ao48 y113.length co48] (0, 0) _ rfl (by (with_reducible repeat (first | refine blk_drewN ?_ _ | refine blk_drew ?_ | refine blk_alloc ?_ _)); refine blk_put (cs := #[.int .i64 (wrap64 (1 + (wrap64 (Int.tmod a5 8)))), .int .u64 a0, .int .i64 (wrap64 (a2)), .int .i64 (wrap64 (a3)), .int .u32 a1, .slice Ao53 x103005_6.length co53, .slice none 0 0]) ?_ 6 _ rfl; (with_reducible repeat (first | refine blk_drewN ?_ _ | refine blk_drew ?_ | refine blk_alloc ?_ _)); refine blk_put (cs := #[.int .i64 (wrap64 (1 + (wrap64 (Int.tmod a5 8)))), .int .u64 a0, .int .i64 (wrap64 (a2)), .int .i64 (wrap64 (a3)), .int .u32 a1, .slice none 0 0, .slice none 0 0]) ?_ 5 _ rfl; (with_reducible repeat (first | refine blk_drewN ?_ _ | refine blk_drew ?_ | refine blk_alloc ?_ _)); refine blk_put (cs := #[.int .i64 (wrap64 (1 + (wrap64 (Int.tmod a5 8)))), .int .u64 a0, .int .i64 (wrap64 (a2)), .int .i64 (wrap64 (a3)), .int .u32 0, .slice none 0 0, .slice none 0 0]) ?_ 4 _ rfl; (with_reducible repeat (first | refine blk_drewN ?_ _ | refine blk_drew ?_ | refine blk_alloc ?_ _)); refine blk_put (cs := #[.int .i64 (wrap64 (1 + (wrap64 (Int.tmod a5 8)))), .int .u64 a0, .int .i64 (wrap64 (a2)), .int .i64 0, .int .u32 0, .slice none 0 0, .slice none 0 0]) ?_ 3 _ rfl; (with_reducible repeat (first | refine blk_drewN ?_ _ | refine blk_drew ?_ | refine blk_alloc ?_ _)); refine blk_put (cs := #[.int .i64 (wrap64 (1 + (wrap64 (Int.tmod a5 8)))), .int .u64 a0, .int .i64 0, .int .i64 0, .int .u32 0, .slice none 0 0, .slice none 0 0]) ?_ 2 _ rfl; (with_reducible repeat (first | refine blk_drewN ?_ _ | refine blk_drew ?_ | refine blk_alloc ?_ _)); refine blk_put (cs := #[.int .i64 (wrap64 (1 + (wrap64 (Int.tmod a5 8)))), .int .u64 0, .int .i64 0, .int .i64 0, .int .u32 0, .slice none 0 0, .slice none 0 0]) ?_ 1 _ rfl; (with_reducible repeat (first | refine blk_drewN ?_ _ | refine blk_drew ?_ | refine blk_alloc ?_ _)); refine blk_put (cs := #[.int .i64 0, .int .u64 0, .int .i64 0, .int .i64 0, .int .u32 0, .slice none 0 0, .slice none 0 0]) ?_ 0 _ rfl; (with_reducible repeat (first | refine blk_drewN ?_ _ | refine blk_drew ?_ | refine blk_alloc ?_ _)); refine blk_far ?_ NB101_102.out _; (with_reducible repeat (first | refine blk_drewN ?_ _ | refine blk_drew ?_ | refine blk_alloc ?_ _)); exact BK101.out) Try.underlying28 rfl (by kernel_rfl)) rfl ?_
                 exact ⟨_, _, by first | rfl | (simp [errW_none, errW_some] <;> rfl) | (simp only [← hji31]; first | rfl | (simp [errW_none, errW_some] <;> rfl)) | (simp [*, errW_none, errW_some] <;> rfl), by (with_reducible repeat (first | apply Kd.R_alloc | apply Kd.R_drewN | apply Kd.R_drew)); exact Kd.R_mono (Kd.R_far (p := ⟨gb101, 6, none⟩) (Kd.R_far (p := ⟨gb101, 5, none⟩) (Kd.R_far (p := ⟨gb101, 4, none⟩) (Kd.R_far (p := ⟨gb101, 3, none⟩) (Kd.R_far (p := ⟨gb101, 2, none⟩) (Kd.R_far (p := ⟨gb101, 1, none⟩) (Kd.R_far (p := ⟨gb101, 0, none⟩) (Kd.R_far (p := ⟨gb102, 6, none⟩) (Kd.R_types (Kd.R_types HO_103005.out BK102.out (by decide)) BK101.out (by decide)) (fun _ hk => hk.1.2) (.slice Ao48 y113.length co48)) (fun _ hk => hk.2) (.int .i64 (wrap64 (1 + (wrap64 (Int.tmod a5 8)))))) (fun _ hk => hk.2) (.int .u64 a0)) (fun _ hk => hk.2) (.int .i64 (wrap64 (a2)))) (fun _ hk => hk.2) (.int .i64 (wrap64 (a3)))) (fun _ hk => hk.2) (.int .u32 a1)) (fun _ hk => hk.2) (.slice Ao53 x103005_6.length co53)) (fun _ hk => hk.2) (.slice Ao48 y113.length co48)) (fun _ hk => hk.1.1), by (with_reducible repeat (first | apply Kd.R_alloc | apply Kd.R_drewN | apply Kd.R_drew)); exact Kd.R_mono (Kd.R_far (p := ⟨gb101, 6, none⟩) (Kd.R_far (p := ⟨gb101, 5, none⟩) (Kd.R_far (p := ⟨gb101, 4, none⟩) (Kd.R_far (p := ⟨gb101, 3, none⟩) (Kd.R_far (p := ⟨gb101, 2, none⟩) (Kd.R_far (p := ⟨gb101, 1, none⟩) (Kd.R_far (p := ⟨gb101, 0, none⟩) (Kd.R_far (p := ⟨gb102, 6, none⟩) (Kd.R_types (Kd.R_types HO115.out BK102.out (by decide)) BK101.out (by decide)) (fun _ hk => hk.1.2) (.slice Ao48 y113.length co48)) (fun _ hk => hk.2) (.int .i64 (wrap64 (1 + (wrap64 (Int.tmod a5 8)))))) (fun _ hk => hk.2) (.int .u64 a0)) (fun _ hk => hk.2) (.int .i64 (wrap64 (a2)))) (fun _ hk => hk.2) (.int .i64 (wrap64 (a3)))) (fun _ hk => hk.2) (.int .u32 a1)) (fun _ hk => hk.2) (.slice Ao53 x103005_6.length co53)) (fun _ hk => hk.2) (.slice Ao48 y113.length co48)) (fun _ hk => hk.1.1), by repeat (first | (with_reducible first | exact HB.out | apply below_alloc | apply pw_below_drewN | apply below_drew1 | refine below_set ?_ GE101.out | refine below_set ?_ GE102.out) | exact HB.out)⟩
             · rw [if_neg c34] at H
               exact absurd H (by simp)
           · rw [if_neg c33] at H
             exact absurd H (by simp)
         · rw [if_neg c32] at H
           exact absurd H (by simp)
       · replace c30 := Bool.eq_false_iff.mpr c30
         subst c30
         have H1 : (if a5 > 230 then (some (wrap64 (a5), a0, (-1), (wrap64 (a3)), a1, x103005_6, ([] : List Int))) else (some ((wrap64 (1 + (wrap64 (Int.tmod a5 8)))), a0, (wrap64 (a2)), (wrap64 (a3)), a1, x103005_6, ([] : List Int)))) = some (r1, r2, r3, r4, r5, r6, r7) := by rw [if_neg (show ¬ (false = true) by decide)] at H; exact H
         clear H
         have H := H1
         clear H1
         by_cases c54 : a5 > 230
         · rw [if_pos c54] at H
           have c54b0 : decide (230 < a5) = true := decide_eq_true c54
           clear c54
           simp only [Option.some.injEq, Prod.mk.injEq] at H
           obtain ⟨rfl, rfl, rfl, rfl, rfl, rfl, rfl⟩ := H
           have hnb55 := NB102_101.out
           have hnc55 := NB101_102.out
           have hcz56_0 : wc.cell? ⟨gb102, 0, none⟩ = some (.int .i64 (wrap64 (1 + (wrap64 (Int.tmod a5 8))))) := (blk_cell BK102.out 0).trans rfl
           have hcz56_1 : wc.cell? ⟨gb102, 1, none⟩ = some (.int .u64 a0) := (blk_cell BK102.out 1).trans rfl
           have hcz56_2 : wc.cell? ⟨gb102, 2, none⟩ = some (.int .i64 (wrap64 (a2))) := (blk_cell BK102.out 2).trans rfl
           have hcz56_3 : wc.cell? ⟨gb102, 3, none⟩ = some (.int .i64 (wrap64 (a3))) := (blk_cell BK102.out 3).trans rfl
           have hcz56_4 : wc.cell? ⟨gb102, 4, none⟩ = some (.int .u32 a1) := (blk_cell BK102.out 4).trans rfl
           have hcz56_5 : wc.cell? ⟨gb102, 5, none⟩ = some (u103005) := (blk_cell BK102.out 5).trans rfl
           have hcz56_6 : wc.cell? ⟨gb102, 6, none⟩ = some (.slice none 0 0) := (blk_cell BK102.out 6).trans rfl
           have hfz56_0 := blk_frozen BK102.out 0
           have hfz56_1 := blk_frozen BK102.out 1
           have hfz56_2 := blk_frozen BK102.out 2
           have hfz56_3 := blk_frozen BK102.out 3
           have hfz56_4 := blk_frozen BK102.out 4
           have hfz56_5 := blk_frozen BK102.out 5
           have hfz56_6 := blk_frozen BK102.out 6
           have hcz57_0 : wc.cell? ⟨gb101, 0, none⟩ = some (.int .i64 0) := (blk_cell BK101.out 0).trans rfl
           have hcz57_1 : wc.cell? ⟨gb101, 1, none⟩ = some (.int .u64 0) := (blk_cell BK101.out 1).trans rfl
           have hcz57_2 : wc.cell? ⟨gb101, 2, none⟩ = some (.int .i64 0) := (blk_cell BK101.out 2).trans rfl
           have hcz57_3 : wc.cell? ⟨gb101, 3, none⟩ = some (.int .i64 0) := (blk_cell BK101.out 3).trans rfl
           have hcz57_4 : wc.cell? ⟨gb101, 4, none⟩ = some (.int .u32 0) := (blk_cell BK101.out 4).trans rfl
           have hcz57_5 : wc.cell? ⟨gb101, 5, none⟩ = some (.slice none 0 0) := (blk_cell BK101.out 5).trans rfl
           have hcz57_6 : wc.cell? ⟨gb101, 6, none⟩ = some (.slice none 0 0) := (blk_cell BK101.out 6).trans rfl
           have hfz57_0 := blk_frozen BK101.out 0
           have hfz57_1 := blk_frozen BK101.out 1
           have hfz57_2 := blk_frozen BK101.out 2
           have hfz57_3 := blk_frozen BK101.out 3
           have hfz57_4 := blk_frozen BK101.out 4
           have hfz57_5 := blk_frozen BK101.out 5
           have hfz57_6 := blk_frozen BK101.out 6
           obtain ⟨Ao58, co58, eo58⟩ := Kd.R_slice HO_103005.out
           subst eo58
           go_wp2
           refine bodyPost_ret (results_cell_row rfl _ _ gb101 28 #[.int .i64 (wrap64 (a5)), .int .u64 a0, .int .i64 (-1), .int .i64 (wrap64 (a3)), .int .u32 a1, .slice Ao58 x103005_6.length co58, .slice none 0 0] (0, 0) _ rfl (by (with_reducible repeat (first | refine blk_drewN ?_ _ | refine blk_drew ?_ | refine blk_alloc ?_ _)); refine blk_put (cs := #[.int .i64 (wrap64 (a5)), .int .u64 a0, .int .i64 (-1), .int .i64 (wrap64 (a3)), .int .u32 a1, .slice Ao58 x103005_6.length co58, .slice none 0 0]) ?_ 6 _ rfl; (with_reducible repeat (first | refine blk_drewN ?_ _ | refine blk_drew ?_ | refine blk_alloc ?_ _)); refine blk_put (cs := #[.int .i64 (wrap64 (a5)), .int .u64 a0, .int .i64 (-1), .int .i64 (wrap64 (a3)), .int .u32 a1, .slice none 0 0, .slice none 0 0]) ?_ 5 _ rfl; (with_reducible repeat (first | refine blk_drewN ?_ _ | refine blk_drew ?_ | refine blk_alloc ?_ _)); refine blk_put (cs := #[.int .i64 (wrap64 (a5)), .int .u64 a0, .int .i64 (-1), .int .i64 (wrap64 (a3)), .int .u32 0, .slice none 0 0, .slice none 0 0]) ?_ 4 _ rfl; (with_reducible repeat (first | refine blk_drewN ?_ _ | refine blk_drew ?_ | refine blk_alloc ?_ _)); refine blk_put (cs := #[.int .i64 (wrap64 (a5)), .int .u64 a0, .int .i64 (-1), .int .i64 0, .int .u32 0, .slice none 0 0, .slice none 0 0]) ?_ 3 _ rfl; (with_reducible repeat (first | refine blk_drewN ?_ _ | refine blk_drew ?_ | refine blk_alloc ?_ _)); refine blk_put (cs := #[.int .i64 (wrap64 (a5)), .int .u64 a0, .int .i64 0, .int .i64 0, .int .u32 0, .slice none 0 0, .slice none 0 0]) ?_ 2 _ rfl; (with_reducible repeat (first | refine blk_drewN ?_ _ | refine blk_drew ?_ | refine blk_alloc ?_ _)); refine blk_put (cs := #[.int .i64 (wrap64 (a5)), .int .u64 0, .int .i64 0, .int .i64 0, .int .u32 0, .slice none 0 0, .slice none 0 0]) ?_ 1 _ rfl; (with_reducible repeat (first | refine blk_drewN ?_ _ | refine blk_drew ?_ | refine blk_alloc ?_ _)); refine blk_put (cs := #[.int .i64 0, .int .u64 0, .int .i64 0, .int .i64 0, .int .u32 0, .slice none 0 0, .slice none 0 0]) ?_ 0 _ rfl; (with_reducible repeat (first | refine blk_drewN ?_ _ | refine blk_drew ?_ | refine blk_alloc ?_ _)); refine blk_far ?_ NB101_102.out _; (with_reducible repeat (first | refine blk_drewN ?_ _ | refine blk_drew ?_ | refine blk_alloc ?_ _)); refine blk_far ?_ NB101_102.out _; (with_reducible repeat (first | refine blk_drewN ?_ _ | refine blk_drew ?_ | refine blk_alloc ?_ _)); exact BK101.out) Try.underlying28 rfl (by kernel_rfl)) rfl ?_
           exact ⟨_, _, by first | rfl | (simp [errW_none, errW_some] <;> rfl) | (simp [*, errW_none, errW_some] <;> rfl), by (with_reducible repeat (first | apply Kd.R_alloc | apply Kd.R_drewN | apply Kd.R_drew)); exact Kd.R_mono (Kd.R_far (p := ⟨gb101, 6, none⟩) (Kd.R_far (p := ⟨gb101, 5, none⟩) (Kd.R_far (p := ⟨gb101, 4, none⟩) (Kd.R_far (p := ⟨gb101, 3, none⟩) (Kd.R_far (p := ⟨gb101, 2, none⟩) (Kd.R_far (p := ⟨gb101, 1, none⟩) (Kd.R_far (p := ⟨gb101, 0, none⟩) (Kd.R_far (p := ⟨gb102, 2, none⟩) (Kd.R_far (p := ⟨gb102, 0, none⟩) (Kd.R_types (Kd.R_types HO_103005.out BK102.out (by decide)) BK101.out (by decide)) (fun _ hk => hk.1.2) (.int .i64 (wrap64 (a5)))) (fun _ hk => hk.1.2) (.int .i64 (-1))) (fun _ hk => hk.2) (.int .i64 (wrap64 (a5)))) (fun _ hk => hk.2) (.int .u64 a0)) (fun _ hk => hk.2) (.int .i64 (-1))) (fun _ hk => hk.2) (.int .i64 (wrap64 (a3)))) (fun _ hk => hk.2) (.int .u32 a1)) (fun _ hk => hk.2) (.slice Ao58 x103005_6.length co58)) (fun _ hk => hk.2) (.slice none 0 0)) (fun _ hk => hk.1.1), by first | exact Kd.R_nil _ _ _ _ _ | exact Kd.N_nil _ _ _ _ _ | exact Kd.V_nil _ _ _ _ _ | exact Kd.Q_nil _ _ _ _ _ | exact Kd.S_nil _ _ _ _ _, by repeat (first | (with_reducible first | exact HB.out | apply below_alloc | apply pw_below_drewN | apply below_drew1 | refine below_set ?_ GE101.out | refine below_set ?_ GE102.out) | exact HB.out)⟩
         · rw [if_neg c54] at H
           have c54b0 : decide (230 < a5) = false := decide_eq_false c54
           clear c54
           simp only [Option.some.injEq, Prod.mk.injEq] at H
           obtain ⟨rfl, rfl, rfl, rfl, rfl, rfl, rfl⟩ := H
           have hnb59 := NB102_101.out
           have hnc59 := NB101_102.out
           have hcz60_0 : wc.cell? ⟨gb102, 0, none⟩ = some (.int .i64 (wrap64 (1 + (wrap64 (Int.tmod a5 8))))) := (blk_cell BK102.out 0).trans rfl
           have hcz60_1 : wc.cell? ⟨gb102, 1, none⟩ = some (.int .u64 a0) := (blk_cell BK102.out 1).trans rfl
           have hcz60_2 : wc.cell? ⟨gb102, 2, none⟩ = some (.int .i64 (wrap64 (a2))) := (blk_cell BK102.out 2).trans rfl
           have hcz60_3 : wc.cell? ⟨gb102, 3, none⟩ = some (.int .i64 (wrap64 (a3))) := (blk_cell BK102.out 3).trans rfl
           have hcz60_4 : wc.cell? ⟨gb102, 4, none⟩ = some (.int .u32 a1) := (blk_cell BK102.out 4).trans rfl
           have hcz60_5 : wc.cell? ⟨gb102, 5, none⟩ = some (u103005) := (blk_cell BK102.out 5).trans rfl
           have hcz60_6 : wc.cell? ⟨gb102, 6, none⟩ = some (.slice none 0 0) := (blk_cell BK102.out 6).trans rfl
           have hfz60_0 := blk_frozen BK102.out 0
           have hfz60_1 := blk_frozen BK102.out 1
           have hfz60_2 := blk_frozen BK102.out 2
           have hfz60_3 := blk_frozen BK102.out 3
           have hfz60_4 := blk_frozen BK102.out 4
           have hfz60_5 := blk_frozen BK102.out 5
           have hfz60_6 := blk_frozen BK102.out 6
           have hcz61_0 : wc.cell? ⟨gb101, 0, none⟩ = some (.int .i64 0) := (blk_cell BK101.out 0).trans rfl
           have hcz61_1 : wc.cell? ⟨gb101, 1, none⟩ = some (.int .u64 0) := (blk_cell BK101.out 1).trans rfl
           have hcz61_2 : wc.cell? ⟨gb101, 2, none⟩ = some (.int .i64 0) := (blk_cell BK101.out 2).trans rfl
           have hcz61_3 : wc.cell? ⟨gb101, 3, none⟩ = some (.int .i64 0) := (blk_cell BK101.out 3).trans rfl
           have hcz61_4 : wc.cell? ⟨gb101, 4, none⟩ = some (.int .u32 0) := (blk_cell BK101.out 4).trans rfl
           have hcz61_5 : wc.cell? ⟨gb101, 5, none⟩ = some (.slice none 0 0) := (blk_cell BK101.out 5).trans rfl
           have hcz61_6 : wc.cell? ⟨gb101, 6, none⟩ = some (.slice none 0 0) := (blk_cell BK101.out 6).trans rfl
           have hfz61_0 := blk_frozen BK101.out 0
           have hfz61_1 := blk_frozen BK101.out 1
           have hfz61_2 := blk_frozen BK101.out 2
           have hfz61_3 := blk_frozen BK101.out 3
           have hfz61_4 := blk_frozen BK101.out 4
           have hfz61_5 := blk_frozen BK101.out 5
           have hfz61_6 := blk_frozen BK101.out 6
           obtain ⟨Ao62, co62, eo62⟩ := Kd.R_slice HO_103005.out
           subst eo62
           go_wp2
           refine bodyPost_ret (results_cell_row rfl _ _ gb101 28 #[.int .i64 (wrap64 (1 + (wrap64 (Int.tmod a5 8)))), .int .u64 a0, .int .i64 (wrap64 (a2)), .int .i64 (wrap64 (a3)), .int .u32 a1, .slice Ao62 x103005_6.length co62, .slice none 0 0] (0, 0) _ rfl (by (with_reducible repeat (first | refine blk_drewN ?_ _ | refine blk_drew ?_ | refine blk_alloc ?_ _)); refine blk_put (cs := #[.int .i64 (wrap64 (1 + (wrap64 (Int.tmod a5 8)))), .int .u64 a0, .int .i64 (wrap64 (a2)), .int .i64 (wrap64 (a3)), .int .u32 a1, .slice Ao62 x103005_6.length co62, .slice none 0 0]) ?_ 6 _ rfl; (with_reducible repeat (first | refine blk_drewN ?_ _ | refine blk_drew ?_ | refine blk_alloc ?_ _)); refine blk_put (cs := #[.int .i64 (wrap64 (1 + (wrap64 (Int.tmod a5 8)))), .int .u64 a0, .int .i64 (wrap64 (a2)), .int .i64 (wrap64 (a3)), .int .u32 a1, .slice none 0 0, .slice none 0 0]) ?_ 5 _ rfl; (with_reducible repeat (first | refine blk_drewN ?_ _ | refine blk_drew ?_ | refine blk_alloc ?_ _)); refine blk_put (cs := #[.int .i64 (wrap64 (1 + (wrap64 (Int.tmod a5 8)))), .int .u64 a0, .int .i64 (wrap64 (a2)), .int .i64 (wrap64 (a3)), .int .u32 0, .slice none 0 0, .slice none 0 0]) ?_ 4 _ rfl; (with_reducible repeat (first | refine blk_drewN ?_ _ | refine blk_drew ?_ | refine blk_alloc ?_ _)); refine blk_put (cs := #[.int .i64 (wrap64 (1 + (wrap64 (Int.tmod a5 8)))), .int .u64 a0, .int .i64 (wrap64 (a2)), .int .i64 0, .int .u32 0, .slice none 0 0, .slice none 0 0]) ?_ 3 _ rfl; (with_reducible repeat (first | refine blk_drewN ?_ _ | refine blk_drew ?_ | refine blk_alloc ?_ _)); refine blk_put (cs := #[.int .i64 (wrap64 (1 + (wrap64 (Int.tmod a5 8)))), .int .u64 a0, .int .i64 0, .int .i64 0, .int .u32 0, .slice none 0 0, .slice none 0 0]) ?_ 2 _ rfl; (with_reducible repeat (first | refine blk_drewN ?_ _ | refine blk_drew ?_ | refine blk_alloc ?_ _)); refine blk_put (cs := #[.int .i64 (wrap64 (1 + (wrap64 (Int.tmod a5 8)))), .int .u64 0, .int .i64 0, .int .i64 0, .int .u32 0, .slice none 0 0, .slice none 0 0]) ?_ 1 _ rfl; (with_reducible repeat (first | refine blk_drewN ?_ _ | refine blk_drew ?_ | refine blk_alloc ?_ _)); refine blk_put (cs := #[.int .i64 0, .int .u64 0, .int .i64 0, .int .i64 0, .int .u32 0, .slice none 0 0, .slice none 0 0]) ?_ 0 _ rfl; (with_reducible repeat (first | refine blk_drewN ?_ _ | refine blk_drew ?_ | refine blk_alloc ?_ _)); exact BK101.out) Try.underlying28 rfl (by kernel_rfl)) rfl ?_
           exact ⟨_, _, by first | rfl | (simp [errW_none, errW_some] <;> rfl) | (simp [*, errW_none, errW_some] <;> rfl), by (with_reducible repeat (first | apply Kd.R_alloc | apply Kd.R_drewN | apply Kd.R_drew)); exact Kd.R_mono (Kd.R_far (p := ⟨gb101, 6, none⟩) (Kd.R_far (p := ⟨gb101, 5, none⟩) (Kd.R_far (p := ⟨gb101, 4, none⟩) (Kd.R_far (p := ⟨gb101, 3, none⟩) (Kd.R_far (p := ⟨gb101, 2, none⟩) (Kd.R_far (p := ⟨gb101, 1, none⟩) (Kd.R_far (p := ⟨gb101, 0, none⟩) (Kd.R_types HO_103005.out BK101.out (by decide)) (fun _ hk => hk.2) (.int .i64 (wrap64 (1 + (wrap64 (Int.tmod a5 8)))))) (fun _ hk => hk.2) (.int .u64 a0)) (fun _ hk => hk.2) (.int .i64 (wrap64 (a2)))) (fun _ hk => hk.2) (.int .i64 (wrap64 (a3)))) (fun _ hk => hk.2) (.int .u32 a1)) (fun _ hk => hk.2) (.slice Ao62 x103005_6.length co62)) (fun _ hk => hk.2) (.slice none 0 0)) (fun _ hk => hk.1), by first | exact Kd.R_nil _ _ _ _ _ | exact Kd.N_nil _ _ _ _ _ | exact Kd.V_nil _ _ _ _ _ | exact Kd.Q_nil _ _ _ _ _ | exact Kd.S_nil _ _ _ _ _, by repeat (first | (with_reducible first | exact HB.out | apply below_alloc | apply pw_below_drewN | apply below_drew1 | refine below_set ?_ GE101.out | refine below_set ?_ GE102.out) | exact HB.out)⟩

end Go.Proofs.Ytoooceaoggkeeaa.F
end

section
/- The statements' own datagrams. No program in sight. -/
namespace Go.Proofs.Ytoooceaoggkeeaa.H
set_option linter.unusedVariables false
def pairC (c : List Int) (j : Nat) : Int := (c.getD (2 * j) 0 * 256 + c.getD (2 * j + 1) 0) % 4097
def pairsC (c : List Int) : Nat := min 4 (c.length / 2)
def sizesG (c : List Int) : List Int := (List.range (pairsC c)).map (pairC c)
def gramC (s m i o : Int) (c : List Int) (k : Int) : Int × Int × Int × Int × Int × List Int × List Int :=
 (if k > 230 then k else 1 + k % 8, s, if k > 230 then -1 else i, o, m, if k % 8 = 0 then sizesG c else [], if 1 ≤ k % 8 ∧ k % 8 ≤ 3 then c.take 64 else [])
theorem sizesG_length (c : List Int) : (sizesG c).length ≤ 4 := by
 unfold sizesG pairsC
 rw [List.length_map, List.length_range]
 omega
theorem sizesG_snoc (c : List Int) (j : Nat) : (List.range (j + 1)).map (pairC c) = (List.range j).map (pairC c) ++ [pairC c j] := by rw [List.range_succ, List.map_append]; rfl
end Go.Proofs.Ytoooceaoggkeeaa.H
end

section
namespace Go.Proofs.Ytoooceaoggkeeaa.F
open Go.RowKit Go.Proofs.YtoooceaoggkeeaaW.PrintWords Go.Proofs.YtoooceaoggkeeaaW.PrintLast Go.Proofs.YtoooceaoggkeeaaW.PrintMore
attribute [local go_sem] max2_int min2_int max_two min_two max_three min_three max_four min_four   -- for this text's walks alone
set_option linter.unusedVariables false
set_option linter.unusedSimpArgs false

open Go.Proofs.Ytoooceaoggkeeaa.H
def scullerlaw13_Gram_c.f (a0 a1 a2 a3 : Int) (l4 : List Int) (a5 : Int) : Option (Int × Int × Int × Int × Int × List Int × List Int) := if bytesB l4 = true ∧ l4.length ≤ 140737488351232 ∧ 0 ≤ a2 ∧ a2 ≤ 65535 ∧ 0 ≤ a3 ∧ a3 ≤ 65535 ∧ 0 ≤ a5 ∧ a5 ≤ 255 then some (gramC a0 a1 a2 a3 l4 a5) else none
theorem scullerlaw13_Gram.j2_to (c : List Int) (k K s i o m : Int) (S : List Int) (b : Bool) (hk : 0 ≤ k ∧ k ≤ 255) :
 scullerlaw13_Gram.j2 1 c k b K s i o m S = some (if k > 230 then k else K, s, if k > 230 then -1 else i, o, m, S, if b = true then c.take 64 else []) := by
 rw [scullerlaw13_Gram.j2]
 have hw : wrap64 k = k := by unfold wrap64; omega
 cases b
 · rw [if_neg (by decide), hw]
   split <;> rfl
 · have hmn : mn (c.length : Int) 64 = ((min c.length 64 : Nat) : Int) := by unfold mn; split <;> omega
   have ht : c.take (min c.length 64) = c.take 64 := by
    rw [Nat.min_comm, ← List.take_take, List.take_of_length_le (Nat.le_refl c.length)]
   rw [if_pos rfl, hmn, Int.toNat_natCast, ht, if_pos (by omega), if_pos (by omega), Option.bind_some, if_pos (by rw [List.length_take]; simp; omega), Option.bind_some, List.nil_append, hw]
   split <;> rfl
theorem scullerlaw13_Gram.j1_to (c : List Int) (k K s i o m : Int) (S : List Int) (hk : 0 ≤ k ∧ k ≤ 255) :
 scullerlaw13_Gram.j1 2 c k K s i o m S = some (if k > 230 then k else K, s, if k > 230 then -1 else i, o, m, S, if 2 ≤ K ∧ K ≤ 4 then c.take 64 else []) := by
 rw [scullerlaw13_Gram.j1]
 by_cases h2 : K ≥ 2
 · rw [if_pos h2, scullerlaw13_Gram.j2_to c k K s i o m S _ hk]
   by_cases h4 : K ≤ 4
   · rw [if_pos (decide_eq_true h4), if_pos (show 2 ≤ K ∧ K ≤ 4 from ⟨by omega, h4⟩)]
   · rw [if_neg (show ¬ decide (K ≤ 4) = true by simpa using h4), if_neg (show ¬ (2 ≤ K ∧ K ≤ 4) by omega)]
 · rw [if_neg h2, scullerlaw13_Gram.j2_to c k K s i o m S _ hk, if_neg (show ¬ false = true by decide), if_neg (show ¬ (2 ≤ K ∧ K ≤ 4) by omega)]
theorem scullerlaw13_Gram.l0_to (c : List Int) (hb : bytesB c = true) (hl : c.length ≤ 140737488351232) (k K s i o m : Int) (hk : 0 ≤ k ∧ k ≤ 255) : ∀ (d j : Nat), pairsC c - j = d → j ≤ pairsC c →
 ∃ q, scullerlaw13_Gram.l0 q c k ((2 * j : Nat) : Int) K s i o m ((List.range j).map (pairC c)) = some (if k > 230 then k else K, s, if k > 230 then -1 else i, o, m, sizesG c, if 2 ≤ K ∧ K ≤ 4 then c.take 64 else [])
 | 0, j, hd, hj => by
   obtain rfl : j = pairsC c := by omega
   have h1 := scullerlaw13_Gram.j1_to c k K s i o m (sizesG c) hk
   refine ⟨3, ?_⟩
   have hp : pairsC c = min 4 (c.length / 2) := rfl
   have hw : wrap64 (((2 * pairsC c : Nat) : Int) + 1) = ((2 * pairsC c + 1 : Nat) : Int) := by unfold wrap64; omega
   rw [scullerlaw13_Gram.l0, hw]
   by_cases ha : ((2 * pairsC c + 1 : Nat) : Int) < (c.length : Int)
   · rw [if_pos ha, if_neg (by omega)]
     exact h1
   · rw [if_neg ha]
     exact h1
 | d + 1, j, hd, hj => by
   have hp : pairsC c = min 4 (c.length / 2) := rfl
   obtain ⟨q, hq⟩ := scullerlaw13_Gram.l0_to c hb hl k K s i o m hk d (j + 1) (by omega) (by omega)
   refine ⟨q + 1, ?_⟩
   have hw : wrap64 (((2 * j : Nat) : Int) + 1) = ((2 * j + 1 : Nat) : Int) := by unfold wrap64; omega
   have hw2 : wrap64 (((2 * j : Nat) : Int) + 2) = ((2 * (j + 1) : Nat) : Int) := by unfold wrap64; omega
   have e0 : rd c ((2 * j : Nat) : Int) = c.getD (2 * j) 0 := rfl
   have e1 : rd c ((2 * j + 1 : Nat) : Int) = c.getD (2 * j + 1) 0 := rfl
   have b0 : 0 ≤ c.getD (2 * j) 0 ∧ c.getD (2 * j) 0 ≤ 255 := by
    rw [List.getD_eq_getElem?_getD, List.getElem?_eq_getElem (show 2 * j < c.length by omega)]
    exact bytesB_at hb _ (List.getElem_mem _)
   have b1 : 0 ≤ c.getD (2 * j + 1) 0 ∧ c.getD (2 * j + 1) 0 ≤ 255 := by
    rw [List.getD_eq_getElem?_getD, List.getElem?_eq_getElem (show 2 * j + 1 < c.length by omega)]
    exact bytesB_at hb _ (List.getElem_mem _)
   have ep : pairC c j = (c.getD (2 * j) 0 * 256 + c.getD (2 * j + 1) 0) % 4097 := rfl
   rw [scullerlaw13_Gram.l0, hw, hw2, if_pos (by omega), if_pos (by omega), if_pos (by omega), if_pos (by omega), if_pos (by omega), if_pos (by rw [List.length_map, List.length_range]; omega), e0, e1]
   generalize c.getD (2 * j) 0 = x at *
   generalize c.getD (2 * j + 1) 0 = y at *
   have w1 : wrap64 x = x := by unfold wrap64; omega
   have w2 : wrap64 y = y := by unfold wrap64; omega
   have w3 : wrap64 (x * 256) = x * 256 := by unfold wrap64; omega
   have w4 : wrap64 (x * 256 + y) = x * 256 + y := by unfold wrap64; omega
   rw [w1, w2, w3, w4, Int.tmod_eq_emod_of_nonneg (by omega), ← ep, ← sizesG_snoc]
   exact hq
theorem scullerlaw13_Gram_c.to {a0 a1 a2 a3 : Int} {l4 : List Int} {a5 : Int} {r : Int × Int × Int × Int × Int × List Int × List Int} (h : scullerlaw13_Gram_c.f a0 a1 a2 a3 l4 a5 = some r) : ∃ k, scullerlaw13_Gram.f k a0 a1 a2 a3 l4 a5 = some r := by
 unfold scullerlaw13_Gram_c.f at h
 split at h
 case isFalse => cases h
 case isTrue hh =>
 obtain ⟨hb, hl, h2, h2', h3, h3', h5, h5'⟩ := hh
 obtain rfl := Option.some.inj h
 have e0 : Int.tmod a5 8 = a5 % 8 := Int.tmod_eq_emod_of_nonneg h5
 have w1 : wrap64 (a5 % 8) = a5 % 8 := by unfold wrap64; omega
 have w2 : wrap64 (1 + a5 % 8) = 1 + a5 % 8 := by unfold wrap64; omega
 have w3 : wrap64 a2 = a2 := by unfold wrap64; omega
 have w4 : wrap64 a3 = a3 := by unfold wrap64; omega
 have eb : (if 2 ≤ 1 + a5 % 8 ∧ 1 + a5 % 8 ≤ 4 then l4.take 64 else []) = (if 1 ≤ a5 % 8 ∧ a5 % 8 ≤ 3 then l4.take 64 else []) := by
  by_cases h : 1 ≤ a5 % 8 ∧ a5 % 8 ≤ 3
  · rw [if_pos h, if_pos (show 2 ≤ 1 + a5 % 8 ∧ 1 + a5 % 8 ≤ 4 by omega)]
  · rw [if_neg h, if_neg (show ¬ (2 ≤ 1 + a5 % 8 ∧ 1 + a5 % 8 ≤ 4) by omega)]
 unfold scullerlaw13_Gram.f
 rw [e0, w1, w2, w3, w4, gramC]
 by_cases h0 : a5 % 8 = 0
 · obtain ⟨q, hq⟩ := scullerlaw13_Gram.l0_to l4 hb hl a5 (1 + a5 % 8) a0 a2 a3 a1 ⟨h5, h5'⟩ (pairsC l4) 0 (by omega) (by omega)
   refine ⟨q, ?_⟩
   rw [eb] at hq
   rw [if_pos (show 1 + a5 % 8 = 1 by omega), if_pos h0]
   exact hq
 · refine ⟨2, ?_⟩
   rw [if_neg (show ¬ 1 + a5 % 8 = 1 by omega), if_neg h0, scullerlaw13_Gram.j1_to l4 a5 (1 + a5 % 8) a0 a2 a3 a1 [] ⟨h5, h5'⟩, eb]

theorem scullerlaw13_Gram_c.calls (a0 : Int) (a1 : Int) (a2 : Int) (a3 : Int) (P4_ : Nat → Prop) (A4 : Option Addr) (c4 : Nat) (l4 : List Int) (a5 : Int) (r1 : Int) (r2 : Int) (r3 : Int) (r4 : Int) (r5 : Int) (r6 : List Int) (r7 : List Int) (w : World) (hs4 : Kd.V (Kd.int .u8) 5 w w.heap.size (fun k_ => P4_ k_) (.slice A4 l4.length c4) l4) (h : scullerlaw13_Gram_c.f a0 a1 a2 a3 l4 a5 = some (r1, r2, r3, r4, r5, r6, r7)) :
 Calls Try.prog 9 #[.int .u64 a0, .int .u32 a1, .int .u16 a2, .int .u16 a3, .slice A4 l4.length c4, .int .u8 a5] w fun e w' => ∃ v5_ v6_ : Value, e = .returned (.agg #[.int .i64 r1, .int .u64 r2, .int .i64 r3, .int .i64 r4, .int .u32 r5, v5_, v6_]) ∧ Kd.R (Kd.int .i64) 3 w' w.heap.size (fun k_ => (w.heap.size ≤ k_)) v5_ r6 ∧ Kd.R (Kd.int .u8) 5 w' w.heap.size (fun k_ => (w.heap.size ≤ k_)) v6_ r7 ∧ Below w.heap.size w w' := by
 obtain ⟨k_, hk_⟩ := scullerlaw13_Gram_c.to h
 exact scullerlaw13_Gram.calls k_ a0 a1 a2 a3 P4_ A4 c4 l4 a5 r1 r2 r3 r4 r5 r6 r7 w hs4 hk_

end Go.Proofs.Ytoooceaoggkeeaa.F
end

section
namespace Go.Proofs.Ytoooceaoggkeeaa.F
open Go.RowKit Go.Proofs.YtoooceaoggkeeaaW.PrintWords Go.Proofs.YtoooceaoggkeeaaW.PrintLast Go.Proofs.YtoooceaoggkeeaaW.PrintMore
attribute [local go_sem] max2_int min2_int max_two min_two max_three min_three max_four min_four   -- for this text's walks alone
set_option linter.unusedVariables false
set_option linter.unusedSimpArgs false

/-! ### scullerlaw13_known: function 13 -/
def scullerlaw13_known.f  : Option (Bool) := (pack_Encode.f 6 0 0 0 0 ([] : List Int) ([] : List Int)).bind fun bt101 => ((pack_Parse.f bt101.1).bind fun bt105 => ((pack_Parse.f ([] : List Int)).bind fun bt118 => (if bt101.2 = 0 then (if (bt101.1.length : Int) = 21 then (if 0 < (bt101.1.length : Int) then (if (rd bt101.1 0) = 6 then (if bt105.2.2.2.2.2.2.2 = 0 then (if bt105.1 = 6 then (some (bt118.2.2.2.2.2.2.2 == 10)) else (some false)) else (some false)) else (some false)) else (none)) else (some false)) else (some false))))
set_option maxHeartbeats 8000000 in
set_option maxRecDepth 100000 in
theorem scullerlaw13_known.calls  (r : Bool) (w : World) (h : scullerlaw13_known.f  = some r) (hr_ : Aside0 (r = true)) :
 Calls Try.prog 13 #[] w fun e w' => e = .returned (.bool r) ∧ Below w.heap.size w w' := by
 have hu28 := Try.underlying28
 have HB := Aside0.mk (Below.refl w.heap.size w)
 have H : ((pack_Encode.f 6 0 0 0 0 ([] : List Int) ([] : List Int)).bind fun bt101 => ((pack_Parse.f bt101.1).bind fun bt105 => ((pack_Parse.f ([] : List Int)).bind fun bt118 => (if bt101.2 = 0 then (if (bt101.1.length : Int) = 21 then (if 0 < (bt101.1.length : Int) then (if (rd bt101.1 0) = 6 then (if bt105.2.2.2.2.2.2.2 = 0 then (if bt105.1 = 6 then (some (bt118.2.2.2.2.2.2.2 == 10)) else (some false)) else (some false)) else (some false)) else (none)) else (some false)) else (some false))))) = some r := h
 clear h
 replace H := Option.bind_eq_some_iff.mp H
 obtain ⟨⟨t101, t104⟩, A10, H⟩ := H
 replace H : ((pack_Parse.f t101).bind fun bt105 => ((pack_Parse.f ([] : List Int)).bind fun bt118 => (if t104 = 0 then (if (t101.length : Int) = 21 then (if 0 < (t101.length : Int) then (if (rd t101 0) = 6 then (if bt105.2.2.2.2.2.2.2 = 0 then (if bt105.1 = 6 then (some (bt118.2.2.2.2.2.2.2 == 10)) else (some false)) else (some false)) else (some false)) else (none)) else (some false)) else (some false)))) = some r := H
 have A1 := Aside0.mk A10
 clear A10
 replace H := Option.bind_eq_some_iff.mp H
 obtain ⟨⟨t105, t106, t107, t108, t109, t110, t113, t116⟩, A20, H⟩ := H
 replace H : ((pack_Parse.f ([] : List Int)).bind fun bt118 => (if t104 = 0 then (if (t101.length : Int) = 21 then (if 0 < (t101.length : Int) then (if (rd t101 0) = 6 then (if t116 = 0 then (if t105 = 6 then (some (bt118.2.2.2.2.2.2.2 == 10)) else (some false)) else (some false)) else (some false)) else (none)) else (some false)) else (some false))) = some r := H
 have A2 := Aside0.mk A20
 clear A20
 replace H := Option.bind_eq_some_iff.mp H
 obtain ⟨⟨t118, t119, t120, t121, t122, t123, t126, t129⟩, A30, H⟩ := H
 replace H : (if t104 = 0 then (if (t101.length : Int) = 21 then (if 0 < (t101.length : Int) then (if (rd t101 0) = 6 then (if t116 = 0 then (if t105 = 6 then (some (t129 == 10)) else (some false)) else (some false)) else (some false)) else (none)) else (some false)) else (some false)) = some r := H
 have A3 := Aside0.mk A30
 clear A30
 by_cases c4 : t104 = 0
 · rw [if_pos c4] at H
   have c4b0 : (t104 == 0) = true := beq_iff_eq.mpr c4
   have c4b1 : (t104 != 0) = false := bne_eq_false_iff_eq.mpr c4
   clear c4
   by_cases c5 : (t101.length : Int) = 21
   · rw [if_pos c5] at H
     have c5b0 : ((t101.length : Int) == 21) = true := beq_iff_eq.mpr c5
     have c5b1 : ((t101.length : Int) != 21) = false := bne_eq_false_iff_eq.mpr c5
     clear c5
     by_cases c6 : 0 < (t101.length : Int)
     · rw [if_pos c6] at H
       have c6b0 : decide (0 < (t101.length : Int)) = true := decide_eq_true c6
       have c6b1 : decide (0 < t101.length) = true := decide_eq_true (by omega)
       clear c6
       by_cases c7 : (rd t101 0) = 6
       · rw [if_pos c7] at H
         have c7b0 : ((rd t101 0) == 6) = true := beq_iff_eq.mpr c7
         have c7b1 : ((rd t101 0) != 6) = false := bne_eq_false_iff_eq.mpr c7
         clear c7
         by_cases c8 : t116 = 0
         · rw [if_pos c8] at H
           have c8b0 : (t116 == 0) = true := beq_iff_eq.mpr c8
           have c8b1 : (t116 != 0) = false := bne_eq_false_iff_eq.mpr c8
           clear c8
           by_cases c9 : t105 = 6
           · rw [if_pos c9] at H
             have c9b0 : (t105 == 6) = true := beq_iff_eq.mpr c9
             have c9b1 : (t105 != 6) = false := bne_eq_false_iff_eq.mpr c9
             clear c9
             obtain rfl := Option.some.inj H
             go_enter Try.func13, Try.ntmps13
             go_wp2_with (first | ((with_reducible refine gate_callee (f := 10) rfl ?_); refine goesL_ (some 9) rfl rfl Try.func10 (by kernel_rfl) rfl #[.agg #[.int .i64 6, .int .u64 0, .int .i64 0, .int .i64 0, .int .u32 0, .slice none 0 0, .slice none 0 0]] rfl (by (try simp only [List.map_toArray, List.map_cons, List.map_nil]); first | done | rfl | (simp only [List.length_drop, List.length_take]; rfl)) ?_; (refine (pack_Encode.calls 6 0 0 0 0 _ _ ([] : List Int) _ _ ([] : List Int) t101 t104 _ ?side1 ?side2 ?side3 ?side4 A1.out).mono ?_); (case side1 => exact Kd.C_nil _ _); (case side2 => exact Nat.le_refl _); (case side3 => exact Kd.C_nil _ _); (case side4 => exact Nat.le_refl _); rintro e w10 ⟨v102, rfl, ho0, hb⟩; refine ⟨_, rfl, ?_⟩; have n0_ := Aside0.mk (Kd.R_lower ho0 (below_size (by repeat (first | (with_reducible first | exact HB.out | apply below_alloc | apply pw_below_drewN | apply below_drew1) | exact HB.out)))); have n1_ := Aside0.mk (below_step (by repeat (first | (with_reducible first | exact HB.out | apply below_alloc | apply pw_below_drewN | apply below_drew1) | exact HB.out)) hb); clear HB; have HO103 := n0_; have HB := n1_; clear n0_ n1_; (try clear hb); (try clear hb2); (try clear hk); (try clear hi); (try clear ho0); obtain ⟨Ao11, co11, eo11⟩ := Kd.R_slice HO103.out; subst eo11) | ((with_reducible refine gate_callee (f := 11) rfl ?_); refine goesL_ (some 14) rfl rfl Try.func11 (by kernel_rfl) rfl #[.slice Ao11 t101.length co11] rfl (by (try simp only [List.map_toArray, List.map_cons, List.map_nil]); first | done | rfl | (simp only [List.length_drop, List.length_take]; rfl)) ?_; (with_reducible refine (pack_Parse.calls _ _ t101 t105 t106 t107 t108 t109 t110 t113 t116 _ ?side1 ?side2 A2.out).mono ?_); (case side1 => repeat (first | exact (Kd.R_reads' HO103.out).2.2 | (with_reducible refine Kd.C_alloc ?_ _) | (with_reducible refine Kd.C_drewN ?_ _) | (with_reducible refine Kd.C_drew ?_))); (case side2 => exact (Kd.R_reads' HO103.out).2.1); rintro e w12 ⟨v111, v114, rfl, ho0, ho1, hb⟩; refine ⟨_, rfl, ?_⟩; have n0_ := Aside0.mk (Kd.R_elder' (by (with_reducible repeat (first | apply Kd.R_alloc | apply Kd.R_drewN | apply Kd.R_drew)); exact HO103.out) (Kd.R_base ho1) hb); have n1_ := Aside0.mk (Kd.R_lower ho0 (below_size (by repeat (first | (with_reducible first | exact HB.out | apply below_alloc | apply pw_below_drewN | apply below_drew1) | exact HB.out)))); have n2_ := Aside0.mk (Kd.R_lower (Kd.R_new' ho1 (Kd.R_lt (by (with_reducible repeat (first | apply Kd.R_alloc | apply Kd.R_drewN | apply Kd.R_drew)); exact HO103.out))) (below_size (by repeat (first | (with_reducible first | exact HB.out | apply below_alloc | apply pw_below_drewN | apply below_drew1) | exact HB.out)))); have n3_ := Aside0.mk (below_step (by repeat (first | (with_reducible first | exact HB.out | apply below_alloc | apply pw_below_drewN | apply below_drew1) | exact HB.out)) hb); clear HO103; clear HB; have HO103 := n0_; have HO112 := n1_; have HO115 := n2_; have HB := n3_; clear n0_ n1_ n2_ n3_; (try clear hb); (try clear hb2); (try clear hk); (try clear hi); (try clear ho0); (try clear ho1)) | ((with_reducible refine gate_dst (N := 3) rfl ?_); (try (refine gate_guard (by rfl) ?_; dsimp only)); refine box_event ?hg (N := 3) ?hd (cs := #[.int .i64 0, .int .u64 0, .int .i64 0, .int .i64 0, .int .u32 0, .slice none 0 0, .slice none 0 0]) (t := 28) ?hr ?_; (case hd => rfl); (case hg => rfl); (case hr => first | (go_simp; done) | (go_simp; rfl)); intro gb117 hg w13 hbox hb; have n0_ := Aside0.mk (Kd.R_below (by (with_reducible repeat (first | apply Kd.R_alloc | apply Kd.R_drewN | apply Kd.R_drew)); exact HO103.out) hb); have n1_ := Aside0.mk (Kd.R_below (by (with_reducible repeat (first | apply Kd.R_alloc | apply Kd.R_drewN | apply Kd.R_drew)); exact HO112.out) hb); have n2_ := Aside0.mk (Kd.R_below (by (with_reducible repeat (first | apply Kd.R_alloc | apply Kd.R_drewN | apply Kd.R_drew)); exact HO115.out) hb); have n3_ := Aside0.mk (below_step (by repeat (first | (with_reducible first | exact HB.out | apply below_alloc | apply pw_below_drewN | apply below_drew1) | exact HB.out)) hb); have n4_ := Aside0.mk (hbox); have n5_ := Aside0.mk ((by rw [hg]; exact (below_size (by repeat (first | (with_reducible first | exact HB.out | apply below_alloc | apply pw_below_drewN | apply below_drew1) | exact HB.out))) : w.heap.size ≤ gb117)); have n6_ := Aside0.mk ((by rw [hg]; exact (below_size (by repeat (first | (with_reducible first | exact HB.out | apply below_alloc | apply pw_below_drewN | apply below_drew1) | exact HB.out))) : w.heap.size ≤ gb117)); clear HO103; clear HO112; clear HO115; clear HB; have HO103 := n0_; have HO112 := n1_; have HO115 := n2_; have HB := n3_; have BK117 := n4_; have GW117 := n5_; have GE117 := n6_; clear n0_ n1_ n2_ n3_ n4_ n5_ n6_; clear hb hbox hg; have hcz14_0 : w13.cell? ⟨gb117, 0, none⟩ = some (.int .i64 0) := (blk_cell BK117.out 0).trans rfl; have hcz14_1 : w13.cell? ⟨gb117, 1, none⟩ = some (.int .u64 0) := (blk_cell BK117.out 1).trans rfl; have hcz14_2 : w13.cell? ⟨gb117, 2, none⟩ = some (.int .i64 0) := (blk_cell BK117.out 2).trans rfl; have hcz14_3 : w13.cell? ⟨gb117, 3, none⟩ = some (.int .i64 0) := (blk_cell BK117.out 3).trans rfl; have hcz14_4 : w13.cell? ⟨gb117, 4, none⟩ = some (.int .u32 0) := (blk_cell BK117.out 4).trans rfl; have hcz14_5 : w13.cell? ⟨gb117, 5, none⟩ = some (.slice none 0 0) := (blk_cell BK117.out 5).trans rfl; have hcz14_6 : w13.cell? ⟨gb117, 6, none⟩ = some (.slice none 0 0) := (blk_cell BK117.out 6).trans rfl; have hfz14_0 := blk_frozen BK117.out 0; have hfz14_1 := blk_frozen BK117.out 1; have hfz14_2 := blk_frozen BK117.out 2; have hfz14_3 := blk_frozen BK117.out 3; have hfz14_4 := blk_frozen BK117.out 4; have hfz14_5 := blk_frozen BK117.out 5; have hfz14_6 := blk_frozen BK117.out 6; obtain ⟨Ao15, co15, eo15⟩ := Kd.R_slice HO112.out; subst eo15; obtain ⟨Ao16, co16, eo16⟩ := Kd.R_slice HO115.out; subst eo16) | ((with_reducible refine gate_callee (f := 11) rfl ?_); refine goesL_ (some 18) rfl rfl Try.func11 (by kernel_rfl) rfl #[.slice none 0 0] rfl (by (try simp only [List.map_toArray, List.map_cons, List.map_nil]); first | done | rfl | (simp only [List.length_drop, List.length_take]; rfl)) ?_; (refine (pack_Parse.calls _ _ ([] : List Int) t118 t119 t120 t121 t122 t123 t126 t129 _ ?side1 ?side2 A3.out).mono ?_); (case side1 => exact Kd.C_nil _ _); (case side2 => exact Nat.le_refl _); rintro e w17 ⟨v124, v127, rfl, ho0, ho1, hb⟩; refine ⟨_, rfl, ?_⟩; have n0_ := Aside0.mk (Kd.R_elder' (by (with_reducible repeat (first | apply Kd.R_alloc | apply Kd.R_drewN | apply Kd.R_drew)); exact (Kd.R_mono (Kd.R_far (p := ⟨gb117, 6, none⟩) (Kd.R_far (p := ⟨gb117, 5, none⟩) (Kd.R_far (p := ⟨gb117, 4, none⟩) (Kd.R_far (p := ⟨gb117, 3, none⟩) (Kd.R_far (p := ⟨gb117, 2, none⟩) (Kd.R_far (p := ⟨gb117, 1, none⟩) (Kd.R_far (p := ⟨gb117, 0, none⟩) (Kd.R_types HO103.out BK117.out (by decide)) (fun _ hk => hk.2) (.int .i64 t105)) (fun _ hk => hk.2) (.int .u64 t106)) (fun _ hk => hk.2) (.int .i64 t107)) (fun _ hk => hk.2) (.int .i64 t108)) (fun _ hk => hk.2) (.int .u32 t109)) (fun _ hk => hk.2) (.slice Ao15 t110.length co15)) (fun _ hk => hk.2) (.slice Ao16 t113.length co16)) (fun _ h_ => h_.1))) (Kd.R_base ho1) hb); have n1_ := Aside0.mk (Kd.R_elder' (by (with_reducible repeat (first | apply Kd.R_alloc | apply Kd.R_drewN | apply Kd.R_drew)); exact (Kd.R_mono (Kd.R_far (p := ⟨gb117, 6, none⟩) (Kd.R_far (p := ⟨gb117, 5, none⟩) (Kd.R_far (p := ⟨gb117, 4, none⟩) (Kd.R_far (p := ⟨gb117, 3, none⟩) (Kd.R_far (p := ⟨gb117, 2, none⟩) (Kd.R_far (p := ⟨gb117, 1, none⟩) (Kd.R_far (p := ⟨gb117, 0, none⟩) (Kd.R_types HO112.out BK117.out (by decide)) (fun _ hk => hk.2) (.int .i64 t105)) (fun _ hk => hk.2) (.int .u64 t106)) (fun _ hk => hk.2) (.int .i64 t107)) (fun _ hk => hk.2) (.int .i64 t108)) (fun _ hk => hk.2) (.int .u32 t109)) (fun _ hk => hk.2) (.slice Ao15 t110.length co15)) (fun _ hk => hk.2) (.slice Ao16 t113.length co16)) (fun _ h_ => h_.1))) (Kd.R_base ho0) hb); have n2_ := Aside0.mk (Kd.R_elder' (by (with_reducible repeat (first | apply Kd.R_alloc | apply Kd.R_drewN | apply Kd.R_drew)); exact (Kd.R_mono (Kd.R_far (p := ⟨gb117, 6, none⟩) (Kd.R_far (p := ⟨gb117, 5, none⟩) (Kd.R_far (p := ⟨gb117, 4, none⟩) (Kd.R_far (p := ⟨gb117, 3, none⟩) (Kd.R_far (p := ⟨gb117, 2, none⟩) (Kd.R_far (p := ⟨gb117, 1, none⟩) (Kd.R_far (p := ⟨gb117, 0, none⟩) (Kd.R_types HO115.out BK117.out (by decide)) (fun _ hk => hk.2) (.int .i64 t105)) (fun _ hk => hk.2) (.int .u64 t106)) (fun _ hk => hk.2) (.int .i64 t107)) (fun _ hk => hk.2) (.int .i64 t108)) (fun _ hk => hk.2) (.int .u32 t109)) (fun _ hk => hk.2) (.slice Ao15 t110.length co15)) (fun _ hk => hk.2) (.slice Ao16 t113.length co16)) (fun _ h_ => h_.1))) (Kd.R_base ho1) hb); have n3_ := Aside0.mk (Kd.R_lower (Kd.R_new' ho0 (Kd.R_lt (by (with_reducible repeat (first | apply Kd.R_alloc | apply Kd.R_drewN | apply Kd.R_drew)); exact (Kd.R_mono (Kd.R_far (p := ⟨gb117, 6, none⟩) (Kd.R_far (p := ⟨gb117, 5, none⟩) (Kd.R_far (p := ⟨gb117, 4, none⟩) (Kd.R_far (p := ⟨gb117, 3, none⟩) (Kd.R_far (p := ⟨gb117, 2, none⟩) (Kd.R_far (p := ⟨gb117, 1, none⟩) (Kd.R_far (p := ⟨gb117, 0, none⟩) (Kd.R_types HO112.out BK117.out (by decide)) (fun _ hk => hk.2) (.int .i64 t105)) (fun _ hk => hk.2) (.int .u64 t106)) (fun _ hk => hk.2) (.int .i64 t107)) (fun _ hk => hk.2) (.int .i64 t108)) (fun _ hk => hk.2) (.int .u32 t109)) (fun _ hk => hk.2) (.slice Ao15 t110.length co15)) (fun _ hk => hk.2) (.slice Ao16 t113.length co16)) (fun _ h_ => h_.1))))) (below_size (by repeat (first | (with_reducible first | exact HB.out | apply below_alloc | apply pw_below_drewN | apply below_drew1 | refine below_set ?_ GE117.out) | exact HB.out)))); have n4_ := Aside0.mk (Kd.R_lower (Kd.R_new' (Kd.R_new' ho1 (Kd.R_lt (by (with_reducible repeat (first | apply Kd.R_alloc | apply Kd.R_drewN | apply Kd.R_drew)); exact (Kd.R_mono (Kd.R_far (p := ⟨gb117, 6, none⟩) (Kd.R_far (p := ⟨gb117, 5, none⟩) (Kd.R_far (p := ⟨gb117, 4, none⟩) (Kd.R_far (p := ⟨gb117, 3, none⟩) (Kd.R_far (p := ⟨gb117, 2, none⟩) (Kd.R_far (p := ⟨gb117, 1, none⟩) (Kd.R_far (p := ⟨gb117, 0, none⟩) (Kd.R_types HO103.out BK117.out (by decide)) (fun _ hk => hk.2) (.int .i64 t105)) (fun _ hk => hk.2) (.int .u64 t106)) (fun _ hk => hk.2) (.int .i64 t107)) (fun _ hk => hk.2) (.int .i64 t108)) (fun _ hk => hk.2) (.int .u32 t109)) (fun _ hk => hk.2) (.slice Ao15 t110.length co15)) (fun _ hk => hk.2) (.slice Ao16 t113.length co16)) (fun _ h_ => h_.1))))) (Kd.R_lt (by (with_reducible repeat (first | apply Kd.R_alloc | apply Kd.R_drewN | apply Kd.R_drew)); exact (Kd.R_mono (Kd.R_far (p := ⟨gb117, 6, none⟩) (Kd.R_far (p := ⟨gb117, 5, none⟩) (Kd.R_far (p := ⟨gb117, 4, none⟩) (Kd.R_far (p := ⟨gb117, 3, none⟩) (Kd.R_far (p := ⟨gb117, 2, none⟩) (Kd.R_far (p := ⟨gb117, 1, none⟩) (Kd.R_far (p := ⟨gb117, 0, none⟩) (Kd.R_types HO115.out BK117.out (by decide)) (fun _ hk => hk.2) (.int .i64 t105)) (fun _ hk => hk.2) (.int .u64 t106)) (fun _ hk => hk.2) (.int .i64 t107)) (fun _ hk => hk.2) (.int .i64 t108)) (fun _ hk => hk.2) (.int .u32 t109)) (fun _ hk => hk.2) (.slice Ao15 t110.length co15)) (fun _ hk => hk.2) (.slice Ao16 t113.length co16)) (fun _ h_ => h_.1))))) (below_size (by repeat (first | (with_reducible first | exact HB.out | apply below_alloc | apply pw_below_drewN | apply below_drew1 | refine below_set ?_ GE117.out) | exact HB.out)))); have n5_ := Aside0.mk (blk_below (g := gb117) (o := .cells #[.int .i64 t105, .int .u64 t106, .int .i64 t107, .int .i64 t108, .int .u32 t109, .slice Ao15 t110.length co15, .slice Ao16 t113.length co16] 28 (0, 0)) (by (with_reducible repeat (first | refine blk_drewN ?_ _ | refine blk_drew ?_ | refine blk_alloc ?_ _)); refine blk_put (cs := #[.int .i64 t105, .int .u64 t106, .int .i64 t107, .int .i64 t108, .int .u32 t109, .slice Ao15 t110.length co15, .slice none 0 0]) ?_ 6 _ rfl; (with_reducible repeat (first | refine blk_drewN ?_ _ | refine blk_drew ?_ | refine blk_alloc ?_ _)); refine blk_put (cs := #[.int .i64 t105, .int .u64 t106, .int .i64 t107, .int .i64 t108, .int .u32 t109, .slice none 0 0, .slice none 0 0]) ?_ 5 _ rfl; (with_reducible repeat (first | refine blk_drewN ?_ _ | refine blk_drew ?_ | refine blk_alloc ?_ _)); refine blk_put (cs := #[.int .i64 t105, .int .u64 t106, .int .i64 t107, .int .i64 t108, .int .u32 0, .slice none 0 0, .slice none 0 0]) ?_ 4 _ rfl; (with_reducible repeat (first | refine blk_drewN ?_ _ | refine blk_drew ?_ | refine blk_alloc ?_ _)); refine blk_put (cs := #[.int .i64 t105, .int .u64 t106, .int .i64 t107, .int .i64 0, .int .u32 0, .slice none 0 0, .slice none 0 0]) ?_ 3 _ rfl; (with_reducible repeat (first | refine blk_drewN ?_ _ | refine blk_drew ?_ | refine blk_alloc ?_ _)); refine blk_put (cs := #[.int .i64 t105, .int .u64 t106, .int .i64 0, .int .i64 0, .int .u32 0, .slice none 0 0, .slice none 0 0]) ?_ 2 _ rfl; (with_reducible repeat (first | refine blk_drewN ?_ _ | refine blk_drew ?_ | refine blk_alloc ?_ _)); refine blk_put (cs := #[.int .i64 t105, .int .u64 0, .int .i64 0, .int .i64 0, .int .u32 0, .slice none 0 0, .slice none 0 0]) ?_ 1 _ rfl; (with_reducible repeat (first | refine blk_drewN ?_ _ | refine blk_drew ?_ | refine blk_alloc ?_ _)); refine blk_put (cs := #[.int .i64 0, .int .u64 0, .int .i64 0, .int .i64 0, .int .u32 0, .slice none 0 0, .slice none 0 0]) ?_ 0 _ rfl; (with_reducible repeat (first | refine blk_drewN ?_ _ | refine blk_drew ?_ | refine blk_alloc ?_ _)); exact BK117.out) hb); have n6_ := Aside0.mk (below_step (by repeat (first | (with_reducible first | exact HB.out | apply below_alloc | apply pw_below_drewN | apply below_drew1 | refine below_set ?_ GE117.out) | exact HB.out)) hb); clear HO103; clear HO112; clear HO115; clear BK117; clear HB; have HO103 := n0_; have HO112 := n1_; have HO115 := n2_; have HO125 := n3_; have HO128 := n4_; have BK117 := n5_; have HB := n6_; clear n0_ n1_ n2_ n3_ n4_ n5_ n6_; (try clear hb); (try clear hb2); (try clear hk); (try clear hi); (try clear ho0); (try clear ho1)) | ((with_reducible refine gate_dst (N := 5) rfl ?_); (try (refine gate_guard (by rfl) ?_; dsimp only)); refine box_event ?hg (N := 5) ?hd (cs := #[.int .i64 0, .int .u64 0, .int .i64 0, .int .i64 0, .int .u32 0, .slice none 0 0, .slice none 0 0]) (t := 28) ?hr ?_; (case hd => rfl); (case hg => rfl); (case hr => first | (go_simp; done) | (go_simp; rfl)); intro gb130 hg w18 hbox hb; have n0_ := Aside0.mk (Kd.R_below (by (with_reducible repeat (first | apply Kd.R_alloc | apply Kd.R_drewN | apply Kd.R_drew)); exact HO103.out) hb); have n1_ := Aside0.mk (Kd.R_below (by (with_reducible repeat (first | apply Kd.R_alloc | apply Kd.R_drewN | apply Kd.R_drew)); exact HO112.out) hb); have n2_ := Aside0.mk (Kd.R_below (by (with_reducible repeat (first | apply Kd.R_alloc | apply Kd.R_drewN | apply Kd.R_drew)); exact HO115.out) hb); have n3_ := Aside0.mk (Kd.R_below (by (with_reducible repeat (first | apply Kd.R_alloc | apply Kd.R_drewN | apply Kd.R_drew)); exact HO125.out) hb); have n4_ := Aside0.mk (Kd.R_below (by (with_reducible repeat (first | apply Kd.R_alloc | apply Kd.R_drewN | apply Kd.R_drew)); exact HO128.out) hb); have n5_ := Aside0.mk (blk_below (g := gb117) (o := .cells #[.int .i64 t105, .int .u64 t106, .int .i64 t107, .int .i64 t108, .int .u32 t109, .slice Ao15 t110.length co15, .slice Ao16 t113.length co16] 28 (0, 0)) (by (with_reducible repeat (first | refine blk_drewN ?_ _ | refine blk_drew ?_ | refine blk_alloc ?_ _)); exact BK117.out) hb); have n6_ := Aside0.mk (below_step (by repeat (first | (with_reducible first | exact HB.out | apply below_alloc | apply pw_below_drewN | apply below_drew1 | refine below_set ?_ GE117.out) | exact HB.out)) hb); have n7_ := Aside0.mk (hbox); have n8_ := Aside0.mk ((by rw [hg]; exact (below_size (by repeat (first | (with_reducible first | exact HB.out | apply below_alloc | apply pw_below_drewN | apply below_drew1 | refine below_set ?_ GE117.out) | exact HB.out))) : w.heap.size ≤ gb130)); have n9_ := Aside0.mk ((by rw [hg]; exact (below_size (by repeat (first | (with_reducible first | exact HB.out | apply below_alloc | apply pw_below_drewN | apply below_drew1 | refine below_set ?_ GE117.out) | exact HB.out))) : w.heap.size ≤ gb130)); have n10_ := Aside0.mk ((by rw [hg]; exact Nat.ne_of_lt (blk_lt (g := gb117) (o := .cells #[.int .i64 t105, .int .u64 t106, .int .i64 t107, .int .i64 t108, .int .u32 t109, .slice Ao15 t110.length co15, .slice Ao16 t113.length co16] 28 (0, 0)) (by (with_reducible repeat (first | refine blk_drewN ?_ _ | refine blk_drew ?_ | refine blk_alloc ?_ _)); exact BK117.out)) : gb117 ≠ gb130)); have n11_ := Aside0.mk ((by rw [hg]; exact Nat.ne_of_gt (blk_lt (g := gb117) (o := .cells #[.int .i64 t105, .int .u64 t106, .int .i64 t107, .int .i64 t108, .int .u32 t109, .slice Ao15 t110.length co15, .slice Ao16 t113.length co16] 28 (0, 0)) (by (with_reducible repeat (first | refine blk_drewN ?_ _ | refine blk_drew ?_ | refine blk_alloc ?_ _)); exact BK117.out)) : gb130 ≠ gb117)); clear HO103; clear HO112; clear HO115; clear HO125; clear HO128; clear BK117; clear HB; have HO103 := n0_; have HO112 := n1_; have HO115 := n2_; have HO125 := n3_; have HO128 := n4_; have BK117 := n5_; have HB := n6_; have BK130 := n7_; have GW130 := n8_; have GE130 := n9_; have NB117_130 := n10_; have NB130_117 := n11_; clear n0_ n1_ n2_ n3_ n4_ n5_ n6_ n7_ n8_ n9_ n10_ n11_; clear hb hbox hg; have hnb19 := NB130_117.out; have hnc19 := NB117_130.out; have hcz20_0 : w18.cell? ⟨gb130, 0, none⟩ = some (.int .i64 0) := (blk_cell BK130.out 0).trans rfl; have hcz20_1 : w18.cell? ⟨gb130, 1, none⟩ = some (.int .u64 0) := (blk_cell BK130.out 1).trans rfl; have hcz20_2 : w18.cell? ⟨gb130, 2, none⟩ = some (.int .i64 0) := (blk_cell BK130.out 2).trans rfl; have hcz20_3 : w18.cell? ⟨gb130, 3, none⟩ = some (.int .i64 0) := (blk_cell BK130.out 3).trans rfl; have hcz20_4 : w18.cell? ⟨gb130, 4, none⟩ = some (.int .u32 0) := (blk_cell BK130.out 4).trans rfl; have hcz20_5 : w18.cell? ⟨gb130, 5, none⟩ = some (.slice none 0 0) := (blk_cell BK130.out 5).trans rfl; have hcz20_6 : w18.cell? ⟨gb130, 6, none⟩ = some (.slice none 0 0) := (blk_cell BK130.out 6).trans rfl; have hfz20_0 := blk_frozen BK130.out 0; have hfz20_1 := blk_frozen BK130.out 1; have hfz20_2 := blk_frozen BK130.out 2; have hfz20_3 := blk_frozen BK130.out 3; have hfz20_4 := blk_frozen BK130.out 4; have hfz20_5 := blk_frozen BK130.out 5; have hfz20_6 := blk_frozen BK130.out 6; obtain ⟨Ao21, co21, eo21⟩ := Kd.R_slice HO125.out; subst eo21; obtain ⟨Ao22, co22, eo22⟩ := Kd.R_slice HO128.out; subst eo22; have p131 : 0 ≤ (0 : Int) := (by omega); have q131 : 0 < (t101.length : Int) := of_decide_eq_true (by first | (with_reducible assumption) | assumption); obtain ⟨ad131, e131, hx131_0⟩ := Kd.at_int (Kd.R_reads' HO103.out).2.2 0 p131 q131; cases e131; have qi131 : (0 < t101.length) = True := eq_true (by omega); (try rw [show ((0 : Int)).toNat = 0 from rfl] at hx131_0); (try rw [Addr.add_zero'] at hx131_0); have hn131_0 : ad131.block ≠ gb130 := Kd.own_blk (Kd.R_ne HO103.out BK130.out (by decide)); have hn131_1 : ad131.block ≠ gb130 := Kd.own_blk (Kd.R_ne HO103.out BK130.out (by decide)); have hn131_2 : ad131.block ≠ gb130 := Kd.own_blk (Kd.R_ne HO103.out BK130.out (by decide)); have hn131_3 : ad131.block ≠ gb130 := Kd.own_blk (Kd.R_ne HO103.out BK130.out (by decide)); have hn131_4 : ad131.block ≠ gb130 := Kd.own_blk (Kd.R_ne HO103.out BK130.out (by decide)); have hn131_5 : ad131.block ≠ gb130 := Kd.own_blk (Kd.R_ne HO103.out BK130.out (by decide)); have hn131_6 : ad131.block ≠ gb130 := Kd.own_blk (Kd.R_ne HO103.out BK130.out (by decide)); replace hx131_0 := (cell_far (p := ⟨gb130, 0, none⟩) (by first | (rw [add_block]; exact hn131_0) | (show (Addr.add _ _).block ≠ _; rw [add_block]; exact hn131_0) | exact hn131_0) (.int .i64 t118)).trans hx131_0; replace hx131_0 := (cell_far (p := ⟨gb130, 1, none⟩) (by first | (rw [add_block]; exact hn131_1) | (show (Addr.add _ _).block ≠ _; rw [add_block]; exact hn131_1) | exact hn131_1) (.int .u64 t119)).trans hx131_0; replace hx131_0 := (cell_far (p := ⟨gb130, 2, none⟩) (by first | (rw [add_block]; exact hn131_2) | (show (Addr.add _ _).block ≠ _; rw [add_block]; exact hn131_2) | exact hn131_2) (.int .i64 t120)).trans hx131_0; replace hx131_0 := (cell_far (p := ⟨gb130, 3, none⟩) (by first | (rw [add_block]; exact hn131_3) | (show (Addr.add _ _).block ≠ _; rw [add_block]; exact hn131_3) | exact hn131_3) (.int .i64 t121)).trans hx131_0; replace hx131_0 := (cell_far (p := ⟨gb130, 4, none⟩) (by first | (rw [add_block]; exact hn131_4) | (show (Addr.add _ _).block ≠ _; rw [add_block]; exact hn131_4) | exact hn131_4) (.int .u32 t122)).trans hx131_0; replace hx131_0 := (cell_far (p := ⟨gb130, 5, none⟩) (by first | (rw [add_block]; exact hn131_5) | (show (Addr.add _ _).block ≠ _; rw [add_block]; exact hn131_5) | exact hn131_5) (.slice Ao21 t123.length co21)).trans hx131_0; replace hx131_0 := (cell_far (p := ⟨gb130, 6, none⟩) (by first | (rw [add_block]; exact hn131_6) | (show (Addr.add _ _).block ≠ _; rw [add_block]; exact hn131_6) | exact hn131_6) (.slice Ao22 t126.length co22)).trans hx131_0; clear hn131_0; clear hn131_1; clear hn131_2; clear hn131_3; clear hn131_4; clear hn131_5; clear hn131_6; replace p131 := eq_true p131; replace q131 := eq_true q131; have hcz23_0 : w18.cell? ⟨gb117, 0, none⟩ = some (.int .i64 t105) := (blk_cell BK117.out 0).trans rfl; have hcz23_1 : w18.cell? ⟨gb117, 1, none⟩ = some (.int .u64 t106) := (blk_cell BK117.out 1).trans rfl; have hcz23_2 : w18.cell? ⟨gb117, 2, none⟩ = some (.int .i64 t107) := (blk_cell BK117.out 2).trans rfl; have hcz23_3 : w18.cell? ⟨gb117, 3, none⟩ = some (.int .i64 t108) := (blk_cell BK117.out 3).trans rfl; have hcz23_4 : w18.cell? ⟨gb117, 4, none⟩ = some (.int .u32 t109) := (blk_cell BK117.out 4).trans rfl; have hcz23_5 : w18.cell? ⟨gb117, 5, none⟩ = some (.slice Ao15 t110.length co15) := (blk_cell BK117.out 5).trans rfl; have hcz23_6 : w18.cell? ⟨gb117, 6, none⟩ = some (.slice Ao16 t113.length co16) := (blk_cell BK117.out 6).trans rfl; have hfz23_0 := blk_frozen BK117.out 0; have hfz23_1 := blk_frozen BK117.out 1; have hfz23_2 := blk_frozen BK117.out 2; have hfz23_3 := blk_frozen BK117.out 3; have hfz23_4 := blk_frozen BK117.out 4; have hfz23_5 := blk_frozen BK117.out 5; have hfz23_6 := blk_frozen BK117.out 6))
             go_ret
             exact ⟨by first | rfl | (simp [errW_none, errW_some] <;> rfl) | (simp [*, errW_none, errW_some] <;> rfl), by repeat (first | (with_reducible first | exact HB.out | apply below_alloc | apply pw_below_drewN | apply below_drew1 | refine below_set ?_ GE117.out | refine below_set ?_ GE130.out) | exact HB.out)⟩
           · rw [if_neg c9] at H
             have c9b0 : (t105 == 6) = false := beq_eq_false_iff_ne.mpr c9
             have c9b1 : (t105 != 6) = true := bne_iff_ne.mpr c9
             exact absurd H (by rw [hr_.out]; simp)
         · rw [if_neg c8] at H
           have c8b0 : (t116 == 0) = false := beq_eq_false_iff_ne.mpr c8
           have c8b1 : (t116 != 0) = true := bne_iff_ne.mpr c8
           exact absurd H (by rw [hr_.out]; simp)
       · rw [if_neg c7] at H
         have c7b0 : ((rd t101 0) == 6) = false := beq_eq_false_iff_ne.mpr c7
         have c7b1 : ((rd t101 0) != 6) = true := bne_iff_ne.mpr c7
         exact absurd H (by rw [hr_.out]; simp)
     · rw [if_neg c6] at H
       exact absurd H (by simp)
   · rw [if_neg c5] at H
     have c5b0 : ((t101.length : Int) == 21) = false := beq_eq_false_iff_ne.mpr c5
     have c5b1 : ((t101.length : Int) != 21) = true := bne_iff_ne.mpr c5
     exact absurd H (by rw [hr_.out]; simp)
 · rw [if_neg c4] at H
   have c4b0 : (t104 == 0) = false := beq_eq_false_iff_ne.mpr c4
   have c4b1 : (t104 != 0) = true := bne_iff_ne.mpr c4
   exact absurd H (by rw [hr_.out]; simp)

end Go.Proofs.Ytoooceaoggkeeaa.F
end

section
namespace Go.Proofs.Ytoooceaoggkeeaa.F
open Go.RowKit Go.Proofs.YtoooceaoggkeeaaW.PrintWords Go.Proofs.YtoooceaoggkeeaaW.PrintLast Go.Proofs.YtoooceaoggkeeaaW.PrintMore
attribute [local go_sem] max2_int min2_int max_two min_two max_three min_three max_four min_four   -- for this text's walks alone
set_option linter.unusedVariables false
set_option linter.unusedSimpArgs false

def scullerlaw13_known_c.f : Option Bool := some true
theorem scullerlaw13_known_c.to {r : Bool} (h : scullerlaw13_known_c.f = some r) : scullerlaw13_known.f = some r := by
 obtain rfl := Option.some.inj h
 decide +kernel

theorem scullerlaw13_known_c.calls (r : Bool) (w : World) (h : scullerlaw13_known_c.f  = some r) :
 Calls Try.prog 13 #[] w fun e w' => e = .returned (.bool r) ∧ Below w.heap.size w w' := by
 exact scullerlaw13_known.calls r w (scullerlaw13_known_c.to h) ⟨(Option.some.inj h).symm⟩

end Go.Proofs.Ytoooceaoggkeeaa.F
end
