/- Proved: at every input in bounds the statement PackCodes of the pack layer answers yes: Encode, Parse and Same of any datagram and bytes, and of choices, are what the chapter says.
Text 27 of 30; functions told as plain ones, with the contracts of their calls. -/
import Derived.Test.YtoooceaoggkeeaaQPackCodes22
import Derived.Test.YtoooceaoggkeeaaQPackCodes23
import Derived.Test.YtoooceaoggkeeaaQPackCodes25
import Derived.Test.YtoooceaoggkeeaaQPackCodes26
import Derived.Test.YtoooceaoggkeeaaQPackCodes24
section
namespace Go.Proofs.Ytoooceaoggkeeaa.F
open Go.RowKit Go.Proofs.YtoooceaoggkeeaaW.PrintWords Go.Proofs.YtoooceaoggkeeaaW.PrintLast Go.Proofs.YtoooceaoggkeeaaW.PrintMore
attribute [local go_sem] max2_int min2_int max_two min_two max_three min_three max_four min_four   -- for this text's walks alone
set_option linter.unusedVariables false
set_option linter.unusedSimpArgs false

/-! ### scullerlaw13_PackCodes: function 7 -/
mutual
def scullerlaw13_PackCodes.j0 : Nat → List Int → Int → Int → Int → Int → List Int → Int → Int → Int → Bool → Int → Int → Int → Int → Int → List Int → List Int → Option (Bool)
 | 0, _, _, _, _, _, _, _, _, _, _, _, _, _, _, _, _, _ => none
 | k + 1, x1, x2, x3, x4, x5, x6, x7, x8, x9, x49, x102000, x102001, x102002, x102003, x102004, x102005, x102006 => if x49 = true then ((scullerlaw13_known_c.f).bind fun t103 => (some t103)) else ((scullerlaw13_Gram_c.f x2 x3 x4 x5 x6 x7).bind fun bt104 => ((scullerref13_Encode_c.f bt104.1 bt104.2.1 bt104.2.2.1 bt104.2.2.2.1 bt104.2.2.2.2.1 bt104.2.2.2.2.2.1 bt104.2.2.2.2.2.2).bind fun bt116 => (if ([] : List Int).length + bt116.1.length < 140737488355328 then ((some (([] : List Int) ++ bt116.1 : List Int)).bind fun y120 => (if (y120.length : Int) > 0 then (if (y120.length : Int) = 0 then (none) else (if 0 ≤ (Int.tmod (wrap64 (x8)) (y120.length : Int)) then (if (Int.tmod (wrap64 (x8)) (y120.length : Int)) < (y120.length : Int) then (scullerlaw13_PackCodes.j1 k x1 bt116.1 (y120.set ((Int.tmod (wrap64 (x8)) (y120.length : Int)) : Int).toNat x9) x102000 x102001 x102002 x102003 x102004 x102005 x102006 bt104.1 bt104.2.1 bt104.2.2.1 bt104.2.2.2.1 bt104.2.2.2.2.1 bt104.2.2.2.2.2.1 bt104.2.2.2.2.2.2) else (none)) else (none))) else (scullerlaw13_PackCodes.j1 k x1 bt116.1 y120 x102000 x102001 x102002 x102003 x102004 x102005 x102006 bt104.1 bt104.2.1 bt104.2.2.1 bt104.2.2.2.1 bt104.2.2.2.2.1 bt104.2.2.2.2.2.1 bt104.2.2.2.2.2.2))) else (none))))
def scullerlaw13_PackCodes.j1 : Nat → List Int → List Int → List Int → Int → Int → Int → Int → Int → List Int → List Int → Int → Int → Int → Int → Int → List Int → List Int → Option (Bool)
 | 0, _, _, _, _, _, _, _, _, _, _, _, _, _, _, _, _, _ => none
 | k + 1, x1, x22, x24, x102000, x102001, x102002, x102003, x102004, x102005, x102006, x116000, x116001, x116002, x116003, x116004, x116005, x116006 => if 0 ≤ (mx (wrap64 ((x24.length : Int) - 4)) 0) then (if (mx (wrap64 ((x24.length : Int) - 4)) 0) ≤ (x24.length : Int) then ((some (x24.take ((mx (wrap64 ((x24.length : Int) - 4)) 0) : Int).toNat : List Int)).bind fun y124 => (if ([] : List Int).length + y124.length < 140737488355328 then ((scullerlaw13_encodes.f x102000 x102001 x102002 x102003 x102004 x102005 x102006).bind fun t131 => (if t131 = true then ((scullerlaw13_encodes.f x116000 x116001 x116002 x116003 x116004 x116005 x116006).bind fun t132 => (if t132 = true then ((scullerlaw13_parses.f x1).bind fun t133 => (if t133 = true then ((scullerlaw13_parses.f x22).bind fun t134 => (if t134 = true then ((scullerlaw13_parses.f x24).bind fun t135 => (if t135 = true then ((scullerref02_Seal.f (([] : List Int) ++ y124)).bind fun t136 => ((scullerlaw13_parses.f t136).bind fun t139 => (if t139 = true then ((scullerref02_Seal.f x1).bind fun t140 => ((scullerlaw13_parses.f t140).bind fun t143 => (if t143 = true then ((pack_Same.f x102000 x102001 x102002 x102003 x102004 x102005 x102006 x116000 x116001 x116002 x116003 x116004 x116005 x116006).bind fun t144 => ((scullerref13_Same.f x102000 x102001 x102002 x102003 x102004 x102005 x102006 x116000 x116001 x116002 x116003 x116004 x116005 x116006).bind fun t145 => (if (t144 == t145) = true then ((pack_Same.f x116000 x116001 x116002 x116003 x116004 x116005 x116006 x116000 x116001 x116002 x116003 x116004 x116005 x116006).bind fun t146 => (some t146)) else (some false)))) else (some false)))) else (some false)))) else (some false))) else (some false))) else (some false))) else (some false))) else (some false))) else (none))) else (none)) else (none)
end
def scullerlaw13_PackCodes.f (k : Nat) (a0_0 : Int) (a0_1 : Int) (a0_2 : Int) (a0_3 : Int) (a0_4 : Int) (l0_5 : List Int) (l0_6 : List Int) (l1 : List Int) (a2 : Int) (a3 : Int) (a4 : Int) (a5 : Int) (l6 : List Int) (a7 : Int) (a8 : Int) (a9 : Int) : Option (Bool) := if (l1.length : Int) > 300 then (scullerlaw13_PackCodes.j0 k l1 a2 a3 a4 a5 l6 a7 a8 a9 true a0_0 a0_1 a0_2 a0_3 a0_4 l0_5 l0_6) else (if (l0_6.length : Int) > 200 then (scullerlaw13_PackCodes.j0 k l1 a2 a3 a4 a5 l6 a7 a8 a9 true a0_0 a0_1 a0_2 a0_3 a0_4 l0_5 l0_6) else (if (l0_5.length : Int) > 40 then (scullerlaw13_PackCodes.j0 k l1 a2 a3 a4 a5 l6 a7 a8 a9 true a0_0 a0_1 a0_2 a0_3 a0_4 l0_5 l0_6) else (if (l6.length : Int) > 200 then (scullerlaw13_PackCodes.j0 k l1 a2 a3 a4 a5 l6 a7 a8 a9 true a0_0 a0_1 a0_2 a0_3 a0_4 l0_5 l0_6) else ((scullerlaw13_known_c.f).bind fun t102 => (scullerlaw13_PackCodes.j0 k l1 a2 a3 a4 a5 l6 a7 a8 a9 (!t102) a0_0 a0_1 a0_2 a0_3 a0_4 l0_5 l0_6)))))
theorem scullerlaw13_PackCodes.mono_l : ∀ k, (∀ y0 y1 y2 y3 y4 y5 y6 y7 y8 y9 y10 y11 y12 y13 y14 y15 y16, LeO (scullerlaw13_PackCodes.j0 k y0 y1 y2 y3 y4 y5 y6 y7 y8 y9 y10 y11 y12 y13 y14 y15 y16) (scullerlaw13_PackCodes.j0 (k + 1) y0 y1 y2 y3 y4 y5 y6 y7 y8 y9 y10 y11 y12 y13 y14 y15 y16)) ∧ (∀ y0 y1 y2 y3 y4 y5 y6 y7 y8 y9 y10 y11 y12 y13 y14 y15 y16, LeO (scullerlaw13_PackCodes.j1 k y0 y1 y2 y3 y4 y5 y6 y7 y8 y9 y10 y11 y12 y13 y14 y15 y16) (scullerlaw13_PackCodes.j1 (k + 1) y0 y1 y2 y3 y4 y5 y6 y7 y8 y9 y10 y11 y12 y13 y14 y15 y16))
 | 0 => ⟨fun _ _ _ _ _ _ _ _ _ _ _ _ _ _ _ _ _ r h => by simp [scullerlaw13_PackCodes.j0] at h, fun _ _ _ _ _ _ _ _ _ _ _ _ _ _ _ _ _ r h => by simp [scullerlaw13_PackCodes.j1] at h⟩
 | k + 1 => by
   obtain ⟨ih0, ih1⟩ := scullerlaw13_PackCodes.mono_l k
   refine ⟨?_, ?_⟩
   · intro y0 y1 y2 y3 y4 y5 y6 y7 y8 y9 y10 y11 y12 y13 y14 y15 y16
     unfold scullerlaw13_PackCodes.j0
     repeat' first
     | (with_reducible exact ih0 _ _ _ _ _ _ _ _ _ _ _ _ _ _ _ _ _)
     | (with_reducible exact ih1 _ _ _ _ _ _ _ _ _ _ _ _ _ _ _ _ _)
     | (with_reducible exact LeO.refl _)
     | (with_reducible exact LeO.none _)
     | (with_reducible refine LeO.ite ?_ ?_)
     | (with_reducible refine LeO.bind ?_ (fun _ => ?_))
     | exact ih0 _ _ _ _ _ _ _ _ _ _ _ _ _ _ _ _ _
     | exact ih1 _ _ _ _ _ _ _ _ _ _ _ _ _ _ _ _ _
     | exact LeO.none _
     | refine LeO.ite ?_ ?_
     | refine LeO.bind ?_ (fun _ => ?_)
   · intro y0 y1 y2 y3 y4 y5 y6 y7 y8 y9 y10 y11 y12 y13 y14 y15 y16
     unfold scullerlaw13_PackCodes.j1
     repeat' first
     | (with_reducible exact ih0 _ _ _ _ _ _ _ _ _ _ _ _ _ _ _ _ _)
     | (with_reducible exact ih1 _ _ _ _ _ _ _ _ _ _ _ _ _ _ _ _ _)
     | (with_reducible exact LeO.refl _)
     | (with_reducible exact LeO.none _)
     | (with_reducible refine LeO.ite ?_ ?_)
     | (with_reducible refine LeO.bind ?_ (fun _ => ?_))
     | exact ih0 _ _ _ _ _ _ _ _ _ _ _ _ _ _ _ _ _
     | exact ih1 _ _ _ _ _ _ _ _ _ _ _ _ _ _ _ _ _
     | exact LeO.none _
     | refine LeO.ite ?_ ?_
     | refine LeO.bind ?_ (fun _ => ?_)
theorem scullerlaw13_PackCodes.mono : ∀ a0 a1 a2 a3 a4 a5 a6 a7 a8 a9 a10 a11 a12 a13 a14 a15 k, LeO (scullerlaw13_PackCodes.f k a0 a1 a2 a3 a4 a5 a6 a7 a8 a9 a10 a11 a12 a13 a14 a15) (scullerlaw13_PackCodes.f (k + 1) a0 a1 a2 a3 a4 a5 a6 a7 a8 a9 a10 a11 a12 a13 a14 a15) := by
 intro a0 a1 a2 a3 a4 a5 a6 a7 a8 a9 a10 a11 a12 a13 a14 a15 k
 obtain ⟨ih0, ih1⟩ := scullerlaw13_PackCodes.mono_l k
 unfold scullerlaw13_PackCodes.f
 repeat' first
  | (with_reducible exact ih0 _ _ _ _ _ _ _ _ _ _ _ _ _ _ _ _ _)
  | (with_reducible exact ih1 _ _ _ _ _ _ _ _ _ _ _ _ _ _ _ _ _)
  | (with_reducible exact LeO.refl _)
  | (with_reducible exact LeO.none _)
  | (with_reducible refine LeO.ite ?_ ?_)
  | (with_reducible refine LeO.bind ?_ (fun _ => ?_))
  | exact ih0 _ _ _ _ _ _ _ _ _ _ _ _ _ _ _ _ _
  | exact ih1 _ _ _ _ _ _ _ _ _ _ _ _ _ _ _ _ _
  | exact LeO.none _
  | refine LeO.ite ?_ ?_
  | refine LeO.bind ?_ (fun _ => ?_)
def scullerlaw13_PackCodes.T11 : Bool × List (List Nat × List Nat) := (true, [([], []), ([0], [0]), ([1, 1], [1]), ([2], [2]), ([3, 2, 2], [2, 3]), ([2, 4], [2, 4]), ([5, 4], [5]), ([6], [6]), ([7, 6, 6], [6, 7]), ([6, 8], [6, 8]), ([9, 8], [9]), ([10], [10]), ([11, 10, 10], [10, 11]), ([10, 12], [10, 12]), ([13, 12], [13]), ([14], [14]), ([15, 14, 14], [14, 15]), ([14, 16], [14, 16]), ([17, 16], [17]), ([18], [18]), ([19, 18, 18], [18, 19]), ([20, 20, 18], [18, 20]), ([18, 21], [18, 21]), ([22, 21], [22]), ([23], [23]), ([24, 23, 23], [23, 24]), ([25, 25, 23], [23, 25]), ([23, 26], [23, 26]), ([27, 26], [27]), ([28], [28]), ([28], [28]), ([29, 30, 28, 28], [28, 29, 30]), ([28], [28]), ([28], [28]), ([32, 33, 31, 28], [28, 32, 33]), ([31, 34, 28], [28, 31, 34]), ([28, 35], [28, 35]), ([36, 34], [36]), ([37], [37]), ([37], [37]), ([38, 39, 37, 37], [37, 38, 39]), ([37, 40], [37, 40]), ([41, 40, 0, 1, 2, 3, 4, 5, 6, 7, 8, 9, 10, 11, 12, 13, 14, 15, 16, 17, 18, 19, 20, 21, 22, 23, 24, 25, 26, 27, 28, 29, 30, 31, 32, 33, 34, 35, 36, 37, 38, 39, 40, 41], [41])])
def scullerlaw13_PackCodes.B11 : List Nat := [0, 1, 3, 7, 15, 31, 63, 127, 255, 511, 1023, 2047, 4095, 8191, 16383, 32767, 65535, 131071, 262143, 524287, 1048575, 2097151, 4194303, 8388607, 16777215, 33554431, 67108863, 134217727, 268435455, 536870911, 536870911, 2147483647, 536870911, 536870911, 17179869183, 34359738367, 68719476735, 137438953471, 274877906943, 274877906943, 1099511627775, 2199023255551, 4398046511103]
theorem scullerlaw13_PackCodes.tab11 : rtab .any (opsOf Try.f7 11) = scullerlaw13_PackCodes.T11 := by kernel_rfl
theorem scullerlaw13_PackCodes.bits11 : waitsOk scullerlaw13_PackCodes.T11.2 scullerlaw13_PackCodes.B11 = true := by kernel_rfl
set_option maxHeartbeats 8000000 in
set_option maxRecDepth 100000 in
theorem scullerlaw13_PackCodes.calls (k : Nat) (a0_0 : Int) (a0_1 : Int) (a0_2 : Int) (a0_3 : Int) (a0_4 : Int) (A0_5 : Option Addr) (c0_5 : Nat) (l0_5 : List Int) (A0_6 : Option Addr) (c0_6 : Nat) (l0_6 : List Int) (A1 : Option Addr) (c1 : Nat) (l1 : List Int) (a2 : Int) (a3 : Int) (a4 : Int) (a5 : Int) (A6 : Option Addr) (c6 : Nat) (l6 : List Int) (a7 : Int) (a8 : Int) (a9 : Int) (r : Bool) (w : World) (hr0_5 : Kd.C (Kd.int .i64) w A0_5 l0_5.length l0_5) (hc0_5 : l0_5.length ≤ c0_5) (hr0_6 : Kd.C (Kd.int .u8) w A0_6 l0_6.length l0_6) (hc0_6 : l0_6.length ≤ c0_6) (hr1 : Kd.C (Kd.int .u8) w A1 l1.length l1) (hc1 : l1.length ≤ c1) (hr6 : Kd.C (Kd.int .u8) w A6 l6.length l6) (hc6 : l6.length ≤ c6) (h : scullerlaw13_PackCodes.f k a0_0 a0_1 a0_2 a0_3 a0_4 l0_5 l0_6 l1 a2 a3 a4 a5 l6 a7 a8 a9 = some r) (hr_ : Aside0 (r = true)) :
 Calls Try.prog 7 #[.agg #[.int .i64 a0_0, .int .u64 a0_1, .int .i64 a0_2, .int .i64 a0_3, .int .u32 a0_4, .slice A0_5 l0_5.length c0_5, .slice A0_6 l0_6.length c0_6], .slice A1 l1.length c1, .int .u64 a2, .int .u32 a3, .int .u16 a4, .int .u16 a5, .slice A6 l6.length c6, .int .u8 a7, .int .u16 a8, .int .u8 a9] w fun e w' => e = .returned (.bool r) ∧ Below w.heap.size w w' := by
 have hu28 := Try.underlying28
 have HR0_5 := Aside0.mk hr0_5
 have HC0_5 := Aside0.mk hc0_5
 clear hr0_5 hc0_5
 have HR0_6 := Aside0.mk hr0_6
 have HC0_6 := Aside0.mk hc0_6
 clear hr0_6 hc0_6
 have HR1 := Aside0.mk hr1
 have HC1 := Aside0.mk hc1
 clear hr1 hc1
 have HR6 := Aside0.mk hr6
 have HC6 := Aside0.mk hc6
 clear hr6 hc6
 have HB := Aside0.mk (Below.refl w.heap.size w)
 have H : (if (l1.length : Int) > 300 then (scullerlaw13_PackCodes.j0 k l1 a2 a3 a4 a5 l6 a7 a8 a9 true a0_0 a0_1 a0_2 a0_3 a0_4 l0_5 l0_6) else (if (l0_6.length : Int) > 200 then (scullerlaw13_PackCodes.j0 k l1 a2 a3 a4 a5 l6 a7 a8 a9 true a0_0 a0_1 a0_2 a0_3 a0_4 l0_5 l0_6) else (if (l0_5.length : Int) > 40 then (scullerlaw13_PackCodes.j0 k l1 a2 a3 a4 a5 l6 a7 a8 a9 true a0_0 a0_1 a0_2 a0_3 a0_4 l0_5 l0_6) else (if (l6.length : Int) > 200 then (scullerlaw13_PackCodes.j0 k l1 a2 a3 a4 a5 l6 a7 a8 a9 true a0_0 a0_1 a0_2 a0_3 a0_4 l0_5 l0_6) else ((scullerlaw13_known_c.f).bind fun t102 => (scullerlaw13_PackCodes.j0 k l1 a2 a3 a4 a5 l6 a7 a8 a9 (!t102) a0_0 a0_1 a0_2 a0_3 a0_4 l0_5 l0_6)))))) = some r := h
 clear h
 have HC11 := Aside0.mk H
 clear H
 go_enter Try.func7, Try.ntmps7
 go_upto_region 1 with (first | ((with_reducible refine gate_dst (N := 10) rfl ?_); (try (refine gate_guard (by rfl) ?_; dsimp only)); refine box_event ?hg (N := 10) ?hd (cs := #[.int .i64 a0_0, .int .u64 a0_1, .int .i64 a0_2, .int .i64 a0_3, .int .u32 a0_4, .slice A0_5 l0_5.length c0_5, .slice A0_6 l0_6.length c0_6]) (t := 28) ?hr ?_; (case hd => rfl); (case hg => rfl); (case hr => first | (go_simp; done) | (go_simp; rfl)); intro gb101 hg w12 hbox hb; have n0_ := Aside0.mk (below_step (by repeat (first | (with_reducible first | exact HB.out | apply below_alloc | apply pw_below_drewN | apply below_drew1) | exact HB.out)) hb); have n1_ := Aside0.mk (hbox); have n2_ := Aside0.mk ((by rw [hg]; exact (below_size (by repeat (first | (with_reducible first | exact HB.out | apply below_alloc | apply pw_below_drewN | apply below_drew1) | exact HB.out))) : w.heap.size ≤ gb101)); have n3_ := Aside0.mk ((by rw [hg]; exact (below_size (by repeat (first | (with_reducible first | exact HB.out | apply below_alloc | apply pw_below_drewN | apply below_drew1) | exact HB.out))) : w.heap.size ≤ gb101)); clear HB; have HB := n0_; have BK101 := n1_; have GW101 := n2_; have GE101 := n3_; clear n0_ n1_ n2_ n3_; clear hb hbox hg))
 (try simp only [Act.put, List.setIfInBounds_toArray, List.set_cons_zero, List.set_cons_succ])
 go_cut [49] (fun v49 wc => ∃ (kq : Nat) (x49_10 : Bool), v49 = .bool x49_10 ∧ Aside0 (scullerlaw13_PackCodes.j0 kq l1 a2 a3 a4 a5 l6 a7 a8 a9 x49_10 a0_0 a0_1 a0_2 a0_3 a0_4 l0_5 l0_6 = some r) ∧ Aside0 (kq ≤ k) ∧ Aside0 (wc.heap[gb101]? = some (.cells #[.int .i64 a0_0, .int .u64 a0_1, .int .i64 a0_2, .int .i64 a0_3, .int .u32 a0_4, (.slice A0_5 l0_5.length c0_5), (.slice A0_6 l0_6.length c0_6)] 28 (0, 0))) ∧ Aside0 (Below w.heap.size w wc))
 case first =>
  have H := HC11.out
  clear HC11
  by_cases c13 : (l1.length : Int) > 300
  · rw [if_pos c13] at H
    have c13b0 : decide (300 < (l1.length : Int)) = true := decide_eq_true c13
    have c13b1 : decide (300 < l1.length) = true := decide_eq_true (by omega)
    clear c13
    (first | rw [c13b0] | (simp only [i64_w, i32_w]; rw [c13b0]) | skip)
    have H' := Aside0.mk H
    clear H
    go_wp2
    go_meet
    case rel => exact ⟨_, (true), (by first | rfl | (simp; done) | (simp [*]; done)), H', ⟨by first | omega | exact Nat.le_refl _⟩, ⟨by (with_reducible repeat (first | refine blk_drewN ?_ _ | refine blk_drew ?_ | refine blk_alloc ?_ _)); exact BK101.out⟩, ⟨by repeat (first | (with_reducible first | exact HB.out | apply below_alloc | apply pw_below_drewN | apply below_drew1 | refine below_set ?_ GE101.out) | exact HB.out)⟩⟩
  · rw [if_neg c13] at H
    have c13b0 : decide (300 < (l1.length : Int)) = false := decide_eq_false c13
    have c13b1 : decide (300 < l1.length) = false := decide_eq_false (by omega)
    clear c13
    (first | rw [c13b0] | (simp only [i64_w, i32_w]; rw [c13b0]) | skip)
    by_cases c14 : (l0_6.length : Int) > 200
    · rw [if_pos c14] at H
      have c14b0 : decide (200 < (l0_6.length : Int)) = true := decide_eq_true c14
      have c14b1 : decide (200 < l0_6.length) = true := decide_eq_true (by omega)
      clear c14
      have H' := Aside0.mk H
      clear H
      have hcz15_0 : w12.cell? ⟨gb101, 0, none⟩ = some (.int .i64 a0_0) := (blk_cell BK101.out 0).trans rfl
      have hcz15_1 : w12.cell? ⟨gb101, 1, none⟩ = some (.int .u64 a0_1) := (blk_cell BK101.out 1).trans rfl
      have hcz15_2 : w12.cell? ⟨gb101, 2, none⟩ = some (.int .i64 a0_2) := (blk_cell BK101.out 2).trans rfl
      have hcz15_3 : w12.cell? ⟨gb101, 3, none⟩ = some (.int .i64 a0_3) := (blk_cell BK101.out 3).trans rfl
      have hcz15_4 : w12.cell? ⟨gb101, 4, none⟩ = some (.int .u32 a0_4) := (blk_cell BK101.out 4).trans rfl
      have hcz15_5 : w12.cell? ⟨gb101, 5, none⟩ = some (.slice A0_5 l0_5.length c0_5) := (blk_cell BK101.out 5).trans rfl
      have hcz15_6 : w12.cell? ⟨gb101, 6, none⟩ = some (.slice A0_6 l0_6.length c0_6) := (blk_cell BK101.out 6).trans rfl
      have hfz15_0 := blk_frozen BK101.out 0
      have hfz15_1 := blk_frozen BK101.out 1
      have hfz15_2 := blk_frozen BK101.out 2
      have hfz15_3 := blk_frozen BK101.out 3
      have hfz15_4 := blk_frozen BK101.out 4
      have hfz15_5 := blk_frozen BK101.out 5
      have hfz15_6 := blk_frozen BK101.out 6
      go_wp2
      go_meet
      case rel => exact ⟨_, (true), (by first | rfl | (simp; done) | (simp [*]; done)), H', ⟨by first | omega | exact Nat.le_refl _⟩, ⟨by (with_reducible repeat (first | refine blk_drewN ?_ _ | refine blk_drew ?_ | refine blk_alloc ?_ _)); exact BK101.out⟩, ⟨by repeat (first | (with_reducible first | exact HB.out | apply below_alloc | apply pw_below_drewN | apply below_drew1 | refine below_set ?_ GE101.out) | exact HB.out)⟩⟩
    · rw [if_neg c14] at H
      have c14b0 : decide (200 < (l0_6.length : Int)) = false := decide_eq_false c14
      have c14b1 : decide (200 < l0_6.length) = false := decide_eq_false (by omega)
      clear c14
      by_cases c16 : (l0_5.length : Int) > 40
      · rw [if_pos c16] at H
        have c16b0 : decide (40 < (l0_5.length : Int)) = true := decide_eq_true c16
        have c16b1 : decide (40 < l0_5.length) = true := decide_eq_true (by omega)
        clear c16
        have H' := Aside0.mk H
        clear H
        have hcz17_0 : w12.cell? ⟨gb101, 0, none⟩ = some (.int .i64 a0_0) := (blk_cell BK101.out 0).trans rfl
        have hcz17_1 : w12.cell? ⟨gb101, 1, none⟩ = some (.int .u64 a0_1) := (blk_cell BK101.out 1).trans rfl
        have hcz17_2 : w12.cell? ⟨gb101, 2, none⟩ = some (.int .i64 a0_2) := (blk_cell BK101.out 2).trans rfl
        have hcz17_3 : w12.cell? ⟨gb101, 3, none⟩ = some (.int .i64 a0_3) := (blk_cell BK101.out 3).trans rfl
        have hcz17_4 : w12.cell? ⟨gb101, 4, none⟩ = some (.int .u32 a0_4) := (blk_cell BK101.out 4).trans rfl
        have hcz17_5 : w12.cell? ⟨gb101, 5, none⟩ = some (.slice A0_5 l0_5.length c0_5) := (blk_cell BK101.out 5).trans rfl
        have hcz17_6 : w12.cell? ⟨gb101, 6, none⟩ = some (.slice A0_6 l0_6.length c0_6) := (blk_cell BK101.out 6).trans rfl
        have hfz17_0 := blk_frozen BK101.out 0
        have hfz17_1 := blk_frozen BK101.out 1
        have hfz17_2 := blk_frozen BK101.out 2
        have hfz17_3 := blk_frozen BK101.out 3
        have hfz17_4 := blk_frozen BK101.out 4
        have hfz17_5 := blk_frozen BK101.out 5
        have hfz17_6 := blk_frozen BK101.out 6
        go_wp2
        go_meet
        case rel => exact ⟨_, (true), (by first | rfl | (simp; done) | (simp [*]; done)), H', ⟨by first | omega | exact Nat.le_refl _⟩, ⟨by (with_reducible repeat (first | refine blk_drewN ?_ _ | refine blk_drew ?_ | refine blk_alloc ?_ _)); exact BK101.out⟩, ⟨by repeat (first | (with_reducible first | exact HB.out | apply below_alloc | apply pw_below_drewN | apply below_drew1 | refine below_set ?_ GE101.out) | exact HB.out)⟩⟩
      · rw [if_neg c16] at H
        have c16b0 : decide (40 < (l0_5.length : Int)) = false := decide_eq_false c16
        have c16b1 : decide (40 < l0_5.length) = false := decide_eq_false (by omega)
        clear c16
        by_cases c18 : (l6.length : Int) > 200
        · rw [if_pos c18] at H
          have c18b0 : decide (200 < (l6.length : Int)) = true := decide_eq_true c18
          have c18b1 : decide (200 < l6.length) = true := decide_eq_true (by omega)
          clear c18
          have H' := Aside0.mk H
          clear H
          have hcz19_0 : w12.cell? ⟨gb101, 0, none⟩ = some (.int .i64 a0_0) := (blk_cell BK101.out 0).trans rfl
          have hcz19_1 : w12.cell? ⟨gb101, 1, none⟩ = some (.int .u64 a0_1) := (blk_cell BK101.out 1).trans rfl
          have hcz19_2 : w12.cell? ⟨gb101, 2, none⟩ = some (.int .i64 a0_2) := (blk_cell BK101.out 2).trans rfl
          have hcz19_3 : w12.cell? ⟨gb101, 3, none⟩ = some (.int .i64 a0_3) := (blk_cell BK101.out 3).trans rfl
          have hcz19_4 : w12.cell? ⟨gb101, 4, none⟩ = some (.int .u32 a0_4) := (blk_cell BK101.out 4).trans rfl
          have hcz19_5 : w12.cell? ⟨gb101, 5, none⟩ = some (.slice A0_5 l0_5.length c0_5) := (blk_cell BK101.out 5).trans rfl
          have hcz19_6 : w12.cell? ⟨gb101, 6, none⟩ = some (.slice A0_6 l0_6.length c0_6) := (blk_cell BK101.out 6).trans rfl
          have hfz19_0 := blk_frozen BK101.out 0
          have hfz19_1 := blk_frozen BK101.out 1
          have hfz19_2 := blk_frozen BK101.out 2
          have hfz19_3 := blk_frozen BK101.out 3
          have hfz19_4 := blk_frozen BK101.out 4
          have hfz19_5 := blk_frozen BK101.out 5
          have hfz19_6 := blk_frozen BK101.out 6
          go_wp2
          go_meet
          case rel => exact ⟨_, (true), (by first | rfl | (simp; done) | (simp [*]; done)), H', ⟨by first | omega | exact Nat.le_refl _⟩, ⟨by (with_reducible repeat (first | refine blk_drewN ?_ _ | refine blk_drew ?_ | refine blk_alloc ?_ _)); exact BK101.out⟩, ⟨by repeat (first | (with_reducible first | exact HB.out | apply below_alloc | apply pw_below_drewN | apply below_drew1 | refine below_set ?_ GE101.out) | exact HB.out)⟩⟩
        · rw [if_neg c18] at H
          have c18b0 : decide (200 < (l6.length : Int)) = false := decide_eq_false c18
          have c18b1 : decide (200 < l6.length) = false := decide_eq_false (by omega)
          clear c18
          replace H := Option.bind_eq_some_iff.mp H
          obtain ⟨t102, A200, H⟩ := H
          replace H : (scullerlaw13_PackCodes.j0 k l1 a2 a3 a4 a5 l6 a7 a8 a9 (!t102) a0_0 a0_1 a0_2 a0_3 a0_4 l0_5 l0_6) = some r := H
          have A20 := Aside0.mk A200
          clear A200
          have H' := Aside0.mk H
          clear H
          have hcz21_0 : w12.cell? ⟨gb101, 0, none⟩ = some (.int .i64 a0_0) := (blk_cell BK101.out 0).trans rfl
          have hcz21_1 : w12.cell? ⟨gb101, 1, none⟩ = some (.int .u64 a0_1) := (blk_cell BK101.out 1).trans rfl
          have hcz21_2 : w12.cell? ⟨gb101, 2, none⟩ = some (.int .i64 a0_2) := (blk_cell BK101.out 2).trans rfl
          have hcz21_3 : w12.cell? ⟨gb101, 3, none⟩ = some (.int .i64 a0_3) := (blk_cell BK101.out 3).trans rfl
          have hcz21_4 : w12.cell? ⟨gb101, 4, none⟩ = some (.int .u32 a0_4) := (blk_cell BK101.out 4).trans rfl
          have hcz21_5 : w12.cell? ⟨gb101, 5, none⟩ = some (.slice A0_5 l0_5.length c0_5) := (blk_cell BK101.out 5).trans rfl
          have hcz21_6 : w12.cell? ⟨gb101, 6, none⟩ = some (.slice A0_6 l0_6.length c0_6) := (blk_cell BK101.out 6).trans rfl
          have hfz21_0 := blk_frozen BK101.out 0
          have hfz21_1 := blk_frozen BK101.out 1
          have hfz21_2 := blk_frozen BK101.out 2
          have hfz21_3 := blk_frozen BK101.out 3
          have hfz21_4 := blk_frozen BK101.out 4
          have hfz21_5 := blk_frozen BK101.out 5
          have hfz21_6 := blk_frozen BK101.out 6
          go_wp2_with (first | (go_at_call 13; (with_reducible refine (scullerlaw13_known_c.calls  t102 _ A20.out).mono ?_); rintro e w22 ⟨rfl, hb⟩; have n0_ := Aside0.mk (blk_below (g := gb101) (o := .cells #[.int .i64 a0_0, .int .u64 a0_1, .int .i64 a0_2, .int .i64 a0_3, .int .u32 a0_4, .slice A0_5 l0_5.length c0_5, .slice A0_6 l0_6.length c0_6] 28 (0, 0)) (by (with_reducible repeat (first | refine blk_drewN ?_ _ | refine blk_drew ?_ | refine blk_alloc ?_ _)); exact BK101.out) hb); have n1_ := Aside0.mk (below_step (by repeat (first | (with_reducible first | exact HB.out | apply below_alloc | apply pw_below_drewN | apply below_drew1 | refine below_set ?_ GE101.out) | exact HB.out)) hb); clear BK101; clear HB; have BK101 := n0_; have HB := n1_; clear n0_ n1_; (try clear hb); (try clear hb2); (try clear hk); (try clear hi)))
          go_meet
          case rel => exact ⟨_, (!t102), (by first | rfl | (simp; done) | (simp [*]; done)), H', ⟨by first | omega | exact Nat.le_refl _⟩, ⟨by (with_reducible repeat (first | refine blk_drewN ?_ _ | refine blk_drew ?_ | refine blk_alloc ?_ _)); exact BK101.out⟩, ⟨by repeat (first | (with_reducible first | exact HB.out | apply below_alloc | apply pw_below_drewN | apply below_drew1 | refine below_set ?_ GE101.out) | exact HB.out)⟩⟩
 case rest =>
  clear HC11
  try clear c1
  try clear p2
  try clear c6
  try clear c7
  try clear c13
  try clear c13b0
  try clear c13b1
  try clear c14
  try clear c14b0
  try clear c14b1
  try clear c16
  try clear c16b0
  try clear c16b1
  try clear c18
  try clear c18b0
  try clear c18b1
  try clear hcz15_0
  try clear hcz15_1
  try clear hcz15_2
  try clear hcz15_3
  try clear hcz15_4
  try clear hcz15_5
  try clear hcz15_6
  try clear hcz17_0
  try clear hcz17_1
  try clear hcz17_2
  try clear hcz17_3
  try clear hcz17_4
  try clear hcz17_5
  try clear hcz17_6
  try clear hcz19_0
  try clear hcz19_1
  try clear hcz19_2
  try clear hcz19_3
  try clear hcz19_4
  try clear hcz19_5
  try clear hcz19_6
  try clear hcz21_0
  try clear hcz21_1
  try clear hcz21_2
  try clear hcz21_3
  try clear hcz21_4
  try clear hcz21_5
  try clear hcz21_6
  try clear hfz15_0
  try clear hfz15_1
  try clear hfz15_2
  try clear hfz15_3
  try clear hfz15_4
  try clear hfz15_5
  try clear hfz15_6
  try clear hfz17_0
  try clear hfz17_1
  try clear hfz17_2
  try clear hfz17_3
  try clear hfz17_4
  try clear hfz17_5
  try clear hfz17_6
  try clear hfz19_0
  try clear hfz19_1
  try clear hfz19_2
  try clear hfz19_3
  try clear hfz19_4
  try clear hfz19_5
  try clear hfz19_6
  try clear hfz21_0
  try clear hfz21_1
  try clear hfz21_2
  try clear hfz21_3
  try clear hfz21_4
  try clear hfz21_5
  try clear hfz21_6
  obtain ⟨kq, x49_10, rfl, HA, HJ10, BK101, HB⟩ := hcut
  cases kq with
  | zero => exact absurd HA.out (by simp [scullerlaw13_PackCodes.j0])
  | succ kj10 =>
    have H := HA.out
    clear HA
    simp only [scullerlaw13_PackCodes.j0] at H
    by_cases c23 : x49_10 = true
    · subst c23
      have H1 : ((scullerlaw13_known_c.f).bind fun t103 => (some t103)) = some r := by rw [if_pos rfl] at H; exact H
      clear H
      have H := H1
      clear H1
      replace H := Option.bind_eq_some_iff.mp H
      obtain ⟨t103, A240, H⟩ := H
      replace H : (some t103) = some r := H
      have A24 := Aside0.mk A240
      clear A240
      obtain rfl := Option.some.inj H
      go_wp2_with (first | ((with_reducible refine gate_callee (f := 13) rfl ?_); refine goesL_ (some 50) rfl rfl Try.func13 (by kernel_rfl) rfl #[] rfl (by (try simp only [List.map_toArray, List.map_cons, List.map_nil]); first | done | rfl | (simp only [List.length_drop, List.length_take]; rfl)) ?_; (with_reducible refine (scullerlaw13_known_c.calls  t103 _ A24.out).mono ?_); rintro e w25 ⟨rfl, hb⟩; refine ⟨_, rfl, ?_⟩; have n0_ := Aside0.mk (blk_below (g := gb101) (o := .cells #[.int .i64 a0_0, .int .u64 a0_1, .int .i64 a0_2, .int .i64 a0_3, .int .u32 a0_4, .slice A0_5 l0_5.length c0_5, .slice A0_6 l0_6.length c0_6] 28 (0, 0)) (by (with_reducible repeat (first | refine blk_drewN ?_ _ | refine blk_drew ?_ | refine blk_alloc ?_ _)); exact BK101.out) hb); have n1_ := Aside0.mk (below_step (by repeat (first | (with_reducible first | exact HB.out | apply below_alloc | apply pw_below_drewN | apply below_drew1 | refine below_set ?_ GE101.out) | exact HB.out)) hb); clear BK101; clear HB; have BK101 := n0_; have HB := n1_; clear n0_ n1_; (try clear hb); (try clear hb2); (try clear hk); (try clear hi)))
      go_ret
      exact ⟨by first | rfl | (simp [errW_none, errW_some] <;> rfl) | (simp [*, errW_none, errW_some] <;> rfl), by repeat (first | (with_reducible first | exact HB.out | apply below_alloc | apply pw_below_drewN | apply below_drew1 | refine below_set ?_ GE101.out) | exact HB.out)⟩
    · replace c23 := Bool.eq_false_iff.mpr c23
      subst c23
      have H1 : ((scullerlaw13_Gram_c.f a2 a3 a4 a5 l6 a7).bind fun bt104 => ((scullerref13_Encode_c.f bt104.1 bt104.2.1 bt104.2.2.1 bt104.2.2.2.1 bt104.2.2.2.2.1 bt104.2.2.2.2.2.1 bt104.2.2.2.2.2.2).bind fun bt116 => (if ([] : List Int).length + bt116.1.length < 140737488355328 then ((some (([] : List Int) ++ bt116.1 : List Int)).bind fun y120 => (if (y120.length : Int) > 0 then (if (y120.length : Int) = 0 then (none) else (if 0 ≤ (Int.tmod (wrap64 (a8)) (y120.length : Int)) then (if (Int.tmod (wrap64 (a8)) (y120.length : Int)) < (y120.length : Int) then (scullerlaw13_PackCodes.j1 kj10 l1 bt116.1 (y120.set ((Int.tmod (wrap64 (a8)) (y120.length : Int)) : Int).toNat a9) a0_0 a0_1 a0_2 a0_3 a0_4 l0_5 l0_6 bt104.1 bt104.2.1 bt104.2.2.1 bt104.2.2.2.1 bt104.2.2.2.2.1 bt104.2.2.2.2.2.1 bt104.2.2.2.2.2.2) else (none)) else (none))) else (scullerlaw13_PackCodes.j1 kj10 l1 bt116.1 y120 a0_0 a0_1 a0_2 a0_3 a0_4 l0_5 l0_6 bt104.1 bt104.2.1 bt104.2.2.1 bt104.2.2.2.1 bt104.2.2.2.2.1 bt104.2.2.2.2.2.1 bt104.2.2.2.2.2.2))) else (none)))) = some r := by rw [if_neg (show ¬ (false = true) by decide)] at H; exact H
      clear H
      have H := H1
      clear H1
      replace H := Option.bind_eq_some_iff.mp H
      obtain ⟨⟨t104, t105, t106, t107, t108, t109, t112⟩, A260, H⟩ := H
      replace H : ((scullerref13_Encode_c.f t104 t105 t106 t107 t108 t109 t112).bind fun bt116 => (if ([] : List Int).length + bt116.1.length < 140737488355328 then ((some (([] : List Int) ++ bt116.1 : List Int)).bind fun y120 => (if (y120.length : Int) > 0 then (if (y120.length : Int) = 0 then (none) else (if 0 ≤ (Int.tmod (wrap64 (a8)) (y120.length : Int)) then (if (Int.tmod (wrap64 (a8)) (y120.length : Int)) < (y120.length : Int) then (scullerlaw13_PackCodes.j1 kj10 l1 bt116.1 (y120.set ((Int.tmod (wrap64 (a8)) (y120.length : Int)) : Int).toNat a9) a0_0 a0_1 a0_2 a0_3 a0_4 l0_5 l0_6 t104 t105 t106 t107 t108 t109 t112) else (none)) else (none))) else (scullerlaw13_PackCodes.j1 kj10 l1 bt116.1 y120 a0_0 a0_1 a0_2 a0_3 a0_4 l0_5 l0_6 t104 t105 t106 t107 t108 t109 t112))) else (none))) = some r := H
      have A26 := Aside0.mk A260
      clear A260
      replace H := Option.bind_eq_some_iff.mp H
      obtain ⟨⟨t116, t119⟩, A270, H⟩ := H
      replace H : (if ([] : List Int).length + t116.length < 140737488355328 then ((some (([] : List Int) ++ t116 : List Int)).bind fun y120 => (if (y120.length : Int) > 0 then (if (y120.length : Int) = 0 then (none) else (if 0 ≤ (Int.tmod (wrap64 (a8)) (y120.length : Int)) then (if (Int.tmod (wrap64 (a8)) (y120.length : Int)) < (y120.length : Int) then (scullerlaw13_PackCodes.j1 kj10 l1 t116 (y120.set ((Int.tmod (wrap64 (a8)) (y120.length : Int)) : Int).toNat a9) a0_0 a0_1 a0_2 a0_3 a0_4 l0_5 l0_6 t104 t105 t106 t107 t108 t109 t112) else (none)) else (none))) else (scullerlaw13_PackCodes.j1 kj10 l1 t116 y120 a0_0 a0_1 a0_2 a0_3 a0_4 l0_5 l0_6 t104 t105 t106 t107 t108 t109 t112))) else (none)) = some r := H
      have A27 := Aside0.mk A270
      clear A270
      by_cases c28 : ([] : List Int).length + t116.length < 140737488355328
      · rw [if_pos c28] at H
        have LMc28 := Aside0.mk c28
        clear c28
        obtain ⟨y120, hy120⟩ : ∃ y_ : List Int, y_ = (([] : List Int) ++ t116) := ⟨_, rfl⟩
        replace H : (if (y120.length : Int) > 0 then (if (y120.length : Int) = 0 then (none) else (if 0 ≤ (Int.tmod (wrap64 (a8)) (y120.length : Int)) then (if (Int.tmod (wrap64 (a8)) (y120.length : Int)) < (y120.length : Int) then (scullerlaw13_PackCodes.j1 kj10 l1 t116 (y120.set ((Int.tmod (wrap64 (a8)) (y120.length : Int)) : Int).toNat a9) a0_0 a0_1 a0_2 a0_3 a0_4 l0_5 l0_6 t104 t105 t106 t107 t108 t109 t112) else (none)) else (none))) else (scullerlaw13_PackCodes.j1 kj10 l1 t116 y120 a0_0 a0_1 a0_2 a0_3 a0_4 l0_5 l0_6 t104 t105 t106 t107 t108 t109 t112)) = some r := by first | (rw [hy120]; with_reducible exact H) | (have H2_ := (Option.bind_some _ _).symm.trans H; rw [hy120]; with_reducible exact H2_) | (have H2_ := (Option.bind_some _ _).symm.trans H; with_reducible exact H2_) | with_reducible exact H | (rw [hy120]; exact H) | exact H
        have Ny120 := Aside0.mk hy120
        clear hy120
        have HC29 := Aside0.mk H
        clear H
        go_upto_if 68 with (first | ((with_reducible refine gate_callee (f := 9) rfl ?_); refine goesL_ (some 57) rfl rfl Try.func9 (by kernel_rfl) rfl #[.int .u64 a2, .int .u32 a3, .int .u16 a4, .int .u16 a5, .slice A6 l6.length c6, .int .u8 a7] rfl (by (try simp only [List.map_toArray, List.map_cons, List.map_nil]); first | done | rfl | (simp only [List.length_drop, List.length_take]; rfl)) ?_; (with_reducible refine (scullerlaw13_Gram_c.calls a2 a3 a4 a5 (fun k_ => k_ < w.heap.size) _ _ l6 a7 t104 t105 t106 t107 t108 t109 t112 _ ?side1 A26.out).mono ?_); (case side1 => exact Kd.V_mk HC6.out (Kd.F_below (Kd.C_F (Kd.heap_int .u8) HR6.out) (by repeat (first | (with_reducible first | exact HB.out | apply below_alloc | apply pw_below_drewN | apply below_drew1 | refine below_set ?_ GE101.out) | exact HB.out)))); rintro e w30 ⟨v110, v113, rfl, ho0, ho1, hb⟩; refine ⟨_, rfl, ?_⟩; have n0_ := Aside0.mk (Kd.R_lower (Kd.R_mono (ok' := fun k_ => True) ho0 (fun _ hk_ => trivial)) (below_size (by repeat (first | (with_reducible first | exact HB.out | apply below_alloc | apply pw_below_drewN | apply below_drew1 | refine below_set ?_ GE101.out) | exact HB.out)))); have n1_ := Aside0.mk (Kd.R_lower (Kd.R_mono (ok' := fun k_ => True) ho1 (fun _ hk_ => trivial)) (below_size (by repeat (first | (with_reducible first | exact HB.out | apply below_alloc | apply pw_below_drewN | apply below_drew1 | refine below_set ?_ GE101.out) | exact HB.out)))); have n2_ := Aside0.mk (blk_below (g := gb101) (o := .cells #[.int .i64 a0_0, .int .u64 a0_1, .int .i64 a0_2, .int .i64 a0_3, .int .u32 a0_4, .slice A0_5 l0_5.length c0_5, .slice A0_6 l0_6.length c0_6] 28 (0, 0)) (by (with_reducible repeat (first | refine blk_drewN ?_ _ | refine blk_drew ?_ | refine blk_alloc ?_ _)); exact BK101.out) hb); have n3_ := Aside0.mk (below_step (by repeat (first | (with_reducible first | exact HB.out | apply below_alloc | apply pw_below_drewN | apply below_drew1 | refine below_set ?_ GE101.out) | exact HB.out)) hb); clear BK101; clear HB; have HO111 := n0_; have HO114 := n1_; have BK101 := n2_; have HB := n3_; clear n0_ n1_ n2_ n3_; (try clear hb); (try clear hb2); (try clear hk); (try clear hi); (try clear ho0); (try clear ho1)) | ((with_reducible refine gate_dst (N := 21) rfl ?_); (try (refine gate_guard (by rfl) ?_; dsimp only)); refine box_event ?hg (N := 21) ?hd (cs := #[.int .i64 0, .int .u64 0, .int .i64 0, .int .i64 0, .int .u32 0, .slice none 0 0, .slice none 0 0]) (t := 28) ?hr ?_; (case hd => rfl); (case hg => rfl); (case hr => first | (go_simp; done) | (go_simp; rfl)); intro gb115 hg w31 hbox hb; have n0_ := Aside0.mk (Kd.R_below (by (with_reducible repeat (first | apply Kd.R_alloc | apply Kd.R_drewN | apply Kd.R_drew)); exact HO111.out) hb); have n1_ := Aside0.mk (Kd.R_below (by (with_reducible repeat (first | apply Kd.R_alloc | apply Kd.R_drewN | apply Kd.R_drew)); exact HO114.out) hb); have n2_ := Aside0.mk (blk_below (g := gb101) (o := .cells #[.int .i64 a0_0, .int .u64 a0_1, .int .i64 a0_2, .int .i64 a0_3, .int .u32 a0_4, .slice A0_5 l0_5.length c0_5, .slice A0_6 l0_6.length c0_6] 28 (0, 0)) (by (with_reducible repeat (first | refine blk_drewN ?_ _ | refine blk_drew ?_ | refine blk_alloc ?_ _)); exact BK101.out) hb); have n3_ := Aside0.mk (below_step (by repeat (first | (with_reducible first | exact HB.out | apply below_alloc | apply pw_below_drewN | apply below_drew1 | refine below_set ?_ GE101.out) | exact HB.out)) hb); have n4_ := Aside0.mk (hbox); have n5_ := Aside0.mk ((by rw [hg]; exact (below_size (by repeat (first | (with_reducible first | exact HB.out | apply below_alloc | apply pw_below_drewN | apply below_drew1 | refine below_set ?_ GE101.out) | exact HB.out))) : w.heap.size ≤ gb115)); have n6_ := Aside0.mk ((by rw [hg]; exact (below_size (by repeat (first | (with_reducible first | exact HB.out | apply below_alloc | apply pw_below_drewN | apply below_drew1 | refine below_set ?_ GE101.out) | exact HB.out))) : w.heap.size ≤ gb115)); have n7_ := Aside0.mk ((by rw [hg]; exact Nat.ne_of_lt (blk_lt (g := gb101) (o := .cells #[.int .i64 a0_0, .int .u64 a0_1, .int .i64 a0_2, .int .i64 a0_3, .int .u32 a0_4, .slice A0_5 l0_5.length c0_5, .slice A0_6 l0_6.length c0_6] 28 (0, 0)) (by (with_reducible repeat (first | refine blk_drewN ?_ _ | refine blk_drew ?_ | refine blk_alloc ?_ _)); exact BK101.out)) : gb101 ≠ gb115)); have n8_ := Aside0.mk ((by rw [hg]; exact Nat.ne_of_gt (blk_lt (g := gb101) (o := .cells #[.int .i64 a0_0, .int .u64 a0_1, .int .i64 a0_2, .int .i64 a0_3, .int .u32 a0_4, .slice A0_5 l0_5.length c0_5, .slice A0_6 l0_6.length c0_6] 28 (0, 0)) (by (with_reducible repeat (first | refine blk_drewN ?_ _ | refine blk_drew ?_ | refine blk_alloc ?_ _)); exact BK101.out)) : gb115 ≠ gb101)); clear HO111; clear HO114; clear BK101; clear HB; have HO111 := n0_; have HO114 := n1_; have BK101 := n2_; have HB := n3_; have BK115 := n4_; have GW115 := n5_; have GE115 := n6_; have NB101_115 := n7_; have NB115_101 := n8_; clear n0_ n1_ n2_ n3_ n4_ n5_ n6_ n7_ n8_; clear hb hbox hg; have hnb32 := NB115_101.out; have hnc32 := NB101_115.out; have hcz33_0 : w31.cell? ⟨gb115, 0, none⟩ = some (.int .i64 0) := (blk_cell BK115.out 0).trans rfl; have hcz33_1 : w31.cell? ⟨gb115, 1, none⟩ = some (.int .u64 0) := (blk_cell BK115.out 1).trans rfl; have hcz33_2 : w31.cell? ⟨gb115, 2, none⟩ = some (.int .i64 0) := (blk_cell BK115.out 2).trans rfl; have hcz33_3 : w31.cell? ⟨gb115, 3, none⟩ = some (.int .i64 0) := (blk_cell BK115.out 3).trans rfl; have hcz33_4 : w31.cell? ⟨gb115, 4, none⟩ = some (.int .u32 0) := (blk_cell BK115.out 4).trans rfl; have hcz33_5 : w31.cell? ⟨gb115, 5, none⟩ = some (.slice none 0 0) := (blk_cell BK115.out 5).trans rfl; have hcz33_6 : w31.cell? ⟨gb115, 6, none⟩ = some (.slice none 0 0) := (blk_cell BK115.out 6).trans rfl; have hfz33_0 := blk_frozen BK115.out 0; have hfz33_1 := blk_frozen BK115.out 1; have hfz33_2 := blk_frozen BK115.out 2; have hfz33_3 := blk_frozen BK115.out 3; have hfz33_4 := blk_frozen BK115.out 4; have hfz33_5 := blk_frozen BK115.out 5; have hfz33_6 := blk_frozen BK115.out 6; obtain ⟨Ao34, co34, eo34⟩ := Kd.R_slice HO111.out; subst eo34; obtain ⟨Ao35, co35, eo35⟩ := Kd.R_slice HO114.out; subst eo35) | ((with_reducible refine gate_callee (f := 15) rfl ?_); refine goesL_ (some 60) rfl rfl Try.func15 (by kernel_rfl) rfl #[.agg #[.int .i64 t104, .int .u64 t105, .int .i64 t106, .int .i64 t107, .int .u32 t108, .slice Ao34 t109.length co34, .slice Ao35 t112.length co35]] rfl (by (try simp only [List.map_toArray, List.map_cons, List.map_nil]); first | done | rfl | (simp only [List.length_drop, List.length_take]; rfl)) ?_; (with_reducible refine (scullerref13_Encode_c.calls t104 t105 t106 t107 t108 _ _ t109 _ _ t112 t116 t119 _ ?side1 ?side2 ?side3 ?side4 A27.out).mono ?_); (case side1 => refine (Kd.R_reads' (e := 3) (base := w.heap.size) (ok := fun k_ => True) (n := t109.length) (c := co34) ?_).2.2; exact (by (with_reducible repeat (first | apply Kd.R_alloc | apply Kd.R_drewN | apply Kd.R_drew)); exact (Kd.R_mono (Kd.R_far (p := ⟨gb115, 6, none⟩) (Kd.R_far (p := ⟨gb115, 5, none⟩) (Kd.R_far (p := ⟨gb115, 4, none⟩) (Kd.R_far (p := ⟨gb115, 3, none⟩) (Kd.R_far (p := ⟨gb115, 2, none⟩) (Kd.R_far (p := ⟨gb115, 1, none⟩) (Kd.R_far (p := ⟨gb115, 0, none⟩) (Kd.R_types HO111.out BK115.out (by decide)) (fun _ hk => hk.2) (.int .i64 t104)) (fun _ hk => hk.2) (.int .u64 t105)) (fun _ hk => hk.2) (.int .i64 t106)) (fun _ hk => hk.2) (.int .i64 t107)) (fun _ hk => hk.2) (.int .u32 t108)) (fun _ hk => hk.2) (.slice Ao34 t109.length co34)) (fun _ hk => hk.2) (.slice Ao35 t112.length co35)) (fun _ h_ => h_.1)))); (case side2 => exact (Kd.R_reads' HO111.out).2.1); (case side3 => refine (Kd.R_reads' (e := 5) (base := w.heap.size) (ok := fun k_ => True) (n := t112.length) (c := co35) ?_).2.2; exact (by (with_reducible repeat (first | apply Kd.R_alloc | apply Kd.R_drewN | apply Kd.R_drew)); exact (Kd.R_mono (Kd.R_far (p := ⟨gb115, 6, none⟩) (Kd.R_far (p := ⟨gb115, 5, none⟩) (Kd.R_far (p := ⟨gb115, 4, none⟩) (Kd.R_far (p := ⟨gb115, 3, none⟩) (Kd.R_far (p := ⟨gb115, 2, none⟩) (Kd.R_far (p := ⟨gb115, 1, none⟩) (Kd.R_far (p := ⟨gb115, 0, none⟩) (Kd.R_types HO114.out BK115.out (by decide)) (fun _ hk => hk.2) (.int .i64 t104)) (fun _ hk => hk.2) (.int .u64 t105)) (fun _ hk => hk.2) (.int .i64 t106)) (fun _ hk => hk.2) (.int .i64 t107)) (fun _ hk => hk.2) (.int .u32 t108)) (fun _ hk => hk.2) (.slice Ao34 t109.length co34)) (fun _ hk => hk.2) (.slice Ao35 t112.length co35)) (fun _ h_ => h_.1)))); (case side4 => exact (Kd.R_reads' HO114.out).2.1); rintro e w36 ⟨v117, rfl, ho0, hb⟩; refine ⟨_, rfl, ?_⟩; have n0_ := Aside0.mk (Kd.R_below (by (with_reducible repeat (first | apply Kd.R_alloc | apply Kd.R_drewN | apply Kd.R_drew)); exact (Kd.R_mono (Kd.R_far (p := ⟨gb115, 6, none⟩) (Kd.R_far (p := ⟨gb115, 5, none⟩) (Kd.R_far (p := ⟨gb115, 4, none⟩) (Kd.R_far (p := ⟨gb115, 3, none⟩) (Kd.R_far (p := ⟨gb115, 2, none⟩) (Kd.R_far (p := ⟨gb115, 1, none⟩) (Kd.R_far (p := ⟨gb115, 0, none⟩) (Kd.R_types HO111.out BK115.out (by decide)) (fun _ hk => hk.2) (.int .i64 t104)) (fun _ hk => hk.2) (.int .u64 t105)) (fun _ hk => hk.2) (.int .i64 t106)) (fun _ hk => hk.2) (.int .i64 t107)) (fun _ hk => hk.2) (.int .u32 t108)) (fun _ hk => hk.2) (.slice Ao34 t109.length co34)) (fun _ hk => hk.2) (.slice Ao35 t112.length co35)) (fun _ h_ => h_.1))) hb); have n1_ := Aside0.mk (Kd.R_elder' (by (with_reducible repeat (first | apply Kd.R_alloc | apply Kd.R_drewN | apply Kd.R_drew)); exact (Kd.R_mono (Kd.R_far (p := ⟨gb115, 6, none⟩) (Kd.R_far (p := ⟨gb115, 5, none⟩) (Kd.R_far (p := ⟨gb115, 4, none⟩) (Kd.R_far (p := ⟨gb115, 3, none⟩) (Kd.R_far (p := ⟨gb115, 2, none⟩) (Kd.R_far (p := ⟨gb115, 1, none⟩) (Kd.R_far (p := ⟨gb115, 0, none⟩) (Kd.R_types HO114.out BK115.out (by decide)) (fun _ hk => hk.2) (.int .i64 t104)) (fun _ hk => hk.2) (.int .u64 t105)) (fun _ hk => hk.2) (.int .i64 t106)) (fun _ hk => hk.2) (.int .i64 t107)) (fun _ hk => hk.2) (.int .u32 t108)) (fun _ hk => hk.2) (.slice Ao34 t109.length co34)) (fun _ hk => hk.2) (.slice Ao35 t112.length co35)) (fun _ h_ => h_.1))) (Kd.R_base ho0) hb); have n2_ := Aside0.mk (Kd.R_lower (Kd.R_new' ho0 (Kd.R_lt (by (with_reducible repeat (first | apply Kd.R_alloc | apply Kd.R_drewN | apply Kd.R_drew)); exact (Kd.R_mono (Kd.R_far (p := ⟨gb115, 6, none⟩) (Kd.R_far (p := ⟨gb115, 5, none⟩) (Kd.R_far (p := ⟨gb115, 4, none⟩) (Kd.R_far (p := ⟨gb115, 3, none⟩) (Kd.R_far (p := ⟨gb115, 2, none⟩) (Kd.R_far (p := ⟨gb115, 1, none⟩) (Kd.R_far (p := ⟨gb115, 0, none⟩) (Kd.R_types HO114.out BK115.out (by decide)) (fun _ hk => hk.2) (.int .i64 t104)) (fun _ hk => hk.2) (.int .u64 t105)) (fun _ hk => hk.2) (.int .i64 t106)) (fun _ hk => hk.2) (.int .i64 t107)) (fun _ hk => hk.2) (.int .u32 t108)) (fun _ hk => hk.2) (.slice Ao34 t109.length co34)) (fun _ hk => hk.2) (.slice Ao35 t112.length co35)) (fun _ h_ => h_.1))))) (below_size (by repeat (first | (with_reducible first | exact HB.out | apply below_alloc | apply pw_below_drewN | apply below_drew1 | refine below_set ?_ GE101.out | refine below_set ?_ GE115.out) | exact HB.out)))); have n3_ := Aside0.mk (blk_below (g := gb101) (o := .cells #[.int .i64 a0_0, .int .u64 a0_1, .int .i64 a0_2, .int .i64 a0_3, .int .u32 a0_4, .slice A0_5 l0_5.length c0_5, .slice A0_6 l0_6.length c0_6] 28 (0, 0)) (by (with_reducible repeat (first | refine blk_drewN ?_ _ | refine blk_drew ?_ | refine blk_alloc ?_ _)); refine blk_far ?_ NB101_115.out _; (with_reducible repeat (first | refine blk_drewN ?_ _ | refine blk_drew ?_ | refine blk_alloc ?_ _)); refine blk_far ?_ NB101_115.out _; (with_reducible repeat (first | refine blk_drewN ?_ _ | refine blk_drew ?_ | refine blk_alloc ?_ _)); refine blk_far ?_ NB101_115.out _; (with_reducible repeat (first | refine blk_drewN ?_ _ | refine blk_drew ?_ | refine blk_alloc ?_ _)); refine blk_far ?_ NB101_115.out _; (with_reducible repeat (first | refine blk_drewN ?_ _ | refine blk_drew ?_ | refine blk_alloc ?_ _)); refine blk_far ?_ NB101_115.out _; (with_reducible repeat (first | refine blk_drewN ?_ _ | refine blk_drew ?_ | refine blk_alloc ?_ _)); refine blk_far ?_ NB101_115.out _; (with_reducible repeat (first | refine blk_drewN ?_ _ | refine blk_drew ?_ | refine blk_alloc ?_ _)); refine blk_far ?_ NB101_115.out _; (with_reducible repeat (first | refine blk_drewN ?_ _ | refine blk_drew ?_ | refine blk_alloc ?_ _)); exact BK101.out) hb); have n4_ := Aside0.mk (blk_below (g := gb115) (o := .cells #[.int .i64 t104, .int .u64 t105, .int .i64 t106, .int .i64 t107, .int .u32 t108, .slice Ao34 t109.length co34, .slice Ao35 t112.length co35] 28 (0, 0)) (by (with_reducible repeat (first | refine blk_drewN ?_ _ | refine blk_drew ?_ | refine blk_alloc ?_ _)); refine blk_put (cs := #[.int .i64 t104, .int .u64 t105, .int .i64 t106, .int .i64 t107, .int .u32 t108, .slice Ao34 t109.length co34, .slice none 0 0]) ?_ 6 _ rfl; (with_reducible repeat (first | refine blk_drewN ?_ _ | refine blk_drew ?_ | refine blk_alloc ?_ _)); refine blk_put (cs := #[.int .i64 t104, .int .u64 t105, .int .i64 t106, .int .i64 t107, .int .u32 t108, .slice none 0 0, .slice none 0 0]) ?_ 5 _ rfl; (with_reducible repeat (first | refine blk_drewN ?_ _ | refine blk_drew ?_ | refine blk_alloc ?_ _)); refine blk_put (cs := #[.int .i64 t104, .int .u64 t105, .int .i64 t106, .int .i64 t107, .int .u32 0, .slice none 0 0, .slice none 0 0]) ?_ 4 _ rfl; (with_reducible repeat (first | refine blk_drewN ?_ _ | refine blk_drew ?_ | refine blk_alloc ?_ _)); refine blk_put (cs := #[.int .i64 t104, .int .u64 t105, .int .i64 t106, .int .i64 0, .int .u32 0, .slice none 0 0, .slice none 0 0]) ?_ 3 _ rfl; (with_reducible repeat (first | refine blk_drewN ?_ _ | refine blk_drew ?_ | refine blk_alloc ?_ _)); refine blk_put (cs := #[.int .i64 t104, .int .u64 t105, .int .i64 0, .int .i64 0, .int .u32 0, .slice none 0 0, .slice none 0 0]) ?_ 2 _ rfl; (with_reducible repeat (first | refine blk_drewN ?_ _ | refine blk_drew ?_ | refine blk_alloc ?_ _)); refine blk_put (cs := #[.int .i64 t104, .int .u64 0, .int .i64 0, .int .i64 0, .int .u32 0, .slice none 0 0, .slice none 0 0]) ?_ 1 _ rfl; (with_reducible repeat (first | refine blk_drewN ?_ _ | refine blk_drew ?_ | refine blk_alloc ?_ _)); refine blk_put (cs := #[.int .i64 0, .int .u64 0, .int .i64 0, .int .i64 0, .int .u32 0, .slice none 0 0, .slice none 0 0]) ?_ 0 _ rfl; (with_reducible repeat (first | refine blk_drewN ?_ _ | refine blk_drew ?_ | refine blk_alloc ?_ _)); exact BK115.out) hb); have n5_ := Aside0.mk (below_step (by repeat (first | (with_reducible first | exact HB.out | apply below_alloc | apply pw_below_drewN | apply below_drew1 | refine below_set ?_ GE101.out | refine below_set ?_ GE115.out) | exact HB.out)) hb); clear HO111; clear HO114; clear BK101; clear BK115; clear HB; have HO111 := n0_; have HO114 := n1_; have HO118 := n2_; have BK101 := n3_; have BK115 := n4_; have HB := n5_; clear n0_ n1_ n2_ n3_ n4_ n5_; (try clear hb); (try clear hb2); (try clear hk); (try clear hi); (try clear ho0); obtain ⟨Ao38, co38, eo38⟩ := Kd.R_slice HO118.out; subst eo38) | ((with_reducible refine gate_builtin (b := .append) (xs := #[.tmp 63, .tmp 64]) rfl ?_); (try (refine gate_guard (by rfl) ?_; dsimp only)); at_builtin; refine Kd.R_append_rows (Kd.int .u8) (w0 := w) w.heap.size rfl (.tmp 63) (.tmp 64) 25 5 (.int .u8 0) 1 rfl Try.underlying25 info5 rfl (by decide) (by omega) (.slice none 0 0) ([] : List Int) t116 _ _ _ (fun k_ => some k_ ≠ (.slice Ao35 t112.length co35 : Value).ownBlock ∧ some k_ ≠ (.slice Ao38 t116.length co38 : Value).ownBlock) (fun _ => False) rfl rfl ?aO ?aR (fun _ _ h => h) (fun _ h => h.elim) ?aF ?aB ?aS ?aL ?_; (case aR => repeat (first | exact (Kd.R_reads' HO118.out).2.2 | (with_reducible refine Kd.C_alloc ?_ _) | (with_reducible refine Kd.C_drewN ?_ _) | (with_reducible refine Kd.C_drew ?_))); (case aB => exact (by repeat (first | (with_reducible first | exact HB.out | apply below_alloc | apply pw_below_drewN | apply below_drew1 | refine below_set ?_ GE101.out | refine below_set ?_ GE115.out) | exact HB.out))); (case aF => exact (fun k_ hk => ⟨Kd.fresh' (Kd.R_lt (by (with_reducible repeat (first | apply Kd.R_alloc | apply Kd.R_drewN | apply Kd.R_drew)); exact HO114.out)) k_ hk, Kd.fresh' (Kd.R_lt (by (with_reducible repeat (first | apply Kd.R_alloc | apply Kd.R_drewN | apply Kd.R_drew)); exact HO118.out)) k_ hk⟩)); (case aO => exact ((Kd.R_nil _ _ _ _ (fun k_ => some k_ ≠ (.slice Ao35 t112.length co35 : Value).ownBlock ∧ some k_ ≠ (.slice Ao38 t116.length co38 : Value).ownBlock)))); (case aS => exact (below_size (by repeat (first | (with_reducible first | exact HB.out | apply below_alloc | apply pw_below_drewN | apply below_drew1 | refine below_set ?_ GE101.out | refine below_set ?_ GE115.out) | exact HB.out)))); (case aL => have := LMc28.out; omega); intro v121 w37 ho hb hg hat; rw [← Ny120.out] at ho; have n0_ := Aside0.mk (blk_grown (g := gb101) (o := .cells #[.int .i64 a0_0, .int .u64 a0_1, .int .i64 a0_2, .int .i64 a0_3, .int .u32 a0_4, .slice A0_5 l0_5.length c0_5, .slice A0_6 l0_6.length c0_6] 28 (0, 0)) (by (with_reducible repeat (first | refine blk_drewN ?_ _ | refine blk_drew ?_ | refine blk_alloc ?_ _)); exact BK101.out) hg (by simp [Value.ownBlock])); have n1_ := Aside0.mk (Kd.R_grown (by (with_reducible repeat (first | apply Kd.R_alloc | apply Kd.R_drewN | apply Kd.R_drew)); exact HO111.out) hg (fun _ _ => by simp [Value.ownBlock])); have n2_ := Aside0.mk (Kd.R_after (Kd.R_apart_nil (by (with_reducible repeat (first | apply Kd.R_alloc | apply Kd.R_drewN | apply Kd.R_drew)); exact HO114.out)) hg hat); have n3_ := Aside0.mk (blk_grown (g := gb115) (o := .cells #[.int .i64 t104, .int .u64 t105, .int .i64 t106, .int .i64 t107, .int .u32 t108, .slice Ao34 t109.length co34, .slice Ao35 t112.length co35] 28 (0, 0)) (by (with_reducible repeat (first | refine blk_drewN ?_ _ | refine blk_drew ?_ | refine blk_alloc ?_ _)); exact BK115.out) hg (by simp [Value.ownBlock])); have n4_ := Aside0.mk (Kd.R_after (Kd.R_apart_nil (by (with_reducible repeat (first | apply Kd.R_alloc | apply Kd.R_drewN | apply Kd.R_drew)); exact HO118.out)) hg hat); have n5_ := Aside0.mk (hb); have n6_ := Aside0.mk (ho); clear BK101; clear HO111; clear HO114; clear BK115; clear HO118; clear HB; have BK101 := n0_; have HO111 := n1_; have HO114 := n2_; have BK115 := n3_; have HO118 := n4_; have HB := n5_; have HO122 := n6_; clear n0_ n1_ n2_ n3_ n4_ n5_ n6_; clear ho hb hg hat; obtain ⟨Ao39, co39, eo39⟩ := Kd.R_slice HO122.out; subst eo39))
        (try simp only [Act.put, List.setIfInBounds_toArray, List.set_cons_zero, List.set_cons_succ])
        go_cut [] (fun wc => ∃ (kq : Nat) (x24_28 : List Int), Aside0 (scullerlaw13_PackCodes.j1 kq l1 t116 x24_28 a0_0 a0_1 a0_2 a0_3 a0_4 l0_5 l0_6 t104 t105 t106 t107 t108 t109 t112 = some r) ∧ Aside0 (kq ≤ kj10) ∧ Aside0 (Kd.R (Kd.int .u8) 5 wc w.heap.size (fun k_ => some k_ ≠ ((.slice Ao39 y120.length co39) : Value).ownBlock ∧ some k_ ≠ ((.slice Ao35 t112.length co35) : Value).ownBlock) (.slice Ao38 t116.length co38) t116) ∧ Aside0 (Kd.R (Kd.int .u8) 5 wc w.heap.size (fun k_ => some k_ ≠ ((.slice Ao38 t116.length co38) : Value).ownBlock ∧ some k_ ≠ ((.slice Ao35 t112.length co35) : Value).ownBlock) (.slice Ao39 y120.length co39) x24_28) ∧ Aside0 (Kd.R (Kd.int .i64) 3 wc w.heap.size (fun _ => True) (.slice Ao34 t109.length co34) t109) ∧ Aside0 (Kd.R (Kd.int .u8) 5 wc w.heap.size (fun k_ => some k_ ≠ ((.slice Ao38 t116.length co38) : Value).ownBlock ∧ some k_ ≠ ((.slice Ao39 y120.length co39) : Value).ownBlock) (.slice Ao35 t112.length co35) t112) ∧ Aside0 (wc.heap[gb101]? = some (.cells #[.int .i64 a0_0, .int .u64 a0_1, .int .i64 a0_2, .int .i64 a0_3, .int .u32 a0_4, (.slice A0_5 l0_5.length c0_5), (.slice A0_6 l0_6.length c0_6)] 28 (0, 0))) ∧ Aside0 (wc.heap[gb115]? = some (.cells #[.int .i64 t104, .int .u64 t105, .int .i64 t106, .int .i64 t107, .int .u32 t108, (.slice Ao34 t109.length co34), (.slice Ao35 t112.length co35)] 28 (0, 0))) ∧ Aside0 (Below w.heap.size w wc))
        case first =>
         have H := HC29.out
         clear HC29
         by_cases c40 : (y120.length : Int) > 0
         · rw [if_pos c40] at H
           have c40b0 : decide (0 < (y120.length : Int)) = true := decide_eq_true c40
           have c40b1 : decide (0 < y120.length) = true := decide_eq_true (by omega)
           clear c40
           (first | rw [c40b0] | rw [c40b1] | (simp only [i64_w, i32_w]; rw [c40b0]) | skip)
           by_cases c41 : (y120.length : Int) = 0
           · rw [if_pos c41] at H
             exact absurd H (by simp)
           · rw [if_neg c41] at H
             have c41b0 : ((y120.length : Int) == 0) = false := beq_eq_false_iff_ne.mpr c41
             have c41b1 : ((y120.length : Int) != 0) = true := bne_iff_ne.mpr c41
             have c41b2 : ¬ (y120 = []) := fun h_ => c41 (by rw [h_]; rfl)
             obtain ⟨ji42, hji42⟩ : ∃ j_ : Int, (Int.tmod (wrap64 (a8)) (y120.length : Int)) = j_ := ⟨_, rfl⟩
             replace H : (if 0 ≤ (ji42) then (if (ji42) < (y120.length : Int) then (scullerlaw13_PackCodes.j1 kj10 l1 t116 (y120.set ((ji42) : Int).toNat a9) a0_0 a0_1 a0_2 a0_3 a0_4 l0_5 l0_6 t104 t105 t106 t107 t108 t109 t112) else (none)) else (none)) = some r := by first | (rw [hji42] at H; exact H) | (simp only [hji42] at H ⊢; exact H)
             by_cases c43 : 0 ≤ (ji42)
             · rw [if_pos c43] at H
               have c43b0 : decide (0 ≤ (ji42)) = true := decide_eq_true c43
               clear c43
               by_cases c44 : (ji42) < (y120.length : Int)
               · rw [if_pos c44] at H
                 have c44b0 : decide ((ji42) < (y120.length : Int)) = true := decide_eq_true c44
                 clear c44
                 obtain ⟨y123, hy123⟩ : ∃ y_ : List Int, y_ = (y120.set ((ji42) : Int).toNat a9) := ⟨_, rfl⟩
                 replace H : (scullerlaw13_PackCodes.j1 kj10 l1 t116 y123 a0_0 a0_1 a0_2 a0_3 a0_4 l0_5 l0_6 t104 t105 t106 t107 t108 t109 t112) = some r := by first | (rw [hy123]; with_reducible exact H) | (have H2_ := (Option.bind_some _ _).symm.trans H; rw [hy123]; with_reducible exact H2_) | (have H2_ := (Option.bind_some _ _).symm.trans H; with_reducible exact H2_) | with_reducible exact H | (rw [hy123]; exact H) | exact H
                 have Ny123 := Aside0.mk hy123
                 clear hy123
                 have H' := Aside0.mk H
                 clear H
                 have p45 : 0 ≤ ((ji42) : Int) := of_decide_eq_true (by first | (with_reducible assumption) | assumption)
                 have q45 : ((ji42) : Int) < ((y120.length : Int) : Int) := of_decide_eq_true (by first | (with_reducible assumption) | assumption)
                 obtain ⟨go45, co45, eo45, gb45, gl45, cl45, HG45⟩ := Kd.R_form HO122.out (by omega)
                 (first | cases eo45 | (injection eo45 with ea_ en_ ec_; (first | subst ea_ | (injection ea_ with ea_; subst ea_)); subst ec_; clear en_))
                 have GB45 := Aside0.mk gb45
                 have GG45 := Aside0.mk HG45
                 clear gb45 gl45 HG45
                 obtain ⟨hx45_0, hf45_0⟩ := Kd.R_celln 0 HO122.out ((ji42) : Int) p45 q45
                 replace p45 := eq_true p45
                 replace q45 := eq_true q45
                 have HP46 := Kd.R_putg HO122.out ((ji42) : Int) a9
                 go_wp2_with (first | ((with_reducible refine gate_store (t := 5) (p := 76) rfl ?_); refine store_event (t := 5) (p := 76) (v := ?vo_w47) (w1 := (w37.setCell ⟨go45, ((ji42) : Int).toNat, none⟩ (.int .u8 a9))) ?hg ?ho ?hn ?hr ?_; (case ho => rfl); (case hg => rfl); (case hn => rfl); (case hr => first | (go_simp; done) | (go_simp; rfl)); intro w47 hw; have hg : w37.grownBy w47 (some go45) := (by rw [hw]; exact HP46.2); have hp_ : Kd.R (Kd.int .u8) 5 w47 w.heap.size (fun k_ => some k_ ≠ (.slice Ao35 t112.length co35 : Value).ownBlock ∧ some k_ ≠ (.slice Ao38 t116.length co38 : Value).ownBlock) (.slice (some ⟨go45, 0, none⟩) y120.length co39) y123 := (by rw [hw, Ny123.out]; exact HP46.1); clear HP46; have n0_ := Aside0.mk (blk_grown (g := gb101) (o := .cells #[.int .i64 a0_0, .int .u64 a0_1, .int .i64 a0_2, .int .i64 a0_3, .int .u32 a0_4, .slice A0_5 l0_5.length c0_5, .slice A0_6 l0_6.length c0_6] 28 (0, 0)) (by (with_reducible repeat (first | refine blk_drewN ?_ _ | refine blk_drew ?_ | refine blk_alloc ?_ _)); exact BK101.out) hg (Kd.R_ne HO122.out BK101.out (by decide))); have n1_ := Aside0.mk (Kd.R_over' (v := (.slice (some ⟨go45, 0, none⟩) y120.length co39)) (by (with_reducible repeat (first | apply Kd.R_alloc | apply Kd.R_drewN | apply Kd.R_drew)); exact HO111.out) (Kd.R_typed HO122.out) (by decide) hg); have n2_ := Aside0.mk (Kd.R_after (v := (.slice (some ⟨go45, 0, none⟩) y120.length co39)) (v1 := (.slice (some ⟨go45, 0, none⟩) y120.length co39)) (ok := (fun k_ => some k_ ≠ (.slice Ao38 t116.length co38 : Value).ownBlock)) (by (with_reducible repeat (first | apply Kd.R_alloc | apply Kd.R_drewN | apply Kd.R_drew)); exact Kd.R_mono HO114.out (fun _ hk => ⟨hk.1.2, hk.2⟩)) hg (.inl rfl)); have n3_ := Aside0.mk (blk_grown (g := gb115) (o := .cells #[.int .i64 t104, .int .u64 t105, .int .i64 t106, .int .i64 t107, .int .u32 t108, .slice Ao34 t109.length co34, .slice Ao35 t112.length co35] 28 (0, 0)) (by (with_reducible repeat (first | refine blk_drewN ?_ _ | refine blk_drew ?_ | refine blk_alloc ?_ _)); exact BK115.out) hg (Kd.R_ne HO122.out BK115.out (by decide))); have n4_ := Aside0.mk (Kd.R_after (v := (.slice (some ⟨go45, 0, none⟩) y120.length co39)) (v1 := (.slice (some ⟨go45, 0, none⟩) y120.length co39)) (ok := (fun k_ => some k_ ≠ (.slice Ao35 t112.length co35 : Value).ownBlock)) (by (with_reducible repeat (first | apply Kd.R_alloc | apply Kd.R_drewN | apply Kd.R_drew)); exact Kd.R_mono HO118.out (fun _ hk => ⟨hk.1.2, hk.2⟩)) hg (.inl rfl)); have n5_ := Aside0.mk (hp_); have n6_ := Aside0.mk ((by rw [hw]; exact below_set (HB.out) GB45.out : Below w.heap.size w w47)); clear BK101; clear HO111; clear HO114; clear BK115; clear HO118; clear HO122; clear HB; have BK101 := n0_; have HO111 := n1_; have HO114 := n2_; have BK115 := n3_; have HO118 := n4_; have HO122 := n5_; have HB := n6_; clear n0_ n1_ n2_ n3_ n4_ n5_ n6_; clear hg hw hp_))
                 go_meet
                 case rel => exact ⟨_, (y123), H', ⟨by have := HJ10.out; first | omega | exact Nat.le_refl _⟩, ⟨by (with_reducible repeat (first | apply Kd.R_alloc | apply Kd.R_drewN | apply Kd.R_drew)); exact Kd.R_mono HO118.out (fun _ hk => ⟨hk.2, hk.1⟩)⟩, ⟨by (with_reducible repeat (first | apply Kd.R_alloc | apply Kd.R_drewN | apply Kd.R_drew)); exact Kd.R_mono HO122.out (fun _ hk => ⟨hk.2, hk.1⟩)⟩, ⟨by (with_reducible repeat (first | apply Kd.R_alloc | apply Kd.R_drewN | apply Kd.R_drew)); exact HO111.out⟩, ⟨by (with_reducible repeat (first | apply Kd.R_alloc | apply Kd.R_drewN | apply Kd.R_drew)); exact HO114.out⟩, ⟨by (with_reducible repeat (first | refine blk_drewN ?_ _ | refine blk_drew ?_ | refine blk_alloc ?_ _)); exact BK101.out⟩, ⟨by (with_reducible repeat (first | refine blk_drewN ?_ _ | refine blk_drew ?_ | refine blk_alloc ?_ _)); exact BK115.out⟩, ⟨by repeat (first | (with_reducible first | exact HB.out | apply below_alloc | apply pw_below_drewN | apply below_drew1 | refine below_set ?_ GE101.out | refine below_set ?_ GE115.out) | exact HB.out)⟩⟩
               · rw [if_neg c44] at H
                 exact absurd H (by simp)
             · rw [if_neg c43] at H
               exact absurd H (by simp)
         · rw [if_neg c40] at H
           have c40b0 : decide (0 < (y120.length : Int)) = false := decide_eq_false c40
           have c40b1 : decide (0 < y120.length) = false := decide_eq_false (by omega)
           clear c40
           (first | rw [c40b0] | rw [c40b1] | (simp only [i64_w, i32_w]; rw [c40b0]) | skip)
           have H' := Aside0.mk H
           clear H
           go_wp2
           go_meet
           case rel => exact ⟨_, (y120), H', ⟨by have := HJ10.out; first | omega | exact Nat.le_refl _⟩, ⟨by (with_reducible repeat (first | apply Kd.R_alloc | apply Kd.R_drewN | apply Kd.R_drew)); exact Kd.R_mono HO118.out (fun _ hk => ⟨hk.2, hk.1.2⟩)⟩, ⟨by (with_reducible repeat (first | apply Kd.R_alloc | apply Kd.R_drewN | apply Kd.R_drew)); exact Kd.R_mono HO122.out (fun _ hk => ⟨hk.2, hk.1⟩)⟩, ⟨by (with_reducible repeat (first | apply Kd.R_alloc | apply Kd.R_drewN | apply Kd.R_drew)); exact HO111.out⟩, ⟨by (with_reducible repeat (first | apply Kd.R_alloc | apply Kd.R_drewN | apply Kd.R_drew)); exact Kd.R_mono HO114.out (fun _ hk => ⟨hk.1.2, hk.2⟩)⟩, ⟨by (with_reducible repeat (first | refine blk_drewN ?_ _ | refine blk_drew ?_ | refine blk_alloc ?_ _)); exact BK101.out⟩, ⟨by (with_reducible repeat (first | refine blk_drewN ?_ _ | refine blk_drew ?_ | refine blk_alloc ?_ _)); exact BK115.out⟩, ⟨by repeat (first | (with_reducible first | exact HB.out | apply below_alloc | apply pw_below_drewN | apply below_drew1 | refine below_set ?_ GE101.out | refine below_set ?_ GE115.out) | exact HB.out)⟩⟩
        case rest =>
         clear HC29
         try clear c1
         try clear c2
         try clear p2
         try clear c3
         try clear c4
         try clear p4
         try clear q4
         try clear hx4
         try clear c6
         try clear p6
         try clear c7
         try clear c9
         try clear c13
         try clear c13b0
         try clear c13b1
         try clear c14
         try clear c14b0
         try clear c14b1
         try clear c15
         try clear c16
         try clear c16b0
         try clear c16b1
         try clear c18
         try clear c18b0
         try clear c18b1
         try clear c23
         try clear c28
         try clear c32
         try clear c40
         try clear c40b0
         try clear c40b1
         try clear c41
         try clear c41b0
         try clear c41b1
         try clear c41b2
         try clear c43
         try clear c43b0
         try clear c44
         try clear c44b0
         try clear p45
         try clear q45
         try clear hx45
         try clear hf45
         try clear hcz15_0
         try clear hcz15_1
         try clear hcz15_2
         try clear hcz15_3
         try clear hcz15_4
         try clear hcz15_5
         try clear hcz15_6
         try clear hcz17_0
         try clear hcz17_1
         try clear hcz17_2
         try clear hcz17_3
         try clear hcz17_4
         try clear hcz17_5
         try clear hcz17_6
         try clear hcz19_0
         try clear hcz19_1
         try clear hcz19_2
         try clear hcz19_3
         try clear hcz19_4
         try clear hcz19_5
         try clear hcz19_6
         try clear hcz21_0
         try clear hcz21_1
         try clear hcz21_2
         try clear hcz21_3
         try clear hcz21_4
         try clear hcz21_5
         try clear hcz21_6
         try clear hcz33_0
         try clear hcz33_1
         try clear hcz33_2
         try clear hcz33_3
         try clear hcz33_4
         try clear hcz33_5
         try clear hcz33_6
         try clear hfz15_0
         try clear hfz15_1
         try clear hfz15_2
         try clear hfz15_3
         try clear hfz15_4
         try clear hfz15_5
         try clear hfz15_6
         try clear hfz17_0
         try clear hfz17_1
         try clear hfz17_2
         try clear hfz17_3
         try clear hfz17_4
         try clear hfz17_5
         try clear hfz17_6
         try clear hfz19_0
         try clear hfz19_1
         try clear hfz19_2
         try clear hfz19_3
         try clear hfz19_4
         try clear hfz19_5
         try clear hfz19_6
         try clear hfz21_0
         try clear hfz21_1
         try clear hfz21_2
         try clear hfz21_3
         try clear hfz21_4
         try clear hfz21_5
         try clear hfz21_6
         try clear hfz33_0
         try clear hfz33_1
         try clear hfz33_2
         try clear hfz33_3
         try clear hfz33_4
         try clear hfz33_5
         try clear hfz33_6
         try clear hx45_0
         try clear p2
         try clear p45
         try clear q45
         obtain ⟨kq, x24_28, HA, HJ28, HO_22, HO_24, HO_116005, HO_116006, BK101, BK115, HB⟩ := hcut
         have hl24_28 := (Kd.R_reads' HO_24.out).1
         rw [hl24_28] at HO_24
         (try simp only [hl24_28])
         (try simp only [hl24_28] at BK101)
         (try simp only [hl24_28] at BK115)
         (try simp only [hl24_28] at HO_22)
         (try simp only [hl24_28] at HO_116005)
         (try simp only [hl24_28] at HO_116006)
         cases kq with
         | zero => exact absurd HA.out (by simp [scullerlaw13_PackCodes.j1])
         | succ kj28 =>
           have H := HA.out
           clear HA
           simp only [scullerlaw13_PackCodes.j1] at H
           obtain ⟨ji48, hji48⟩ : ∃ j_ : Int, (mx (wrap64 ((x24_28.length : Int) - 4)) 0) = j_ := ⟨_, rfl⟩
           replace H : (if 0 ≤ (ji48) then (if (ji48) ≤ (x24_28.length : Int) then ((some (x24_28.take ((ji48) : Int).toNat : List Int)).bind fun y124 => (if ([] : List Int).length + y124.length < 140737488355328 then ((scullerlaw13_encodes.f a0_0 a0_1 a0_2 a0_3 a0_4 l0_5 l0_6).bind fun t131 => (if t131 = true then ((scullerlaw13_encodes.f t104 t105 t106 t107 t108 t109 t112).bind fun t132 => (if t132 = true then ((scullerlaw13_parses.f l1).bind fun t133 => (if t133 = true then ((scullerlaw13_parses.f t116).bind fun t134 => (if t134 = true then ((scullerlaw13_parses.f x24_28).bind fun t135 => (if t135 = true then ((scullerref02_Seal.f (([] : List Int) ++ y124)).bind fun t136 => ((scullerlaw13_parses.f t136).bind fun t139 => (if t139 = true then ((scullerref02_Seal.f l1).bind fun t140 => ((scullerlaw13_parses.f t140).bind fun t143 => (if t143 = true then ((pack_Same.f a0_0 a0_1 a0_2 a0_3 a0_4 l0_5 l0_6 t104 t105 t106 t107 t108 t109 t112).bind fun t144 => ((scullerref13_Same.f a0_0 a0_1 a0_2 a0_3 a0_4 l0_5 l0_6 t104 t105 t106 t107 t108 t109 t112).bind fun t145 => (if (t144 == t145) = true then ((pack_Same.f t104 t105 t106 t107 t108 t109 t112 t104 t105 t106 t107 t108 t109 t112).bind fun t146 => (some t146)) else (some false)))) else (some false)))) else (some false)))) else (some false))) else (some false))) else (some false))) else (some false))) else (some false))) else (none))) else (none)) else (none)) = some r := by first | (rw [hji48] at H; exact H) | (simp only [hji48] at H ⊢; exact H)
           have hji48_ : (if (wrap64 ((x24_28.length : Int) - 4)) < 0 then 0 else (wrap64 ((x24_28.length : Int) - 4))) = ji48 := hji48
           by_cases c49 : 0 ≤ (ji48)
           · rw [if_pos c49] at H
             have c49b0 := eq_true c49
             have c49b1 : decide (0 ≤ (ji48)) = true := decide_eq_true c49
             clear c49
             by_cases c50 : (ji48) ≤ (x24_28.length : Int)
             · rw [if_pos c50] at H
               have c50b0 := eq_true c50
               have c50b1 : decide ((ji48) ≤ (x24_28.length : Int)) = true := decide_eq_true c50
               clear c50
               obtain ⟨y124, hy124⟩ : ∃ y_ : List Int, y_ = (x24_28.take ((ji48) : Int).toNat) := ⟨_, rfl⟩
               replace H : (if ([] : List Int).length + y124.length < 140737488355328 then ((scullerlaw13_encodes.f a0_0 a0_1 a0_2 a0_3 a0_4 l0_5 l0_6).bind fun t131 => (if t131 = true then ((scullerlaw13_encodes.f t104 t105 t106 t107 t108 t109 t112).bind fun t132 => (if t132 = true then ((scullerlaw13_parses.f l1).bind fun t133 => (if t133 = true then ((scullerlaw13_parses.f t116).bind fun t134 => (if t134 = true then ((scullerlaw13_parses.f x24_28).bind fun t135 => (if t135 = true then ((scullerref02_Seal.f (([] : List Int) ++ y124)).bind fun t136 => ((scullerlaw13_parses.f t136).bind fun t139 => (if t139 = true then ((scullerref02_Seal.f l1).bind fun t140 => ((scullerlaw13_parses.f t140).bind fun t143 => (if t143 = true then ((pack_Same.f a0_0 a0_1 a0_2 a0_3 a0_4 l0_5 l0_6 t104 t105 t106 t107 t108 t109 t112).bind fun t144 => ((scullerref13_Same.f a0_0 a0_1 a0_2 a0_3 a0_4 l0_5 l0_6 t104 t105 t106 t107 t108 t109 t112).bind fun t145 => (if (t144 == t145) = true then ((pack_Same.f t104 t105 t106 t107 t108 t109 t112 t104 t105 t106 t107 t108 t109 t112).bind fun t146 => (some t146)) else (some false)))) else (some false)))) else (some false)))) else (some false))) else (some false))) else (some false))) else (some false))) else (some false))) else (none)) = some r := by first | (rw [hy124]; with_reducible exact H) | (have H2_ := (Option.bind_some _ _).symm.trans H; rw [hy124]; with_reducible exact H2_) | (have H2_ := (Option.bind_some _ _).symm.trans H; with_reducible exact H2_) | with_reducible exact H | (rw [hy124]; exact H) | exact H
               have Ny124 := Aside0.mk hy124
               clear hy124
               by_cases c51 : ([] : List Int).length + y124.length < 140737488355328
               · rw [if_pos c51] at H
                 have LMc51 := Aside0.mk c51
                 clear c51
                 obtain ⟨y128, hy128⟩ : ∃ y_ : List Int, y_ = (([] : List Int) ++ y124) := ⟨_, rfl⟩
                 replace H : ((scullerlaw13_encodes.f a0_0 a0_1 a0_2 a0_3 a0_4 l0_5 l0_6).bind fun t131 => (if t131 = true then ((scullerlaw13_encodes.f t104 t105 t106 t107 t108 t109 t112).bind fun t132 => (if t132 = true then ((scullerlaw13_parses.f l1).bind fun t133 => (if t133 = true then ((scullerlaw13_parses.f t116).bind fun t134 => (if t134 = true then ((scullerlaw13_parses.f x24_28).bind fun t135 => (if t135 = true then ((scullerref02_Seal.f y128).bind fun t136 => ((scullerlaw13_parses.f t136).bind fun t139 => (if t139 = true then ((scullerref02_Seal.f l1).bind fun t140 => ((scullerlaw13_parses.f t140).bind fun t143 => (if t143 = true then ((pack_Same.f a0_0 a0_1 a0_2 a0_3 a0_4 l0_5 l0_6 t104 t105 t106 t107 t108 t109 t112).bind fun t144 => ((scullerref13_Same.f a0_0 a0_1 a0_2 a0_3 a0_4 l0_5 l0_6 t104 t105 t106 t107 t108 t109 t112).bind fun t145 => (if (t144 == t145) = true then ((pack_Same.f t104 t105 t106 t107 t108 t109 t112 t104 t105 t106 t107 t108 t109 t112).bind fun t146 => (some t146)) else (some false)))) else (some false)))) else (some false)))) else (some false))) else (some false))) else (some false))) else (some false))) else (some false))) = some r := by first | (rw [hy128]; with_reducible exact H) | (have H2_ := (Option.bind_some _ _).symm.trans H; rw [hy128]; with_reducible exact H2_) | (have H2_ := (Option.bind_some _ _).symm.trans H; with_reducible exact H2_) | with_reducible exact H | (rw [hy128]; exact H) | exact H
                 have Ny128 := Aside0.mk hy128
                 clear hy128
                 replace H := Option.bind_eq_some_iff.mp H
                 obtain ⟨t131, A520, H⟩ := H
                 replace H : (if t131 = true then ((scullerlaw13_encodes.f t104 t105 t106 t107 t108 t109 t112).bind fun t132 => (if t132 = true then ((scullerlaw13_parses.f l1).bind fun t133 => (if t133 = true then ((scullerlaw13_parses.f t116).bind fun t134 => (if t134 = true then ((scullerlaw13_parses.f x24_28).bind fun t135 => (if t135 = true then ((scullerref02_Seal.f y128).bind fun t136 => ((scullerlaw13_parses.f t136).bind fun t139 => (if t139 = true then ((scullerref02_Seal.f l1).bind fun t140 => ((scullerlaw13_parses.f t140).bind fun t143 => (if t143 = true then ((pack_Same.f a0_0 a0_1 a0_2 a0_3 a0_4 l0_5 l0_6 t104 t105 t106 t107 t108 t109 t112).bind fun t144 => ((scullerref13_Same.f a0_0 a0_1 a0_2 a0_3 a0_4 l0_5 l0_6 t104 t105 t106 t107 t108 t109 t112).bind fun t145 => (if (t144 == t145) = true then ((pack_Same.f t104 t105 t106 t107 t108 t109 t112 t104 t105 t106 t107 t108 t109 t112).bind fun t146 => (some t146)) else (some false)))) else (some false)))) else (some false)))) else (some false))) else (some false))) else (some false))) else (some false))) else (some false)) = some r := H
                 have A52 := Aside0.mk A520
                 clear A520
                 by_cases c53 : t131 = true
                 · subst c53
                   have H1 : ((scullerlaw13_encodes.f t104 t105 t106 t107 t108 t109 t112).bind fun t132 => (if t132 = true then ((scullerlaw13_parses.f l1).bind fun t133 => (if t133 = true then ((scullerlaw13_parses.f t116).bind fun t134 => (if t134 = true then ((scullerlaw13_parses.f x24_28).bind fun t135 => (if t135 = true then ((scullerref02_Seal.f y128).bind fun t136 => ((scullerlaw13_parses.f t136).bind fun t139 => (if t139 = true then ((scullerref02_Seal.f l1).bind fun t140 => ((scullerlaw13_parses.f t140).bind fun t143 => (if t143 = true then ((pack_Same.f a0_0 a0_1 a0_2 a0_3 a0_4 l0_5 l0_6 t104 t105 t106 t107 t108 t109 t112).bind fun t144 => ((scullerref13_Same.f a0_0 a0_1 a0_2 a0_3 a0_4 l0_5 l0_6 t104 t105 t106 t107 t108 t109 t112).bind fun t145 => (if (t144 == t145) = true then ((pack_Same.f t104 t105 t106 t107 t108 t109 t112 t104 t105 t106 t107 t108 t109 t112).bind fun t146 => (some t146)) else (some false)))) else (some false)))) else (some false)))) else (some false))) else (some false))) else (some false))) else (some false))) = some r := by rw [if_pos rfl] at H; exact H
                   clear H
                   have H := H1
                   clear H1
                   replace H := Option.bind_eq_some_iff.mp H
                   obtain ⟨t132, A540, H⟩ := H
                   replace H : (if t132 = true then ((scullerlaw13_parses.f l1).bind fun t133 => (if t133 = true then ((scullerlaw13_parses.f t116).bind fun t134 => (if t134 = true then ((scullerlaw13_parses.f x24_28).bind fun t135 => (if t135 = true then ((scullerref02_Seal.f y128).bind fun t136 => ((scullerlaw13_parses.f t136).bind fun t139 => (if t139 = true then ((scullerref02_Seal.f l1).bind fun t140 => ((scullerlaw13_parses.f t140).bind fun t143 => (if t143 = true then ((pack_Same.f a0_0 a0_1 a0_2 a0_3 a0_4 l0_5 l0_6 t104 t105 t106 t107 t108 t109 t112).bind fun t144 => ((scullerref13_Same.f a0_0 a0_1 a0_2 a0_3 a0_4 l0_5 l0_6 t104 t105 t106 t107 t108 t109 t112).bind fun t145 => (if (t144 == t145) = true then ((pack_Same.f t104 t105 t106 t107 t108 t109 t112 t104 t105 t106 t107 t108 t109 t112).bind fun t146 => (some t146)) else (some false)))) else (some false)))) else (some false)))) else (some false))) else (some false))) else (some false))) else (some false)) = some r := H
                   have A54 := Aside0.mk A540
                   clear A540
                   by_cases c55 : t132 = true
                   · subst c55
                     have H1 : ((scullerlaw13_parses.f l1).bind fun t133 => (if t133 = true then ((scullerlaw13_parses.f t116).bind fun t134 => (if t134 = true then ((scullerlaw13_parses.f x24_28).bind fun t135 => (if t135 = true then ((scullerref02_Seal.f y128).bind fun t136 => ((scullerlaw13_parses.f t136).bind fun t139 => (if t139 = true then ((scullerref02_Seal.f l1).bind fun t140 => ((scullerlaw13_parses.f t140).bind fun t143 => (if t143 = true then ((pack_Same.f a0_0 a0_1 a0_2 a0_3 a0_4 l0_5 l0_6 t104 t105 t106 t107 t108 t109 t112).bind fun t144 => ((scullerref13_Same.f a0_0 a0_1 a0_2 a0_3 a0_4 l0_5 l0_6 t104 t105 t106 t107 t108 t109 t112).bind fun t145 => (if (t144 == t145) = true then ((pack_Same.f t104 t105 t106 t107 t108 t109 t112 t104 t105 t106 t107 t108 t109 t112).bind fun t146 => (some t146)) else (some false)))) else (some false)))) else (some false)))) else (some false))) else (some false))) else (some false))) = some r := by rw [if_pos rfl] at H; exact H
                     clear H
                     have H := H1
                     clear H1
                     replace H := Option.bind_eq_some_iff.mp H
                     obtain ⟨t133, A560, H⟩ := H
                     replace H : (if t133 = true then ((scullerlaw13_parses.f t116).bind fun t134 => (if t134 = true then ((scullerlaw13_parses.f x24_28).bind fun t135 => (if t135 = true then ((scullerref02_Seal.f y128).bind fun t136 => ((scullerlaw13_parses.f t136).bind fun t139 => (if t139 = true then ((scullerref02_Seal.f l1).bind fun t140 => ((scullerlaw13_parses.f t140).bind fun t143 => (if t143 = true then ((pack_Same.f a0_0 a0_1 a0_2 a0_3 a0_4 l0_5 l0_6 t104 t105 t106 t107 t108 t109 t112).bind fun t144 => ((scullerref13_Same.f a0_0 a0_1 a0_2 a0_3 a0_4 l0_5 l0_6 t104 t105 t106 t107 t108 t109 t112).bind fun t145 => (if (t144 == t145) = true then ((pack_Same.f t104 t105 t106 t107 t108 t109 t112 t104 t105 t106 t107 t108 t109 t112).bind fun t146 => (some t146)) else (some false)))) else (some false)))) else (some false)))) else (some false))) else (some false))) else (some false)) = some r := H
                     have A56 := Aside0.mk A560
                     clear A560
                     by_cases c57 : t133 = true
                     · subst c57
                       have H1 : ((scullerlaw13_parses.f t116).bind fun t134 => (if t134 = true then ((scullerlaw13_parses.f x24_28).bind fun t135 => (if t135 = true then ((scullerref02_Seal.f y128).bind fun t136 => ((scullerlaw13_parses.f t136).bind fun t139 => (if t139 = true then ((scullerref02_Seal.f l1).bind fun t140 => ((scullerlaw13_parses.f t140).bind fun t143 => (if t143 = true then ((pack_Same.f a0_0 a0_1 a0_2 a0_3 a0_4 l0_5 l0_6 t104 t105 t106 t107 t108 t109 t112).bind fun t144 => ((scullerref13_Same.f a0_0 a0_1 a0_2 a0_3 a0_4 l0_5 l0_6 t104 t105 t106 t107 t108 t109 t112).bind fun t145 => (if (t144 == t145) = true then ((pack_Same.f t104 t105 t106 t107 t108 t109 t112 t104 t105 t106 t107 t108 t109 t112).bind fun t146 => (some t146)) else (some false)))) else (some false)))) else (some false)))) else (some false))) else (some false))) = some r := by rw [if_pos rfl] at H; exact H
                       clear H
                       have H := H1
                       clear H1
                       replace H := Option.bind_eq_some_iff.mp H
                       obtain ⟨t134, A580, H⟩ := H
                       replace H : (if t134 = true then ((scullerlaw13_parses.f x24_28).bind fun t135 => (if t135 = true then ((scullerref02_Seal.f y128).bind fun t136 => ((scullerlaw13_parses.f t136).bind fun t139 => (if t139 = true then ((scullerref02_Seal.f l1).bind fun t140 => ((scullerlaw13_parses.f t140).bind fun t143 => (if t143 = true then ((pack_Same.f a0_0 a0_1 a0_2 a0_3 a0_4 l0_5 l0_6 t104 t105 t106 t107 t108 t109 t112).bind fun t144 => ((scullerref13_Same.f a0_0 a0_1 a0_2 a0_3 a0_4 l0_5 l0_6 t104 t105 t106 t107 t108 t109 t112).bind fun t145 => (if (t144 == t145) = true then ((pack_Same.f t104 t105 t106 t107 t108 t109 t112 t104 t105 t106 t107 t108 t109 t112).bind fun t146 => (some t146)) else (some false)))) else (some false)))) else (some false)))) else (some false))) else (some false)) = some r := H
                       have A58 := Aside0.mk A580
                       clear A580
                       by_cases c59 : t134 = true
                       · subst c59
                         have H1 : ((scullerlaw13_parses.f x24_28).bind fun t135 => (if t135 = true then ((scullerref02_Seal.f y128).bind fun t136 => ((scullerlaw13_parses.f t136).bind fun t139 => (if t139 = true then ((scullerref02_Seal.f l1).bind fun t140 => ((scullerlaw13_parses.f t140).bind fun t143 => (if t143 = true then ((pack_Same.f a0_0 a0_1 a0_2 a0_3 a0_4 l0_5 l0_6 t104 t105 t106 t107 t108 t109 t112).bind fun t144 => ((scullerref13_Same.f a0_0 a0_1 a0_2 a0_3 a0_4 l0_5 l0_6 t104 t105 t106 t107 t108 t109 t112).bind fun t145 => (if (t144 == t145) = true then ((pack_Same.f t104 t105 t106 t107 t108 t109 t112 t104 t105 t106 t107 t108 t109 t112).bind fun t146 => (some t146)) else (some false)))) else (some false)))) else (some false)))) else (some false))) = some r := by rw [if_pos rfl] at H; exact H
                         clear H
                         have H := H1
                         clear H1
                         replace H := Option.bind_eq_some_iff.mp H
                         obtain ⟨t135, A600, H⟩ := H
                         replace H : (if t135 = true then ((scullerref02_Seal.f y128).bind fun t136 => ((scullerlaw13_parses.f t136).bind fun t139 => (if t139 = true then ((scullerref02_Seal.f l1).bind fun t140 => ((scullerlaw13_parses.f t140).bind fun t143 => (if t143 = true then ((pack_Same.f a0_0 a0_1 a0_2 a0_3 a0_4 l0_5 l0_6 t104 t105 t106 t107 t108 t109 t112).bind fun t144 => ((scullerref13_Same.f a0_0 a0_1 a0_2 a0_3 a0_4 l0_5 l0_6 t104 t105 t106 t107 t108 t109 t112).bind fun t145 => (if (t144 == t145) = true then ((pack_Same.f t104 t105 t106 t107 t108 t109 t112 t104 t105 t106 t107 t108 t109 t112).bind fun t146 => (some t146)) else (some false)))) else (some false)))) else (some false)))) else (some false)) = some r := H
                         have A60 := Aside0.mk A600
                         clear A600
                         by_cases c61 : t135 = true
                         · subst c61
                           have H1 : ((scullerref02_Seal.f y128).bind fun t136 => ((scullerlaw13_parses.f t136).bind fun t139 => (if t139 = true then ((scullerref02_Seal.f l1).bind fun t140 => ((scullerlaw13_parses.f t140).bind fun t143 => (if t143 = true then ((pack_Same.f a0_0 a0_1 a0_2 a0_3 a0_4 l0_5 l0_6 t104 t105 t106 t107 t108 t109 t112).bind fun t144 => ((scullerref13_Same.f a0_0 a0_1 a0_2 a0_3 a0_4 l0_5 l0_6 t104 t105 t106 t107 t108 t109 t112).bind fun t145 => (if (t144 == t145) = true then ((pack_Same.f t104 t105 t106 t107 t108 t109 t112 t104 t105 t106 t107 t108 t109 t112).bind fun t146 => (some t146)) else (some false)))) else (some false)))) else (some false)))) = some r := by rw [if_pos rfl] at H; exact H
                           clear H
                           have H := H1
                           clear H1
                           replace H := Option.bind_eq_some_iff.mp H
                           obtain ⟨t136, A620, H⟩ := H
                           replace H : ((scullerlaw13_parses.f t136).bind fun t139 => (if t139 = true then ((scullerref02_Seal.f l1).bind fun t140 => ((scullerlaw13_parses.f t140).bind fun t143 => (if t143 = true then ((pack_Same.f a0_0 a0_1 a0_2 a0_3 a0_4 l0_5 l0_6 t104 t105 t106 t107 t108 t109 t112).bind fun t144 => ((scullerref13_Same.f a0_0 a0_1 a0_2 a0_3 a0_4 l0_5 l0_6 t104 t105 t106 t107 t108 t109 t112).bind fun t145 => (if (t144 == t145) = true then ((pack_Same.f t104 t105 t106 t107 t108 t109 t112 t104 t105 t106 t107 t108 t109 t112).bind fun t146 => (some t146)) else (some false)))) else (some false)))) else (some false))) = some r := H
                           have A62 := Aside0.mk A620
                           clear A620
                           replace H := Option.bind_eq_some_iff.mp H
                           obtain ⟨t139, A630, H⟩ := H
                           replace H : (if t139 = true then ((scullerref02_Seal.f l1).bind fun t140 => ((scullerlaw13_parses.f t140).bind fun t143 => (if t143 = true then ((pack_Same.f a0_0 a0_1 a0_2 a0_3 a0_4 l0_5 l0_6 t104 t105 t106 t107 t108 t109 t112).bind fun t144 => ((scullerref13_Same.f a0_0 a0_1 a0_2 a0_3 a0_4 l0_5 l0_6 t104 t105 t106 t107 t108 t109 t112).bind fun t145 => (if (t144 == t145) = true then ((pack_Same.f t104 t105 t106 t107 t108 t109 t112 t104 t105 t106 t107 t108 t109 t112).bind fun t146 => (some t146)) else (some false)))) else (some false)))) else (some false)) = some r := H
                           have A63 := Aside0.mk A630
                           clear A630
                           by_cases c64 : t139 = true
                           · subst c64
                             have H1 : ((scullerref02_Seal.f l1).bind fun t140 => ((scullerlaw13_parses.f t140).bind fun t143 => (if t143 = true then ((pack_Same.f a0_0 a0_1 a0_2 a0_3 a0_4 l0_5 l0_6 t104 t105 t106 t107 t108 t109 t112).bind fun t144 => ((scullerref13_Same.f a0_0 a0_1 a0_2 a0_3 a0_4 l0_5 l0_6 t104 t105 t106 t107 t108 t109 t112).bind fun t145 => (if (t144 == t145) = true then ((pack_Same.f t104 t105 t106 t107 t108 t109 t112 t104 t105 t106 t107 t108 t109 t112).bind fun t146 => (some t146)) else (some false)))) else (some false)))) = some r := by rw [if_pos rfl] at H; exact H
                             clear H
                             have H := H1
                             clear H1
                             replace H := Option.bind_eq_some_iff.mp H
                             obtain ⟨t140, A650, H⟩ := H
                             replace H : ((scullerlaw13_parses.f t140).bind fun t143 => (if t143 = true then ((pack_Same.f a0_0 a0_1 a0_2 a0_3 a0_4 l0_5 l0_6 t104 t105 t106 t107 t108 t109 t112).bind fun t144 => ((scullerref13_Same.f a0_0 a0_1 a0_2 a0_3 a0_4 l0_5 l0_6 t104 t105 t106 t107 t108 t109 t112).bind fun t145 => (if (t144 == t145) = true then ((pack_Same.f t104 t105 t106 t107 t108 t109 t112 t104 t105 t106 t107 t108 t109 t112).bind fun t146 => (some t146)) else (some false)))) else (some false))) = some r := H
                             have A65 := Aside0.mk A650
                             clear A650
                             replace H := Option.bind_eq_some_iff.mp H
                             obtain ⟨t143, A660, H⟩ := H
                             replace H : (if t143 = true then ((pack_Same.f a0_0 a0_1 a0_2 a0_3 a0_4 l0_5 l0_6 t104 t105 t106 t107 t108 t109 t112).bind fun t144 => ((scullerref13_Same.f a0_0 a0_1 a0_2 a0_3 a0_4 l0_5 l0_6 t104 t105 t106 t107 t108 t109 t112).bind fun t145 => (if (t144 == t145) = true then ((pack_Same.f t104 t105 t106 t107 t108 t109 t112 t104 t105 t106 t107 t108 t109 t112).bind fun t146 => (some t146)) else (some false)))) else (some false)) = some r := H
                             have A66 := Aside0.mk A660
                             clear A660
                             by_cases c67 : t143 = true
                             · subst c67
                               have H1 : ((pack_Same.f a0_0 a0_1 a0_2 a0_3 a0_4 l0_5 l0_6 t104 t105 t106 t107 t108 t109 t112).bind fun t144 => ((scullerref13_Same.f a0_0 a0_1 a0_2 a0_3 a0_4 l0_5 l0_6 t104 t105 t106 t107 t108 t109 t112).bind fun t145 => (if (t144 == t145) = true then ((pack_Same.f t104 t105 t106 t107 t108 t109 t112 t104 t105 t106 t107 t108 t109 t112).bind fun t146 => (some t146)) else (some false)))) = some r := by rw [if_pos rfl] at H; exact H
                               clear H
                               have H := H1
                               clear H1
                               replace H := Option.bind_eq_some_iff.mp H
                               obtain ⟨t144, A680, H⟩ := H
                               replace H : ((scullerref13_Same.f a0_0 a0_1 a0_2 a0_3 a0_4 l0_5 l0_6 t104 t105 t106 t107 t108 t109 t112).bind fun t145 => (if (t144 == t145) = true then ((pack_Same.f t104 t105 t106 t107 t108 t109 t112 t104 t105 t106 t107 t108 t109 t112).bind fun t146 => (some t146)) else (some false))) = some r := H
                               have A68 := Aside0.mk A680
                               clear A680
                               replace H := Option.bind_eq_some_iff.mp H
                               obtain ⟨t145, A690, H⟩ := H
                               replace H : (if (t144 == t145) = true then ((pack_Same.f t104 t105 t106 t107 t108 t109 t112 t104 t105 t106 t107 t108 t109 t112).bind fun t146 => (some t146)) else (some false)) = some r := H
                               have A69 := Aside0.mk A690
                               clear A690
                               by_cases c70 : (t144 == t145) = true
                               · rw [if_pos c70] at H
                                 have c70b0 : (t144 == t145) = true := c70
                                 (try (have c70b1 : decide (t144 = t145) = true := by simpa using c70))
                                 (try (have c70b2 : (t144 == t145) = true := by simpa using c70))
                                 clear c70
                                 replace H := Option.bind_eq_some_iff.mp H
                                 obtain ⟨t146, A710, H⟩ := H
                                 replace H : (some t146) = some r := H
                                 have A71 := Aside0.mk A710
                                 clear A710
                                 obtain rfl := Option.some.inj H
                                 have q72 : ((ji48) : Int) ≤ ((x24_28.length : Int) : Int) := of_decide_eq_true (by first | (with_reducible assumption) | assumption)
                                 obtain ⟨i072, hi072, _, hsz72, _⟩ := info_parts info5
                                 have hroom72 : x24_28.length ≤ co39 := (Kd.R_reads' HO_24.out).2.1
                                 have hC72 : Kd.C (Kd.int .u8) _ Ao39 x24_28.length x24_28 := (Kd.R_reads' HO_24.out).2.2
                                 have hcut72 := cut_to (P := Try.prog) 25 5 .i64 Try.underlying25 hi072 Ao39 x24_28.length co39 (ji48) (of_decide_eq_true (by first | (with_reducible assumption) | assumption)) q72 hroom72
                                 have hr72 := Kd.C_take (m := ((ji48) : Int).toNat) hC72 (by omega)
                                 have hy72 : y124.length = ((ji48) : Int).toNat := (by rw [Ny124.out, List.length_take]; omega)
                                 rw [← Ny124.out] at hr72
                                 rw [← hy72] at hcut72
                                 have HR127 := Aside0.mk hr72
                                 have HC127 := Aside0.mk (show y124.length ≤ co39 from by omega)
                                 clear hr72 hC72 hroom72 hi072 hsz72
                                 have KY72 := Aside0.mk hy72
                                 clear hy72
                                 have KL72 := Aside0.mk (show ((ji48) : Int).toNat ≤ x24_28.length from by omega)
                                 replace q72 := eq_true q72
                                 try go_wp2_with (first | ((with_reducible refine gate_builtin (b := .append) (xs := #[.tmp 77, .tmp 83]) rfl ?_); (try (refine gate_guard (by rfl) ?_; dsimp only)); at_builtin; refine Kd.R_append_rows (Kd.int .u8) (w0 := w) w.heap.size rfl (.tmp 77) (.tmp 83) 25 5 (.int .u8 0) 1 rfl Try.underlying25 info5 rfl (by decide) (by omega) (.slice none 0 0) ([] : List Int) y124 _ _ _ (fun k_ => some k_ ≠ (.slice Ao38 t116.length co38 : Value).ownBlock ∧ some k_ ≠ (.slice Ao39 x24_28.length co39 : Value).ownBlock ∧ some k_ ≠ (.slice Ao35 t112.length co35 : Value).ownBlock) (fun _ => False) rfl rfl ?aO ?aR (fun _ _ h => h) (fun _ h => h.elim) ?aF ?aB ?aS ?aL ?_; (case aR => repeat (first | exact (by repeat (first | (with_reducible exact HR127.out) | (with_reducible refine Kd.C_alloc ?_ _) | (with_reducible refine Kd.C_drewN ?_ _) | (with_reducible refine Kd.C_drew ?_) | exact HR127.out)) | (with_reducible refine Kd.C_alloc ?_ _) | (with_reducible refine Kd.C_drewN ?_ _) | (with_reducible refine Kd.C_drew ?_))); (case aB => exact (by repeat (first | (with_reducible first | exact HB.out | apply below_alloc | apply pw_below_drewN | apply below_drew1 | refine below_set ?_ GE101.out | refine below_set ?_ GE115.out) | exact HB.out))); (case aF => exact (fun k_ hk => ⟨Kd.fresh' (Kd.R_lt (by (with_reducible repeat (first | apply Kd.R_alloc | apply Kd.R_drewN | apply Kd.R_drew)); exact HO_22.out)) k_ hk, Kd.fresh' (Kd.R_lt (by (with_reducible repeat (first | apply Kd.R_alloc | apply Kd.R_drewN | apply Kd.R_drew)); exact HO_24.out)) k_ hk, Kd.fresh' (Kd.R_lt (by (with_reducible repeat (first | apply Kd.R_alloc | apply Kd.R_drewN | apply Kd.R_drew)); exact HO_116006.out)) k_ hk⟩)); (case aO => exact ((Kd.R_nil _ _ _ _ (fun k_ => some k_ ≠ (.slice Ao38 t116.length co38 : Value).ownBlock ∧ some k_ ≠ (.slice Ao39 x24_28.length co39 : Value).ownBlock ∧ some k_ ≠ (.slice Ao35 t112.length co35 : Value).ownBlock)))); (case aS => exact (below_size (by repeat (first | (with_reducible first | exact HB.out | apply below_alloc | apply pw_below_drewN | apply below_drew1 | refine below_set ?_ GE101.out | refine below_set ?_ GE115.out) | exact HB.out)))); (case aL => have := LMc51.out; omega); intro v129 w73 ho hb hg hat; rw [← Ny128.out] at ho; have n0_ := Aside0.mk (Kd.R_after (Kd.R_apart_nil (by (with_reducible repeat (first | apply Kd.R_alloc | apply Kd.R_drewN | apply Kd.R_drew)); exact HO_22.out)) hg hat); have n1_ := Aside0.mk (Kd.R_after (Kd.R_apart_nil (by (with_reducible repeat (first | apply Kd.R_alloc | apply Kd.R_drewN | apply Kd.R_drew)); exact HO_24.out)) hg hat); have n2_ := Aside0.mk (Kd.R_grown (by (with_reducible repeat (first | apply Kd.R_alloc | apply Kd.R_drewN | apply Kd.R_drew)); exact HO_116005.out) hg (fun _ _ => by simp [Value.ownBlock])); have n3_ := Aside0.mk (Kd.R_after (Kd.R_apart_nil (by (with_reducible repeat (first | apply Kd.R_alloc | apply Kd.R_drewN | apply Kd.R_drew)); exact HO_116006.out)) hg hat); have n4_ := Aside0.mk (blk_grown (g := gb101) (o := .cells #[.int .i64 a0_0, .int .u64 a0_1, .int .i64 a0_2, .int .i64 a0_3, .int .u32 a0_4, .slice A0_5 l0_5.length c0_5, .slice A0_6 l0_6.length c0_6] 28 (0, 0)) (by (with_reducible repeat (first | refine blk_drewN ?_ _ | refine blk_drew ?_ | refine blk_alloc ?_ _)); exact BK101.out) hg (by simp [Value.ownBlock])); have n5_ := Aside0.mk (blk_grown (g := gb115) (o := .cells #[.int .i64 t104, .int .u64 t105, .int .i64 t106, .int .i64 t107, .int .u32 t108, .slice Ao34 t109.length co34, .slice Ao35 t112.length co35] 28 (0, 0)) (by (with_reducible repeat (first | refine blk_drewN ?_ _ | refine blk_drew ?_ | refine blk_alloc ?_ _)); exact BK115.out) hg (by simp [Value.ownBlock])); have n6_ := Aside0.mk (hb); have n7_ := Aside0.mk ((show Kd.C (Kd.int .u8) w73 Ao39 y124.length y124 from by rw [Ny124.out]; exact Kd.C_take (m := ((ji48) : Int).toNat) ((Kd.R_reads' (Kd.R_after (Kd.R_apart_nil (by (with_reducible repeat (first | apply Kd.R_alloc | apply Kd.R_drewN | apply Kd.R_drew)); exact HO_24.out)) hg hat)).2.2) KL72.out)); have n8_ := Aside0.mk (ho); clear HO_22; clear HO_24; clear HO_116005; clear HO_116006; clear BK101; clear BK115; clear HB; clear HR127; have HO_22 := n0_; have HO_24 := n1_; have HO_116005 := n2_; have HO_116006 := n3_; have BK101 := n4_; have BK115 := n5_; have HB := n6_; have HR127 := n7_; have HO130 := n8_; clear n0_ n1_ n2_ n3_ n4_ n5_ n6_ n7_ n8_; clear ho hb hg hat))
                                 have n0_ := Aside0.mk (Kd.R_drew HO_22.out)
                                 have n1_ := Aside0.mk (Kd.R_drew HO_24.out)
                                 have n2_ := Aside0.mk (Kd.R_drew HO_116005.out)
                                 have n3_ := Aside0.mk (Kd.R_drew HO_116006.out)
                                 have n4_ := Aside0.mk (Kd.R_drew HO130.out)
                                 have n5_ := Aside0.mk (blk_drew BK101.out)
                                 have n6_ := Aside0.mk (blk_drew BK115.out)
                                 have n7_ := Aside0.mk (Kd.C_drew HR127.out)
                                 have n8_ := Aside0.mk (below_drew1 HB.out)
                                 clear HO_22
                                 clear HO_24
                                 clear HO_116005
                                 clear HO_116006
                                 clear HO130
                                 clear BK101
                                 clear BK115
                                 clear HR127
                                 clear HB
                                 have HO_22 := n0_
                                 have HO_24 := n1_
                                 have HO_116005 := n2_
                                 have HO_116006 := n3_
                                 have HO130 := n4_
                                 have BK101 := n5_
                                 have BK115 := n6_
                                 have HR127 := n7_
                                 have HB := n8_
                                 clear n0_ n1_ n2_ n3_ n4_ n5_ n6_ n7_ n8_
                                 refine start_ (n := 43) (S := fun w' => w'.cell? ⟨gb101, 0, none⟩ = some (.int .i64 a0_0) ∧ w'.cell? ⟨gb101, 1, none⟩ = some (.int .u64 a0_1) ∧ w'.cell? ⟨gb101, 2, none⟩ = some (.int .i64 a0_2) ∧ w'.cell? ⟨gb101, 3, none⟩ = some (.int .i64 a0_3) ∧ w'.cell? ⟨gb101, 4, none⟩ = some (.int .u32 a0_4) ∧ w'.cell? ⟨gb101, 5, none⟩ = some (.slice A0_5 l0_5.length c0_5) ∧ w'.cell? ⟨gb101, 6, none⟩ = some (.slice A0_6 l0_6.length c0_6) ∧ w'.cell? ⟨gb115, 0, none⟩ = some (.int .i64 t104) ∧ w'.cell? ⟨gb115, 1, none⟩ = some (.int .u64 t105) ∧ w'.cell? ⟨gb115, 2, none⟩ = some (.int .i64 t106) ∧ w'.cell? ⟨gb115, 3, none⟩ = some (.int .i64 t107) ∧ w'.cell? ⟨gb115, 4, none⟩ = some (.int .u32 t108) ∧ w'.cell? ⟨gb115, 5, none⟩ = some (.slice Ao34 t109.length co34) ∧ w'.cell? ⟨gb115, 6, none⟩ = some (.slice Ao35 t112.length co35)) (ds := []) #[false, false, false, false, false, false, false, false, false, false, false, false, false, false, false, false, false, false, false, false, false, false, false, false, false, false, false, false, false, false, false, false, false, false, false, false, false, false, false, false, false, false, false] (by kernel_rfl) rfl rfl ⟨(blk_cell BK101.out 0).trans rfl, (blk_cell BK101.out 1).trans rfl, (blk_cell BK101.out 2).trans rfl, (blk_cell BK101.out 3).trans rfl, (blk_cell BK101.out 4).trans rfl, (blk_cell BK101.out 5).trans rfl, (blk_cell BK101.out 6).trans rfl, (blk_cell BK115.out 0).trans rfl, (blk_cell BK115.out 1).trans rfl, (blk_cell BK115.out 2).trans rfl, (blk_cell BK115.out 3).trans rfl, (blk_cell BK115.out 4).trans rfl, (blk_cell BK115.out 5).trans rfl, (blk_cell BK115.out 6).trans rfl⟩ (fun hHeld => ?_); refine with_tabW scullerlaw13_PackCodes.tab11 scullerlaw13_PackCodes.bits11 (fun HT_ HW_ => ?_)
                                 generalize w73.drew = w74 at HO_22 HO_24 HO_116005 HO_116006 HO130 BK101 BK115 HR127 HB hHeld ⊢
                                 refine take_ (i := 0) (N := some 85) (v := ?_) (a' := ?_) #[true, false, false, false, false, false, false, false, false, false, false, false, false, false, false, false, false, false, false, false, false, false, false, false, false, false, false, false, false, false, false, false, false, false, false, false, false, false, false, false, false, false, false] rfl rfl (take_ofW HT_.out HW_.out (by kernel_rfl)) (fun _ _ _ h => h) (Or.inl ⟨by rfl, ?_⟩) hHeld ?_ ?_
                                 rotate_left
                                 · rintro w' ⟨s0, s1, s2, s3, s4, s5, s6, s7, s8, s9, s10, s11, s12, s13⟩
                                   go_simp
                                   with_reducible rfl
                                 rotate_left
                                 · simp only [Act.put, List.setIfInBounds_toArray, List.set_cons_zero, List.set_cons_succ, i64_w, i32_w]
                                   rfl
                                 refine one_ (i := 1) (N := some 86) #[true, true, false, false, false, false, false, false, false, false, false, false, false, false, false, false, false, false, false, false, false, false, false, false, false, false, false, false, false, false, false, false, false, false, false, false, false, false, false, false, false, false, false] rfl rfl (one_of HT_.out (by kernel_rfl)) (by decide) (fun K hK => ?_)
                                 refine goes_ Try.func16 (by kernel_rfl) rfl #[.agg #[.int .i64 a0_0, .int .u64 a0_1, .int .i64 a0_2, .int .i64 a0_3, .int .u32 a0_4, .slice A0_5 l0_5.length c0_5, .slice A0_6 l0_6.length c0_6]] (by rfl) rfl rfl (by (try simp only [List.map_toArray, List.map_cons, List.map_nil]); first | done | rfl | (simp only [List.length_drop, List.length_take]; rfl)) ?_
                                 with_reducible refine (scullerlaw13_encodes.calls a0_0 a0_1 a0_2 a0_3 a0_4 _ _ l0_5 _ _ l0_6 true _ ?side1 ?side2 ?side3 ?side4 A52.out).mono ?_
                                 (case side1 => repeat (first | exact (Kd.C_below HR0_5.out HB.out) | (with_reducible refine Kd.C_alloc ?_ _) | (with_reducible refine Kd.C_drewN ?_ _) | (with_reducible refine Kd.C_drew ?_)))
                                 (case side2 => exact HC0_5.out)
                                 (case side3 => repeat (first | exact (Kd.C_below HR0_6.out HB.out) | (with_reducible refine Kd.C_alloc ?_ _) | (with_reducible refine Kd.C_drewN ?_ _) | (with_reducible refine Kd.C_drew ?_)))
                                 (case side4 => exact HC0_6.out)
                                 rintro e w75 ⟨rfl, hb⟩
                                 refine ⟨_, rfl, ?_⟩
                                 have n0_ := Aside0.mk (Kd.R_below (by (with_reducible repeat (first | apply Kd.R_alloc | apply Kd.R_drewN | apply Kd.R_drew)); exact HO_22.out) hb)
                                 have n1_ := Aside0.mk (Kd.R_below (by (with_reducible repeat (first | apply Kd.R_alloc | apply Kd.R_drewN | apply Kd.R_drew)); exact HO_24.out) hb)
                                 have n2_ := Aside0.mk (Kd.R_below (by (with_reducible repeat (first | apply Kd.R_alloc | apply Kd.R_drewN | apply Kd.R_drew)); exact HO_116005.out) hb)
                                 have n3_ := Aside0.mk (Kd.R_below (by (with_reducible repeat (first | apply Kd.R_alloc | apply Kd.R_drewN | apply Kd.R_drew)); exact HO_116006.out) hb)
                                 have n4_ := Aside0.mk (Kd.R_below (by (with_reducible repeat (first | apply Kd.R_alloc | apply Kd.R_drewN | apply Kd.R_drew)); exact HO130.out) hb)
                                 have n5_ := Aside0.mk (blk_below (g := gb101) (o := .cells #[.int .i64 a0_0, .int .u64 a0_1, .int .i64 a0_2, .int .i64 a0_3, .int .u32 a0_4, .slice A0_5 l0_5.length c0_5, .slice A0_6 l0_6.length c0_6] 28 (0, 0)) (by (with_reducible repeat (first | refine blk_drewN ?_ _ | refine blk_drew ?_ | refine blk_alloc ?_ _)); exact BK101.out) hb)
                                 have n6_ := Aside0.mk (blk_below (g := gb115) (o := .cells #[.int .i64 t104, .int .u64 t105, .int .i64 t106, .int .i64 t107, .int .u32 t108, .slice Ao34 t109.length co34, .slice Ao35 t112.length co35] 28 (0, 0)) (by (with_reducible repeat (first | refine blk_drewN ?_ _ | refine blk_drew ?_ | refine blk_alloc ?_ _)); exact BK115.out) hb)
                                 have n7_ := Aside0.mk (Kd.C_below (by repeat (first | (with_reducible exact HR127.out) | (with_reducible refine Kd.C_alloc ?_ _) | (with_reducible refine Kd.C_drewN ?_ _) | (with_reducible refine Kd.C_drew ?_) | exact HR127.out)) hb)
                                 have n8_ := Aside0.mk (below_step (by repeat (first | (with_reducible first | exact HB.out | apply below_alloc | apply pw_below_drewN | apply below_drew1 | refine below_set ?_ GE101.out | refine below_set ?_ GE115.out) | exact HB.out)) hb)
                                 clear HO_22
                                 clear HO_24
                                 clear HO_116005
                                 clear HO_116006
                                 clear HO130
                                 clear BK101
                                 clear BK115
                                 clear HR127
                                 clear HB
                                 have HO_22 := n0_
                                 have HO_24 := n1_
                                 have HO_116005 := n2_
                                 have HO_116006 := n3_
                                 have HO130 := n4_
                                 have BK101 := n5_
                                 have BK115 := n6_
                                 have HR127 := n7_
                                 have HB := n8_
                                 clear n0_ n1_ n2_ n3_ n4_ n5_ n6_ n7_ n8_
                                 (try clear hb)
                                 (try clear hb2)
                                 (try clear hk)
                                 (try clear hi)
                                 refine hK.out _ _ ⟨(blk_cell BK101.out 0).trans rfl, (blk_cell BK101.out 1).trans rfl, (blk_cell BK101.out 2).trans rfl, (blk_cell BK101.out 3).trans rfl, (blk_cell BK101.out 4).trans rfl, (blk_cell BK101.out 5).trans rfl, (blk_cell BK101.out 6).trans rfl, (blk_cell BK115.out 0).trans rfl, (blk_cell BK115.out 1).trans rfl, (blk_cell BK115.out 2).trans rfl, (blk_cell BK115.out 3).trans rfl, (blk_cell BK115.out 4).trans rfl, (blk_cell BK115.out 5).trans rfl, (blk_cell BK115.out 6).trans rfl⟩ (fun hHeld => ?_)
                                 clear hK K
                                 refine norm_ (a' := ?_) ?_ ?_
                                 rotate_left
                                 · show Act.put _ (some 86) _ = _
                                   simp only [Act.put, List.setIfInBounds_toArray, List.set_cons_zero, List.set_cons_succ, i64_w, i32_w]
                                   rfl
                                 refine pure_ (i := 2) (N := some 87) (v := ?_) (a' := ?_) #[true, true, true, false, false, false, false, false, false, false, false, false, false, false, false, false, false, false, false, false, false, false, false, false, false, false, false, false, false, false, false, false, false, false, false, false, false, false, false, false, false, false, false] rfl rfl (any_of HT_.out (by kernel_rfl)) (fun _ _ _ h => h) (Or.inl ⟨by rfl, ?_⟩) ?_ ?_
                                 rotate_left
                                 · intro w'
                                   go_simp
                                   with_reducible rfl
                                 rotate_left
                                 · simp only [Act.put, List.setIfInBounds_toArray, List.set_cons_zero, List.set_cons_succ, i64_w, i32_w]
                                   rfl
                                 refine take_ (i := 3) (N := some 88) (v := ?_) (a' := ?_) #[true, true, true, true, false, false, false, false, false, false, false, false, false, false, false, false, false, false, false, false, false, false, false, false, false, false, false, false, false, false, false, false, false, false, false, false, false, false, false, false, false, false, false] rfl rfl (take_ofW HT_.out HW_.out (by kernel_rfl)) (fun _ _ _ h => h) (Or.inl ⟨by rfl, ?_⟩) hHeld ?_ ?_
                                 rotate_left
                                 · rintro w' ⟨s0, s1, s2, s3, s4, s5, s6, s7, s8, s9, s10, s11, s12, s13⟩
                                   go_simp
                                   with_reducible rfl
                                 rotate_left
                                 · simp only [Act.put, List.setIfInBounds_toArray, List.set_cons_zero, List.set_cons_succ, i64_w, i32_w]
                                   rfl
                                 refine one_ (i := 4) (N := some 89) #[true, true, true, true, true, false, false, false, false, false, false, false, false, false, false, false, false, false, false, false, false, false, false, false, false, false, false, false, false, false, false, false, false, false, false, false, false, false, false, false, false, false, false] rfl rfl (one_of HT_.out (by kernel_rfl)) (by decide) (fun K hK => ?_)
                                 refine goes_ Try.func16 (by kernel_rfl) rfl #[.agg #[.int .i64 t104, .int .u64 t105, .int .i64 t106, .int .i64 t107, .int .u32 t108, .slice Ao34 t109.length co34, .slice Ao35 t112.length co35]] (by rfl) rfl rfl (by (try simp only [List.map_toArray, List.map_cons, List.map_nil]); first | done | rfl | (simp only [List.length_drop, List.length_take]; rfl)) ?_
                                 with_reducible refine (scullerlaw13_encodes.calls t104 t105 t106 t107 t108 _ _ t109 _ _ t112 true _ ?side1 ?side2 ?side3 ?side4 A54.out).mono ?_
                                 (case side1 => repeat (first | exact (Kd.R_reads' HO_116005.out).2.2 | (with_reducible refine Kd.C_alloc ?_ _) | (with_reducible refine Kd.C_drewN ?_ _) | (with_reducible refine Kd.C_drew ?_)))
                                 (case side2 => exact (Kd.R_reads' HO_116005.out).2.1)
                                 (case side3 => repeat (first | exact (Kd.R_reads' HO_116006.out).2.2 | (with_reducible refine Kd.C_alloc ?_ _) | (with_reducible refine Kd.C_drewN ?_ _) | (with_reducible refine Kd.C_drew ?_)))
                                 (case side4 => exact (Kd.R_reads' HO_116006.out).2.1)
                                 rintro e w76 ⟨rfl, hb⟩
                                 refine ⟨_, rfl, ?_⟩
                                 have n0_ := Aside0.mk (Kd.R_below (by (with_reducible repeat (first | apply Kd.R_alloc | apply Kd.R_drewN | apply Kd.R_drew)); exact HO_22.out) hb)
                                 have n1_ := Aside0.mk (Kd.R_below (by (with_reducible repeat (first | apply Kd.R_alloc | apply Kd.R_drewN | apply Kd.R_drew)); exact HO_24.out) hb)
                                 have n2_ := Aside0.mk (Kd.R_below (by (with_reducible repeat (first | apply Kd.R_alloc | apply Kd.R_drewN | apply Kd.R_drew)); exact HO_116005.out) hb)
                                 have n3_ := Aside0.mk (Kd.R_below (by (with_reducible repeat (first | apply Kd.R_alloc | apply Kd.R_drewN | apply Kd.R_drew)); exact HO_116006.out) hb)
                                 have n4_ := Aside0.mk (Kd.R_below (by (with_reducible repeat (first | apply Kd.R_alloc | apply Kd.R_drewN | apply Kd.R_drew)); exact HO130.out) hb)
                                 have n5_ := Aside0.mk (blk_below (g := gb101) (o := .cells #[.int .i64 a0_0, .int .u64 a0_1, .int .i64 a0_2, .int .i64 a0_3, .int .u32 a0_4, .slice A0_5 l0_5.length c0_5, .slice A0_6 l0_6.length c0_6] 28 (0, 0)) (by (with_reducible repeat (first | refine blk_drewN ?_ _ | refine blk_drew ?_ | refine blk_alloc ?_ _)); exact BK101.out) hb)
                                 have n6_ := Aside0.mk (blk_below (g := gb115) (o := .cells #[.int .i64 t104, .int .u64 t105, .int .i64 t106, .int .i64 t107, .int .u32 t108, .slice Ao34 t109.length co34, .slice Ao35 t112.length co35] 28 (0, 0)) (by (with_reducible repeat (first | refine blk_drewN ?_ _ | refine blk_drew ?_ | refine blk_alloc ?_ _)); exact BK115.out) hb)
                                 have n7_ := Aside0.mk (Kd.C_below (by repeat (first | (with_reducible exact HR127.out) | (with_reducible refine Kd.C_alloc ?_ _) | (with_reducible refine Kd.C_drewN ?_ _) | (with_reducible refine Kd.C_drew ?_) | exact HR127.out)) hb)
                                 have n8_ := Aside0.mk (below_step (by repeat (first | (with_reducible first | exact HB.out | apply below_alloc | apply pw_below_drewN | apply below_drew1 | refine below_set ?_ GE101.out | refine below_set ?_ GE115.out) | exact HB.out)) hb)
                                 clear HO_22
                                 clear HO_24
                                 clear HO_116005
                                 clear HO_116006
                                 clear HO130
                                 clear BK101
                                 clear BK115
                                 clear HR127
                                 clear HB
                                 have HO_22 := n0_
                                 have HO_24 := n1_
                                 have HO_116005 := n2_
                                 have HO_116006 := n3_
                                 have HO130 := n4_
                                 have BK101 := n5_
                                 have BK115 := n6_
                                 have HR127 := n7_
                                 have HB := n8_
                                 clear n0_ n1_ n2_ n3_ n4_ n5_ n6_ n7_ n8_
                                 (try clear hb)
                                 (try clear hb2)
                                 (try clear hk)
                                 (try clear hi)
                                 refine hK.out _ _ ⟨(blk_cell BK101.out 0).trans rfl, (blk_cell BK101.out 1).trans rfl, (blk_cell BK101.out 2).trans rfl, (blk_cell BK101.out 3).trans rfl, (blk_cell BK101.out 4).trans rfl, (blk_cell BK101.out 5).trans rfl, (blk_cell BK101.out 6).trans rfl, (blk_cell BK115.out 0).trans rfl, (blk_cell BK115.out 1).trans rfl, (blk_cell BK115.out 2).trans rfl, (blk_cell BK115.out 3).trans rfl, (blk_cell BK115.out 4).trans rfl, (blk_cell BK115.out 5).trans rfl, (blk_cell BK115.out 6).trans rfl⟩ (fun hHeld => ?_)
                                 clear hK K
                                 refine norm_ (a' := ?_) ?_ ?_
                                 rotate_left
                                 · show Act.put _ (some 89) _ = _
                                   simp only [Act.put, List.setIfInBounds_toArray, List.set_cons_zero, List.set_cons_succ, i64_w, i32_w]
                                   rfl
                                 refine pure_ (i := 5) (N := some 90) (v := ?_) (a' := ?_) #[true, true, true, true, true, true, false, false, false, false, false, false, false, false, false, false, false, false, false, false, false, false, false, false, false, false, false, false, false, false, false, false, false, false, false, false, false, false, false, false, false, false, false] rfl rfl (any_of HT_.out (by kernel_rfl)) (fun _ _ _ h => h) (Or.inl ⟨by rfl, ?_⟩) ?_ ?_
                                 rotate_left
                                 · intro w'
                                   go_simp
                                   with_reducible rfl
                                 rotate_left
                                 · simp only [Act.put, List.setIfInBounds_toArray, List.set_cons_zero, List.set_cons_succ, i64_w, i32_w]
                                   rfl
                                 refine pure_ (i := 6) (N := some 91) (v := ?_) (a' := ?_) #[true, true, true, true, true, true, true, false, false, false, false, false, false, false, false, false, false, false, false, false, false, false, false, false, false, false, false, false, false, false, false, false, false, false, false, false, false, false, false, false, false, false, false] rfl rfl (any_of HT_.out (by kernel_rfl)) (fun _ _ _ h => h) (Or.inl ⟨by rfl, ?_⟩) ?_ ?_
                                 rotate_left
                                 · intro w'
                                   go_simp
                                   with_reducible rfl
                                 rotate_left
                                 · simp only [Act.put, List.setIfInBounds_toArray, List.set_cons_zero, List.set_cons_succ, i64_w, i32_w]
                                   rfl
                                 refine pure_ (i := 7) (N := some 92) (v := ?_) (a' := ?_) #[true, true, true, true, true, true, true, true, false, false, false, false, false, false, false, false, false, false, false, false, false, false, false, false, false, false, false, false, false, false, false, false, false, false, false, false, false, false, false, false, false, false, false] rfl rfl (any_of HT_.out (by kernel_rfl)) (fun _ _ _ h => h) (Or.inl ⟨by rfl, ?_⟩) ?_ ?_
                                 rotate_left
                                 · intro w'
                                   go_simp
                                   with_reducible rfl
                                 rotate_left
                                 · simp only [Act.put, List.setIfInBounds_toArray, List.set_cons_zero, List.set_cons_succ, i64_w, i32_w]
                                   rfl
                                 refine one_ (i := 8) (N := some 93) #[true, true, true, true, true, true, true, true, true, false, false, false, false, false, false, false, false, false, false, false, false, false, false, false, false, false, false, false, false, false, false, false, false, false, false, false, false, false, false, false, false, false, false] rfl rfl (one_of HT_.out (by kernel_rfl)) (by decide) (fun K hK => ?_)
                                 refine goes_ Try.func17 (by kernel_rfl) rfl #[.slice A1 l1.length c1] (by rfl) rfl rfl (by (try simp only [List.map_toArray, List.map_cons, List.map_nil]); first | done | rfl | (simp only [List.length_drop, List.length_take]; rfl)) ?_
                                 with_reducible refine (scullerlaw13_parses.calls _ _ l1 true _ ?side1 ?side2 A56.out).mono ?_
                                 (case side1 => repeat (first | exact (Kd.C_below HR1.out HB.out) | (with_reducible refine Kd.C_alloc ?_ _) | (with_reducible refine Kd.C_drewN ?_ _) | (with_reducible refine Kd.C_drew ?_)))
                                 (case side2 => exact HC1.out)
                                 rintro e w77 ⟨rfl, hb⟩
                                 refine ⟨_, rfl, ?_⟩
                                 have n0_ := Aside0.mk (Kd.R_below (by (with_reducible repeat (first | apply Kd.R_alloc | apply Kd.R_drewN | apply Kd.R_drew)); exact HO_22.out) hb)
                                 have n1_ := Aside0.mk (Kd.R_below (by (with_reducible repeat (first | apply Kd.R_alloc | apply Kd.R_drewN | apply Kd.R_drew)); exact HO_24.out) hb)
                                 have n2_ := Aside0.mk (Kd.R_below (by (with_reducible repeat (first | apply Kd.R_alloc | apply Kd.R_drewN | apply Kd.R_drew)); exact HO_116005.out) hb)
                                 have n3_ := Aside0.mk (Kd.R_below (by (with_reducible repeat (first | apply Kd.R_alloc | apply Kd.R_drewN | apply Kd.R_drew)); exact HO_116006.out) hb)
                                 have n4_ := Aside0.mk (Kd.R_below (by (with_reducible repeat (first | apply Kd.R_alloc | apply Kd.R_drewN | apply Kd.R_drew)); exact HO130.out) hb)
                                 have n5_ := Aside0.mk (blk_below (g := gb101) (o := .cells #[.int .i64 a0_0, .int .u64 a0_1, .int .i64 a0_2, .int .i64 a0_3, .int .u32 a0_4, .slice A0_5 l0_5.length c0_5, .slice A0_6 l0_6.length c0_6] 28 (0, 0)) (by (with_reducible repeat (first | refine blk_drewN ?_ _ | refine blk_drew ?_ | refine blk_alloc ?_ _)); exact BK101.out) hb)
                                 have n6_ := Aside0.mk (blk_below (g := gb115) (o := .cells #[.int .i64 t104, .int .u64 t105, .int .i64 t106, .int .i64 t107, .int .u32 t108, .slice Ao34 t109.length co34, .slice Ao35 t112.length co35] 28 (0, 0)) (by (with_reducible repeat (first | refine blk_drewN ?_ _ | refine blk_drew ?_ | refine blk_alloc ?_ _)); exact BK115.out) hb)
                                 have n7_ := Aside0.mk (Kd.C_below (by repeat (first | (with_reducible exact HR127.out) | (with_reducible refine Kd.C_alloc ?_ _) | (with_reducible refine Kd.C_drewN ?_ _) | (with_reducible refine Kd.C_drew ?_) | exact HR127.out)) hb)
                                 have n8_ := Aside0.mk (below_step (by repeat (first | (with_reducible first | exact HB.out | apply below_alloc | apply pw_below_drewN | apply below_drew1 | refine below_set ?_ GE101.out | refine below_set ?_ GE115.out) | exact HB.out)) hb)
                                 clear HO_22
                                 clear HO_24
                                 clear HO_116005
                                 clear HO_116006
                                 clear HO130
                                 clear BK101
                                 clear BK115
                                 clear HR127
                                 clear HB
                                 have HO_22 := n0_
                                 have HO_24 := n1_
                                 have HO_116005 := n2_
                                 have HO_116006 := n3_
                                 have HO130 := n4_
                                 have BK101 := n5_
                                 have BK115 := n6_
                                 have HR127 := n7_
                                 have HB := n8_
                                 clear n0_ n1_ n2_ n3_ n4_ n5_ n6_ n7_ n8_
                                 (try clear hb)
                                 (try clear hb2)
                                 (try clear hk)
                                 (try clear hi)
                                 refine hK.out _ _ ⟨(blk_cell BK101.out 0).trans rfl, (blk_cell BK101.out 1).trans rfl, (blk_cell BK101.out 2).trans rfl, (blk_cell BK101.out 3).trans rfl, (blk_cell BK101.out 4).trans rfl, (blk_cell BK101.out 5).trans rfl, (blk_cell BK101.out 6).trans rfl, (blk_cell BK115.out 0).trans rfl, (blk_cell BK115.out 1).trans rfl, (blk_cell BK115.out 2).trans rfl, (blk_cell BK115.out 3).trans rfl, (blk_cell BK115.out 4).trans rfl, (blk_cell BK115.out 5).trans rfl, (blk_cell BK115.out 6).trans rfl⟩ (fun hHeld => ?_)
                                 clear hK K
                                 refine norm_ (a' := ?_) ?_ ?_
                                 rotate_left
                                 · show Act.put _ (some 93) _ = _
                                   simp only [Act.put, List.setIfInBounds_toArray, List.set_cons_zero, List.set_cons_succ, i64_w, i32_w]
                                   rfl
                                 refine pure_ (i := 9) (N := some 94) (v := ?_) (a' := ?_) #[true, true, true, true, true, true, true, true, true, true, false, false, false, false, false, false, false, false, false, false, false, false, false, false, false, false, false, false, false, false, false, false, false, false, false, false, false, false, false, false, false, false, false] rfl rfl (any_of HT_.out (by kernel_rfl)) (fun _ _ _ h => h) (Or.inl ⟨by rfl, ?_⟩) ?_ ?_
                                 rotate_left
                                 · intro w'
                                   go_simp
                                   with_reducible rfl
                                 rotate_left
                                 · simp only [Act.put, List.setIfInBounds_toArray, List.set_cons_zero, List.set_cons_succ, i64_w, i32_w]
                                   rfl
                                 refine pure_ (i := 10) (N := some 95) (v := ?_) (a' := ?_) #[true, true, true, true, true, true, true, true, true, true, true, false, false, false, false, false, false, false, false, false, false, false, false, false, false, false, false, false, false, false, false, false, false, false, false, false, false, false, false, false, false, false, false] rfl rfl (any_of HT_.out (by kernel_rfl)) (fun _ _ _ h => h) (Or.inl ⟨by rfl, ?_⟩) ?_ ?_
                                 rotate_left
                                 · intro w'
                                   go_simp
                                   with_reducible rfl
                                 rotate_left
                                 · simp only [Act.put, List.setIfInBounds_toArray, List.set_cons_zero, List.set_cons_succ, i64_w, i32_w]
                                   rfl
                                 refine pure_ (i := 11) (N := some 96) (v := ?_) (a' := ?_) #[true, true, true, true, true, true, true, true, true, true, true, true, false, false, false, false, false, false, false, false, false, false, false, false, false, false, false, false, false, false, false, false, false, false, false, false, false, false, false, false, false, false, false] rfl rfl (any_of HT_.out (by kernel_rfl)) (fun _ _ _ h => h) (Or.inl ⟨by rfl, ?_⟩) ?_ ?_
                                 rotate_left
                                 · intro w'
                                   go_simp
                                   with_reducible rfl
                                 rotate_left
                                 · simp only [Act.put, List.setIfInBounds_toArray, List.set_cons_zero, List.set_cons_succ, i64_w, i32_w]
                                   rfl
                                 refine one_ (i := 12) (N := some 97) #[true, true, true, true, true, true, true, true, true, true, true, true, true, false, false, false, false, false, false, false, false, false, false, false, false, false, false, false, false, false, false, false, false, false, false, false, false, false, false, false, false, false, false] rfl rfl (one_of HT_.out (by kernel_rfl)) (by decide) (fun K hK => ?_)
                                 refine goes_ Try.func17 (by kernel_rfl) rfl #[.slice Ao38 t116.length co38] (by rfl) rfl rfl (by (try simp only [List.map_toArray, List.map_cons, List.map_nil]); first | done | rfl | (simp only [List.length_drop, List.length_take]; rfl)) ?_
                                 with_reducible refine (scullerlaw13_parses.calls _ _ t116 true _ ?side1 ?side2 A58.out).mono ?_
                                 (case side1 => repeat (first | exact (Kd.R_reads' HO_22.out).2.2 | (with_reducible refine Kd.C_alloc ?_ _) | (with_reducible refine Kd.C_drewN ?_ _) | (with_reducible refine Kd.C_drew ?_)))
                                 (case side2 => exact (Kd.R_reads' HO_22.out).2.1)
                                 rintro e w78 ⟨rfl, hb⟩
                                 refine ⟨_, rfl, ?_⟩
                                 have n0_ := Aside0.mk (Kd.R_below (by (with_reducible repeat (first | apply Kd.R_alloc | apply Kd.R_drewN | apply Kd.R_drew)); exact HO_22.out) hb)
                                 have n1_ := Aside0.mk (Kd.R_below (by (with_reducible repeat (first | apply Kd.R_alloc | apply Kd.R_drewN | apply Kd.R_drew)); exact HO_24.out) hb)
                                 have n2_ := Aside0.mk (Kd.R_below (by (with_reducible repeat (first | apply Kd.R_alloc | apply Kd.R_drewN | apply Kd.R_drew)); exact HO_116005.out) hb)
                                 have n3_ := Aside0.mk (Kd.R_below (by (with_reducible repeat (first | apply Kd.R_alloc | apply Kd.R_drewN | apply Kd.R_drew)); exact HO_116006.out) hb)
                                 have n4_ := Aside0.mk (Kd.R_below (by (with_reducible repeat (first | apply Kd.R_alloc | apply Kd.R_drewN | apply Kd.R_drew)); exact HO130.out) hb)
                                 have n5_ := Aside0.mk (blk_below (g := gb101) (o := .cells #[.int .i64 a0_0, .int .u64 a0_1, .int .i64 a0_2, .int .i64 a0_3, .int .u32 a0_4, .slice A0_5 l0_5.length c0_5, .slice A0_6 l0_6.length c0_6] 28 (0, 0)) (by (with_reducible repeat (first | refine blk_drewN ?_ _ | refine blk_drew ?_ | refine blk_alloc ?_ _)); exact BK101.out) hb)
                                 have n6_ := Aside0.mk (blk_below (g := gb115) (o := .cells #[.int .i64 t104, .int .u64 t105, .int .i64 t106, .int .i64 t107, .int .u32 t108, .slice Ao34 t109.length co34, .slice Ao35 t112.length co35] 28 (0, 0)) (by (with_reducible repeat (first | refine blk_drewN ?_ _ | refine blk_drew ?_ | refine blk_alloc ?_ _)); exact BK115.out) hb)
                                 have n7_ := Aside0.mk (Kd.C_below (by repeat (first | (with_reducible exact HR127.out) | (with_reducible refine Kd.C_alloc ?_ _) | (with_reducible refine Kd.C_drewN ?_ _) | (with_reducible refine Kd.C_drew ?_) | exact HR127.out)) hb)
                                 have n8_ := Aside0.mk (below_step (by repeat (first | (with_reducible first | exact HB.out | apply below_alloc | apply pw_below_drewN | apply below_drew1 | refine below_set ?_ GE101.out | refine below_set ?_ GE115.out) | exact HB.out)) hb)
                                 clear HO_22
                                 clear HO_24
                                 clear HO_116005
                                 clear HO_116006
                                 clear HO130
                                 clear BK101
                                 clear BK115
                                 clear HR127
                                 clear HB
                                 have HO_22 := n0_
                                 have HO_24 := n1_
                                 have HO_116005 := n2_
                                 have HO_116006 := n3_
                                 have HO130 := n4_
                                 have BK101 := n5_
                                 have BK115 := n6_
                                 have HR127 := n7_
                                 have HB := n8_
                                 clear n0_ n1_ n2_ n3_ n4_ n5_ n6_ n7_ n8_
                                 (try clear hb)
                                 (try clear hb2)
                                 (try clear hk)
                                 (try clear hi)
                                 refine hK.out _ _ ⟨(blk_cell BK101.out 0).trans rfl, (blk_cell BK101.out 1).trans rfl, (blk_cell BK101.out 2).trans rfl, (blk_cell BK101.out 3).trans rfl, (blk_cell BK101.out 4).trans rfl, (blk_cell BK101.out 5).trans rfl, (blk_cell BK101.out 6).trans rfl, (blk_cell BK115.out 0).trans rfl, (blk_cell BK115.out 1).trans rfl, (blk_cell BK115.out 2).trans rfl, (blk_cell BK115.out 3).trans rfl, (blk_cell BK115.out 4).trans rfl, (blk_cell BK115.out 5).trans rfl, (blk_cell BK115.out 6).trans rfl⟩ (fun hHeld => ?_)
                                 clear hK K
                                 refine norm_ (a' := ?_) ?_ ?_
                                 rotate_left
                                 · show Act.put _ (some 97) _ = _
                                   simp only [Act.put, List.setIfInBounds_toArray, List.set_cons_zero, List.set_cons_succ, i64_w, i32_w]
                                   rfl
                                 refine pure_ (i := 13) (N := some 98) (v := ?_) (a' := ?_) #[true, true, true, true, true, true, true, true, true, true, true, true, true, true, false, false, false, false, false, false, false, false, false, false, false, false, false, false, false, false, false, false, false, false, false, false, false, false, false, false, false, false, false] rfl rfl (any_of HT_.out (by kernel_rfl)) (fun _ _ _ h => h) (Or.inl ⟨by rfl, ?_⟩) ?_ ?_
                                 rotate_left
                                 · intro w'
                                   go_simp
                                   with_reducible rfl
                                 rotate_left
                                 · simp only [Act.put, List.setIfInBounds_toArray, List.set_cons_zero, List.set_cons_succ, i64_w, i32_w]
                                   rfl
                                 refine pure_ (i := 14) (N := some 99) (v := ?_) (a' := ?_) #[true, true, true, true, true, true, true, true, true, true, true, true, true, true, true, false, false, false, false, false, false, false, false, false, false, false, false, false, false, false, false, false, false, false, false, false, false, false, false, false, false, false, false] rfl rfl (any_of HT_.out (by kernel_rfl)) (fun _ _ _ h => h) (Or.inl ⟨by rfl, ?_⟩) ?_ ?_
                                 rotate_left
                                 · intro w'
                                   go_simp
                                   with_reducible rfl
                                 rotate_left
                                 · simp only [Act.put, List.setIfInBounds_toArray, List.set_cons_zero, List.set_cons_succ, i64_w, i32_w]
                                   rfl
                                 refine pure_ (i := 15) (N := some 100) (v := ?_) (a' := ?_) #[true, true, true, true, true, true, true, true, true, true, true, true, true, true, true, true, false, false, false, false, false, false, false, false, false, false, false, false, false, false, false, false, false, false, false, false, false, false, false, false, false, false, false] rfl rfl (any_of HT_.out (by kernel_rfl)) (fun _ _ _ h => h) (Or.inl ⟨by rfl, ?_⟩) ?_ ?_
                                 rotate_left
                                 · intro w'
                                   go_simp
                                   with_reducible rfl
                                 rotate_left
                                 · simp only [Act.put, List.setIfInBounds_toArray, List.set_cons_zero, List.set_cons_succ, i64_w, i32_w]
                                   rfl
                                 refine one_ (i := 16) (N := some 101) #[true, true, true, true, true, true, true, true, true, true, true, true, true, true, true, true, true, false, false, false, false, false, false, false, false, false, false, false, false, false, false, false, false, false, false, false, false, false, false, false, false, false, false] rfl rfl (one_of HT_.out (by kernel_rfl)) (by decide) (fun K hK => ?_)
                                 refine goes_ Try.func17 (by kernel_rfl) rfl #[.slice Ao39 x24_28.length co39] (by rfl) rfl rfl (by (try simp only [List.map_toArray, List.map_cons, List.map_nil]); first | done | rfl | (simp only [List.length_drop, List.length_take]; rfl)) ?_
                                 with_reducible refine (scullerlaw13_parses.calls _ _ x24_28 true _ ?side1 ?side2 A60.out).mono ?_
                                 (case side1 => repeat (first | exact (Kd.R_reads' HO_24.out).2.2 | (with_reducible refine Kd.C_alloc ?_ _) | (with_reducible refine Kd.C_drewN ?_ _) | (with_reducible refine Kd.C_drew ?_)))
                                 (case side2 => exact (Kd.R_reads' HO_24.out).2.1)
                                 rintro e w79 ⟨rfl, hb⟩
                                 refine ⟨_, rfl, ?_⟩
                                 have n0_ := Aside0.mk (Kd.R_below (by (with_reducible repeat (first | apply Kd.R_alloc | apply Kd.R_drewN | apply Kd.R_drew)); exact HO_22.out) hb)
                                 have n1_ := Aside0.mk (Kd.R_below (by (with_reducible repeat (first | apply Kd.R_alloc | apply Kd.R_drewN | apply Kd.R_drew)); exact HO_24.out) hb)
                                 have n2_ := Aside0.mk (Kd.R_below (by (with_reducible repeat (first | apply Kd.R_alloc | apply Kd.R_drewN | apply Kd.R_drew)); exact HO_116005.out) hb)
                                 have n3_ := Aside0.mk (Kd.R_below (by (with_reducible repeat (first | apply Kd.R_alloc | apply Kd.R_drewN | apply Kd.R_drew)); exact HO_116006.out) hb)
                                 have n4_ := Aside0.mk (Kd.R_below (by (with_reducible repeat (first | apply Kd.R_alloc | apply Kd.R_drewN | apply Kd.R_drew)); exact HO130.out) hb)
                                 have n5_ := Aside0.mk (blk_below (g := gb101) (o := .cells #[.int .i64 a0_0, .int .u64 a0_1, .int .i64 a0_2, .int .i64 a0_3, .int .u32 a0_4, .slice A0_5 l0_5.length c0_5, .slice A0_6 l0_6.length c0_6] 28 (0, 0)) (by (with_reducible repeat (first | refine blk_drewN ?_ _ | refine blk_drew ?_ | refine blk_alloc ?_ _)); exact BK101.out) hb)
                                 have n6_ := Aside0.mk (blk_below (g := gb115) (o := .cells #[.int .i64 t104, .int .u64 t105, .int .i64 t106, .int .i64 t107, .int .u32 t108, .slice Ao34 t109.length co34, .slice Ao35 t112.length co35] 28 (0, 0)) (by (with_reducible repeat (first | refine blk_drewN ?_ _ | refine blk_drew ?_ | refine blk_alloc ?_ _)); exact BK115.out) hb)
                                 have n7_ := Aside0.mk (Kd.C_below (by repeat (first | (with_reducible exact HR127.out) | (with_reducible refine Kd.C_alloc ?_ _) | (with_reducible refine Kd.C_drewN ?_ _) | (with_reducible refine Kd.C_drew ?_) | exact HR127.out)) hb)
                                 have n8_ := Aside0.mk (below_step (by repeat (first | (with_reducible first | exact HB.out | apply below_alloc | apply pw_below_drewN | apply below_drew1 | refine below_set ?_ GE101.out | refine below_set ?_ GE115.out) | exact HB.out)) hb)
                                 clear HO_22
                                 clear HO_24
                                 clear HO_116005
                                 clear HO_116006
                                 clear HO130
                                 clear BK101
                                 clear BK115
                                 clear HR127
                                 clear HB
                                 have HO_22 := n0_
                                 have HO_24 := n1_
                                 have HO_116005 := n2_
                                 have HO_116006 := n3_
                                 have HO130 := n4_
                                 have BK101 := n5_
                                 have BK115 := n6_
                                 have HR127 := n7_
                                 have HB := n8_
                                 clear n0_ n1_ n2_ n3_ n4_ n5_ n6_ n7_ n8_
                                 (try clear hb)
                                 (try clear hb2)
                                 (try clear hk)
                                 (try clear hi)
                                 obtain ⟨Ao80, co80, eo80⟩ := Kd.R_slice HO130.out
                                 (first | subst eo80 | (injection eo80 with f1_ f2_ f3_; have f4_ := f1_.symm; have f5_ := f3_.symm; clear f1_ f2_ f3_; subst f4_; subst f5_))
                                 refine hK.out _ _ ⟨(blk_cell BK101.out 0).trans rfl, (blk_cell BK101.out 1).trans rfl, (blk_cell BK101.out 2).trans rfl, (blk_cell BK101.out 3).trans rfl, (blk_cell BK101.out 4).trans rfl, (blk_cell BK101.out 5).trans rfl, (blk_cell BK101.out 6).trans rfl, (blk_cell BK115.out 0).trans rfl, (blk_cell BK115.out 1).trans rfl, (blk_cell BK115.out 2).trans rfl, (blk_cell BK115.out 3).trans rfl, (blk_cell BK115.out 4).trans rfl, (blk_cell BK115.out 5).trans rfl, (blk_cell BK115.out 6).trans rfl⟩ (fun hHeld => ?_)
                                 clear hK K
                                 refine norm_ (a' := ?_) ?_ ?_
                                 rotate_left
                                 · show Act.put _ (some 101) _ = _
                                   simp only [Act.put, List.setIfInBounds_toArray, List.set_cons_zero, List.set_cons_succ, i64_w, i32_w]
                                   rfl
                                 refine pure_ (i := 17) (N := some 102) (v := ?_) (a' := ?_) #[true, true, true, true, true, true, true, true, true, true, true, true, true, true, true, true, true, true, false, false, false, false, false, false, false, false, false, false, false, false, false, false, false, false, false, false, false, false, false, false, false, false, false] rfl rfl (any_of HT_.out (by kernel_rfl)) (fun _ _ _ h => h) (Or.inl ⟨by rfl, ?_⟩) ?_ ?_
                                 rotate_left
                                 · intro w'
                                   go_simp
                                   with_reducible rfl
                                 rotate_left
                                 · simp only [Act.put, List.setIfInBounds_toArray, List.set_cons_zero, List.set_cons_succ, i64_w, i32_w]
                                   rfl
                                 refine pure_ (i := 18) (N := some 103) (v := ?_) (a' := ?_) #[true, true, true, true, true, true, true, true, true, true, true, true, true, true, true, true, true, true, true, false, false, false, false, false, false, false, false, false, false, false, false, false, false, false, false, false, false, false, false, false, false, false, false] rfl rfl (any_of HT_.out (by kernel_rfl)) (fun _ _ _ h => h) (Or.inl ⟨by rfl, ?_⟩) ?_ ?_
                                 rotate_left
                                 · intro w'
                                   go_simp
                                   with_reducible rfl
                                 rotate_left
                                 · simp only [Act.put, List.setIfInBounds_toArray, List.set_cons_zero, List.set_cons_succ, i64_w, i32_w]
                                   rfl
                                 refine pure_ (i := 19) (N := some 104) (v := ?_) (a' := ?_) #[true, true, true, true, true, true, true, true, true, true, true, true, true, true, true, true, true, true, true, true, false, false, false, false, false, false, false, false, false, false, false, false, false, false, false, false, false, false, false, false, false, false, false] rfl rfl (any_of HT_.out (by kernel_rfl)) (fun _ _ _ h => h) (Or.inl ⟨by rfl, ?_⟩) ?_ ?_
                                 rotate_left
                                 · intro w'
                                   go_simp
                                   with_reducible rfl
                                 rotate_left
                                 · simp only [Act.put, List.setIfInBounds_toArray, List.set_cons_zero, List.set_cons_succ, i64_w, i32_w]
                                   rfl
                                 refine one_ (i := 20) (N := some 105) #[true, true, true, true, true, true, true, true, true, true, true, true, true, true, true, true, true, true, true, true, true, false, false, false, false, false, false, false, false, false, false, false, false, false, false, false, false, false, false, false, false, false, false] rfl rfl (one_of HT_.out (by kernel_rfl)) (by decide) (fun K hK => ?_)
                                 refine goes_ Try.func14 (by kernel_rfl) rfl #[.slice Ao80 y128.length co80] (by rfl) rfl rfl (by (try simp only [List.map_toArray, List.map_cons, List.map_nil]); first | done | rfl | (simp only [List.length_drop, List.length_take]; rfl)) ?_
                                 with_reducible refine (scullerref02_Seal.calls _ _ y128 t136 _ ?side1 ?side2 A62.out).mono ?_
                                 (case side1 => repeat (first | exact (Kd.R_reads' HO130.out).2.2 | (with_reducible refine Kd.C_alloc ?_ _) | (with_reducible refine Kd.C_drewN ?_ _) | (with_reducible refine Kd.C_drew ?_)))
                                 (case side2 => exact (Kd.R_reads' HO130.out).2.1)
                                 rintro e w81 ⟨v137, rfl, ho0, hb⟩
                                 refine ⟨_, rfl, ?_⟩
                                 have n0_ := Aside0.mk (Kd.R_elder' (by (with_reducible repeat (first | apply Kd.R_alloc | apply Kd.R_drewN | apply Kd.R_drew)); exact HO_22.out) (Kd.R_base ho0) hb)
                                 have n1_ := Aside0.mk (Kd.R_elder' (by (with_reducible repeat (first | apply Kd.R_alloc | apply Kd.R_drewN | apply Kd.R_drew)); exact HO_24.out) (Kd.R_base ho0) hb)
                                 have n2_ := Aside0.mk (Kd.R_below (by (with_reducible repeat (first | apply Kd.R_alloc | apply Kd.R_drewN | apply Kd.R_drew)); exact HO_116005.out) hb)
                                 have n3_ := Aside0.mk (Kd.R_elder' (by (with_reducible repeat (first | apply Kd.R_alloc | apply Kd.R_drewN | apply Kd.R_drew)); exact HO_116006.out) (Kd.R_base ho0) hb)
                                 have n4_ := Aside0.mk (Kd.R_elder' (by (with_reducible repeat (first | apply Kd.R_alloc | apply Kd.R_drewN | apply Kd.R_drew)); exact HO130.out) (Kd.R_base ho0) hb)
                                 have n5_ := Aside0.mk (Kd.R_lower (Kd.R_new' (Kd.R_new' (Kd.R_new' (Kd.R_new' ho0 (Kd.R_lt (by (with_reducible repeat (first | apply Kd.R_alloc | apply Kd.R_drewN | apply Kd.R_drew)); exact HO_22.out))) (Kd.R_lt (by (with_reducible repeat (first | apply Kd.R_alloc | apply Kd.R_drewN | apply Kd.R_drew)); exact HO_24.out))) (Kd.R_lt (by (with_reducible repeat (first | apply Kd.R_alloc | apply Kd.R_drewN | apply Kd.R_drew)); exact HO_116006.out))) (Kd.R_lt (by (with_reducible repeat (first | apply Kd.R_alloc | apply Kd.R_drewN | apply Kd.R_drew)); exact HO130.out))) (below_size (by repeat (first | (with_reducible first | exact HB.out | apply below_alloc | apply pw_below_drewN | apply below_drew1 | refine below_set ?_ GE101.out | refine below_set ?_ GE115.out) | exact HB.out))))
                                 have n6_ := Aside0.mk (blk_below (g := gb101) (o := .cells #[.int .i64 a0_0, .int .u64 a0_1, .int .i64 a0_2, .int .i64 a0_3, .int .u32 a0_4, .slice A0_5 l0_5.length c0_5, .slice A0_6 l0_6.length c0_6] 28 (0, 0)) (by (with_reducible repeat (first | refine blk_drewN ?_ _ | refine blk_drew ?_ | refine blk_alloc ?_ _)); exact BK101.out) hb)
                                 have n7_ := Aside0.mk (blk_below (g := gb115) (o := .cells #[.int .i64 t104, .int .u64 t105, .int .i64 t106, .int .i64 t107, .int .u32 t108, .slice Ao34 t109.length co34, .slice Ao35 t112.length co35] 28 (0, 0)) (by (with_reducible repeat (first | refine blk_drewN ?_ _ | refine blk_drew ?_ | refine blk_alloc ?_ _)); exact BK115.out) hb)
                                 have n8_ := Aside0.mk (Kd.C_below (by repeat (first | (with_reducible exact HR127.out) | (with_reducible refine Kd.C_alloc ?_ _) | (with_reducible refine Kd.C_drewN ?_ _) | (with_reducible refine Kd.C_drew ?_) | exact HR127.out)) hb)
                                 have n9_ := Aside0.mk (below_step (by repeat (first | (with_reducible first | exact HB.out | apply below_alloc | apply pw_below_drewN | apply below_drew1 | refine below_set ?_ GE101.out | refine below_set ?_ GE115.out) | exact HB.out)) hb)
                                 clear HO_22
                                 clear HO_24
                                 clear HO_116005
                                 clear HO_116006
                                 clear HO130
                                 clear BK101
                                 clear BK115
                                 clear HR127
                                 clear HB
                                 have HO_22 := n0_
                                 have HO_24 := n1_
                                 have HO_116005 := n2_
                                 have HO_116006 := n3_
                                 have HO130 := n4_
                                 have HO138 := n5_
                                 have BK101 := n6_
                                 have BK115 := n7_
                                 have HR127 := n8_
                                 have HB := n9_
                                 clear n0_ n1_ n2_ n3_ n4_ n5_ n6_ n7_ n8_ n9_
                                 (try clear hb)
                                 (try clear hb2)
                                 (try clear hk)
                                 (try clear hi)
                                 (try clear ho0)
                                 obtain ⟨Ao82, co82, eo82⟩ := Kd.R_slice HO138.out
                                 (first | subst eo82 | (injection eo82 with f1_ f2_ f3_; have f4_ := f1_.symm; have f5_ := f3_.symm; clear f1_ f2_ f3_; subst f4_; subst f5_))
                                 refine hK.out _ _ ⟨(blk_cell BK101.out 0).trans rfl, (blk_cell BK101.out 1).trans rfl, (blk_cell BK101.out 2).trans rfl, (blk_cell BK101.out 3).trans rfl, (blk_cell BK101.out 4).trans rfl, (blk_cell BK101.out 5).trans rfl, (blk_cell BK101.out 6).trans rfl, (blk_cell BK115.out 0).trans rfl, (blk_cell BK115.out 1).trans rfl, (blk_cell BK115.out 2).trans rfl, (blk_cell BK115.out 3).trans rfl, (blk_cell BK115.out 4).trans rfl, (blk_cell BK115.out 5).trans rfl, (blk_cell BK115.out 6).trans rfl⟩ (fun hHeld => ?_)
                                 clear hK K
                                 refine norm_ (a' := ?_) ?_ ?_
                                 rotate_left
                                 · show Act.put _ (some 105) _ = _
                                   simp only [Act.put, List.setIfInBounds_toArray, List.set_cons_zero, List.set_cons_succ, i64_w, i32_w]
                                   rfl
                                 refine one_ (i := 21) (N := some 106) #[true, true, true, true, true, true, true, true, true, true, true, true, true, true, true, true, true, true, true, true, true, true, false, false, false, false, false, false, false, false, false, false, false, false, false, false, false, false, false, false, false, false, false] rfl rfl (one_of HT_.out (by kernel_rfl)) (by decide) (fun K hK => ?_)
                                 refine goes_ Try.func17 (by kernel_rfl) rfl #[.slice Ao82 t136.length co82] (by rfl) rfl rfl (by (try simp only [List.map_toArray, List.map_cons, List.map_nil]); first | done | rfl | (simp only [List.length_drop, List.length_take]; rfl)) ?_
                                 with_reducible refine (scullerlaw13_parses.calls _ _ t136 true _ ?side1 ?side2 A63.out).mono ?_
                                 (case side1 => repeat (first | exact (Kd.R_reads' HO138.out).2.2 | (with_reducible refine Kd.C_alloc ?_ _) | (with_reducible refine Kd.C_drewN ?_ _) | (with_reducible refine Kd.C_drew ?_)))
                                 (case side2 => exact (Kd.R_reads' HO138.out).2.1)
                                 rintro e w83 ⟨rfl, hb⟩
                                 refine ⟨_, rfl, ?_⟩
                                 have n0_ := Aside0.mk (Kd.R_below (by (with_reducible repeat (first | apply Kd.R_alloc | apply Kd.R_drewN | apply Kd.R_drew)); exact HO_22.out) hb)
                                 have n1_ := Aside0.mk (Kd.R_below (by (with_reducible repeat (first | apply Kd.R_alloc | apply Kd.R_drewN | apply Kd.R_drew)); exact HO_24.out) hb)
                                 have n2_ := Aside0.mk (Kd.R_below (by (with_reducible repeat (first | apply Kd.R_alloc | apply Kd.R_drewN | apply Kd.R_drew)); exact HO_116005.out) hb)
                                 have n3_ := Aside0.mk (Kd.R_below (by (with_reducible repeat (first | apply Kd.R_alloc | apply Kd.R_drewN | apply Kd.R_drew)); exact HO_116006.out) hb)
                                 have n4_ := Aside0.mk (Kd.R_below (by (with_reducible repeat (first | apply Kd.R_alloc | apply Kd.R_drewN | apply Kd.R_drew)); exact HO130.out) hb)
                                 have n5_ := Aside0.mk (Kd.R_below (by (with_reducible repeat (first | apply Kd.R_alloc | apply Kd.R_drewN | apply Kd.R_drew)); exact HO138.out) hb)
                                 have n6_ := Aside0.mk (blk_below (g := gb101) (o := .cells #[.int .i64 a0_0, .int .u64 a0_1, .int .i64 a0_2, .int .i64 a0_3, .int .u32 a0_4, .slice A0_5 l0_5.length c0_5, .slice A0_6 l0_6.length c0_6] 28 (0, 0)) (by (with_reducible repeat (first | refine blk_drewN ?_ _ | refine blk_drew ?_ | refine blk_alloc ?_ _)); exact BK101.out) hb)
                                 have n7_ := Aside0.mk (blk_below (g := gb115) (o := .cells #[.int .i64 t104, .int .u64 t105, .int .i64 t106, .int .i64 t107, .int .u32 t108, .slice Ao34 t109.length co34, .slice Ao35 t112.length co35] 28 (0, 0)) (by (with_reducible repeat (first | refine blk_drewN ?_ _ | refine blk_drew ?_ | refine blk_alloc ?_ _)); exact BK115.out) hb)
                                 have n8_ := Aside0.mk (Kd.C_below (by repeat (first | (with_reducible exact HR127.out) | (with_reducible refine Kd.C_alloc ?_ _) | (with_reducible refine Kd.C_drewN ?_ _) | (with_reducible refine Kd.C_drew ?_) | exact HR127.out)) hb)
                                 have n9_ := Aside0.mk (below_step (by repeat (first | (with_reducible first | exact HB.out | apply below_alloc | apply pw_below_drewN | apply below_drew1 | refine below_set ?_ GE101.out | refine below_set ?_ GE115.out) | exact HB.out)) hb)
                                 clear HO_22
                                 clear HO_24
                                 clear HO_116005
                                 clear HO_116006
                                 clear HO130
                                 clear HO138
                                 clear BK101
                                 clear BK115
                                 clear HR127
                                 clear HB
                                 have HO_22 := n0_
                                 have HO_24 := n1_
                                 have HO_116005 := n2_
                                 have HO_116006 := n3_
                                 have HO130 := n4_
                                 have HO138 := n5_
                                 have BK101 := n6_
                                 have BK115 := n7_
                                 have HR127 := n8_
                                 have HB := n9_
                                 clear n0_ n1_ n2_ n3_ n4_ n5_ n6_ n7_ n8_ n9_
                                 (try clear hb)
                                 (try clear hb2)
                                 (try clear hk)
                                 (try clear hi)
                                 refine hK.out _ _ ⟨(blk_cell BK101.out 0).trans rfl, (blk_cell BK101.out 1).trans rfl, (blk_cell BK101.out 2).trans rfl, (blk_cell BK101.out 3).trans rfl, (blk_cell BK101.out 4).trans rfl, (blk_cell BK101.out 5).trans rfl, (blk_cell BK101.out 6).trans rfl, (blk_cell BK115.out 0).trans rfl, (blk_cell BK115.out 1).trans rfl, (blk_cell BK115.out 2).trans rfl, (blk_cell BK115.out 3).trans rfl, (blk_cell BK115.out 4).trans rfl, (blk_cell BK115.out 5).trans rfl, (blk_cell BK115.out 6).trans rfl⟩ (fun hHeld => ?_)
                                 clear hK K
                                 refine norm_ (a' := ?_) ?_ ?_
                                 rotate_left
                                 · show Act.put _ (some 106) _ = _
                                   simp only [Act.put, List.setIfInBounds_toArray, List.set_cons_zero, List.set_cons_succ, i64_w, i32_w]
                                   rfl
                                 refine pure_ (i := 22) (N := some 107) (v := ?_) (a' := ?_) #[true, true, true, true, true, true, true, true, true, true, true, true, true, true, true, true, true, true, true, true, true, true, true, false, false, false, false, false, false, false, false, false, false, false, false, false, false, false, false, false, false, false, false] rfl rfl (any_of HT_.out (by kernel_rfl)) (fun _ _ _ h => h) (Or.inl ⟨by rfl, ?_⟩) ?_ ?_
                                 rotate_left
                                 · intro w'
                                   go_simp
                                   with_reducible rfl
                                 rotate_left
                                 · simp only [Act.put, List.setIfInBounds_toArray, List.set_cons_zero, List.set_cons_succ, i64_w, i32_w]
                                   rfl
                                 refine pure_ (i := 23) (N := some 108) (v := ?_) (a' := ?_) #[true, true, true, true, true, true, true, true, true, true, true, true, true, true, true, true, true, true, true, true, true, true, true, true, false, false, false, false, false, false, false, false, false, false, false, false, false, false, false, false, false, false, false] rfl rfl (any_of HT_.out (by kernel_rfl)) (fun _ _ _ h => h) (Or.inl ⟨by rfl, ?_⟩) ?_ ?_
                                 rotate_left
                                 · intro w'
                                   go_simp
                                   with_reducible rfl
                                 rotate_left
                                 · simp only [Act.put, List.setIfInBounds_toArray, List.set_cons_zero, List.set_cons_succ, i64_w, i32_w]
                                   rfl
                                 refine pure_ (i := 24) (N := some 109) (v := ?_) (a' := ?_) #[true, true, true, true, true, true, true, true, true, true, true, true, true, true, true, true, true, true, true, true, true, true, true, true, true, false, false, false, false, false, false, false, false, false, false, false, false, false, false, false, false, false, false] rfl rfl (any_of HT_.out (by kernel_rfl)) (fun _ _ _ h => h) (Or.inl ⟨by rfl, ?_⟩) ?_ ?_
                                 rotate_left
                                 · intro w'
                                   go_simp
                                   with_reducible rfl
                                 rotate_left
                                 · simp only [Act.put, List.setIfInBounds_toArray, List.set_cons_zero, List.set_cons_succ, i64_w, i32_w]
                                   rfl
                                 refine one_ (i := 25) (N := some 110) #[true, true, true, true, true, true, true, true, true, true, true, true, true, true, true, true, true, true, true, true, true, true, true, true, true, true, false, false, false, false, false, false, false, false, false, false, false, false, false, false, false, false, false] rfl rfl (one_of HT_.out (by kernel_rfl)) (by decide) (fun K hK => ?_)
                                 refine goes_ Try.func14 (by kernel_rfl) rfl #[.slice A1 l1.length c1] (by rfl) rfl rfl (by (try simp only [List.map_toArray, List.map_cons, List.map_nil]); first | done | rfl | (simp only [List.length_drop, List.length_take]; rfl)) ?_
                                 with_reducible refine (scullerref02_Seal.calls _ _ l1 t140 _ ?side1 ?side2 A65.out).mono ?_
                                 (case side1 => repeat (first | exact (Kd.C_below HR1.out HB.out) | (with_reducible refine Kd.C_alloc ?_ _) | (with_reducible refine Kd.C_drewN ?_ _) | (with_reducible refine Kd.C_drew ?_)))
                                 (case side2 => exact HC1.out)
                                 rintro e w84 ⟨v141, rfl, ho0, hb⟩
                                 refine ⟨_, rfl, ?_⟩
                                 have n0_ := Aside0.mk (Kd.R_elder' (by (with_reducible repeat (first | apply Kd.R_alloc | apply Kd.R_drewN | apply Kd.R_drew)); exact HO_22.out) (Kd.R_base ho0) hb)
                                 have n1_ := Aside0.mk (Kd.R_elder' (by (with_reducible repeat (first | apply Kd.R_alloc | apply Kd.R_drewN | apply Kd.R_drew)); exact HO_24.out) (Kd.R_base ho0) hb)
                                 have n2_ := Aside0.mk (Kd.R_below (by (with_reducible repeat (first | apply Kd.R_alloc | apply Kd.R_drewN | apply Kd.R_drew)); exact HO_116005.out) hb)
                                 have n3_ := Aside0.mk (Kd.R_elder' (by (with_reducible repeat (first | apply Kd.R_alloc | apply Kd.R_drewN | apply Kd.R_drew)); exact HO_116006.out) (Kd.R_base ho0) hb)
                                 have n4_ := Aside0.mk (Kd.R_elder' (by (with_reducible repeat (first | apply Kd.R_alloc | apply Kd.R_drewN | apply Kd.R_drew)); exact HO130.out) (Kd.R_base ho0) hb)
                                 have n5_ := Aside0.mk (Kd.R_elder' (by (with_reducible repeat (first | apply Kd.R_alloc | apply Kd.R_drewN | apply Kd.R_drew)); exact HO138.out) (Kd.R_base ho0) hb)
                                 have n6_ := Aside0.mk (Kd.R_lower (Kd.R_new' (Kd.R_new' (Kd.R_new' (Kd.R_new' (Kd.R_new' ho0 (Kd.R_lt (by (with_reducible repeat (first | apply Kd.R_alloc | apply Kd.R_drewN | apply Kd.R_drew)); exact HO_22.out))) (Kd.R_lt (by (with_reducible repeat (first | apply Kd.R_alloc | apply Kd.R_drewN | apply Kd.R_drew)); exact HO_24.out))) (Kd.R_lt (by (with_reducible repeat (first | apply Kd.R_alloc | apply Kd.R_drewN | apply Kd.R_drew)); exact HO_116006.out))) (Kd.R_lt (by (with_reducible repeat (first | apply Kd.R_alloc | apply Kd.R_drewN | apply Kd.R_drew)); exact HO130.out))) (Kd.R_lt (by (with_reducible repeat (first | apply Kd.R_alloc | apply Kd.R_drewN | apply Kd.R_drew)); exact HO138.out))) (below_size (by repeat (first | (with_reducible first | exact HB.out | apply below_alloc | apply pw_below_drewN | apply below_drew1 | refine below_set ?_ GE101.out | refine below_set ?_ GE115.out) | exact HB.out))))
                                 have n7_ := Aside0.mk (blk_below (g := gb101) (o := .cells #[.int .i64 a0_0, .int .u64 a0_1, .int .i64 a0_2, .int .i64 a0_3, .int .u32 a0_4, .slice A0_5 l0_5.length c0_5, .slice A0_6 l0_6.length c0_6] 28 (0, 0)) (by (with_reducible repeat (first | refine blk_drewN ?_ _ | refine blk_drew ?_ | refine blk_alloc ?_ _)); exact BK101.out) hb)
                                 have n8_ := Aside0.mk (blk_below (g := gb115) (o := .cells #[.int .i64 t104, .int .u64 t105, .int .i64 t106, .int .i64 t107, .int .u32 t108, .slice Ao34 t109.length co34, .slice Ao35 t112.length co35] 28 (0, 0)) (by (with_reducible repeat (first | refine blk_drewN ?_ _ | refine blk_drew ?_ | refine blk_alloc ?_ _)); exact BK115.out) hb)
                                 have n9_ := Aside0.mk (Kd.C_below (by repeat (first | (with_reducible exact HR127.out) | (with_reducible refine Kd.C_alloc ?_ _) | (with_reducible refine Kd.C_drewN ?_ _) | (with_reducible refine Kd.C_drew ?_) | exact HR127.out)) hb)
                                 have n10_ := Aside0.mk (below_step (by repeat (first | (with_reducible first | exact HB.out | apply below_alloc | apply pw_below_drewN | apply below_drew1 | refine below_set ?_ GE101.out | refine below_set ?_ GE115.out) | exact HB.out)) hb)
                                 clear HO_22
                                 clear HO_24
                                 clear HO_116005
                                 clear HO_116006
                                 clear HO130
                                 clear HO138
                                 clear BK101
                                 clear BK115
                                 clear HR127
                                 clear HB
                                 have HO_22 := n0_
                                 have HO_24 := n1_
                                 have HO_116005 := n2_
                                 have HO_116006 := n3_
                                 have HO130 := n4_
                                 have HO138 := n5_
                                 have HO142 := n6_
                                 have BK101 := n7_
                                 have BK115 := n8_
                                 have HR127 := n9_
                                 have HB := n10_
                                 clear n0_ n1_ n2_ n3_ n4_ n5_ n6_ n7_ n8_ n9_ n10_
                                 (try clear hb)
                                 (try clear hb2)
                                 (try clear hk)
                                 (try clear hi)
                                 (try clear ho0)
                                 obtain ⟨Ao85, co85, eo85⟩ := Kd.R_slice HO142.out
                                 (first | subst eo85 | (injection eo85 with f1_ f2_ f3_; have f4_ := f1_.symm; have f5_ := f3_.symm; clear f1_ f2_ f3_; subst f4_; subst f5_))
                                 refine hK.out _ _ ⟨(blk_cell BK101.out 0).trans rfl, (blk_cell BK101.out 1).trans rfl, (blk_cell BK101.out 2).trans rfl, (blk_cell BK101.out 3).trans rfl, (blk_cell BK101.out 4).trans rfl, (blk_cell BK101.out 5).trans rfl, (blk_cell BK101.out 6).trans rfl, (blk_cell BK115.out 0).trans rfl, (blk_cell BK115.out 1).trans rfl, (blk_cell BK115.out 2).trans rfl, (blk_cell BK115.out 3).trans rfl, (blk_cell BK115.out 4).trans rfl, (blk_cell BK115.out 5).trans rfl, (blk_cell BK115.out 6).trans rfl⟩ (fun hHeld => ?_)
                                 clear hK K
                                 refine norm_ (a' := ?_) ?_ ?_
                                 rotate_left
                                 · show Act.put _ (some 110) _ = _
                                   simp only [Act.put, List.setIfInBounds_toArray, List.set_cons_zero, List.set_cons_succ, i64_w, i32_w]
                                   rfl
                                 refine one_ (i := 26) (N := some 111) #[true, true, true, true, true, true, true, true, true, true, true, true, true, true, true, true, true, true, true, true, true, true, true, true, true, true, true, false, false, false, false, false, false, false, false, false, false, false, false, false, false, false, false] rfl rfl (one_of HT_.out (by kernel_rfl)) (by decide) (fun K hK => ?_)
                                 refine goes_ Try.func17 (by kernel_rfl) rfl #[.slice Ao85 t140.length co85] (by rfl) rfl rfl (by (try simp only [List.map_toArray, List.map_cons, List.map_nil]); first | done | rfl | (simp only [List.length_drop, List.length_take]; rfl)) ?_
                                 with_reducible refine (scullerlaw13_parses.calls _ _ t140 true _ ?side1 ?side2 A66.out).mono ?_
                                 (case side1 => repeat (first | exact (Kd.R_reads' HO142.out).2.2 | (with_reducible refine Kd.C_alloc ?_ _) | (with_reducible refine Kd.C_drewN ?_ _) | (with_reducible refine Kd.C_drew ?_)))
                                 (case side2 => exact (Kd.R_reads' HO142.out).2.1)
                                 rintro e w86 ⟨rfl, hb⟩
                                 refine ⟨_, rfl, ?_⟩
                                 have n0_ := Aside0.mk (Kd.R_below (by (with_reducible repeat (first | apply Kd.R_alloc | apply Kd.R_drewN | apply Kd.R_drew)); exact HO_22.out) hb)
                                 have n1_ := Aside0.mk (Kd.R_below (by (with_reducible repeat (first | apply Kd.R_alloc | apply Kd.R_drewN | apply Kd.R_drew)); exact HO_24.out) hb)
                                 have n2_ := Aside0.mk (Kd.R_below (by (with_reducible repeat (first | apply Kd.R_alloc | apply Kd.R_drewN | apply Kd.R_drew)); exact HO_116005.out) hb)
                                 have n3_ := Aside0.mk (Kd.R_below (by (with_reducible repeat (first | apply Kd.R_alloc | apply Kd.R_drewN | apply Kd.R_drew)); exact HO_116006.out) hb)
                                 have n4_ := Aside0.mk (Kd.R_below (by (with_reducible repeat (first | apply Kd.R_alloc | apply Kd.R_drewN | apply Kd.R_drew)); exact HO130.out) hb)
                                 have n5_ := Aside0.mk (Kd.R_below (by (with_reducible repeat (first | apply Kd.R_alloc | apply Kd.R_drewN | apply Kd.R_drew)); exact HO138.out) hb)
                                 have n6_ := Aside0.mk (Kd.R_below (by (with_reducible repeat (first | apply Kd.R_alloc | apply Kd.R_drewN | apply Kd.R_drew)); exact HO142.out) hb)
                                 have n7_ := Aside0.mk (blk_below (g := gb101) (o := .cells #[.int .i64 a0_0, .int .u64 a0_1, .int .i64 a0_2, .int .i64 a0_3, .int .u32 a0_4, .slice A0_5 l0_5.length c0_5, .slice A0_6 l0_6.length c0_6] 28 (0, 0)) (by (with_reducible repeat (first | refine blk_drewN ?_ _ | refine blk_drew ?_ | refine blk_alloc ?_ _)); exact BK101.out) hb)
                                 have n8_ := Aside0.mk (blk_below (g := gb115) (o := .cells #[.int .i64 t104, .int .u64 t105, .int .i64 t106, .int .i64 t107, .int .u32 t108, .slice Ao34 t109.length co34, .slice Ao35 t112.length co35] 28 (0, 0)) (by (with_reducible repeat (first | refine blk_drewN ?_ _ | refine blk_drew ?_ | refine blk_alloc ?_ _)); exact BK115.out) hb)
                                 have n9_ := Aside0.mk (Kd.C_below (by repeat (first | (with_reducible exact HR127.out) | (with_reducible refine Kd.C_alloc ?_ _) | (with_reducible refine Kd.C_drewN ?_ _) | (with_reducible refine Kd.C_drew ?_) | exact HR127.out)) hb)
                                 have n10_ := Aside0.mk (below_step (by repeat (first | (with_reducible first | exact HB.out | apply below_alloc | apply pw_below_drewN | apply below_drew1 | refine below_set ?_ GE101.out | refine below_set ?_ GE115.out) | exact HB.out)) hb)
                                 clear HO_22
                                 clear HO_24
                                 clear HO_116005
                                 clear HO_116006
                                 clear HO130
                                 clear HO138
                                 clear HO142
                                 clear BK101
                                 clear BK115
                                 clear HR127
                                 clear HB
                                 have HO_22 := n0_
                                 have HO_24 := n1_
                                 have HO_116005 := n2_
                                 have HO_116006 := n3_
                                 have HO130 := n4_
                                 have HO138 := n5_
                                 have HO142 := n6_
                                 have BK101 := n7_
                                 have BK115 := n8_
                                 have HR127 := n9_
                                 have HB := n10_
                                 clear n0_ n1_ n2_ n3_ n4_ n5_ n6_ n7_ n8_ n9_ n10_
                                 (try clear hb)
                                 (try clear hb2)
                                 (try clear hk)
                                 (try clear hi)
                                 refine hK.out _ _ ⟨(blk_cell BK101.out 0).trans rfl, (blk_cell BK101.out 1).trans rfl, (blk_cell BK101.out 2).trans rfl, (blk_cell BK101.out 3).trans rfl, (blk_cell BK101.out 4).trans rfl, (blk_cell BK101.out 5).trans rfl, (blk_cell BK101.out 6).trans rfl, (blk_cell BK115.out 0).trans rfl, (blk_cell BK115.out 1).trans rfl, (blk_cell BK115.out 2).trans rfl, (blk_cell BK115.out 3).trans rfl, (blk_cell BK115.out 4).trans rfl, (blk_cell BK115.out 5).trans rfl, (blk_cell BK115.out 6).trans rfl⟩ (fun hHeld => ?_)
                                 clear hK K
                                 refine norm_ (a' := ?_) ?_ ?_
                                 rotate_left
                                 · show Act.put _ (some 111) _ = _
                                   simp only [Act.put, List.setIfInBounds_toArray, List.set_cons_zero, List.set_cons_succ, i64_w, i32_w]
                                   rfl
                                 refine pure_ (i := 27) (N := some 112) (v := ?_) (a' := ?_) #[true, true, true, true, true, true, true, true, true, true, true, true, true, true, true, true, true, true, true, true, true, true, true, true, true, true, true, true, false, false, false, false, false, false, false, false, false, false, false, false, false, false, false] rfl rfl (any_of HT_.out (by kernel_rfl)) (fun _ _ _ h => h) (Or.inl ⟨by rfl, ?_⟩) ?_ ?_
                                 rotate_left
                                 · intro w'
                                   go_simp
                                   with_reducible rfl
                                 rotate_left
                                 · simp only [Act.put, List.setIfInBounds_toArray, List.set_cons_zero, List.set_cons_succ, i64_w, i32_w]
                                   rfl
                                 refine pure_ (i := 28) (N := some 113) (v := ?_) (a' := ?_) #[true, true, true, true, true, true, true, true, true, true, true, true, true, true, true, true, true, true, true, true, true, true, true, true, true, true, true, true, true, false, false, false, false, false, false, false, false, false, false, false, false, false, false] rfl rfl (any_of HT_.out (by kernel_rfl)) (fun _ _ _ h => h) (Or.inl ⟨by rfl, ?_⟩) ?_ ?_
                                 rotate_left
                                 · intro w'
                                   go_simp
                                   with_reducible rfl
                                 rotate_left
                                 · simp only [Act.put, List.setIfInBounds_toArray, List.set_cons_zero, List.set_cons_succ, i64_w, i32_w]
                                   rfl
                                 refine take_ (i := 29) (N := some 114) (v := ?_) (a' := ?_) #[true, true, true, true, true, true, true, true, true, true, true, true, true, true, true, true, true, true, true, true, true, true, true, true, true, true, true, true, true, true, false, false, false, false, false, false, false, false, false, false, false, false, false] rfl rfl (take_ofW HT_.out HW_.out (by kernel_rfl)) (fun _ _ _ h => h) (Or.inl ⟨by rfl, ?_⟩) hHeld ?_ ?_
                                 rotate_left
                                 · rintro w' ⟨s0, s1, s2, s3, s4, s5, s6, s7, s8, s9, s10, s11, s12, s13⟩
                                   go_simp
                                   with_reducible rfl
                                 rotate_left
                                 · simp only [Act.put, List.setIfInBounds_toArray, List.set_cons_zero, List.set_cons_succ, i64_w, i32_w]
                                   rfl
                                 refine take_ (i := 30) (N := some 115) (v := ?_) (a' := ?_) #[true, true, true, true, true, true, true, true, true, true, true, true, true, true, true, true, true, true, true, true, true, true, true, true, true, true, true, true, true, true, true, false, false, false, false, false, false, false, false, false, false, false, false] rfl rfl (take_ofW HT_.out HW_.out (by kernel_rfl)) (fun _ _ _ h => h) (Or.inl ⟨by rfl, ?_⟩) hHeld ?_ ?_
                                 rotate_left
                                 · rintro w' ⟨s0, s1, s2, s3, s4, s5, s6, s7, s8, s9, s10, s11, s12, s13⟩
                                   go_simp
                                   with_reducible rfl
                                 rotate_left
                                 · simp only [Act.put, List.setIfInBounds_toArray, List.set_cons_zero, List.set_cons_succ, i64_w, i32_w]
                                   rfl
                                 refine take_ (i := 32) (N := some 117) (v := ?_) (a' := ?_) #[true, true, true, true, true, true, true, true, true, true, true, true, true, true, true, true, true, true, true, true, true, true, true, true, true, true, true, true, true, true, true, false, true, false, false, false, false, false, false, false, false, false, false] rfl rfl (take_ofW HT_.out HW_.out (by kernel_rfl)) (fun _ _ _ h => h) (Or.inl ⟨by rfl, ?_⟩) hHeld ?_ ?_
                                 rotate_left
                                 · rintro w' ⟨s0, s1, s2, s3, s4, s5, s6, s7, s8, s9, s10, s11, s12, s13⟩
                                   go_simp
                                   with_reducible rfl
                                 rotate_left
                                 · simp only [Act.put, List.setIfInBounds_toArray, List.set_cons_zero, List.set_cons_succ, i64_w, i32_w]
                                   rfl
                                 refine take_ (i := 33) (N := some 118) (v := ?_) (a' := ?_) #[true, true, true, true, true, true, true, true, true, true, true, true, true, true, true, true, true, true, true, true, true, true, true, true, true, true, true, true, true, true, true, false, true, true, false, false, false, false, false, false, false, false, false] rfl rfl (take_ofW HT_.out HW_.out (by kernel_rfl)) (fun _ _ _ h => h) (Or.inl ⟨by rfl, ?_⟩) hHeld ?_ ?_
                                 rotate_left
                                 · rintro w' ⟨s0, s1, s2, s3, s4, s5, s6, s7, s8, s9, s10, s11, s12, s13⟩
                                   go_simp
                                   with_reducible rfl
                                 rotate_left
                                 · simp only [Act.put, List.setIfInBounds_toArray, List.set_cons_zero, List.set_cons_succ, i64_w, i32_w]
                                   rfl
                                 refine one_ (i := 31) (N := some 116) #[true, true, true, true, true, true, true, true, true, true, true, true, true, true, true, true, true, true, true, true, true, true, true, true, true, true, true, true, true, true, true, true, true, true, false, false, false, false, false, false, false, false, false] rfl rfl (one_of HT_.out (by kernel_rfl)) (by decide) (fun K hK => ?_)
                                 refine goes_ Try.func18 (by kernel_rfl) rfl #[.agg #[.int .i64 a0_0, .int .u64 a0_1, .int .i64 a0_2, .int .i64 a0_3, .int .u32 a0_4, .slice A0_5 l0_5.length c0_5, .slice A0_6 l0_6.length c0_6], .agg #[.int .i64 t104, .int .u64 t105, .int .i64 t106, .int .i64 t107, .int .u32 t108, .slice Ao34 t109.length co34, .slice Ao35 t112.length co35]] (by rfl) rfl rfl (by (try simp only [List.map_toArray, List.map_cons, List.map_nil]); first | done | rfl | (simp only [List.length_drop, List.length_take]; rfl)) ?_
                                 with_reducible refine (pack_Same.calls a0_0 a0_1 a0_2 a0_3 a0_4 _ _ l0_5 _ _ l0_6 t104 t105 t106 t107 t108 _ _ t109 _ _ t112 t144 _ ?side1 ?side2 ?side3 ?side4 ?side5 ?side6 ?side7 ?side8 A68.out).mono ?_
                                 (case side1 => repeat (first | exact (Kd.C_below HR0_5.out HB.out) | (with_reducible refine Kd.C_alloc ?_ _) | (with_reducible refine Kd.C_drewN ?_ _) | (with_reducible refine Kd.C_drew ?_)))
                                 (case side2 => exact HC0_5.out)
                                 (case side3 => repeat (first | exact (Kd.C_below HR0_6.out HB.out) | (with_reducible refine Kd.C_alloc ?_ _) | (with_reducible refine Kd.C_drewN ?_ _) | (with_reducible refine Kd.C_drew ?_)))
                                 (case side4 => exact HC0_6.out)
                                 (case side5 => repeat (first | exact (Kd.R_reads' HO_116005.out).2.2 | (with_reducible refine Kd.C_alloc ?_ _) | (with_reducible refine Kd.C_drewN ?_ _) | (with_reducible refine Kd.C_drew ?_)))
                                 (case side6 => exact (Kd.R_reads' HO_116005.out).2.1)
                                 (case side7 => repeat (first | exact (Kd.R_reads' HO_116006.out).2.2 | (with_reducible refine Kd.C_alloc ?_ _) | (with_reducible refine Kd.C_drewN ?_ _) | (with_reducible refine Kd.C_drew ?_)))
                                 (case side8 => exact (Kd.R_reads' HO_116006.out).2.1)
                                 rintro e w87 ⟨rfl, hb⟩
                                 refine ⟨_, rfl, ?_⟩
                                 have n0_ := Aside0.mk (Kd.R_below (by (with_reducible repeat (first | apply Kd.R_alloc | apply Kd.R_drewN | apply Kd.R_drew)); exact HO_22.out) hb)
                                 have n1_ := Aside0.mk (Kd.R_below (by (with_reducible repeat (first | apply Kd.R_alloc | apply Kd.R_drewN | apply Kd.R_drew)); exact HO_24.out) hb)
                                 have n2_ := Aside0.mk (Kd.R_below (by (with_reducible repeat (first | apply Kd.R_alloc | apply Kd.R_drewN | apply Kd.R_drew)); exact HO_116005.out) hb)
                                 have n3_ := Aside0.mk (Kd.R_below (by (with_reducible repeat (first | apply Kd.R_alloc | apply Kd.R_drewN | apply Kd.R_drew)); exact HO_116006.out) hb)
                                 have n4_ := Aside0.mk (Kd.R_below (by (with_reducible repeat (first | apply Kd.R_alloc | apply Kd.R_drewN | apply Kd.R_drew)); exact HO130.out) hb)
                                 have n5_ := Aside0.mk (Kd.R_below (by (with_reducible repeat (first | apply Kd.R_alloc | apply Kd.R_drewN | apply Kd.R_drew)); exact HO138.out) hb)
                                 have n6_ := Aside0.mk (Kd.R_below (by (with_reducible repeat (first | apply Kd.R_alloc | apply Kd.R_drewN | apply Kd.R_drew)); exact HO142.out) hb)
                                 have n7_ := Aside0.mk (blk_below (g := gb101) (o := .cells #[.int .i64 a0_0, .int .u64 a0_1, .int .i64 a0_2, .int .i64 a0_3, .int .u32 a0_4, .slice A0_5 l0_5.length c0_5, .slice A0_6 l0_6.length c0_6] 28 (0, 0)) (by (with_reducible repeat (first | refine blk_drewN ?_ _ | refine blk_drew ?_ | refine blk_alloc ?_ _)); exact BK101.out) hb)
                                 have n8_ := Aside0.mk (blk_below (g := gb115) (o := .cells #[.int .i64 t104, .int .u64 t105, .int .i64 t106, .int .i64 t107, .int .u32 t108, .slice Ao34 t109.length co34, .slice Ao35 t112.length co35] 28 (0, 0)) (by (with_reducible repeat (first | refine blk_drewN ?_ _ | refine blk_drew ?_ | refine blk_alloc ?_ _)); exact BK115.out) hb)
                                 have n9_ := Aside0.mk (Kd.C_below (by repeat (first | (with_reducible exact HR127.out) | (with_reducible refine Kd.C_alloc ?_ _) | (with_reducible refine Kd.C_drewN ?_ _) | (with_reducible refine Kd.C_drew ?_) | exact HR127.out)) hb)
                                 have n10_ := Aside0.mk (below_step (by repeat (first | (with_reducible first | exact HB.out | apply below_alloc | apply pw_below_drewN | apply below_drew1 | refine below_set ?_ GE101.out | refine below_set ?_ GE115.out) | exact HB.out)) hb)
                                 clear HO_22
                                 clear HO_24
                                 clear HO_116005
                                 clear HO_116006
                                 clear HO130
                                 clear HO138
                                 clear HO142
                                 clear BK101
                                 clear BK115
                                 clear HR127
                                 clear HB
                                 have HO_22 := n0_
                                 have HO_24 := n1_
                                 have HO_116005 := n2_
                                 have HO_116006 := n3_
                                 have HO130 := n4_
                                 have HO138 := n5_
                                 have HO142 := n6_
                                 have BK101 := n7_
                                 have BK115 := n8_
                                 have HR127 := n9_
                                 have HB := n10_
                                 clear n0_ n1_ n2_ n3_ n4_ n5_ n6_ n7_ n8_ n9_ n10_
                                 (try clear hb)
                                 (try clear hb2)
                                 (try clear hk)
                                 (try clear hi)
                                 refine hK.out _ _ ⟨(blk_cell BK101.out 0).trans rfl, (blk_cell BK101.out 1).trans rfl, (blk_cell BK101.out 2).trans rfl, (blk_cell BK101.out 3).trans rfl, (blk_cell BK101.out 4).trans rfl, (blk_cell BK101.out 5).trans rfl, (blk_cell BK101.out 6).trans rfl, (blk_cell BK115.out 0).trans rfl, (blk_cell BK115.out 1).trans rfl, (blk_cell BK115.out 2).trans rfl, (blk_cell BK115.out 3).trans rfl, (blk_cell BK115.out 4).trans rfl, (blk_cell BK115.out 5).trans rfl, (blk_cell BK115.out 6).trans rfl⟩ (fun hHeld => ?_)
                                 clear hK K
                                 refine norm_ (a' := ?_) ?_ ?_
                                 rotate_left
                                 · show Act.put _ (some 116) _ = _
                                   simp only [Act.put, List.setIfInBounds_toArray, List.set_cons_zero, List.set_cons_succ, i64_w, i32_w]
                                   rfl
                                 refine one_ (i := 34) (N := some 119) #[true, true, true, true, true, true, true, true, true, true, true, true, true, true, true, true, true, true, true, true, true, true, true, true, true, true, true, true, true, true, true, true, true, true, true, false, false, false, false, false, false, false, false] rfl rfl (one_of HT_.out (by kernel_rfl)) (by decide) (fun K hK => ?_)
                                 refine goes_ Try.func12 (by kernel_rfl) rfl #[.agg #[.int .i64 a0_0, .int .u64 a0_1, .int .i64 a0_2, .int .i64 a0_3, .int .u32 a0_4, .slice A0_5 l0_5.length c0_5, .slice A0_6 l0_6.length c0_6], .agg #[.int .i64 t104, .int .u64 t105, .int .i64 t106, .int .i64 t107, .int .u32 t108, .slice Ao34 t109.length co34, .slice Ao35 t112.length co35]] (by rfl) rfl rfl (by (try simp only [List.map_toArray, List.map_cons, List.map_nil]); first | done | rfl | (simp only [List.length_drop, List.length_take]; rfl)) ?_
                                 with_reducible refine (scullerref13_Same.calls a0_0 a0_1 a0_2 a0_3 a0_4 _ _ l0_5 _ _ l0_6 t104 t105 t106 t107 t108 _ _ t109 _ _ t112 t145 _ ?side1 ?side2 ?side3 ?side4 ?side5 ?side6 ?side7 ?side8 A69.out).mono ?_
                                 (case side1 => repeat (first | exact (Kd.C_below HR0_5.out HB.out) | (with_reducible refine Kd.C_alloc ?_ _) | (with_reducible refine Kd.C_drewN ?_ _) | (with_reducible refine Kd.C_drew ?_)))
                                 (case side2 => exact HC0_5.out)
                                 (case side3 => repeat (first | exact (Kd.C_below HR0_6.out HB.out) | (with_reducible refine Kd.C_alloc ?_ _) | (with_reducible refine Kd.C_drewN ?_ _) | (with_reducible refine Kd.C_drew ?_)))
                                 (case side4 => exact HC0_6.out)
                                 (case side5 => repeat (first | exact (Kd.R_reads' HO_116005.out).2.2 | (with_reducible refine Kd.C_alloc ?_ _) | (with_reducible refine Kd.C_drewN ?_ _) | (with_reducible refine Kd.C_drew ?_)))
                                 (case side6 => exact (Kd.R_reads' HO_116005.out).2.1)
                                 (case side7 => repeat (first | exact (Kd.R_reads' HO_116006.out).2.2 | (with_reducible refine Kd.C_alloc ?_ _) | (with_reducible refine Kd.C_drewN ?_ _) | (with_reducible refine Kd.C_drew ?_)))
                                 (case side8 => exact (Kd.R_reads' HO_116006.out).2.1)
                                 rintro e w88 ⟨rfl, hb⟩
                                 refine ⟨_, rfl, ?_⟩
                                 have n0_ := Aside0.mk (Kd.R_below (by (with_reducible repeat (first | apply Kd.R_alloc | apply Kd.R_drewN | apply Kd.R_drew)); exact HO_22.out) hb)
                                 have n1_ := Aside0.mk (Kd.R_below (by (with_reducible repeat (first | apply Kd.R_alloc | apply Kd.R_drewN | apply Kd.R_drew)); exact HO_24.out) hb)
                                 have n2_ := Aside0.mk (Kd.R_below (by (with_reducible repeat (first | apply Kd.R_alloc | apply Kd.R_drewN | apply Kd.R_drew)); exact HO_116005.out) hb)
                                 have n3_ := Aside0.mk (Kd.R_below (by (with_reducible repeat (first | apply Kd.R_alloc | apply Kd.R_drewN | apply Kd.R_drew)); exact HO_116006.out) hb)
                                 have n4_ := Aside0.mk (Kd.R_below (by (with_reducible repeat (first | apply Kd.R_alloc | apply Kd.R_drewN | apply Kd.R_drew)); exact HO130.out) hb)
                                 have n5_ := Aside0.mk (Kd.R_below (by (with_reducible repeat (first | apply Kd.R_alloc | apply Kd.R_drewN | apply Kd.R_drew)); exact HO138.out) hb)
                                 have n6_ := Aside0.mk (Kd.R_below (by (with_reducible repeat (first | apply Kd.R_alloc | apply Kd.R_drewN | apply Kd.R_drew)); exact HO142.out) hb)
                                 have n7_ := Aside0.mk (blk_below (g := gb101) (o := .cells #[.int .i64 a0_0, .int .u64 a0_1, .int .i64 a0_2, .int .i64 a0_3, .int .u32 a0_4, .slice A0_5 l0_5.length c0_5, .slice A0_6 l0_6.length c0_6] 28 (0, 0)) (by (with_reducible repeat (first | refine blk_drewN ?_ _ | refine blk_drew ?_ | refine blk_alloc ?_ _)); exact BK101.out) hb)
                                 have n8_ := Aside0.mk (blk_below (g := gb115) (o := .cells #[.int .i64 t104, .int .u64 t105, .int .i64 t106, .int .i64 t107, .int .u32 t108, .slice Ao34 t109.length co34, .slice Ao35 t112.length co35] 28 (0, 0)) (by (with_reducible repeat (first | refine blk_drewN ?_ _ | refine blk_drew ?_ | refine blk_alloc ?_ _)); exact BK115.out) hb)
                                 have n9_ := Aside0.mk (Kd.C_below (by repeat (first | (with_reducible exact HR127.out) | (with_reducible refine Kd.C_alloc ?_ _) | (with_reducible refine Kd.C_drewN ?_ _) | (with_reducible refine Kd.C_drew ?_) | exact HR127.out)) hb)
                                 have n10_ := Aside0.mk (below_step (by repeat (first | (with_reducible first | exact HB.out | apply below_alloc | apply pw_below_drewN | apply below_drew1 | refine below_set ?_ GE101.out | refine below_set ?_ GE115.out) | exact HB.out)) hb)
                                 clear HO_22
                                 clear HO_24
                                 clear HO_116005
                                 clear HO_116006
                                 clear HO130
                                 clear HO138
                                 clear HO142
                                 clear BK101
                                 clear BK115
                                 clear HR127
                                 clear HB
                                 have HO_22 := n0_
                                 have HO_24 := n1_
                                 have HO_116005 := n2_
                                 have HO_116006 := n3_
                                 have HO130 := n4_
                                 have HO138 := n5_
                                 have HO142 := n6_
                                 have BK101 := n7_
                                 have BK115 := n8_
                                 have HR127 := n9_
                                 have HB := n10_
                                 clear n0_ n1_ n2_ n3_ n4_ n5_ n6_ n7_ n8_ n9_ n10_
                                 (try clear hb)
                                 (try clear hb2)
                                 (try clear hk)
                                 (try clear hi)
                                 refine hK.out _ _ ⟨(blk_cell BK101.out 0).trans rfl, (blk_cell BK101.out 1).trans rfl, (blk_cell BK101.out 2).trans rfl, (blk_cell BK101.out 3).trans rfl, (blk_cell BK101.out 4).trans rfl, (blk_cell BK101.out 5).trans rfl, (blk_cell BK101.out 6).trans rfl, (blk_cell BK115.out 0).trans rfl, (blk_cell BK115.out 1).trans rfl, (blk_cell BK115.out 2).trans rfl, (blk_cell BK115.out 3).trans rfl, (blk_cell BK115.out 4).trans rfl, (blk_cell BK115.out 5).trans rfl, (blk_cell BK115.out 6).trans rfl⟩ (fun hHeld => ?_)
                                 clear hK K
                                 refine norm_ (a' := ?_) ?_ ?_
                                 rotate_left
                                 · show Act.put _ (some 119) _ = _
                                   simp only [Act.put, List.setIfInBounds_toArray, List.set_cons_zero, List.set_cons_succ, i64_w, i32_w]
                                   rfl
                                 refine pure_ (i := 35) (N := some 120) (v := ?_) (a' := ?_) #[true, true, true, true, true, true, true, true, true, true, true, true, true, true, true, true, true, true, true, true, true, true, true, true, true, true, true, true, true, true, true, true, true, true, true, true, false, false, false, false, false, false, false] rfl rfl (any_of HT_.out (by kernel_rfl)) (fun _ _ _ h => h) (Or.inl ⟨by rfl, ?_⟩) ?_ ?_
                                 rotate_left
                                 · intro w'
                                   go_simp
                                   with_reducible rfl
                                 rotate_left
                                 · simp only [Act.put, List.setIfInBounds_toArray, List.set_cons_zero, List.set_cons_succ, i64_w, i32_w]
                                   rfl
                                 refine pure_ (i := 36) (N := some 121) (v := ?_) (a' := ?_) #[true, true, true, true, true, true, true, true, true, true, true, true, true, true, true, true, true, true, true, true, true, true, true, true, true, true, true, true, true, true, true, true, true, true, true, true, true, false, false, false, false, false, false] rfl rfl (any_of HT_.out (by kernel_rfl)) (fun _ _ _ h => h) (Or.inl ⟨by rfl, ?_⟩) ?_ ?_
                                 rotate_left
                                 · intro w'
                                   go_simp
                                   with_reducible rfl
                                 rotate_left
                                 · simp only [Act.put, List.setIfInBounds_toArray, List.set_cons_zero, List.set_cons_succ, i64_w, i32_w]
                                   rfl
                                 refine pure_ (i := 37) (N := some 122) (v := ?_) (a' := ?_) #[true, true, true, true, true, true, true, true, true, true, true, true, true, true, true, true, true, true, true, true, true, true, true, true, true, true, true, true, true, true, true, true, true, true, true, true, true, true, false, false, false, false, false] rfl rfl (any_of HT_.out (by kernel_rfl)) (fun _ _ _ h => h) (Or.inl ⟨by rfl, ?_⟩) ?_ ?_
                                 rotate_left
                                 · intro w'
                                   go_simp
                                   with_reducible rfl
                                 rotate_left
                                 · simp only [Act.put, List.setIfInBounds_toArray, List.set_cons_zero, List.set_cons_succ, i64_w, i32_w]
                                   rfl
                                 refine take_ (i := 38) (N := some 123) (v := ?_) (a' := ?_) #[true, true, true, true, true, true, true, true, true, true, true, true, true, true, true, true, true, true, true, true, true, true, true, true, true, true, true, true, true, true, true, true, true, true, true, true, true, true, true, false, false, false, false] rfl rfl (take_ofW HT_.out HW_.out (by kernel_rfl)) (fun _ _ _ h => h) (Or.inl ⟨by rfl, ?_⟩) hHeld ?_ ?_
                                 rotate_left
                                 · rintro w' ⟨s0, s1, s2, s3, s4, s5, s6, s7, s8, s9, s10, s11, s12, s13⟩
                                   go_simp
                                   with_reducible rfl
                                 rotate_left
                                 · simp only [Act.put, List.setIfInBounds_toArray, List.set_cons_zero, List.set_cons_succ, i64_w, i32_w]
                                   rfl
                                 refine take_ (i := 39) (N := some 124) (v := ?_) (a' := ?_) #[true, true, true, true, true, true, true, true, true, true, true, true, true, true, true, true, true, true, true, true, true, true, true, true, true, true, true, true, true, true, true, true, true, true, true, true, true, true, true, true, false, false, false] rfl rfl (take_ofW HT_.out HW_.out (by kernel_rfl)) (fun _ _ _ h => h) (Or.inl ⟨by rfl, ?_⟩) hHeld ?_ ?_
                                 rotate_left
                                 · rintro w' ⟨s0, s1, s2, s3, s4, s5, s6, s7, s8, s9, s10, s11, s12, s13⟩
                                   go_simp
                                   with_reducible rfl
                                 rotate_left
                                 · simp only [Act.put, List.setIfInBounds_toArray, List.set_cons_zero, List.set_cons_succ, i64_w, i32_w]
                                   rfl
                                 refine one_ (i := 40) (N := some 125) #[true, true, true, true, true, true, true, true, true, true, true, true, true, true, true, true, true, true, true, true, true, true, true, true, true, true, true, true, true, true, true, true, true, true, true, true, true, true, true, true, true, false, false] rfl rfl (one_of HT_.out (by kernel_rfl)) (by decide) (fun K hK => ?_)
                                 refine goes_ Try.func18 (by kernel_rfl) rfl #[.agg #[.int .i64 t104, .int .u64 t105, .int .i64 t106, .int .i64 t107, .int .u32 t108, .slice Ao34 t109.length co34, .slice Ao35 t112.length co35], .agg #[.int .i64 t104, .int .u64 t105, .int .i64 t106, .int .i64 t107, .int .u32 t108, .slice Ao34 t109.length co34, .slice Ao35 t112.length co35]] (by rfl) rfl rfl (by (try simp only [List.map_toArray, List.map_cons, List.map_nil]); first | done | rfl | (simp only [List.length_drop, List.length_take]; rfl)) ?_
                                 with_reducible refine (pack_Same.calls t104 t105 t106 t107 t108 _ _ t109 _ _ t112 t104 t105 t106 t107 t108 _ _ t109 _ _ t112 t146 _ ?side1 ?side2 ?side3 ?side4 ?side5 ?side6 ?side7 ?side8 A71.out).mono ?_
                                 (case side1 => repeat (first | exact (Kd.R_reads' HO_116005.out).2.2 | (with_reducible refine Kd.C_alloc ?_ _) | (with_reducible refine Kd.C_drewN ?_ _) | (with_reducible refine Kd.C_drew ?_)))
                                 (case side2 => exact (Kd.R_reads' HO_116005.out).2.1)
                                 (case side3 => repeat (first | exact (Kd.R_reads' HO_116006.out).2.2 | (with_reducible refine Kd.C_alloc ?_ _) | (with_reducible refine Kd.C_drewN ?_ _) | (with_reducible refine Kd.C_drew ?_)))
                                 (case side4 => exact (Kd.R_reads' HO_116006.out).2.1)
                                 (case side5 => repeat (first | exact (Kd.R_reads' HO_116005.out).2.2 | (with_reducible refine Kd.C_alloc ?_ _) | (with_reducible refine Kd.C_drewN ?_ _) | (with_reducible refine Kd.C_drew ?_)))
                                 (case side6 => exact (Kd.R_reads' HO_116005.out).2.1)
                                 (case side7 => repeat (first | exact (Kd.R_reads' HO_116006.out).2.2 | (with_reducible refine Kd.C_alloc ?_ _) | (with_reducible refine Kd.C_drewN ?_ _) | (with_reducible refine Kd.C_drew ?_)))
                                 (case side8 => exact (Kd.R_reads' HO_116006.out).2.1)
                                 rintro e w89 ⟨rfl, hb⟩
                                 refine ⟨_, rfl, ?_⟩
                                 have n0_ := Aside0.mk (Kd.R_below (by (with_reducible repeat (first | apply Kd.R_alloc | apply Kd.R_drewN | apply Kd.R_drew)); exact HO_22.out) hb)
                                 have n1_ := Aside0.mk (Kd.R_below (by (with_reducible repeat (first | apply Kd.R_alloc | apply Kd.R_drewN | apply Kd.R_drew)); exact HO_24.out) hb)
                                 have n2_ := Aside0.mk (Kd.R_below (by (with_reducible repeat (first | apply Kd.R_alloc | apply Kd.R_drewN | apply Kd.R_drew)); exact HO_116005.out) hb)
                                 have n3_ := Aside0.mk (Kd.R_below (by (with_reducible repeat (first | apply Kd.R_alloc | apply Kd.R_drewN | apply Kd.R_drew)); exact HO_116006.out) hb)
                                 have n4_ := Aside0.mk (Kd.R_below (by (with_reducible repeat (first | apply Kd.R_alloc | apply Kd.R_drewN | apply Kd.R_drew)); exact HO130.out) hb)
                                 have n5_ := Aside0.mk (Kd.R_below (by (with_reducible repeat (first | apply Kd.R_alloc | apply Kd.R_drewN | apply Kd.R_drew)); exact HO138.out) hb)
                                 have n6_ := Aside0.mk (Kd.R_below (by (with_reducible repeat (first | apply Kd.R_alloc | apply Kd.R_drewN | apply Kd.R_drew)); exact HO142.out) hb)
                                 have n7_ := Aside0.mk (blk_below (g := gb101) (o := .cells #[.int .i64 a0_0, .int .u64 a0_1, .int .i64 a0_2, .int .i64 a0_3, .int .u32 a0_4, .slice A0_5 l0_5.length c0_5, .slice A0_6 l0_6.length c0_6] 28 (0, 0)) (by (with_reducible repeat (first | refine blk_drewN ?_ _ | refine blk_drew ?_ | refine blk_alloc ?_ _)); exact BK101.out) hb)
                                 have n8_ := Aside0.mk (blk_below (g := gb115) (o := .cells #[.int .i64 t104, .int .u64 t105, .int .i64 t106, .int .i64 t107, .int .u32 t108, .slice Ao34 t109.length co34, .slice Ao35 t112.length co35] 28 (0, 0)) (by (with_reducible repeat (first | refine blk_drewN ?_ _ | refine blk_drew ?_ | refine blk_alloc ?_ _)); exact BK115.out) hb)
                                 have n9_ := Aside0.mk (Kd.C_below (by repeat (first | (with_reducible exact HR127.out) | (with_reducible refine Kd.C_alloc ?_ _) | (with_reducible refine Kd.C_drewN ?_ _) | (with_reducible refine Kd.C_drew ?_) | exact HR127.out)) hb)
                                 have n10_ := Aside0.mk (below_step (by repeat (first | (with_reducible first | exact HB.out | apply below_alloc | apply pw_below_drewN | apply below_drew1 | refine below_set ?_ GE101.out | refine below_set ?_ GE115.out) | exact HB.out)) hb)
                                 clear HO_22
                                 clear HO_24
                                 clear HO_116005
                                 clear HO_116006
                                 clear HO130
                                 clear HO138
                                 clear HO142
                                 clear BK101
                                 clear BK115
                                 clear HR127
                                 clear HB
                                 have HO_22 := n0_
                                 have HO_24 := n1_
                                 have HO_116005 := n2_
                                 have HO_116006 := n3_
                                 have HO130 := n4_
                                 have HO138 := n5_
                                 have HO142 := n6_
                                 have BK101 := n7_
                                 have BK115 := n8_
                                 have HR127 := n9_
                                 have HB := n10_
                                 clear n0_ n1_ n2_ n3_ n4_ n5_ n6_ n7_ n8_ n9_ n10_
                                 (try clear hb)
                                 (try clear hb2)
                                 (try clear hk)
                                 (try clear hi)
                                 refine hK.out _ _ ⟨(blk_cell BK101.out 0).trans rfl, (blk_cell BK101.out 1).trans rfl, (blk_cell BK101.out 2).trans rfl, (blk_cell BK101.out 3).trans rfl, (blk_cell BK101.out 4).trans rfl, (blk_cell BK101.out 5).trans rfl, (blk_cell BK101.out 6).trans rfl, (blk_cell BK115.out 0).trans rfl, (blk_cell BK115.out 1).trans rfl, (blk_cell BK115.out 2).trans rfl, (blk_cell BK115.out 3).trans rfl, (blk_cell BK115.out 4).trans rfl, (blk_cell BK115.out 5).trans rfl, (blk_cell BK115.out 6).trans rfl⟩ (fun hHeld => ?_)
                                 clear hK K
                                 refine norm_ (a' := ?_) ?_ ?_
                                 rotate_left
                                 · show Act.put _ (some 125) _ = _
                                   simp only [Act.put, List.setIfInBounds_toArray, List.set_cons_zero, List.set_cons_succ, i64_w, i32_w]
                                   rfl
                                 refine pure_ (i := 41) (N := some 126) (v := ?_) (a' := ?_) #[true, true, true, true, true, true, true, true, true, true, true, true, true, true, true, true, true, true, true, true, true, true, true, true, true, true, true, true, true, true, true, true, true, true, true, true, true, true, true, true, true, true, false] rfl rfl (any_of HT_.out (by kernel_rfl)) (fun _ _ _ h => h) (Or.inl ⟨by rfl, ?_⟩) ?_ ?_
                                 rotate_left
                                 · intro w'
                                   go_simp
                                   with_reducible rfl
                                 rotate_left
                                 · simp only [Act.put, List.setIfInBounds_toArray, List.set_cons_zero, List.set_cons_succ, i64_w, i32_w]
                                   rfl
                                 refine pure_ (i := 42) (N := some 20) (v := ?_) (a' := ?_) #[true, true, true, true, true, true, true, true, true, true, true, true, true, true, true, true, true, true, true, true, true, true, true, true, true, true, true, true, true, true, true, true, true, true, true, true, true, true, true, true, true, true, true] rfl rfl (any_of HT_.out (by kernel_rfl)) (fun _ _ _ h => h) (Or.inl ⟨by rfl, ?_⟩) ?_ ?_
                                 rotate_left
                                 · intro w'
                                   go_simp
                                   with_reducible rfl
                                 rotate_left
                                 · simp only [Act.put, List.setIfInBounds_toArray, List.set_cons_zero, List.set_cons_succ, i64_w, i32_w]
                                   rfl
                                 refine done_ (done_of HT_.out (by kernel_rfl)) ?_
                                 try go_wp2
                                 go_ret
                                 exact ⟨by first | rfl | (simp [errW_none, errW_some] <;> rfl) | (simp only [← hji48]; first | rfl | (simp [errW_none, errW_some] <;> rfl)) | (simp [*, errW_none, errW_some] <;> rfl), by repeat (first | (with_reducible first | exact HB.out | apply below_alloc | apply pw_below_drewN | apply below_drew1 | refine below_set ?_ GE101.out | refine below_set ?_ GE115.out) | exact HB.out)⟩
                               · rw [if_neg c70] at H
                                 have c70b0 : (t144 == t145) = false := by simpa using c70
                                 (try (have c70b1 : decide (t144 = t145) = false := by simpa using c70))
                                 (try (have c70b2 : (t144 == t145) = false := by simpa using c70))
                                 (try (have c70b3 : ¬ (t144 = t145) := by simpa using c70))
                                 clear c70
                                 exact absurd H (by rw [hr_.out]; simp)
                             · replace c67 := Bool.eq_false_iff.mpr c67
                               subst c67
                               have H1 : (some false) = some r := by rw [if_neg (show ¬ (false = true) by decide)] at H; exact H
                               clear H
                               have H := H1
                               clear H1
                               exact absurd H (by rw [hr_.out]; simp)
                           · replace c64 := Bool.eq_false_iff.mpr c64
                             subst c64
                             have H1 : (some false) = some r := by rw [if_neg (show ¬ (false = true) by decide)] at H; exact H
                             clear H
                             have H := H1
                             clear H1
                             exact absurd H (by rw [hr_.out]; simp)
                         · replace c61 := Bool.eq_false_iff.mpr c61
                           subst c61
                           have H1 : (some false) = some r := by rw [if_neg (show ¬ (false = true) by decide)] at H; exact H
                           clear H
                           have H := H1
                           clear H1
                           exact absurd H (by rw [hr_.out]; simp)
                       · replace c59 := Bool.eq_false_iff.mpr c59
                         subst c59
                         have H1 : (some false) = some r := by rw [if_neg (show ¬ (false = true) by decide)] at H; exact H
                         clear H
                         have H := H1
                         clear H1
                         exact absurd H (by rw [hr_.out]; simp)
                     · replace c57 := Bool.eq_false_iff.mpr c57
                       subst c57
                       have H1 : (some false) = some r := by rw [if_neg (show ¬ (false = true) by decide)] at H; exact H
                       clear H
                       have H := H1
                       clear H1
                       exact absurd H (by rw [hr_.out]; simp)
                   · replace c55 := Bool.eq_false_iff.mpr c55
                     subst c55
                     have H1 : (some false) = some r := by rw [if_neg (show ¬ (false = true) by decide)] at H; exact H
                     clear H
                     have H := H1
                     clear H1
                     exact absurd H (by rw [hr_.out]; simp)
                 · replace c53 := Bool.eq_false_iff.mpr c53
                   subst c53
                   have H1 : (some false) = some r := by rw [if_neg (show ¬ (false = true) by decide)] at H; exact H
                   clear H
                   have H := H1
                   clear H1
                   exact absurd H (by rw [hr_.out]; simp)
               · rw [if_neg c51] at H
                 exact absurd H (by simp)
             · rw [if_neg c50] at H
               exact absurd H (by simp)
           · rw [if_neg c49] at H
             exact absurd H (by simp)
      · rw [if_neg c28] at H
        exact absurd H (by simp)

end Go.Proofs.Ytoooceaoggkeeaa.F
end

section
/- The statements' own arenas: they fit, and what is cut from their bytes is they again. No program in sight. -/
namespace Go.Proofs.Ytoooceaoggkeeaa.H
set_option linter.unusedVariables false
set_option linter.unusedSimpArgs false
end Go.Proofs.Ytoooceaoggkeeaa.H
end

section
/- Numbers in the bounds of their kinds. -/
namespace Go.Proofs.Ytoooceaoggkeeaa.Pure
open Go.RowKit Go.Proofs.Ytoooceaoggkeeaa.H
theorem byte_wf {x : Int} (h : (Lit.int .u8 x).wf = true) : 0 ≤ x ∧ x ≤ 255 := by
 simp [Lit.wf, IntKind.min, IntKind.max, IntKind.signed, IntKind.bits] at h
 omega
theorem bytes_wf {l : List Int} (h : ∀ x ∈ l, (Lit.int .u8 x).wf = true) : bytesB l = true := bytesB_of fun x hx => byte_wf (h x hx)
end Go.Proofs.Ytoooceaoggkeeaa.Pure
end

section
/- One byte another one: the checksum is another one. No program in sight. -/
namespace Go.Proofs.Ytoooceaoggkeeaa.H
set_option linter.unusedVariables false
theorem sealL_length (l : List Int) : (sealL l).length = l.length + 4 := by rw [sealL, List.length_append, putL_length]
theorem bytesB_set {l : List Int} (hb : bytesB l = true) (i : Nat) (v : Int) (hv : 0 ≤ v ∧ v ≤ 255) : bytesB (l.set i v) = true := bytesB_of fun c hc => by
 rcases List.mem_or_eq_of_mem_set hc with h | rfl
 · exact bytesB_at hb c h
 · exact hv
end Go.Proofs.Ytoooceaoggkeeaa.H
end

section
/- What a datagram's bytes are parsed as. -/
namespace Go.Proofs.Ytoooceaoggkeeaa.Pure
set_option linter.unusedVariables false
open Go.RowKit Go.Proofs.Ytoooceaoggkeeaa.F Go.Proofs.Ytoooceaoggkeeaa.H Go.Proofs.YtoooceaoggkeeaaW.PrintWords Go.Proofs.YtoooceaoggkeeaaW.PrintLast Go.Proofs.YtoooceaoggkeeaaW.PrintMore
theorem known13 : scullerlaw13_known_c.f = some true := rfl
theorem gramB_length (k s i o m : Int) (sizes body : List Int) : (gramB k s i o m sizes body).length = 17 + 2 * sizes.length + body.length := by
 unfold gramB
 rw [List.length_append, List.length_append, frontG_length, flat2_len]
 omega
/-- A datagram's fields, in their bounds. -/
structure GOk (k s i o m : Int) (sizes body : List Int) : Prop where
 k0 : 0 ≤ k ∧ k ≤ 255
 s0 : 0 ≤ s ∧ s < 18446744073709551616
 i0 : 0 ≤ i ∧ i ≤ 65535
 o0 : 0 ≤ o ∧ o ≤ 65535
 m0 : 0 ≤ m ∧ m < 4294967296
 z0 : ∀ x ∈ sizes, 0 ≤ x ∧ x ≤ 65535
 b0 : bytesB body = true
 one : k = 1 → body = []
 two : k ≠ 1 → sizes = []
 zl : sizes.length ≤ 1000
 bl : body.length ≤ 1000
theorem rightG_at {k i o : Int} {sizes body : List Int} (h : rightG k i o sizes body = true) : (1 ≤ k ∧ k ≤ 8) ∧ (0 ≤ i ∧ i ≤ 65535) ∧ (0 ≤ o ∧ o ≤ 65535) ∧ sizes.length ≤ 4 ∧ body.length ≤ 64 ∧ (∀ x ∈ sizes, 0 ≤ x ∧ x ≤ 4096) ∧ (k = 1 → body = []) ∧ (k ≠ 1 → sizes = []) := by
 have hk := kinds_small k
 simp only [rightG, isKindB, Bool.and_eq_true, decide_eq_true_eq, Bool.not_eq_true'] at h
 obtain ⟨⟨⟨⟨⟨⟨⟨h1, h2⟩, h3⟩, h4⟩, h5⟩, h6⟩, h7⟩, h8⟩ := h
 refine ⟨h1, ⟨h2, h4⟩, ⟨h3, h5⟩, by omega, by omega, fun x hx => badS_any h8 x hx, ?_, ?_⟩
 · intro e
   rw [e, hasL, if_pos rfl] at h7
   exact List.eq_nil_of_length_eq_zero (by omega)
 · intro e
   refine List.eq_nil_of_length_eq_zero ?_
   unfold hasL at h6
   rw [if_neg e] at h6
   split at h6 <;> omega
theorem seal_size (k s i o m : Int) (sizes body : List Int) : (sealL (gramB k s i o m sizes body)).length = 21 + 2 * sizes.length + body.length := by rw [sealL_length, gramB_length]; omega
theorem seal_byte (k s i o m : Int) (sizes : List Int) {body : List Int} (h : bytesB body = true) : bytesB (sealL (gramB k s i o m sizes body)) = true := sealL_byte _ (gramB_byte _ _ _ _ _ _ _ h)
theorem encode_is {k s i o m : Int} {sizes body : List Int} (hz : sizes.length ≤ 1000000) (hl : body.length ≤ 1000000) (hb : bytesB body = true) (hm : 0 ≤ m ∧ m < 4294967296) : pack_Encode.f k s i o m sizes body = some (encodeG k s i o m sizes body) := by
 rw [pack_Encode.f, if_pos ⟨hz, hl, hb, hm.1, hm.2⟩]
theorem gram_is {s m i o : Int} {c : List Int} {k : Int} (hb : bytesB c = true) (hl : c.length ≤ 140737488351232) (hi : 0 ≤ i ∧ i ≤ 65535) (ho : 0 ≤ o ∧ o ≤ 65535) (hk : 0 ≤ k ∧ k ≤ 255) : scullerlaw13_Gram_c.f s m i o c k = some (gramC s m i o c k) :=
 if_pos ⟨hb, hl, hi.1, hi.2, ho.1, ho.2, hk.1, hk.2⟩
theorem body_byte {c : List Int} (hb : bytesB c = true) (p : Prop) [Decidable p] : bytesB (if p then c.take 64 else []) = true := by
 split
 · exact bytesB_take hb 64
 · rfl
theorem u64_wf {x : Int} (h : (Lit.int .u64 x).wf = true) : 0 ≤ x ∧ x < 18446744073709551616 := by
 simp [Lit.wf, IntKind.min, IntKind.max, IntKind.signed, IntKind.bits] at h
 omega
theorem u32_wf {x : Int} (h : (Lit.int .u32 x).wf = true) : 0 ≤ x ∧ x < 4294967296 := by
 simp [Lit.wf, IntKind.min, IntKind.max, IntKind.signed, IntKind.bits] at h
 omega
theorem u16_wf {x : Int} (h : (Lit.int .u16 x).wf = true) : 0 ≤ x ∧ x ≤ 65535 := by
 simp [Lit.wf, IntKind.min, IntKind.max, IntKind.signed, IntKind.bits] at h
 omega
end Go.Proofs.Ytoooceaoggkeeaa.Pure
end

section
/- Encode, Parse and Same are what the chapter says: no program in sight. -/
namespace Go.Proofs.Ytoooceaoggkeeaa.Pure
open Go.RowKit Go.Proofs.Ytoooceaoggkeeaa.F Go.Proofs.Ytoooceaoggkeeaa.H Go.Proofs.YtoooceaoggkeeaaW.PrintWords Go.Proofs.YtoooceaoggkeeaaW.PrintLast Go.Proofs.YtoooceaoggkeeaaW.PrintMore
theorem encodeG_two (k s i o m : Int) (z b : List Int) (hz : z.length ≤ 1000000) (hb : bytesB b = true) : bytesB (encodeG k s i o m z b).1 = true ∧ ((encodeG k s i o m z b).2 = 0 ∨ (encodeG k s i o m z b).2 = 1) ∧ (encodeG k s i o m z b).1.length ≤ 200 := by
 unfold encodeG
 split
 · rename_i h
   obtain ⟨h1, h2, h3, h4, h5, h6, h7, h8⟩ := rightG_at h
   have := seal_size k s i o m z b
   exact ⟨seal_byte k s i o m z hb, .inl rfl, by dsimp only; omega⟩
 · exact ⟨rfl, .inr rfl, by simp⟩
theorem encodes_is (k s i o m : Int) (z b : List Int) (hz : z.length ≤ 1000000) (hl : b.length ≤ 1000000) (hb : bytesB b = true) (hs : 0 ≤ s ∧ s < 18446744073709551616) (hm : 0 ≤ m ∧ m < 4294967296) : scullerlaw13_encodes.f k s i o m z b = some true := by
 have h2 := (encodeG_two k s i o m z b hz hb).2.1
 rw [scullerlaw13_encodes.f, encode_is hz hl hb hm, Option.bind_some, scullerref13_Encode_c.f, if_pos ⟨hz, hl, hb, hs, hm.1, hm.2⟩, Option.bind_some, if_pos rfl]
 rcases h2 with h | h
 · rw [h, show wrap64 0 = 0 from by unfold wrap64; omega]; rfl
 · rw [h, show wrap64 1 = 1 from by unfold wrap64; omega]; rfl
theorem parses_is (b : List Int) (hb : bytesB b = true) (hl : b.length ≤ 1000000) : scullerlaw13_parses.f b = some true := by rw [scullerlaw13_parses.f, if_pos ⟨hb, hl⟩]
theorem same_both (k s i o m : Int) (z b : List Int) (k' s' i' o' m' : Int) (z' b' : List Int) (hz : z.length ≤ 1000000) :
 ∃ t, pack_Same.f k s i o m z b k' s' i' o' m' z' b' = some t ∧ scullerref13_Same.f k s i o m z b k' s' i' o' m' z' b' = some t := by
 rw [pack_Same.f, scullerref13_Same.f, slices_Equal_int_int_c.f, scullerref07_SameInts_c.f, if_pos hz, bytes_Equal.f]
 by_cases e1 : k = k'
 · rw [if_pos e1, if_pos e1]
   by_cases e2 : s = s'
   · rw [if_pos e2, if_pos e2]
     by_cases e3 : i = i'
     · rw [if_pos e3, if_pos e3]
       by_cases e4 : o = o'
       · rw [if_pos e4, if_pos e4]
         by_cases e5 : m = m'
         · rw [if_pos e5, if_pos e5]
           cases decide (z = z') <;> exact ⟨_, rfl, rfl⟩
         · rw [if_neg e5, if_neg e5]
           exact ⟨_, rfl, rfl⟩
       · rw [if_neg e4, if_neg e4]
         exact ⟨_, rfl, rfl⟩
     · rw [if_neg e3, if_neg e3]
       exact ⟨_, rfl, rfl⟩
   · rw [if_neg e2, if_neg e2]
     exact ⟨_, rfl, rfl⟩
 · rw [if_neg e1, if_neg e1]
   exact ⟨_, rfl, rfl⟩
theorem same_self (k s i o m : Int) (z b : List Int) (hz : z.length ≤ 1000000) : pack_Same.f k s i o m z b k s i o m z b = some true := by
 rw [pack_Same.f, if_pos rfl, if_pos rfl, if_pos rfl, if_pos rfl, if_pos rfl, slices_Equal_int_int_c.f, if_pos hz, Option.bind_some, if_pos (by simp), bytes_Equal.f, Option.bind_some]
 simp
theorem gramC_small {s m i o : Int} {c : List Int} {k : Int} (hb : bytesB c = true) : ∃ (K I : Int) (z b : List Int), gramC s m i o c k = (K, s, I, o, m, z, b) ∧ z.length ≤ 4 ∧ b.length ≤ 64 ∧ bytesB b = true := by
 refine ⟨_, _, _, _, rfl, ?_, ?_, body_byte hb _⟩
 · split
   · exact sizesG_length c
   · simp
 · split
   · rw [List.length_take]; omega
   · simp
theorem PackCodes (a0_0 a0_1 a0_2 a0_3 a0_4 : Int) (l0_5 l0_6 l1 : List Int) (a2 a3 a4 a5 : Int) (l6 : List Int) (a7 a8 a9 : Int) (hs0 : 0 ≤ a0_1 ∧ a0_1 < 18446744073709551616) (hm0 : 0 ≤ a0_4 ∧ a0_4 < 4294967296) (hb0 : bytesB l0_6 = true) (hb1 : bytesB l1 = true)
 (h2 : 0 ≤ a2 ∧ a2 < 18446744073709551616) (h3 : 0 ≤ a3 ∧ a3 < 4294967296) (h4 : 0 ≤ a4 ∧ a4 ≤ 65535) (h5 : 0 ≤ a5 ∧ a5 ≤ 65535) (hb6 : bytesB l6 = true) (h7 : 0 ≤ a7 ∧ a7 ≤ 255) (h8 : 0 ≤ a8 ∧ a8 ≤ 65535) (h9 : 0 ≤ a9 ∧ a9 ≤ 255) :
 ∃ k, scullerlaw13_PackCodes.f k a0_0 a0_1 a0_2 a0_3 a0_4 l0_5 l0_6 l1 a2 a3 a4 a5 l6 a7 a8 a9 = some true := by
 refine ⟨2, ?_⟩
 have J0T : scullerlaw13_PackCodes.j0 2 l1 a2 a3 a4 a5 l6 a7 a8 a9 true a0_0 a0_1 a0_2 a0_3 a0_4 l0_5 l0_6 = some true := by
  rw [scullerlaw13_PackCodes.j0, if_pos rfl, known13]
  rfl
 rw [scullerlaw13_PackCodes.f]
 by_cases g1 : (l1.length : Int) > 300
 · rw [if_pos g1]; exact J0T
 by_cases g2 : (l0_6.length : Int) > 200
 · rw [if_neg g1, if_pos g2]; exact J0T
 by_cases g3 : (l0_5.length : Int) > 40
 · rw [if_neg g1, if_neg g2, if_pos g3]; exact J0T
 by_cases g4 : (l6.length : Int) > 200
 · rw [if_neg g1, if_neg g2, if_neg g3, if_pos g4]; exact J0T
 rw [if_neg g1, if_neg g2, if_neg g3, if_neg g4, known13, Option.bind_some, scullerlaw13_PackCodes.j0, if_neg (show ¬ (!true) = true by decide), gram_is hb6 (by omega) h4 h5 h7, Option.bind_some]
 obtain ⟨K, I, z, b, hg, hz, hbl, hbb⟩ := gramC_small (s := a2) (m := a3) (i := a4) (o := a5) (c := l6) (k := a7) hb6
 rw [hg]
 dsimp only
 have hen : scullerref13_Encode_c.f K a2 I a5 a3 z b = some (encodeG K a2 I a5 a3 z b) := by rw [scullerref13_Encode_c.f, if_pos ⟨by omega, by omega, hbb, h2, h3.1, h3.2⟩]
 obtain ⟨hyb, -, hyl⟩ := encodeG_two K a2 I a5 a3 z b (by omega) hbb
 rw [hen, Option.bind_some]
 generalize (encodeG K a2 I a5 a3 z b).1 = Y at *
 have J1 : ∀ Z : List Int, bytesB Z = true → Z.length ≤ 200 → scullerlaw13_PackCodes.j1 1 l1 Y Z a0_0 a0_1 a0_2 a0_3 a0_4 l0_5 l0_6 K a2 I a5 a3 z b = some true := by
  intro Z hZ hZl
  have hmx : mx (wrap64 ((Z.length : Int) - 4)) 0 = ((Z.length - 4 : Nat) : Int) := by
   have hw : wrap64 ((Z.length : Int) - 4) = (Z.length : Int) - 4 := by unfold wrap64; omega
   rw [hw]
   unfold mx
   split <;> omega
  have hfb := bytesB_take hZ (Z.length - 4)
  have hfl : (Z.take (Z.length - 4)).length ≤ 200 := by rw [List.length_take]; omega
  obtain ⟨t, ht1, ht2⟩ := same_both a0_0 a0_1 a0_2 a0_3 a0_4 l0_5 l0_6 K a2 I a5 a3 z b (by omega)
  rw [scullerlaw13_PackCodes.j1, hmx, Int.toNat_natCast, if_pos (by omega), if_pos (by omega), Option.bind_some, if_pos (by rw [List.length_nil]; omega)]
  generalize Z.take (Z.length - 4) = F at *
  rw [encodes_is _ _ _ _ _ _ _ (by omega) (by omega) hb0 hs0 hm0, Option.bind_some, if_pos rfl, encodes_is _ _ _ _ _ _ _ (by omega) (by omega) hbb h2 h3, Option.bind_some, if_pos rfl, parses_is l1 hb1 (by omega), Option.bind_some, if_pos rfl, parses_is Y hyb (by omega), Option.bind_some, if_pos rfl, parses_is Z hZ (by omega), Option.bind_some, if_pos rfl,
   List.nil_append, refSeal_is F hfb (by omega), Option.bind_some, parses_is _ (sealL_byte F hfb) (by rw [sealL_length]; omega), Option.bind_some, if_pos rfl, refSeal_is l1 hb1 (by omega), Option.bind_some, parses_is _ (sealL_byte l1 hb1) (by rw [sealL_length]; omega), Option.bind_some, if_pos rfl, ht1, Option.bind_some, ht2, Option.bind_some, if_pos (by simp), same_self _ _ _ _ _ _ _ (by omega), Option.bind_some]
 rw [if_pos (by rw [List.length_nil]; omega), Option.bind_some, List.nil_append]
 by_cases hy : (Y.length : Int) > 0
 · have hn := Int.emod_nonneg a8 (show (Y.length : Int) ≠ 0 by omega)
   have hl := Int.emod_lt_of_pos a8 hy
   have hw : Int.tmod (wrap64 a8) (Y.length : Int) = a8 % (Y.length : Int) := by
    rw [show wrap64 a8 = a8 from by unfold wrap64; omega, Int.tmod_eq_emod_of_nonneg h8.1]
   rw [if_pos hy, if_neg (show ¬ (Y.length : Int) = 0 by omega), hw, if_pos hn, if_pos hl]
   exact J1 _ (bytesB_set hyb _ a9 h9) (by rw [List.length_set]; omega)
 · rw [if_neg hy]
   exact J1 _ hyb (by omega)
end Go.Proofs.Ytoooceaoggkeeaa.Pure
end
