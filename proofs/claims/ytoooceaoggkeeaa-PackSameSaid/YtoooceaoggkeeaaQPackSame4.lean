/- Proved: at every input in bounds the statement PackSame of the pack layer answers yes: two datagrams are the same just if their bytes are.
Text 4 of 5; functions told as plain ones, with the contracts of their calls. -/
import Derived.Test.YtoooceaoggkeeaaQPackSame1
import Derived.Test.YtoooceaoggkeeaaQPackSame2
import Derived.Test.YtoooceaoggkeeaaQPackSame3
section
namespace Go.Proofs.Ytoooceaoggkeeaa.F
open Go.RowKit Go.Proofs.YtoooceaoggkeeaaW.PrintWords Go.Proofs.YtoooceaoggkeeaaW.PrintLast Go.Proofs.YtoooceaoggkeeaaW.PrintMore
attribute [local go_sem] max2_int min2_int max_two min_two max_three min_three max_four min_four   -- for this text's walks alone
set_option linter.unusedVariables false
set_option linter.unusedSimpArgs false

/-! ### scullerlaw13_PackSame: function 8 -/
def scullerlaw13_PackSame.f (a0 : Int) (a1 : Int) (l2 : List Int) (l3 : List Int) (a4 : Int) (a5 : Int) : Option (Bool) := (scullerlaw13_Gram_c.f a0 7 1 2 l2 (Int.tmod a4 8)).bind fun bt101 => (if (IntKind.u64.wrap ((Int.tmod a0 3) + 1)) = 0 then (none) else ((scullerlaw13_Gram_c.f (IntKind.u64.wrap ((Int.tmod a1 (IntKind.u64.wrap ((Int.tmod a0 3) + 1))) + a0)) 7 1 2 l3 (Int.tmod a5 8)).bind fun bt113 => ((pack_Encode.f bt101.1 bt101.2.1 bt101.2.2.1 bt101.2.2.2.1 bt101.2.2.2.2.1 bt101.2.2.2.2.2.1 bt101.2.2.2.2.2.2).bind fun bt125 => ((pack_Encode.f bt113.1 bt113.2.1 bt113.2.2.1 bt113.2.2.2.1 bt113.2.2.2.2.1 bt113.2.2.2.2.2.1 bt113.2.2.2.2.2.2).bind fun bt129 => ((scullerlaw13_known_c.f).bind fun t134 => (if t134 = true then (if bt125.2 = 0 then (if bt129.2 = 0 then ((pack_Same.f bt101.1 bt101.2.1 bt101.2.2.1 bt101.2.2.2.1 bt101.2.2.2.2.1 bt101.2.2.2.2.2.1 bt101.2.2.2.2.2.2 bt113.1 bt113.2.1 bt113.2.2.1 bt113.2.2.2.1 bt113.2.2.2.2.1 bt113.2.2.2.2.2.1 bt113.2.2.2.2.2.2).bind fun t135 => (if (t135 == ((strOfNums bt125.1).toList == (strOfNums bt129.1).toList)) = true then ((pack_Same.f bt113.1 bt113.2.1 bt113.2.2.1 bt113.2.2.2.1 bt113.2.2.2.2.1 bt113.2.2.2.2.2.1 bt113.2.2.2.2.2.2 bt113.1 bt113.2.1 bt113.2.2.1 bt113.2.2.2.1 bt113.2.2.2.2.1 bt113.2.2.2.2.2.1 bt113.2.2.2.2.2.2).bind fun t136 => (if t136 = true then ((pack_Same.f 6 a0 0 0 0 ([] : List Int) ([] : List Int) 6 (IntKind.u64.wrap (a0 + 1)) 0 0 0 ([] : List Int) ([] : List Int)).bind fun t137 => (some (!t137))) else (some false))) else (some false))) else (some false)) else (some false)) else (some false)))))))
def scullerlaw13_PackSame.T6 : Bool × List (List Nat × List Nat) := (true, [([], []), ([0, 0], [0]), ([1], [1]), ([2, 1], [1, 2]), ([1, 3], [1, 3]), ([4, 1], [4]), ([5], [5]), ([6, 5], [5, 6]), ([5, 7], [5, 7]), ([8, 5], [8]), ([9], [9]), ([9], [9]), ([10, 11, 9, 9], [9, 10, 11]), ([9], [9]), ([13, 9], [9, 13]), ([9], [9]), ([15, 9], [9, 15]), ([14, 16, 9], [9, 14, 16]), ([12, 17, 9], [9, 12, 17]), ([9, 18], [9, 18]), ([19, 12], [19]), ([20], [20]), ([20], [20]), ([21, 22, 20, 20], [20, 21, 22]), ([20, 23], [20, 23]), ([24, 23], [24]), ([25], [25]), ([25], [25]), ([27, 25], [25, 27]), ([28, 25], [25, 28]), ([26, 29, 25, 25], [25, 26, 29]), ([30, 25], [25, 30]), ([25, 31], [25, 31]), ([32, 30, 0, 1, 2, 3, 4, 5, 6, 7, 8, 9, 10, 11, 12, 13, 14, 15, 16, 17, 18, 19, 20, 21, 22, 23, 24, 25, 26, 27, 28, 29, 30, 31, 32], [32])])
def scullerlaw13_PackSame.B6 : List Nat := [0, 1, 3, 7, 15, 31, 63, 127, 255, 511, 1023, 1023, 4095, 1023, 9215, 1023, 33791, 123903, 262143, 524287, 1048575, 2097151, 2097151, 8388607, 16777215, 33554431, 67108863, 67108863, 201326591, 469762047, 1073741823, 2147483647, 4294967295, 8589934591]
theorem scullerlaw13_PackSame.tab6 : rtab .any (opsOf Try.f8 6) = scullerlaw13_PackSame.T6 := by kernel_rfl
theorem scullerlaw13_PackSame.bits6 : waitsOk scullerlaw13_PackSame.T6.2 scullerlaw13_PackSame.B6 = true := by kernel_rfl
set_option maxHeartbeats 8000000 in
set_option maxRecDepth 100000 in
theorem scullerlaw13_PackSame.calls (a0 : Int) (a1 : Int) (A2 : Option Addr) (c2 : Nat) (l2 : List Int) (A3 : Option Addr) (c3 : Nat) (l3 : List Int) (a4 : Int) (a5 : Int) (r : Bool) (w : World) (hr2 : Kd.C (Kd.int .u8) w A2 l2.length l2) (hc2 : l2.length ≤ c2) (hr3 : Kd.C (Kd.int .u8) w A3 l3.length l3) (hc3 : l3.length ≤ c3) (h : scullerlaw13_PackSame.f a0 a1 l2 l3 a4 a5 = some r) (hr_ : Aside0 (r = true)) :
 Calls Try.prog 8 #[.int .u64 a0, .int .u64 a1, .slice A2 l2.length c2, .slice A3 l3.length c3, .int .u8 a4, .int .u8 a5] w fun e w' => e = .returned (.bool r) ∧ Below w.heap.size w w' := by
 have hu28 := Try.underlying28
 have HR2 := Aside0.mk hr2
 have HC2 := Aside0.mk hc2
 clear hr2 hc2
 have HR3 := Aside0.mk hr3
 have HC3 := Aside0.mk hc3
 clear hr3 hc3
 have HB := Aside0.mk (Below.refl w.heap.size w)
 have H : ((scullerlaw13_Gram_c.f a0 7 1 2 l2 (Int.tmod a4 8)).bind fun bt101 => (if (IntKind.u64.wrap ((Int.tmod a0 3) + 1)) = 0 then (none) else ((scullerlaw13_Gram_c.f (IntKind.u64.wrap ((Int.tmod a1 (IntKind.u64.wrap ((Int.tmod a0 3) + 1))) + a0)) 7 1 2 l3 (Int.tmod a5 8)).bind fun bt113 => ((pack_Encode.f bt101.1 bt101.2.1 bt101.2.2.1 bt101.2.2.2.1 bt101.2.2.2.2.1 bt101.2.2.2.2.2.1 bt101.2.2.2.2.2.2).bind fun bt125 => ((pack_Encode.f bt113.1 bt113.2.1 bt113.2.2.1 bt113.2.2.2.1 bt113.2.2.2.2.1 bt113.2.2.2.2.2.1 bt113.2.2.2.2.2.2).bind fun bt129 => ((scullerlaw13_known_c.f).bind fun t134 => (if t134 = true then (if bt125.2 = 0 then (if bt129.2 = 0 then ((pack_Same.f bt101.1 bt101.2.1 bt101.2.2.1 bt101.2.2.2.1 bt101.2.2.2.2.1 bt101.2.2.2.2.2.1 bt101.2.2.2.2.2.2 bt113.1 bt113.2.1 bt113.2.2.1 bt113.2.2.2.1 bt113.2.2.2.2.1 bt113.2.2.2.2.2.1 bt113.2.2.2.2.2.2).bind fun t135 => (if (t135 == ((strOfNums bt125.1).toList == (strOfNums bt129.1).toList)) = true then ((pack_Same.f bt113.1 bt113.2.1 bt113.2.2.1 bt113.2.2.2.1 bt113.2.2.2.2.1 bt113.2.2.2.2.2.1 bt113.2.2.2.2.2.2 bt113.1 bt113.2.1 bt113.2.2.1 bt113.2.2.2.1 bt113.2.2.2.2.1 bt113.2.2.2.2.2.1 bt113.2.2.2.2.2.2).bind fun t136 => (if t136 = true then ((pack_Same.f 6 a0 0 0 0 ([] : List Int) ([] : List Int) 6 (IntKind.u64.wrap (a0 + 1)) 0 0 0 ([] : List Int) ([] : List Int)).bind fun t137 => (some (!t137))) else (some false))) else (some false))) else (some false)) else (some false)) else (some false)))))))) = some r := h
 clear h
 replace H := Option.bind_eq_some_iff.mp H
 obtain ⟨⟨t101, t102, t103, t104, t105, t106, t109⟩, A70, H⟩ := H
 replace H : (if (IntKind.u64.wrap ((Int.tmod a0 3) + 1)) = 0 then (none) else ((scullerlaw13_Gram_c.f (IntKind.u64.wrap ((Int.tmod a1 (IntKind.u64.wrap ((Int.tmod a0 3) + 1))) + a0)) 7 1 2 l3 (Int.tmod a5 8)).bind fun bt113 => ((pack_Encode.f t101 t102 t103 t104 t105 t106 t109).bind fun bt125 => ((pack_Encode.f bt113.1 bt113.2.1 bt113.2.2.1 bt113.2.2.2.1 bt113.2.2.2.2.1 bt113.2.2.2.2.2.1 bt113.2.2.2.2.2.2).bind fun bt129 => ((scullerlaw13_known_c.f).bind fun t134 => (if t134 = true then (if bt125.2 = 0 then (if bt129.2 = 0 then ((pack_Same.f t101 t102 t103 t104 t105 t106 t109 bt113.1 bt113.2.1 bt113.2.2.1 bt113.2.2.2.1 bt113.2.2.2.2.1 bt113.2.2.2.2.2.1 bt113.2.2.2.2.2.2).bind fun t135 => (if (t135 == ((strOfNums bt125.1).toList == (strOfNums bt129.1).toList)) = true then ((pack_Same.f bt113.1 bt113.2.1 bt113.2.2.1 bt113.2.2.2.1 bt113.2.2.2.2.1 bt113.2.2.2.2.2.1 bt113.2.2.2.2.2.2 bt113.1 bt113.2.1 bt113.2.2.1 bt113.2.2.2.1 bt113.2.2.2.2.1 bt113.2.2.2.2.2.1 bt113.2.2.2.2.2.2).bind fun t136 => (if t136 = true then ((pack_Same.f 6 a0 0 0 0 ([] : List Int) ([] : List Int) 6 (IntKind.u64.wrap (a0 + 1)) 0 0 0 ([] : List Int) ([] : List Int)).bind fun t137 => (some (!t137))) else (some false))) else (some false))) else (some false)) else (some false)) else (some false))))))) = some r := H
 have A7 := Aside0.mk A70
 clear A70
 by_cases c8 : (IntKind.u64.wrap ((Int.tmod a0 3) + 1)) = 0
 · rw [if_pos c8] at H
   exact absurd H (by simp)
 · rw [if_neg c8] at H
   have c8b0 : ((IntKind.u64.wrap ((Int.tmod a0 3) + 1)) == 0) = false := beq_eq_false_iff_ne.mpr c8
   have c8b1 : ((IntKind.u64.wrap ((Int.tmod a0 3) + 1)) != 0) = true := bne_iff_ne.mpr c8
   replace H := Option.bind_eq_some_iff.mp H
   obtain ⟨⟨t113, t114, t115, t116, t117, t118, t121⟩, A90, H⟩ := H
   replace H : ((pack_Encode.f t101 t102 t103 t104 t105 t106 t109).bind fun bt125 => ((pack_Encode.f t113 t114 t115 t116 t117 t118 t121).bind fun bt129 => ((scullerlaw13_known_c.f).bind fun t134 => (if t134 = true then (if bt125.2 = 0 then (if bt129.2 = 0 then ((pack_Same.f t101 t102 t103 t104 t105 t106 t109 t113 t114 t115 t116 t117 t118 t121).bind fun t135 => (if (t135 == ((strOfNums bt125.1).toList == (strOfNums bt129.1).toList)) = true then ((pack_Same.f t113 t114 t115 t116 t117 t118 t121 t113 t114 t115 t116 t117 t118 t121).bind fun t136 => (if t136 = true then ((pack_Same.f 6 a0 0 0 0 ([] : List Int) ([] : List Int) 6 (IntKind.u64.wrap (a0 + 1)) 0 0 0 ([] : List Int) ([] : List Int)).bind fun t137 => (some (!t137))) else (some false))) else (some false))) else (some false)) else (some false)) else (some false))))) = some r := H
   have A9 := Aside0.mk A90
   clear A90
   replace H := Option.bind_eq_some_iff.mp H
   obtain ⟨⟨t125, t128⟩, A100, H⟩ := H
   replace H : ((pack_Encode.f t113 t114 t115 t116 t117 t118 t121).bind fun bt129 => ((scullerlaw13_known_c.f).bind fun t134 => (if t134 = true then (if t128 = 0 then (if bt129.2 = 0 then ((pack_Same.f t101 t102 t103 t104 t105 t106 t109 t113 t114 t115 t116 t117 t118 t121).bind fun t135 => (if (t135 == ((strOfNums t125).toList == (strOfNums bt129.1).toList)) = true then ((pack_Same.f t113 t114 t115 t116 t117 t118 t121 t113 t114 t115 t116 t117 t118 t121).bind fun t136 => (if t136 = true then ((pack_Same.f 6 a0 0 0 0 ([] : List Int) ([] : List Int) 6 (IntKind.u64.wrap (a0 + 1)) 0 0 0 ([] : List Int) ([] : List Int)).bind fun t137 => (some (!t137))) else (some false))) else (some false))) else (some false)) else (some false)) else (some false)))) = some r := H
   have A10 := Aside0.mk A100
   clear A100
   replace H := Option.bind_eq_some_iff.mp H
   obtain ⟨⟨t129, t132⟩, A110, H⟩ := H
   replace H : ((scullerlaw13_known_c.f).bind fun t134 => (if t134 = true then (if t128 = 0 then (if t132 = 0 then ((pack_Same.f t101 t102 t103 t104 t105 t106 t109 t113 t114 t115 t116 t117 t118 t121).bind fun t135 => (if (t135 == ((strOfNums t125).toList == (strOfNums t129).toList)) = true then ((pack_Same.f t113 t114 t115 t116 t117 t118 t121 t113 t114 t115 t116 t117 t118 t121).bind fun t136 => (if t136 = true then ((pack_Same.f 6 a0 0 0 0 ([] : List Int) ([] : List Int) 6 (IntKind.u64.wrap (a0 + 1)) 0 0 0 ([] : List Int) ([] : List Int)).bind fun t137 => (some (!t137))) else (some false))) else (some false))) else (some false)) else (some false)) else (some false))) = some r := H
   have A11 := Aside0.mk A110
   clear A110
   replace H := Option.bind_eq_some_iff.mp H
   obtain ⟨t134, A120, H⟩ := H
   replace H : (if t134 = true then (if t128 = 0 then (if t132 = 0 then ((pack_Same.f t101 t102 t103 t104 t105 t106 t109 t113 t114 t115 t116 t117 t118 t121).bind fun t135 => (if (t135 == ((strOfNums t125).toList == (strOfNums t129).toList)) = true then ((pack_Same.f t113 t114 t115 t116 t117 t118 t121 t113 t114 t115 t116 t117 t118 t121).bind fun t136 => (if t136 = true then ((pack_Same.f 6 a0 0 0 0 ([] : List Int) ([] : List Int) 6 (IntKind.u64.wrap (a0 + 1)) 0 0 0 ([] : List Int) ([] : List Int)).bind fun t137 => (some (!t137))) else (some false))) else (some false))) else (some false)) else (some false)) else (some false)) = some r := H
   have A12 := Aside0.mk A120
   clear A120
   by_cases c13 : t134 = true
   · subst c13
     have H1 : (if t128 = 0 then (if t132 = 0 then ((pack_Same.f t101 t102 t103 t104 t105 t106 t109 t113 t114 t115 t116 t117 t118 t121).bind fun t135 => (if (t135 == ((strOfNums t125).toList == (strOfNums t129).toList)) = true then ((pack_Same.f t113 t114 t115 t116 t117 t118 t121 t113 t114 t115 t116 t117 t118 t121).bind fun t136 => (if t136 = true then ((pack_Same.f 6 a0 0 0 0 ([] : List Int) ([] : List Int) 6 (IntKind.u64.wrap (a0 + 1)) 0 0 0 ([] : List Int) ([] : List Int)).bind fun t137 => (some (!t137))) else (some false))) else (some false))) else (some false)) else (some false)) = some r := by rw [if_pos rfl] at H; exact H
     clear H
     have H := H1
     clear H1
     by_cases c14 : t128 = 0
     · rw [if_pos c14] at H
       have c14b0 : (t128 == 0) = true := beq_iff_eq.mpr c14
       have c14b1 : (t128 != 0) = false := bne_eq_false_iff_eq.mpr c14
       clear c14
       by_cases c15 : t132 = 0
       · rw [if_pos c15] at H
         have c15b0 : (t132 == 0) = true := beq_iff_eq.mpr c15
         have c15b1 : (t132 != 0) = false := bne_eq_false_iff_eq.mpr c15
         clear c15
         replace H := Option.bind_eq_some_iff.mp H
         obtain ⟨t135, A160, H⟩ := H
         replace H : (if (t135 == ((strOfNums t125).toList == (strOfNums t129).toList)) = true then ((pack_Same.f t113 t114 t115 t116 t117 t118 t121 t113 t114 t115 t116 t117 t118 t121).bind fun t136 => (if t136 = true then ((pack_Same.f 6 a0 0 0 0 ([] : List Int) ([] : List Int) 6 (IntKind.u64.wrap (a0 + 1)) 0 0 0 ([] : List Int) ([] : List Int)).bind fun t137 => (some (!t137))) else (some false))) else (some false)) = some r := H
         have A16 := Aside0.mk A160
         clear A160
         by_cases c17 : (t135 == ((strOfNums t125).toList == (strOfNums t129).toList)) = true
         · rw [if_pos c17] at H
           have c17b0 : (t135 == ((strOfNums t125).toList == (strOfNums t129).toList)) = true := c17
           (try (have c17b1 : decide (t135 = ((strOfNums t125).toList == (strOfNums t129).toList)) = true := by simpa using c17))
           (try (have c17b2 : (t135 == ((strOfNums t125).toList == (strOfNums t129).toList)) = true := by simpa using c17))
           clear c17
           replace H := Option.bind_eq_some_iff.mp H
           obtain ⟨t136, A180, H⟩ := H
           replace H : (if t136 = true then ((pack_Same.f 6 a0 0 0 0 ([] : List Int) ([] : List Int) 6 (IntKind.u64.wrap (a0 + 1)) 0 0 0 ([] : List Int) ([] : List Int)).bind fun t137 => (some (!t137))) else (some false)) = some r := H
           have A18 := Aside0.mk A180
           clear A180
           by_cases c19 : t136 = true
           · subst c19
             have H1 : ((pack_Same.f 6 a0 0 0 0 ([] : List Int) ([] : List Int) 6 (IntKind.u64.wrap (a0 + 1)) 0 0 0 ([] : List Int) ([] : List Int)).bind fun t137 => (some (!t137))) = some r := by rw [if_pos rfl] at H; exact H
             clear H
             have H := H1
             clear H1
             replace H := Option.bind_eq_some_iff.mp H
             obtain ⟨t137, A200, H⟩ := H
             replace H : (some (!t137)) = some r := H
             have A20 := Aside0.mk A200
             clear A200
             obtain rfl := Option.some.inj H
             go_enter Try.func8, Try.ntmps8
             try go_wp2_with (first | ((with_reducible refine gate_callee (f := 9) rfl ?_); refine goesL_ (some 24) rfl rfl Try.func9 (by kernel_rfl) rfl #[.int .u64 a0, .int .u32 7, .int .u16 1, .int .u16 2, .slice A2 l2.length c2, .int .u8 (Int.tmod a4 8)] rfl (by (try simp only [List.map_toArray, List.map_cons, List.map_nil]); first | done | rfl | (simp only [List.length_drop, List.length_take]; rfl)) ?_; (with_reducible refine (scullerlaw13_Gram_c.calls a0 7 1 2 (fun k_ => k_ < w.heap.size) _ _ l2 (Int.tmod a4 8) t101 t102 t103 t104 t105 t106 t109 _ ?side1 A7.out).mono ?_); (case side1 => exact Kd.V_mk HC2.out (Kd.F_below (Kd.C_F (Kd.heap_int .u8) HR2.out) (by repeat (first | (with_reducible first | exact HB.out | apply below_alloc | apply pw_below_drewN | apply below_drew1) | exact HB.out)))); rintro e w21 ⟨v107, v110, rfl, ho0, ho1, hb⟩; refine ⟨_, rfl, ?_⟩; have n0_ := Aside0.mk (Kd.R_lower (Kd.R_mono (ok' := fun k_ => True) ho0 (fun _ hk_ => trivial)) (below_size (by repeat (first | (with_reducible first | exact HB.out | apply below_alloc | apply pw_below_drewN | apply below_drew1) | exact HB.out)))); have n1_ := Aside0.mk (Kd.R_lower (Kd.R_mono (ok' := fun k_ => True) ho1 (fun _ hk_ => trivial)) (below_size (by repeat (first | (with_reducible first | exact HB.out | apply below_alloc | apply pw_below_drewN | apply below_drew1) | exact HB.out)))); have n2_ := Aside0.mk (below_step (by repeat (first | (with_reducible first | exact HB.out | apply below_alloc | apply pw_below_drewN | apply below_drew1) | exact HB.out)) hb); clear HB; have HO108 := n0_; have HO111 := n1_; have HB := n2_; clear n0_ n1_ n2_; (try clear hb); (try clear hb2); (try clear hk); (try clear hi); (try clear ho0); (try clear ho1)) | ((with_reducible refine gate_dst (N := 13) rfl ?_); refine box_event ?hg (N := 13) ?hd (cs := #[.int .i64 0, .int .u64 0, .int .i64 0, .int .i64 0, .int .u32 0, .slice none 0 0, .slice none 0 0]) (t := 28) ?hr ?_; (case hd => rfl); (case hg => rfl); (case hr => first | (go_simp; done) | (go_simp; rfl)); intro gb112 hg w22 hbox hb; have n0_ := Aside0.mk (Kd.R_below (by (with_reducible repeat (first | apply Kd.R_alloc | apply Kd.R_drewN | apply Kd.R_drew)); exact HO108.out) hb); have n1_ := Aside0.mk (Kd.R_below (by (with_reducible repeat (first | apply Kd.R_alloc | apply Kd.R_drewN | apply Kd.R_drew)); exact HO111.out) hb); have n2_ := Aside0.mk (below_step (by repeat (first | (with_reducible first | exact HB.out | apply below_alloc | apply pw_below_drewN | apply below_drew1) | exact HB.out)) hb); have n3_ := Aside0.mk (hbox); have n4_ := Aside0.mk ((by rw [hg]; exact (below_size (by repeat (first | (with_reducible first | exact HB.out | apply below_alloc | apply pw_below_drewN | apply below_drew1) | exact HB.out))) : w.heap.size ≤ gb112)); have n5_ := Aside0.mk ((by rw [hg]; exact (below_size (by repeat (first | (with_reducible first | exact HB.out | apply below_alloc | apply pw_below_drewN | apply below_drew1) | exact HB.out))) : w.heap.size ≤ gb112)); clear HO108; clear HO111; clear HB; have HO108 := n0_; have HO111 := n1_; have HB := n2_; have BK112 := n3_; have GW112 := n4_; have GE112 := n5_; clear n0_ n1_ n2_ n3_ n4_ n5_; clear hb hbox hg; have hcz23_0 : w22.cell? ⟨gb112, 0, none⟩ = some (.int .i64 0) := (blk_cell BK112.out 0).trans rfl; have hcz23_1 : w22.cell? ⟨gb112, 1, none⟩ = some (.int .u64 0) := (blk_cell BK112.out 1).trans rfl; have hcz23_2 : w22.cell? ⟨gb112, 2, none⟩ = some (.int .i64 0) := (blk_cell BK112.out 2).trans rfl; have hcz23_3 : w22.cell? ⟨gb112, 3, none⟩ = some (.int .i64 0) := (blk_cell BK112.out 3).trans rfl; have hcz23_4 : w22.cell? ⟨gb112, 4, none⟩ = some (.int .u32 0) := (blk_cell BK112.out 4).trans rfl; have hcz23_5 : w22.cell? ⟨gb112, 5, none⟩ = some (.slice none 0 0) := (blk_cell BK112.out 5).trans rfl; have hcz23_6 : w22.cell? ⟨gb112, 6, none⟩ = some (.slice none 0 0) := (blk_cell BK112.out 6).trans rfl; have hfz23_0 := blk_frozen BK112.out 0; have hfz23_1 := blk_frozen BK112.out 1; have hfz23_2 := blk_frozen BK112.out 2; have hfz23_3 := blk_frozen BK112.out 3; have hfz23_4 := blk_frozen BK112.out 4; have hfz23_5 := blk_frozen BK112.out 5; have hfz23_6 := blk_frozen BK112.out 6; obtain ⟨Ao24, co24, eo24⟩ := Kd.R_slice HO108.out; subst eo24; obtain ⟨Ao25, co25, eo25⟩ := Kd.R_slice HO111.out; subst eo25) | ((with_reducible refine gate_store (t := 28) (p := 13) rfl ?_); refine store_event (t := 28) (p := 13) (v := ?vo_w26) (w1 := (((((((w22.setCell ⟨gb112, 0, none⟩ (.int .i64 t101)).setCell ⟨gb112, 1, none⟩ (.int .u64 t102)).setCell ⟨gb112, 2, none⟩ (.int .i64 t103)).setCell ⟨gb112, 3, none⟩ (.int .i64 t104)).setCell ⟨gb112, 4, none⟩ (.int .u32 t105)).setCell ⟨gb112, 5, none⟩ (.slice Ao24 t106.length co24)).setCell ⟨gb112, 6, none⟩ (.slice Ao25 t109.length co25))) ?hg ?ho ?hn ?hr ?_; (case ho => rfl); (case hg => rfl); (case hn => rfl); (case hr => first | (go_simp; done) | (go_simp; rfl)); intro w26 hw; have n0_ : Aside0 (Kd.R (Kd.int .i64) 3 w26 w.heap.size (fun _ => True) (.slice Ao24 t106.length co24) t106) := ⟨(by rw [hw]; exact (by (with_reducible repeat (first | apply Kd.R_alloc | apply Kd.R_drewN | apply Kd.R_drew)); exact Kd.R_mono (Kd.R_far (p := ⟨gb112, 6, none⟩) (Kd.R_far (p := ⟨gb112, 5, none⟩) (Kd.R_far (p := ⟨gb112, 4, none⟩) (Kd.R_far (p := ⟨gb112, 3, none⟩) (Kd.R_far (p := ⟨gb112, 2, none⟩) (Kd.R_far (p := ⟨gb112, 1, none⟩) (Kd.R_far (p := ⟨gb112, 0, none⟩) (Kd.R_types HO108.out BK112.out (by decide)) (fun _ hk => hk.2) (.int .i64 t101)) (fun _ hk => hk.2) (.int .u64 t102)) (fun _ hk => hk.2) (.int .i64 t103)) (fun _ hk => hk.2) (.int .i64 t104)) (fun _ hk => hk.2) (.int .u32 t105)) (fun _ hk => hk.2) (.slice Ao24 t106.length co24)) (fun _ hk => hk.2) (.slice Ao25 t109.length co25)) (fun _ hk => trivial)))⟩; have n1_ : Aside0 (Kd.R (Kd.int .u8) 5 w26 w.heap.size (fun _ => True) (.slice Ao25 t109.length co25) t109) := ⟨(by rw [hw]; exact (by (with_reducible repeat (first | apply Kd.R_alloc | apply Kd.R_drewN | apply Kd.R_drew)); exact Kd.R_mono (Kd.R_far (p := ⟨gb112, 6, none⟩) (Kd.R_far (p := ⟨gb112, 5, none⟩) (Kd.R_far (p := ⟨gb112, 4, none⟩) (Kd.R_far (p := ⟨gb112, 3, none⟩) (Kd.R_far (p := ⟨gb112, 2, none⟩) (Kd.R_far (p := ⟨gb112, 1, none⟩) (Kd.R_far (p := ⟨gb112, 0, none⟩) (Kd.R_types HO111.out BK112.out (by decide)) (fun _ hk => hk.2) (.int .i64 t101)) (fun _ hk => hk.2) (.int .u64 t102)) (fun _ hk => hk.2) (.int .i64 t103)) (fun _ hk => hk.2) (.int .i64 t104)) (fun _ hk => hk.2) (.int .u32 t105)) (fun _ hk => hk.2) (.slice Ao24 t106.length co24)) (fun _ hk => hk.2) (.slice Ao25 t109.length co25)) (fun _ hk => trivial)))⟩; have n2_ : Aside0 (w26.heap[gb112]? = some (.cells #[.int .i64 t101, .int .u64 t102, .int .i64 t103, .int .i64 t104, .int .u32 t105, .slice Ao24 t106.length co24, .slice Ao25 t109.length co25] 28 (0, 0))) := ⟨(by rw [hw]; exact (by (with_reducible repeat (first | refine blk_drewN ?_ _ | refine blk_drew ?_ | refine blk_alloc ?_ _)); refine blk_put (cs := #[.int .i64 t101, .int .u64 t102, .int .i64 t103, .int .i64 t104, .int .u32 t105, .slice Ao24 t106.length co24, .slice none 0 0]) ?_ 6 _ rfl; (with_reducible repeat (first | refine blk_drewN ?_ _ | refine blk_drew ?_ | refine blk_alloc ?_ _)); refine blk_put (cs := #[.int .i64 t101, .int .u64 t102, .int .i64 t103, .int .i64 t104, .int .u32 t105, .slice none 0 0, .slice none 0 0]) ?_ 5 _ rfl; (with_reducible repeat (first | refine blk_drewN ?_ _ | refine blk_drew ?_ | refine blk_alloc ?_ _)); refine blk_put (cs := #[.int .i64 t101, .int .u64 t102, .int .i64 t103, .int .i64 t104, .int .u32 0, .slice none 0 0, .slice none 0 0]) ?_ 4 _ rfl; (with_reducible repeat (first | refine blk_drewN ?_ _ | refine blk_drew ?_ | refine blk_alloc ?_ _)); refine blk_put (cs := #[.int .i64 t101, .int .u64 t102, .int .i64 t103, .int .i64 0, .int .u32 0, .slice none 0 0, .slice none 0 0]) ?_ 3 _ rfl; (with_reducible repeat (first | refine blk_drewN ?_ _ | refine blk_drew ?_ | refine blk_alloc ?_ _)); refine blk_put (cs := #[.int .i64 t101, .int .u64 t102, .int .i64 0, .int .i64 0, .int .u32 0, .slice none 0 0, .slice none 0 0]) ?_ 2 _ rfl; (with_reducible repeat (first | refine blk_drewN ?_ _ | refine blk_drew ?_ | refine blk_alloc ?_ _)); refine blk_put (cs := #[.int .i64 t101, .int .u64 0, .int .i64 0, .int .i64 0, .int .u32 0, .slice none 0 0, .slice none 0 0]) ?_ 1 _ rfl; (with_reducible repeat (first | refine blk_drewN ?_ _ | refine blk_drew ?_ | refine blk_alloc ?_ _)); refine blk_put (cs := #[.int .i64 0, .int .u64 0, .int .i64 0, .int .i64 0, .int .u32 0, .slice none 0 0, .slice none 0 0]) ?_ 0 _ rfl; (with_reducible repeat (first | refine blk_drewN ?_ _ | refine blk_drew ?_ | refine blk_alloc ?_ _)); exact BK112.out))⟩; have n3_ : Aside0 (Below w.heap.size w w26) := ⟨(by rw [hw]; exact (by repeat (first | (with_reducible first | exact HB.out | apply below_alloc | apply pw_below_drewN | apply below_drew1 | refine below_set ?_ GE112.out) | exact HB.out)))⟩; clear hw; clear HO108; clear HO111; clear BK112; clear HB; have HO108 := n0_; have HO111 := n1_; have BK112 := n2_; have HB := n3_; clear n0_ n1_ n2_ n3_) | ((with_reducible refine gate_callee (f := 9) rfl ?_); refine goesL_ (some 35) rfl rfl Try.func9 (by kernel_rfl) rfl #[.int .u64 (IntKind.u64.wrap ((Int.tmod a1 (IntKind.u64.wrap ((Int.tmod a0 3) + 1))) + a0)), .int .u32 7, .int .u16 1, .int .u16 2, .slice A3 l3.length c3, .int .u8 (Int.tmod a5 8)] rfl (by (try simp only [List.map_toArray, List.map_cons, List.map_nil]); first | done | rfl | (simp only [List.length_drop, List.length_take]; rfl)) ?_; (with_reducible refine (scullerlaw13_Gram_c.calls (IntKind.u64.wrap ((Int.tmod a1 (IntKind.u64.wrap ((Int.tmod a0 3) + 1))) + a0)) 7 1 2 (fun k_ => k_ < w.heap.size) _ _ l3 (Int.tmod a5 8) t113 t114 t115 t116 t117 t118 t121 _ ?side1 A9.out).mono ?_); (case side1 => exact Kd.V_mk HC3.out (Kd.F_below (Kd.C_F (Kd.heap_int .u8) HR3.out) (by repeat (first | (with_reducible first | exact HB.out | apply below_alloc | apply pw_below_drewN | apply below_drew1 | refine below_set ?_ GE112.out) | exact HB.out)))); rintro e w27 ⟨v119, v122, rfl, ho0, ho1, hb⟩; refine ⟨_, rfl, ?_⟩; have n0_ := Aside0.mk (Kd.R_elder' (by (with_reducible repeat (first | apply Kd.R_alloc | apply Kd.R_drewN | apply Kd.R_drew)); exact HO108.out) (Kd.R_base ho0) hb); have n1_ := Aside0.mk (Kd.R_elder' (by (with_reducible repeat (first | apply Kd.R_alloc | apply Kd.R_drewN | apply Kd.R_drew)); exact HO111.out) (Kd.R_base ho1) hb); have n2_ := Aside0.mk (Kd.R_lower (Kd.R_new' (Kd.R_mono (ok' := fun k_ => True) ho0 (fun _ hk_ => trivial)) (Kd.R_lt (by (with_reducible repeat (first | apply Kd.R_alloc | apply Kd.R_drewN | apply Kd.R_drew)); exact HO108.out))) (below_size (by repeat (first | (with_reducible first | exact HB.out | apply below_alloc | apply pw_below_drewN | apply below_drew1 | refine below_set ?_ GE112.out) | exact HB.out)))); have n3_ := Aside0.mk (Kd.R_lower (Kd.R_new' (Kd.R_mono (ok' := fun k_ => True) ho1 (fun _ hk_ => trivial)) (Kd.R_lt (by (with_reducible repeat (first | apply Kd.R_alloc | apply Kd.R_drewN | apply Kd.R_drew)); exact HO111.out))) (below_size (by repeat (first | (with_reducible first | exact HB.out | apply below_alloc | apply pw_below_drewN | apply below_drew1 | refine below_set ?_ GE112.out) | exact HB.out)))); have n4_ := Aside0.mk (blk_below (g := gb112) (o := .cells #[.int .i64 t101, .int .u64 t102, .int .i64 t103, .int .i64 t104, .int .u32 t105, .slice Ao24 t106.length co24, .slice Ao25 t109.length co25] 28 (0, 0)) (by (with_reducible repeat (first | refine blk_drewN ?_ _ | refine blk_drew ?_ | refine blk_alloc ?_ _)); exact BK112.out) hb); have n5_ := Aside0.mk (below_step (by repeat (first | (with_reducible first | exact HB.out | apply below_alloc | apply pw_below_drewN | apply below_drew1 | refine below_set ?_ GE112.out) | exact HB.out)) hb); clear HO108; clear HO111; clear BK112; clear HB; have HO108 := n0_; have HO111 := n1_; have HO120 := n2_; have HO123 := n3_; have BK112 := n4_; have HB := n5_; clear n0_ n1_ n2_ n3_ n4_ n5_; (try clear hb); (try clear hb2); (try clear hk); (try clear hi); (try clear ho0); (try clear ho1)) | ((with_reducible refine gate_dst (N := 14) rfl ?_); refine box_event ?hg (N := 14) ?hd (cs := #[.int .i64 0, .int .u64 0, .int .i64 0, .int .i64 0, .int .u32 0, .slice none 0 0, .slice none 0 0]) (t := 28) ?hr ?_; (case hd => rfl); (case hg => rfl); (case hr => first | (go_simp; done) | (go_simp; rfl)); intro gb124 hg w28 hbox hb; have n0_ := Aside0.mk (Kd.R_below (by (with_reducible repeat (first | apply Kd.R_alloc | apply Kd.R_drewN | apply Kd.R_drew)); exact HO108.out) hb); have n1_ := Aside0.mk (Kd.R_below (by (with_reducible repeat (first | apply Kd.R_alloc | apply Kd.R_drewN | apply Kd.R_drew)); exact HO111.out) hb); have n2_ := Aside0.mk (Kd.R_below (by (with_reducible repeat (first | apply Kd.R_alloc | apply Kd.R_drewN | apply Kd.R_drew)); exact HO120.out) hb); have n3_ := Aside0.mk (Kd.R_below (by (with_reducible repeat (first | apply Kd.R_alloc | apply Kd.R_drewN | apply Kd.R_drew)); exact HO123.out) hb); have n4_ := Aside0.mk (blk_below (g := gb112) (o := .cells #[.int .i64 t101, .int .u64 t102, .int .i64 t103, .int .i64 t104, .int .u32 t105, .slice Ao24 t106.length co24, .slice Ao25 t109.length co25] 28 (0, 0)) (by (with_reducible repeat (first | refine blk_drewN ?_ _ | refine blk_drew ?_ | refine blk_alloc ?_ _)); exact BK112.out) hb); have n5_ := Aside0.mk (below_step (by repeat (first | (with_reducible first | exact HB.out | apply below_alloc | apply pw_below_drewN | apply below_drew1 | refine below_set ?_ GE112.out) | exact HB.out)) hb); have n6_ := Aside0.mk (hbox); have n7_ := Aside0.mk ((by rw [hg]; exact (below_size (by repeat (first | (with_reducible first | exact HB.out | apply below_alloc | apply pw_below_drewN | apply below_drew1 | refine below_set ?_ GE112.out) | exact HB.out))) : w.heap.size ≤ gb124)); have n8_ := Aside0.mk ((by rw [hg]; exact (below_size (by repeat (first | (with_reducible first | exact HB.out | apply below_alloc | apply pw_below_drewN | apply below_drew1 | refine below_set ?_ GE112.out) | exact HB.out))) : w.heap.size ≤ gb124)); have n9_ := Aside0.mk ((by rw [hg]; exact Nat.ne_of_lt (blk_lt (g := gb112) (o := .cells #[.int .i64 t101, .int .u64 t102, .int .i64 t103, .int .i64 t104, .int .u32 t105, .slice Ao24 t106.length co24, .slice Ao25 t109.length co25] 28 (0, 0)) (by (with_reducible repeat (first | refine blk_drewN ?_ _ | refine blk_drew ?_ | refine blk_alloc ?_ _)); exact BK112.out)) : gb112 ≠ gb124)); have n10_ := Aside0.mk ((by rw [hg]; exact Nat.ne_of_gt (blk_lt (g := gb112) (o := .cells #[.int .i64 t101, .int .u64 t102, .int .i64 t103, .int .i64 t104, .int .u32 t105, .slice Ao24 t106.length co24, .slice Ao25 t109.length co25] 28 (0, 0)) (by (with_reducible repeat (first | refine blk_drewN ?_ _ | refine blk_drew ?_ | refine blk_alloc ?_ _)); exact BK112.out)) : gb124 ≠ gb112)); clear HO108; clear HO111; clear HO120; clear HO123; clear BK112; clear HB; have HO108 := n0_; have HO111 := n1_; have HO120 := n2_; have HO123 := n3_; have BK112 := n4_; have HB := n5_; have BK124 := n6_; have GW124 := n7_; have GE124 := n8_; have NB112_124 := n9_; have NB124_112 := n10_; clear n0_ n1_ n2_ n3_ n4_ n5_ n6_ n7_ n8_ n9_ n10_; clear hb hbox hg; have hnb29 := NB124_112.out; have hnc29 := NB112_124.out; have hcz30_0 : w28.cell? ⟨gb124, 0, none⟩ = some (.int .i64 0) := (blk_cell BK124.out 0).trans rfl; have hcz30_1 : w28.cell? ⟨gb124, 1, none⟩ = some (.int .u64 0) := (blk_cell BK124.out 1).trans rfl; have hcz30_2 : w28.cell? ⟨gb124, 2, none⟩ = some (.int .i64 0) := (blk_cell BK124.out 2).trans rfl; have hcz30_3 : w28.cell? ⟨gb124, 3, none⟩ = some (.int .i64 0) := (blk_cell BK124.out 3).trans rfl; have hcz30_4 : w28.cell? ⟨gb124, 4, none⟩ = some (.int .u32 0) := (blk_cell BK124.out 4).trans rfl; have hcz30_5 : w28.cell? ⟨gb124, 5, none⟩ = some (.slice none 0 0) := (blk_cell BK124.out 5).trans rfl; have hcz30_6 : w28.cell? ⟨gb124, 6, none⟩ = some (.slice none 0 0) := (blk_cell BK124.out 6).trans rfl; have hfz30_0 := blk_frozen BK124.out 0; have hfz30_1 := blk_frozen BK124.out 1; have hfz30_2 := blk_frozen BK124.out 2; have hfz30_3 := blk_frozen BK124.out 3; have hfz30_4 := blk_frozen BK124.out 4; have hfz30_5 := blk_frozen BK124.out 5; have hfz30_6 := blk_frozen BK124.out 6; obtain ⟨Ao31, co31, eo31⟩ := Kd.R_slice HO120.out; subst eo31; obtain ⟨Ao32, co32, eo32⟩ := Kd.R_slice HO123.out; subst eo32; have hcz33_0 : w28.cell? ⟨gb112, 0, none⟩ = some (.int .i64 t101) := (blk_cell BK112.out 0).trans rfl; have hcz33_1 : w28.cell? ⟨gb112, 1, none⟩ = some (.int .u64 t102) := (blk_cell BK112.out 1).trans rfl; have hcz33_2 : w28.cell? ⟨gb112, 2, none⟩ = some (.int .i64 t103) := (blk_cell BK112.out 2).trans rfl; have hcz33_3 : w28.cell? ⟨gb112, 3, none⟩ = some (.int .i64 t104) := (blk_cell BK112.out 3).trans rfl; have hcz33_4 : w28.cell? ⟨gb112, 4, none⟩ = some (.int .u32 t105) := (blk_cell BK112.out 4).trans rfl; have hcz33_5 : w28.cell? ⟨gb112, 5, none⟩ = some (.slice Ao24 t106.length co24) := (blk_cell BK112.out 5).trans rfl; have hcz33_6 : w28.cell? ⟨gb112, 6, none⟩ = some (.slice Ao25 t109.length co25) := (blk_cell BK112.out 6).trans rfl; have hfz33_0 := blk_frozen BK112.out 0; have hfz33_1 := blk_frozen BK112.out 1; have hfz33_2 := blk_frozen BK112.out 2; have hfz33_3 := blk_frozen BK112.out 3; have hfz33_4 := blk_frozen BK112.out 4; have hfz33_5 := blk_frozen BK112.out 5; have hfz33_6 := blk_frozen BK112.out 6) | ((with_reducible refine gate_callee (f := 10) rfl ?_); refine goesL_ (some 38) rfl rfl Try.func10 (by kernel_rfl) rfl #[.agg #[.int .i64 t101, .int .u64 t102, .int .i64 t103, .int .i64 t104, .int .u32 t105, .slice Ao24 t106.length co24, .slice Ao25 t109.length co25]] rfl (by (try simp only [List.map_toArray, List.map_cons, List.map_nil]); first | done | rfl | (simp only [List.length_drop, List.length_take]; rfl)) ?_; (with_reducible refine (pack_Encode.calls t101 t102 t103 t104 t105 _ _ t106 _ _ t109 t125 t128 _ ?side1 ?side2 ?side3 ?side4 A10.out).mono ?_); (case side1 => refine (Kd.R_reads' (e := 3) (base := w.heap.size) (ok := fun k_ => (True ∧ some k_ ≠ (.slice Ao31 t118.length co31 : Value).ownBlock)) (n := t106.length) (c := co24) ?_).2.2; exact (by (with_reducible repeat (first | apply Kd.R_alloc | apply Kd.R_drewN | apply Kd.R_drew)); exact (Kd.R_mono (Kd.R_far (p := ⟨gb124, 6, none⟩) (Kd.R_far (p := ⟨gb124, 5, none⟩) (Kd.R_far (p := ⟨gb124, 4, none⟩) (Kd.R_far (p := ⟨gb124, 3, none⟩) (Kd.R_far (p := ⟨gb124, 2, none⟩) (Kd.R_far (p := ⟨gb124, 1, none⟩) (Kd.R_far (p := ⟨gb124, 0, none⟩) (Kd.R_types HO108.out BK124.out (by decide)) (fun _ hk => hk.2) (.int .i64 t113)) (fun _ hk => hk.2) (.int .u64 t114)) (fun _ hk => hk.2) (.int .i64 t115)) (fun _ hk => hk.2) (.int .i64 t116)) (fun _ hk => hk.2) (.int .u32 t117)) (fun _ hk => hk.2) (.slice Ao31 t118.length co31)) (fun _ hk => hk.2) (.slice Ao32 t121.length co32)) (fun _ h_ => h_.1)))); (case side2 => exact (Kd.R_reads' HO108.out).2.1); (case side3 => refine (Kd.R_reads' (e := 5) (base := w.heap.size) (ok := fun k_ => (True ∧ some k_ ≠ (.slice Ao32 t121.length co32 : Value).ownBlock)) (n := t109.length) (c := co25) ?_).2.2; exact (by (with_reducible repeat (first | apply Kd.R_alloc | apply Kd.R_drewN | apply Kd.R_drew)); exact (Kd.R_mono (Kd.R_far (p := ⟨gb124, 6, none⟩) (Kd.R_far (p := ⟨gb124, 5, none⟩) (Kd.R_far (p := ⟨gb124, 4, none⟩) (Kd.R_far (p := ⟨gb124, 3, none⟩) (Kd.R_far (p := ⟨gb124, 2, none⟩) (Kd.R_far (p := ⟨gb124, 1, none⟩) (Kd.R_far (p := ⟨gb124, 0, none⟩) (Kd.R_types HO111.out BK124.out (by decide)) (fun _ hk => hk.2) (.int .i64 t113)) (fun _ hk => hk.2) (.int .u64 t114)) (fun _ hk => hk.2) (.int .i64 t115)) (fun _ hk => hk.2) (.int .i64 t116)) (fun _ hk => hk.2) (.int .u32 t117)) (fun _ hk => hk.2) (.slice Ao31 t118.length co31)) (fun _ hk => hk.2) (.slice Ao32 t121.length co32)) (fun _ h_ => h_.1)))); (case side4 => exact (Kd.R_reads' HO111.out).2.1); rintro e w34 ⟨v126, rfl, ho0, hb⟩; refine ⟨_, rfl, ?_⟩; have n0_ := Aside0.mk (Kd.R_below (by (with_reducible repeat (first | apply Kd.R_alloc | apply Kd.R_drewN | apply Kd.R_drew)); exact (Kd.R_mono (Kd.R_far (p := ⟨gb124, 6, none⟩) (Kd.R_far (p := ⟨gb124, 5, none⟩) (Kd.R_far (p := ⟨gb124, 4, none⟩) (Kd.R_far (p := ⟨gb124, 3, none⟩) (Kd.R_far (p := ⟨gb124, 2, none⟩) (Kd.R_far (p := ⟨gb124, 1, none⟩) (Kd.R_far (p := ⟨gb124, 0, none⟩) (Kd.R_types HO108.out BK124.out (by decide)) (fun _ hk => hk.2) (.int .i64 t113)) (fun _ hk => hk.2) (.int .u64 t114)) (fun _ hk => hk.2) (.int .i64 t115)) (fun _ hk => hk.2) (.int .i64 t116)) (fun _ hk => hk.2) (.int .u32 t117)) (fun _ hk => hk.2) (.slice Ao31 t118.length co31)) (fun _ hk => hk.2) (.slice Ao32 t121.length co32)) (fun _ h_ => h_.1))) hb); have n1_ := Aside0.mk (Kd.R_elder' (by (with_reducible repeat (first | apply Kd.R_alloc | apply Kd.R_drewN | apply Kd.R_drew)); exact (Kd.R_mono (Kd.R_far (p := ⟨gb124, 6, none⟩) (Kd.R_far (p := ⟨gb124, 5, none⟩) (Kd.R_far (p := ⟨gb124, 4, none⟩) (Kd.R_far (p := ⟨gb124, 3, none⟩) (Kd.R_far (p := ⟨gb124, 2, none⟩) (Kd.R_far (p := ⟨gb124, 1, none⟩) (Kd.R_far (p := ⟨gb124, 0, none⟩) (Kd.R_types HO111.out BK124.out (by decide)) (fun _ hk => hk.2) (.int .i64 t113)) (fun _ hk => hk.2) (.int .u64 t114)) (fun _ hk => hk.2) (.int .i64 t115)) (fun _ hk => hk.2) (.int .i64 t116)) (fun _ hk => hk.2) (.int .u32 t117)) (fun _ hk => hk.2) (.slice Ao31 t118.length co31)) (fun _ hk => hk.2) (.slice Ao32 t121.length co32)) (fun _ h_ => h_.1))) (Kd.R_base ho0) hb); have n2_ := Aside0.mk (Kd.R_below (by (with_reducible repeat (first | apply Kd.R_alloc | apply Kd.R_drewN | apply Kd.R_drew)); exact (Kd.R_mono (Kd.R_far (p := ⟨gb124, 6, none⟩) (Kd.R_far (p := ⟨gb124, 5, none⟩) (Kd.R_far (p := ⟨gb124, 4, none⟩) (Kd.R_far (p := ⟨gb124, 3, none⟩) (Kd.R_far (p := ⟨gb124, 2, none⟩) (Kd.R_far (p := ⟨gb124, 1, none⟩) (Kd.R_far (p := ⟨gb124, 0, none⟩) (Kd.R_types HO120.out BK124.out (by decide)) (fun _ hk => hk.2) (.int .i64 t113)) (fun _ hk => hk.2) (.int .u64 t114)) (fun _ hk => hk.2) (.int .i64 t115)) (fun _ hk => hk.2) (.int .i64 t116)) (fun _ hk => hk.2) (.int .u32 t117)) (fun _ hk => hk.2) (.slice Ao31 t118.length co31)) (fun _ hk => hk.2) (.slice Ao32 t121.length co32)) (fun _ h_ => h_.1))) hb); have n3_ := Aside0.mk (Kd.R_elder' (by (with_reducible repeat (first | apply Kd.R_alloc | apply Kd.R_drewN | apply Kd.R_drew)); exact (Kd.R_mono (Kd.R_far (p := ⟨gb124, 6, none⟩) (Kd.R_far (p := ⟨gb124, 5, none⟩) (Kd.R_far (p := ⟨gb124, 4, none⟩) (Kd.R_far (p := ⟨gb124, 3, none⟩) (Kd.R_far (p := ⟨gb124, 2, none⟩) (Kd.R_far (p := ⟨gb124, 1, none⟩) (Kd.R_far (p := ⟨gb124, 0, none⟩) (Kd.R_types HO123.out BK124.out (by decide)) (fun _ hk => hk.2) (.int .i64 t113)) (fun _ hk => hk.2) (.int .u64 t114)) (fun _ hk => hk.2) (.int .i64 t115)) (fun _ hk => hk.2) (.int .i64 t116)) (fun _ hk => hk.2) (.int .u32 t117)) (fun _ hk => hk.2) (.slice Ao31 t118.length co31)) (fun _ hk => hk.2) (.slice Ao32 t121.length co32)) (fun _ h_ => h_.1))) (Kd.R_base ho0) hb); have n4_ := Aside0.mk (Kd.R_lower (Kd.R_new' (Kd.R_new' ho0 (Kd.R_lt (by (with_reducible repeat (first | apply Kd.R_alloc | apply Kd.R_drewN | apply Kd.R_drew)); exact (Kd.R_mono (Kd.R_far (p := ⟨gb124, 6, none⟩) (Kd.R_far (p := ⟨gb124, 5, none⟩) (Kd.R_far (p := ⟨gb124, 4, none⟩) (Kd.R_far (p := ⟨gb124, 3, none⟩) (Kd.R_far (p := ⟨gb124, 2, none⟩) (Kd.R_far (p := ⟨gb124, 1, none⟩) (Kd.R_far (p := ⟨gb124, 0, none⟩) (Kd.R_types HO111.out BK124.out (by decide)) (fun _ hk => hk.2) (.int .i64 t113)) (fun _ hk => hk.2) (.int .u64 t114)) (fun _ hk => hk.2) (.int .i64 t115)) (fun _ hk => hk.2) (.int .i64 t116)) (fun _ hk => hk.2) (.int .u32 t117)) (fun _ hk => hk.2) (.slice Ao31 t118.length co31)) (fun _ hk => hk.2) (.slice Ao32 t121.length co32)) (fun _ h_ => h_.1))))) (Kd.R_lt (by (with_reducible repeat (first | apply Kd.R_alloc | apply Kd.R_drewN | apply Kd.R_drew)); exact (Kd.R_mono (Kd.R_far (p := ⟨gb124, 6, none⟩) (Kd.R_far (p := ⟨gb124, 5, none⟩) (Kd.R_far (p := ⟨gb124, 4, none⟩) (Kd.R_far (p := ⟨gb124, 3, none⟩) (Kd.R_far (p := ⟨gb124, 2, none⟩) (Kd.R_far (p := ⟨gb124, 1, none⟩) (Kd.R_far (p := ⟨gb124, 0, none⟩) (Kd.R_types HO123.out BK124.out (by decide)) (fun _ hk => hk.2) (.int .i64 t113)) (fun _ hk => hk.2) (.int .u64 t114)) (fun _ hk => hk.2) (.int .i64 t115)) (fun _ hk => hk.2) (.int .i64 t116)) (fun _ hk => hk.2) (.int .u32 t117)) (fun _ hk => hk.2) (.slice Ao31 t118.length co31)) (fun _ hk => hk.2) (.slice Ao32 t121.length co32)) (fun _ h_ => h_.1))))) (below_size (by repeat (first | (with_reducible first | exact HB.out | apply below_alloc | apply pw_below_drewN | apply below_drew1 | refine below_set ?_ GE112.out | refine below_set ?_ GE124.out) | exact HB.out)))); have n5_ := Aside0.mk (blk_below (g := gb112) (o := .cells #[.int .i64 t101, .int .u64 t102, .int .i64 t103, .int .i64 t104, .int .u32 t105, .slice Ao24 t106.length co24, .slice Ao25 t109.length co25] 28 (0, 0)) (by (with_reducible repeat (first | refine blk_drewN ?_ _ | refine blk_drew ?_ | refine blk_alloc ?_ _)); refine blk_far ?_ NB112_124.out _; (with_reducible repeat (first | refine blk_drewN ?_ _ | refine blk_drew ?_ | refine blk_alloc ?_ _)); refine blk_far ?_ NB112_124.out _; (with_reducible repeat (first | refine blk_drewN ?_ _ | refine blk_drew ?_ | refine blk_alloc ?_ _)); refine blk_far ?_ NB112_124.out _; (with_reducible repeat (first | refine blk_drewN ?_ _ | refine blk_drew ?_ | refine blk_alloc ?_ _)); refine blk_far ?_ NB112_124.out _; (with_reducible repeat (first | refine blk_drewN ?_ _ | refine blk_drew ?_ | refine blk_alloc ?_ _)); refine blk_far ?_ NB112_124.out _; (with_reducible repeat (first | refine blk_drewN ?_ _ | refine blk_drew ?_ | refine blk_alloc ?_ _)); refine blk_far ?_ NB112_124.out _; (with_reducible repeat (first | refine blk_drewN ?_ _ | refine blk_drew ?_ | refine blk_alloc ?_ _)); refine blk_far ?_ NB112_124.out _; (with_reducible repeat (first | refine blk_drewN ?_ _ | refine blk_drew ?_ | refine blk_alloc ?_ _)); exact BK112.out) hb); have n6_ := Aside0.mk (blk_below (g := gb124) (o := .cells #[.int .i64 t113, .int .u64 t114, .int .i64 t115, .int .i64 t116, .int .u32 t117, .slice Ao31 t118.length co31, .slice Ao32 t121.length co32] 28 (0, 0)) (by (with_reducible repeat (first | refine blk_drewN ?_ _ | refine blk_drew ?_ | refine blk_alloc ?_ _)); refine blk_put (cs := #[.int .i64 t113, .int .u64 t114, .int .i64 t115, .int .i64 t116, .int .u32 t117, .slice Ao31 t118.length co31, .slice none 0 0]) ?_ 6 _ rfl; (with_reducible repeat (first | refine blk_drewN ?_ _ | refine blk_drew ?_ | refine blk_alloc ?_ _)); refine blk_put (cs := #[.int .i64 t113, .int .u64 t114, .int .i64 t115, .int .i64 t116, .int .u32 t117, .slice none 0 0, .slice none 0 0]) ?_ 5 _ rfl; (with_reducible repeat (first | refine blk_drewN ?_ _ | refine blk_drew ?_ | refine blk_alloc ?_ _)); refine blk_put (cs := #[.int .i64 t113, .int .u64 t114, .int .i64 t115, .int .i64 t116, .int .u32 0, .slice none 0 0, .slice none 0 0]) ?_ 4 _ rfl; (with_reducible repeat (first | refine blk_drewN ?_ _ | refine blk_drew ?_ | refine blk_alloc ?_ _)); refine blk_put (cs := #[.int .i64 t113, .int .u64 t114, .int .i64 t115, .int .i64 0, .int .u32 0, .slice none 0 0, .slice none 0 0]) ?_ 3 _ rfl; (with_reducible repeat (first | refine blk_drewN ?_ _ | refine blk_drew ?_ | refine blk_alloc ?_ _)); refine blk_put (cs := #[.int .i64 t113, .int .u64 t114, .int .i64 0, .int .i64 0, .int .u32 0, .slice none 0 0, .slice none 0 0]) ?_ 2 _ rfl; (with_reducible repeat (first | refine blk_drewN ?_ _ | refine blk_drew ?_ | refine blk_alloc ?_ _)); refine blk_put (cs := #[.int .i64 t113, .int .u64 0, .int .i64 0, .int .i64 0, .int .u32 0, .slice none 0 0, .slice none 0 0]) ?_ 1 _ rfl; (with_reducible repeat (first | refine blk_drewN ?_ _ | refine blk_drew ?_ | refine blk_alloc ?_ _)); refine blk_put (cs := #[.int .i64 0, .int .u64 0, .int .i64 0, .int .i64 0, .int .u32 0, .slice none 0 0, .slice none 0 0]) ?_ 0 _ rfl; (with_reducible repeat (first | refine blk_drewN ?_ _ | refine blk_drew ?_ | refine blk_alloc ?_ _)); exact BK124.out) hb); have n7_ := Aside0.mk (below_step (by repeat (first | (with_reducible first | exact HB.out | apply below_alloc | apply pw_below_drewN | apply below_drew1 | refine below_set ?_ GE112.out | refine below_set ?_ GE124.out) | exact HB.out)) hb); clear HO108; clear HO111; clear HO120; clear HO123; clear BK112; clear BK124; clear HB; have HO108 := n0_; have HO111 := n1_; have HO120 := n2_; have HO123 := n3_; have HO127 := n4_; have BK112 := n5_; have BK124 := n6_; have HB := n7_; clear n0_ n1_ n2_ n3_ n4_ n5_ n6_ n7_; (try clear hb); (try clear hb2); (try clear hk); (try clear hi); (try clear ho0); have hcz35_0 : w34.cell? ⟨gb124, 0, none⟩ = some (.int .i64 t113) := (blk_cell BK124.out 0).trans rfl; have hcz35_1 : w34.cell? ⟨gb124, 1, none⟩ = some (.int .u64 t114) := (blk_cell BK124.out 1).trans rfl; have hcz35_2 : w34.cell? ⟨gb124, 2, none⟩ = some (.int .i64 t115) := (blk_cell BK124.out 2).trans rfl; have hcz35_3 : w34.cell? ⟨gb124, 3, none⟩ = some (.int .i64 t116) := (blk_cell BK124.out 3).trans rfl; have hcz35_4 : w34.cell? ⟨gb124, 4, none⟩ = some (.int .u32 t117) := (blk_cell BK124.out 4).trans rfl; have hcz35_5 : w34.cell? ⟨gb124, 5, none⟩ = some (.slice Ao31 t118.length co31) := (blk_cell BK124.out 5).trans rfl; have hcz35_6 : w34.cell? ⟨gb124, 6, none⟩ = some (.slice Ao32 t121.length co32) := (blk_cell BK124.out 6).trans rfl; have hfz35_0 := blk_frozen BK124.out 0; have hfz35_1 := blk_frozen BK124.out 1; have hfz35_2 := blk_frozen BK124.out 2; have hfz35_3 := blk_frozen BK124.out 3; have hfz35_4 := blk_frozen BK124.out 4; have hfz35_5 := blk_frozen BK124.out 5; have hfz35_6 := blk_frozen BK124.out 6) | ((with_reducible refine gate_callee (f := 10) rfl ?_); refine goesL_ (some 43) rfl rfl Try.func10 (by kernel_rfl) rfl #[.agg #[.int .i64 t113, .int .u64 t114, .int .i64 t115, .int .i64 t116, .int .u32 t117, .slice Ao31 t118.length co31, .slice Ao32 t121.length co32]] rfl (by (try simp only [List.map_toArray, List.map_cons, List.map_nil]); first | done | rfl | (simp only [List.length_drop, List.length_take]; rfl)) ?_; (with_reducible refine (pack_Encode.calls t113 t114 t115 t116 t117 _ _ t118 _ _ t121 t129 t132 _ ?side1 ?side2 ?side3 ?side4 A11.out).mono ?_); (case side1 => repeat (first | exact (Kd.R_reads' HO120.out).2.2 | (with_reducible refine Kd.C_alloc ?_ _) | (with_reducible refine Kd.C_drewN ?_ _) | (with_reducible refine Kd.C_drew ?_))); (case side2 => exact (Kd.R_reads' HO120.out).2.1); (case side3 => repeat (first | exact (Kd.R_reads' HO123.out).2.2 | (with_reducible refine Kd.C_alloc ?_ _) | (with_reducible refine Kd.C_drewN ?_ _) | (with_reducible refine Kd.C_drew ?_))); (case side4 => exact (Kd.R_reads' HO123.out).2.1); rintro e w36 ⟨v130, rfl, ho0, hb⟩; refine ⟨_, rfl, ?_⟩; have n0_ := Aside0.mk (Kd.R_below (by (with_reducible repeat (first | apply Kd.R_alloc | apply Kd.R_drewN | apply Kd.R_drew)); exact HO108.out) hb); have n1_ := Aside0.mk (Kd.R_elder' (by (with_reducible repeat (first | apply Kd.R_alloc | apply Kd.R_drewN | apply Kd.R_drew)); exact HO111.out) (Kd.R_base ho0) hb); have n2_ := Aside0.mk (Kd.R_below (by (with_reducible repeat (first | apply Kd.R_alloc | apply Kd.R_drewN | apply Kd.R_drew)); exact HO120.out) hb); have n3_ := Aside0.mk (Kd.R_elder' (by (with_reducible repeat (first | apply Kd.R_alloc | apply Kd.R_drewN | apply Kd.R_drew)); exact HO123.out) (Kd.R_base ho0) hb); have n4_ := Aside0.mk (Kd.R_elder' (by (with_reducible repeat (first | apply Kd.R_alloc | apply Kd.R_drewN | apply Kd.R_drew)); exact HO127.out) (Kd.R_base ho0) hb); have n5_ := Aside0.mk (Kd.R_lower (Kd.R_new' (Kd.R_new' (Kd.R_new' ho0 (Kd.R_lt (by (with_reducible repeat (first | apply Kd.R_alloc | apply Kd.R_drewN | apply Kd.R_drew)); exact HO111.out))) (Kd.R_lt (by (with_reducible repeat (first | apply Kd.R_alloc | apply Kd.R_drewN | apply Kd.R_drew)); exact HO123.out))) (Kd.R_lt (by (with_reducible repeat (first | apply Kd.R_alloc | apply Kd.R_drewN | apply Kd.R_drew)); exact HO127.out))) (below_size (by repeat (first | (with_reducible first | exact HB.out | apply below_alloc | apply pw_below_drewN | apply below_drew1 | refine below_set ?_ GE112.out | refine below_set ?_ GE124.out) | exact HB.out)))); have n6_ := Aside0.mk (blk_below (g := gb112) (o := .cells #[.int .i64 t101, .int .u64 t102, .int .i64 t103, .int .i64 t104, .int .u32 t105, .slice Ao24 t106.length co24, .slice Ao25 t109.length co25] 28 (0, 0)) (by (with_reducible repeat (first | refine blk_drewN ?_ _ | refine blk_drew ?_ | refine blk_alloc ?_ _)); exact BK112.out) hb); have n7_ := Aside0.mk (blk_below (g := gb124) (o := .cells #[.int .i64 t113, .int .u64 t114, .int .i64 t115, .int .i64 t116, .int .u32 t117, .slice Ao31 t118.length co31, .slice Ao32 t121.length co32] 28 (0, 0)) (by (with_reducible repeat (first | refine blk_drewN ?_ _ | refine blk_drew ?_ | refine blk_alloc ?_ _)); exact BK124.out) hb); have n8_ := Aside0.mk (below_step (by repeat (first | (with_reducible first | exact HB.out | apply below_alloc | apply pw_below_drewN | apply below_drew1 | refine below_set ?_ GE112.out | refine below_set ?_ GE124.out) | exact HB.out)) hb); clear HO108; clear HO111; clear HO120; clear HO123; clear HO127; clear BK112; clear BK124; clear HB; have HO108 := n0_; have HO111 := n1_; have HO120 := n2_; have HO123 := n3_; have HO127 := n4_; have HO131 := n5_; have BK112 := n6_; have BK124 := n7_; have HB := n8_; clear n0_ n1_ n2_ n3_ n4_ n5_ n6_ n7_ n8_; (try clear hb); (try clear hb2); (try clear hk); (try clear hi); (try clear ho0)) | ((with_reducible refine gate_dst (N := 19) rfl ?_); refine box_event ?hg (N := 19) ?hd (cs := #[.int .i64 0, .int .u64 0, .int .i64 0, .int .i64 0, .int .u32 0, .slice none 0 0, .slice none 0 0]) (t := 28) ?hr ?_; (case hd => rfl); (case hg => rfl); (case hr => first | (go_simp; done) | (go_simp; rfl)); intro gb133 hg w37 hbox hb; have n0_ := Aside0.mk (Kd.R_below (by (with_reducible repeat (first | apply Kd.R_alloc | apply Kd.R_drewN | apply Kd.R_drew)); exact HO108.out) hb); have n1_ := Aside0.mk (Kd.R_below (by (with_reducible repeat (first | apply Kd.R_alloc | apply Kd.R_drewN | apply Kd.R_drew)); exact HO111.out) hb); have n2_ := Aside0.mk (Kd.R_below (by (with_reducible repeat (first | apply Kd.R_alloc | apply Kd.R_drewN | apply Kd.R_drew)); exact HO120.out) hb); have n3_ := Aside0.mk (Kd.R_below (by (with_reducible repeat (first | apply Kd.R_alloc | apply Kd.R_drewN | apply Kd.R_drew)); exact HO123.out) hb); have n4_ := Aside0.mk (Kd.R_below (by (with_reducible repeat (first | apply Kd.R_alloc | apply Kd.R_drewN | apply Kd.R_drew)); exact HO127.out) hb); have n5_ := Aside0.mk (Kd.R_below (by (with_reducible repeat (first | apply Kd.R_alloc | apply Kd.R_drewN | apply Kd.R_drew)); exact HO131.out) hb); have n6_ := Aside0.mk (blk_below (g := gb112) (o := .cells #[.int .i64 t101, .int .u64 t102, .int .i64 t103, .int .i64 t104, .int .u32 t105, .slice Ao24 t106.length co24, .slice Ao25 t109.length co25] 28 (0, 0)) (by (with_reducible repeat (first | refine blk_drewN ?_ _ | refine blk_drew ?_ | refine blk_alloc ?_ _)); exact BK112.out) hb); have n7_ := Aside0.mk (blk_below (g := gb124) (o := .cells #[.int .i64 t113, .int .u64 t114, .int .i64 t115, .int .i64 t116, .int .u32 t117, .slice Ao31 t118.length co31, .slice Ao32 t121.length co32] 28 (0, 0)) (by (with_reducible repeat (first | refine blk_drewN ?_ _ | refine blk_drew ?_ | refine blk_alloc ?_ _)); exact BK124.out) hb); have n8_ := Aside0.mk (below_step (by repeat (first | (with_reducible first | exact HB.out | apply below_alloc | apply pw_below_drewN | apply below_drew1 | refine below_set ?_ GE112.out | refine below_set ?_ GE124.out) | exact HB.out)) hb); have n9_ := Aside0.mk (hbox); have n10_ := Aside0.mk ((by rw [hg]; exact (below_size (by repeat (first | (with_reducible first | exact HB.out | apply below_alloc | apply pw_below_drewN | apply below_drew1 | refine below_set ?_ GE112.out | refine below_set ?_ GE124.out) | exact HB.out))) : w.heap.size ≤ gb133)); have n11_ := Aside0.mk ((by rw [hg]; exact (below_size (by repeat (first | (with_reducible first | exact HB.out | apply below_alloc | apply pw_below_drewN | apply below_drew1 | refine below_set ?_ GE112.out | refine below_set ?_ GE124.out) | exact HB.out))) : w.heap.size ≤ gb133)); have n12_ := Aside0.mk ((by rw [hg]; exact Nat.ne_of_lt (blk_lt (g := gb112) (o := .cells #[.int .i64 t101, .int .u64 t102, .int .i64 t103, .int .i64 t104, .int .u32 t105, .slice Ao24 t106.length co24, .slice Ao25 t109.length co25] 28 (0, 0)) (by (with_reducible repeat (first | refine blk_drewN ?_ _ | refine blk_drew ?_ | refine blk_alloc ?_ _)); exact BK112.out)) : gb112 ≠ gb133)); have n13_ := Aside0.mk ((by rw [hg]; exact Nat.ne_of_gt (blk_lt (g := gb112) (o := .cells #[.int .i64 t101, .int .u64 t102, .int .i64 t103, .int .i64 t104, .int .u32 t105, .slice Ao24 t106.length co24, .slice Ao25 t109.length co25] 28 (0, 0)) (by (with_reducible repeat (first | refine blk_drewN ?_ _ | refine blk_drew ?_ | refine blk_alloc ?_ _)); exact BK112.out)) : gb133 ≠ gb112)); have n14_ := Aside0.mk ((by rw [hg]; exact Nat.ne_of_lt (blk_lt (g := gb124) (o := .cells #[.int .i64 t113, .int .u64 t114, .int .i64 t115, .int .i64 t116, .int .u32 t117, .slice Ao31 t118.length co31, .slice Ao32 t121.length co32] 28 (0, 0)) (by (with_reducible repeat (first | refine blk_drewN ?_ _ | refine blk_drew ?_ | refine blk_alloc ?_ _)); exact BK124.out)) : gb124 ≠ gb133)); have n15_ := Aside0.mk ((by rw [hg]; exact Nat.ne_of_gt (blk_lt (g := gb124) (o := .cells #[.int .i64 t113, .int .u64 t114, .int .i64 t115, .int .i64 t116, .int .u32 t117, .slice Ao31 t118.length co31, .slice Ao32 t121.length co32] 28 (0, 0)) (by (with_reducible repeat (first | refine blk_drewN ?_ _ | refine blk_drew ?_ | refine blk_alloc ?_ _)); exact BK124.out)) : gb133 ≠ gb124)); clear HO108; clear HO111; clear HO120; clear HO123; clear HO127; clear HO131; clear BK112; clear BK124; clear HB; have HO108 := n0_; have HO111 := n1_; have HO120 := n2_; have HO123 := n3_; have HO127 := n4_; have HO131 := n5_; have BK112 := n6_; have BK124 := n7_; have HB := n8_; have BK133 := n9_; have GW133 := n10_; have GE133 := n11_; have NB112_133 := n12_; have NB133_112 := n13_; have NB124_133 := n14_; have NB133_124 := n15_; clear n0_ n1_ n2_ n3_ n4_ n5_ n6_ n7_ n8_ n9_ n10_ n11_ n12_ n13_ n14_ n15_; clear hb hbox hg; have hnb38 := NB133_112.out; have hnc38 := NB112_133.out; have hnb39 := NB133_124.out; have hnc39 := NB124_133.out; have hcz40_0 : w37.cell? ⟨gb133, 0, none⟩ = some (.int .i64 0) := (blk_cell BK133.out 0).trans rfl; have hcz40_1 : w37.cell? ⟨gb133, 1, none⟩ = some (.int .u64 0) := (blk_cell BK133.out 1).trans rfl; have hcz40_2 : w37.cell? ⟨gb133, 2, none⟩ = some (.int .i64 0) := (blk_cell BK133.out 2).trans rfl; have hcz40_3 : w37.cell? ⟨gb133, 3, none⟩ = some (.int .i64 0) := (blk_cell BK133.out 3).trans rfl; have hcz40_4 : w37.cell? ⟨gb133, 4, none⟩ = some (.int .u32 0) := (blk_cell BK133.out 4).trans rfl; have hcz40_5 : w37.cell? ⟨gb133, 5, none⟩ = some (.slice none 0 0) := (blk_cell BK133.out 5).trans rfl; have hcz40_6 : w37.cell? ⟨gb133, 6, none⟩ = some (.slice none 0 0) := (blk_cell BK133.out 6).trans rfl; have hfz40_0 := blk_frozen BK133.out 0; have hfz40_1 := blk_frozen BK133.out 1; have hfz40_2 := blk_frozen BK133.out 2; have hfz40_3 := blk_frozen BK133.out 3; have hfz40_4 := blk_frozen BK133.out 4; have hfz40_5 := blk_frozen BK133.out 5; have hfz40_6 := blk_frozen BK133.out 6))
             have n0_ : Aside0 (Kd.R (Kd.int .i64) 3 (((((((w37.setCell ⟨gb133, 0, none⟩ (.int .i64 6)).setCell ⟨gb133, 1, none⟩ (.int .u64 a0)).setCell ⟨gb133, 2, none⟩ (.int .i64 0)).setCell ⟨gb133, 3, none⟩ (.int .i64 0)).setCell ⟨gb133, 4, none⟩ (.int .u32 0)).setCell ⟨gb133, 5, none⟩ (.slice none 0 0)).setCell ⟨gb133, 6, none⟩ (.slice none 0 0)) w.heap.size (fun k_ => some k_ ≠ (.slice Ao31 t118.length co31 : Value).ownBlock) (.slice Ao24 t106.length co24) t106) := ⟨by (with_reducible repeat (first | apply Kd.R_alloc | apply Kd.R_drewN | apply Kd.R_drew)); exact Kd.R_mono (Kd.R_far (p := ⟨gb133, 6, none⟩) (Kd.R_far (p := ⟨gb133, 5, none⟩) (Kd.R_far (p := ⟨gb133, 4, none⟩) (Kd.R_far (p := ⟨gb133, 3, none⟩) (Kd.R_far (p := ⟨gb133, 2, none⟩) (Kd.R_far (p := ⟨gb133, 1, none⟩) (Kd.R_far (p := ⟨gb133, 0, none⟩) (Kd.R_types HO108.out BK133.out (by decide)) (fun _ hk => hk.2) (.int .i64 6)) (fun _ hk => hk.2) (.int .u64 a0)) (fun _ hk => hk.2) (.int .i64 0)) (fun _ hk => hk.2) (.int .i64 0)) (fun _ hk => hk.2) (.int .u32 0)) (fun _ hk => hk.2) (.slice none 0 0)) (fun _ hk => hk.2) (.slice none 0 0)) (fun _ hk => hk.1.2)⟩
             have n1_ : Aside0 (Kd.R (Kd.int .u8) 5 (((((((w37.setCell ⟨gb133, 0, none⟩ (.int .i64 6)).setCell ⟨gb133, 1, none⟩ (.int .u64 a0)).setCell ⟨gb133, 2, none⟩ (.int .i64 0)).setCell ⟨gb133, 3, none⟩ (.int .i64 0)).setCell ⟨gb133, 4, none⟩ (.int .u32 0)).setCell ⟨gb133, 5, none⟩ (.slice none 0 0)).setCell ⟨gb133, 6, none⟩ (.slice none 0 0)) w.heap.size (fun k_ => some k_ ≠ (.slice Ao32 t121.length co32 : Value).ownBlock ∧ some k_ ≠ (v126 : Value).ownBlock ∧ some k_ ≠ (v130 : Value).ownBlock) (.slice Ao25 t109.length co25) t109) := ⟨by (with_reducible repeat (first | apply Kd.R_alloc | apply Kd.R_drewN | apply Kd.R_drew)); exact Kd.R_mono (Kd.R_far (p := ⟨gb133, 6, none⟩) (Kd.R_far (p := ⟨gb133, 5, none⟩) (Kd.R_far (p := ⟨gb133, 4, none⟩) (Kd.R_far (p := ⟨gb133, 3, none⟩) (Kd.R_far (p := ⟨gb133, 2, none⟩) (Kd.R_far (p := ⟨gb133, 1, none⟩) (Kd.R_far (p := ⟨gb133, 0, none⟩) (Kd.R_types HO111.out BK133.out (by decide)) (fun _ hk => hk.2) (.int .i64 6)) (fun _ hk => hk.2) (.int .u64 a0)) (fun _ hk => hk.2) (.int .i64 0)) (fun _ hk => hk.2) (.int .i64 0)) (fun _ hk => hk.2) (.int .u32 0)) (fun _ hk => hk.2) (.slice none 0 0)) (fun _ hk => hk.2) (.slice none 0 0)) (fun _ hk => ⟨hk.1.1.1.2, ⟨hk.1.1.2, hk.1.2⟩⟩)⟩
             have n2_ : Aside0 (Kd.R (Kd.int .i64) 3 (((((((w37.setCell ⟨gb133, 0, none⟩ (.int .i64 6)).setCell ⟨gb133, 1, none⟩ (.int .u64 a0)).setCell ⟨gb133, 2, none⟩ (.int .i64 0)).setCell ⟨gb133, 3, none⟩ (.int .i64 0)).setCell ⟨gb133, 4, none⟩ (.int .u32 0)).setCell ⟨gb133, 5, none⟩ (.slice none 0 0)).setCell ⟨gb133, 6, none⟩ (.slice none 0 0)) w.heap.size (fun k_ => some k_ ≠ (.slice Ao24 t106.length co24 : Value).ownBlock) (.slice Ao31 t118.length co31) t118) := ⟨by (with_reducible repeat (first | apply Kd.R_alloc | apply Kd.R_drewN | apply Kd.R_drew)); exact Kd.R_mono (Kd.R_far (p := ⟨gb133, 6, none⟩) (Kd.R_far (p := ⟨gb133, 5, none⟩) (Kd.R_far (p := ⟨gb133, 4, none⟩) (Kd.R_far (p := ⟨gb133, 3, none⟩) (Kd.R_far (p := ⟨gb133, 2, none⟩) (Kd.R_far (p := ⟨gb133, 1, none⟩) (Kd.R_far (p := ⟨gb133, 0, none⟩) (Kd.R_types HO120.out BK133.out (by decide)) (fun _ hk => hk.2) (.int .i64 6)) (fun _ hk => hk.2) (.int .u64 a0)) (fun _ hk => hk.2) (.int .i64 0)) (fun _ hk => hk.2) (.int .i64 0)) (fun _ hk => hk.2) (.int .u32 0)) (fun _ hk => hk.2) (.slice none 0 0)) (fun _ hk => hk.2) (.slice none 0 0)) (fun _ hk => hk.1.2)⟩
             have n3_ : Aside0 (Kd.R (Kd.int .u8) 5 (((((((w37.setCell ⟨gb133, 0, none⟩ (.int .i64 6)).setCell ⟨gb133, 1, none⟩ (.int .u64 a0)).setCell ⟨gb133, 2, none⟩ (.int .i64 0)).setCell ⟨gb133, 3, none⟩ (.int .i64 0)).setCell ⟨gb133, 4, none⟩ (.int .u32 0)).setCell ⟨gb133, 5, none⟩ (.slice none 0 0)).setCell ⟨gb133, 6, none⟩ (.slice none 0 0)) w.heap.size (fun k_ => some k_ ≠ (.slice Ao25 t109.length co25 : Value).ownBlock ∧ some k_ ≠ (v126 : Value).ownBlock ∧ some k_ ≠ (v130 : Value).ownBlock) (.slice Ao32 t121.length co32) t121) := ⟨by (with_reducible repeat (first | apply Kd.R_alloc | apply Kd.R_drewN | apply Kd.R_drew)); exact Kd.R_mono (Kd.R_far (p := ⟨gb133, 6, none⟩) (Kd.R_far (p := ⟨gb133, 5, none⟩) (Kd.R_far (p := ⟨gb133, 4, none⟩) (Kd.R_far (p := ⟨gb133, 3, none⟩) (Kd.R_far (p := ⟨gb133, 2, none⟩) (Kd.R_far (p := ⟨gb133, 1, none⟩) (Kd.R_far (p := ⟨gb133, 0, none⟩) (Kd.R_types HO123.out BK133.out (by decide)) (fun _ hk => hk.2) (.int .i64 6)) (fun _ hk => hk.2) (.int .u64 a0)) (fun _ hk => hk.2) (.int .i64 0)) (fun _ hk => hk.2) (.int .i64 0)) (fun _ hk => hk.2) (.int .u32 0)) (fun _ hk => hk.2) (.slice none 0 0)) (fun _ hk => hk.2) (.slice none 0 0)) (fun _ hk => ⟨hk.1.1.1.2, ⟨hk.1.1.2, hk.1.2⟩⟩)⟩
             have n4_ : Aside0 (Kd.R (Kd.int .u8) 5 (((((((w37.setCell ⟨gb133, 0, none⟩ (.int .i64 6)).setCell ⟨gb133, 1, none⟩ (.int .u64 a0)).setCell ⟨gb133, 2, none⟩ (.int .i64 0)).setCell ⟨gb133, 3, none⟩ (.int .i64 0)).setCell ⟨gb133, 4, none⟩ (.int .u32 0)).setCell ⟨gb133, 5, none⟩ (.slice none 0 0)).setCell ⟨gb133, 6, none⟩ (.slice none 0 0)) w.heap.size (fun k_ => some k_ ≠ (.slice Ao25 t109.length co25 : Value).ownBlock ∧ some k_ ≠ (.slice Ao32 t121.length co32 : Value).ownBlock ∧ some k_ ≠ (v130 : Value).ownBlock) v126 t125) := ⟨by (with_reducible repeat (first | apply Kd.R_alloc | apply Kd.R_drewN | apply Kd.R_drew)); exact Kd.R_mono (Kd.R_far (p := ⟨gb133, 6, none⟩) (Kd.R_far (p := ⟨gb133, 5, none⟩) (Kd.R_far (p := ⟨gb133, 4, none⟩) (Kd.R_far (p := ⟨gb133, 3, none⟩) (Kd.R_far (p := ⟨gb133, 2, none⟩) (Kd.R_far (p := ⟨gb133, 1, none⟩) (Kd.R_far (p := ⟨gb133, 0, none⟩) (Kd.R_types HO127.out BK133.out (by decide)) (fun _ hk => hk.2) (.int .i64 6)) (fun _ hk => hk.2) (.int .u64 a0)) (fun _ hk => hk.2) (.int .i64 0)) (fun _ hk => hk.2) (.int .i64 0)) (fun _ hk => hk.2) (.int .u32 0)) (fun _ hk => hk.2) (.slice none 0 0)) (fun _ hk => hk.2) (.slice none 0 0)) (fun _ hk => ⟨hk.1.1.1.2, ⟨hk.1.1.2, hk.1.2⟩⟩)⟩
             have n5_ : Aside0 (Kd.R (Kd.int .u8) 5 (((((((w37.setCell ⟨gb133, 0, none⟩ (.int .i64 6)).setCell ⟨gb133, 1, none⟩ (.int .u64 a0)).setCell ⟨gb133, 2, none⟩ (.int .i64 0)).setCell ⟨gb133, 3, none⟩ (.int .i64 0)).setCell ⟨gb133, 4, none⟩ (.int .u32 0)).setCell ⟨gb133, 5, none⟩ (.slice none 0 0)).setCell ⟨gb133, 6, none⟩ (.slice none 0 0)) w.heap.size (fun k_ => some k_ ≠ (.slice Ao25 t109.length co25 : Value).ownBlock ∧ some k_ ≠ (.slice Ao32 t121.length co32 : Value).ownBlock ∧ some k_ ≠ (v126 : Value).ownBlock) v130 t129) := ⟨by (with_reducible repeat (first | apply Kd.R_alloc | apply Kd.R_drewN | apply Kd.R_drew)); exact Kd.R_mono (Kd.R_far (p := ⟨gb133, 6, none⟩) (Kd.R_far (p := ⟨gb133, 5, none⟩) (Kd.R_far (p := ⟨gb133, 4, none⟩) (Kd.R_far (p := ⟨gb133, 3, none⟩) (Kd.R_far (p := ⟨gb133, 2, none⟩) (Kd.R_far (p := ⟨gb133, 1, none⟩) (Kd.R_far (p := ⟨gb133, 0, none⟩) (Kd.R_types HO131.out BK133.out (by decide)) (fun _ hk => hk.2) (.int .i64 6)) (fun _ hk => hk.2) (.int .u64 a0)) (fun _ hk => hk.2) (.int .i64 0)) (fun _ hk => hk.2) (.int .i64 0)) (fun _ hk => hk.2) (.int .u32 0)) (fun _ hk => hk.2) (.slice none 0 0)) (fun _ hk => hk.2) (.slice none 0 0)) (fun _ hk => ⟨hk.1.1.1.2, ⟨hk.1.1.2, hk.1.2⟩⟩)⟩
             have n6_ : Aside0 ((((((((w37.setCell ⟨gb133, 0, none⟩ (.int .i64 6)).setCell ⟨gb133, 1, none⟩ (.int .u64 a0)).setCell ⟨gb133, 2, none⟩ (.int .i64 0)).setCell ⟨gb133, 3, none⟩ (.int .i64 0)).setCell ⟨gb133, 4, none⟩ (.int .u32 0)).setCell ⟨gb133, 5, none⟩ (.slice none 0 0)).setCell ⟨gb133, 6, none⟩ (.slice none 0 0)).heap[gb112]? = some (.cells #[.int .i64 t101, .int .u64 t102, .int .i64 t103, .int .i64 t104, .int .u32 t105, .slice Ao24 t106.length co24, .slice Ao25 t109.length co25] 28 (0, 0))) := ⟨by (with_reducible repeat (first | refine blk_drewN ?_ _ | refine blk_drew ?_ | refine blk_alloc ?_ _)); refine blk_far ?_ NB112_133.out _; (with_reducible repeat (first | refine blk_drewN ?_ _ | refine blk_drew ?_ | refine blk_alloc ?_ _)); refine blk_far ?_ NB112_133.out _; (with_reducible repeat (first | refine blk_drewN ?_ _ | refine blk_drew ?_ | refine blk_alloc ?_ _)); refine blk_far ?_ NB112_133.out _; (with_reducible repeat (first | refine blk_drewN ?_ _ | refine blk_drew ?_ | refine blk_alloc ?_ _)); refine blk_far ?_ NB112_133.out _; (with_reducible repeat (first | refine blk_drewN ?_ _ | refine blk_drew ?_ | refine blk_alloc ?_ _)); refine blk_far ?_ NB112_133.out _; (with_reducible repeat (first | refine blk_drewN ?_ _ | refine blk_drew ?_ | refine blk_alloc ?_ _)); refine blk_far ?_ NB112_133.out _; (with_reducible repeat (first | refine blk_drewN ?_ _ | refine blk_drew ?_ | refine blk_alloc ?_ _)); refine blk_far ?_ NB112_133.out _; (with_reducible repeat (first | refine blk_drewN ?_ _ | refine blk_drew ?_ | refine blk_alloc ?_ _)); exact BK112.out⟩
             have n7_ : Aside0 ((((((((w37.setCell ⟨gb133, 0, none⟩ (.int .i64 6)).setCell ⟨gb133, 1, none⟩ (.int .u64 a0)).setCell ⟨gb133, 2, none⟩ (.int .i64 0)).setCell ⟨gb133, 3, none⟩ (.int .i64 0)).setCell ⟨gb133, 4, none⟩ (.int .u32 0)).setCell ⟨gb133, 5, none⟩ (.slice none 0 0)).setCell ⟨gb133, 6, none⟩ (.slice none 0 0)).heap[gb124]? = some (.cells #[.int .i64 t113, .int .u64 t114, .int .i64 t115, .int .i64 t116, .int .u32 t117, .slice Ao31 t118.length co31, .slice Ao32 t121.length co32] 28 (0, 0))) := ⟨by (with_reducible repeat (first | refine blk_drewN ?_ _ | refine blk_drew ?_ | refine blk_alloc ?_ _)); refine blk_far ?_ NB124_133.out _; (with_reducible repeat (first | refine blk_drewN ?_ _ | refine blk_drew ?_ | refine blk_alloc ?_ _)); refine blk_far ?_ NB124_133.out _; (with_reducible repeat (first | refine blk_drewN ?_ _ | refine blk_drew ?_ | refine blk_alloc ?_ _)); refine blk_far ?_ NB124_133.out _; (with_reducible repeat (first | refine blk_drewN ?_ _ | refine blk_drew ?_ | refine blk_alloc ?_ _)); refine blk_far ?_ NB124_133.out _; (with_reducible repeat (first | refine blk_drewN ?_ _ | refine blk_drew ?_ | refine blk_alloc ?_ _)); refine blk_far ?_ NB124_133.out _; (with_reducible repeat (first | refine blk_drewN ?_ _ | refine blk_drew ?_ | refine blk_alloc ?_ _)); refine blk_far ?_ NB124_133.out _; (with_reducible repeat (first | refine blk_drewN ?_ _ | refine blk_drew ?_ | refine blk_alloc ?_ _)); refine blk_far ?_ NB124_133.out _; (with_reducible repeat (first | refine blk_drewN ?_ _ | refine blk_drew ?_ | refine blk_alloc ?_ _)); exact BK124.out⟩
             have n8_ : Aside0 ((((((((w37.setCell ⟨gb133, 0, none⟩ (.int .i64 6)).setCell ⟨gb133, 1, none⟩ (.int .u64 a0)).setCell ⟨gb133, 2, none⟩ (.int .i64 0)).setCell ⟨gb133, 3, none⟩ (.int .i64 0)).setCell ⟨gb133, 4, none⟩ (.int .u32 0)).setCell ⟨gb133, 5, none⟩ (.slice none 0 0)).setCell ⟨gb133, 6, none⟩ (.slice none 0 0)).heap[gb133]? = some (.cells #[.int .i64 6, .int .u64 a0, .int .i64 0, .int .i64 0, .int .u32 0, .slice none 0 0, .slice none 0 0] 28 (0, 0))) := ⟨by (with_reducible repeat (first | refine blk_drewN ?_ _ | refine blk_drew ?_ | refine blk_alloc ?_ _)); refine blk_put (cs := #[.int .i64 6, .int .u64 a0, .int .i64 0, .int .i64 0, .int .u32 0, .slice none 0 0, .slice none 0 0]) ?_ 6 _ rfl; (with_reducible repeat (first | refine blk_drewN ?_ _ | refine blk_drew ?_ | refine blk_alloc ?_ _)); refine blk_put (cs := #[.int .i64 6, .int .u64 a0, .int .i64 0, .int .i64 0, .int .u32 0, .slice none 0 0, .slice none 0 0]) ?_ 5 _ rfl; (with_reducible repeat (first | refine blk_drewN ?_ _ | refine blk_drew ?_ | refine blk_alloc ?_ _)); refine blk_put (cs := #[.int .i64 6, .int .u64 a0, .int .i64 0, .int .i64 0, .int .u32 0, .slice none 0 0, .slice none 0 0]) ?_ 4 _ rfl; (with_reducible repeat (first | refine blk_drewN ?_ _ | refine blk_drew ?_ | refine blk_alloc ?_ _)); refine blk_put (cs := #[.int .i64 6, .int .u64 a0, .int .i64 0, .int .i64 0, .int .u32 0, .slice none 0 0, .slice none 0 0]) ?_ 3 _ rfl; (with_reducible repeat (first | refine blk_drewN ?_ _ | refine blk_drew ?_ | refine blk_alloc ?_ _)); refine blk_put (cs := #[.int .i64 6, .int .u64 a0, .int .i64 0, .int .i64 0, .int .u32 0, .slice none 0 0, .slice none 0 0]) ?_ 2 _ rfl; (with_reducible repeat (first | refine blk_drewN ?_ _ | refine blk_drew ?_ | refine blk_alloc ?_ _)); refine blk_put (cs := #[.int .i64 6, .int .u64 0, .int .i64 0, .int .i64 0, .int .u32 0, .slice none 0 0, .slice none 0 0]) ?_ 1 _ rfl; (with_reducible repeat (first | refine blk_drewN ?_ _ | refine blk_drew ?_ | refine blk_alloc ?_ _)); refine blk_put (cs := #[.int .i64 0, .int .u64 0, .int .i64 0, .int .i64 0, .int .u32 0, .slice none 0 0, .slice none 0 0]) ?_ 0 _ rfl; (with_reducible repeat (first | refine blk_drewN ?_ _ | refine blk_drew ?_ | refine blk_alloc ?_ _)); exact BK133.out⟩
             have n9_ : Aside0 (Below w.heap.size w (((((((w37.setCell ⟨gb133, 0, none⟩ (.int .i64 6)).setCell ⟨gb133, 1, none⟩ (.int .u64 a0)).setCell ⟨gb133, 2, none⟩ (.int .i64 0)).setCell ⟨gb133, 3, none⟩ (.int .i64 0)).setCell ⟨gb133, 4, none⟩ (.int .u32 0)).setCell ⟨gb133, 5, none⟩ (.slice none 0 0)).setCell ⟨gb133, 6, none⟩ (.slice none 0 0))) := ⟨by repeat (first | (with_reducible first | exact HB.out | apply below_alloc | apply pw_below_drewN | apply below_drew1 | refine below_set ?_ GE112.out | refine below_set ?_ GE124.out | refine below_set ?_ GE133.out) | exact HB.out)⟩
             (try clear HO108)
             (try clear HO111)
             (try clear HO120)
             (try clear HO123)
             (try clear HO127)
             (try clear HO131)
             (try clear BK112)
             (try clear BK124)
             (try clear BK133)
             (try clear HB)
             generalize (((((((w37.setCell ⟨gb133, 0, none⟩ (.int .i64 6)).setCell ⟨gb133, 1, none⟩ (.int .u64 a0)).setCell ⟨gb133, 2, none⟩ (.int .i64 0)).setCell ⟨gb133, 3, none⟩ (.int .i64 0)).setCell ⟨gb133, 4, none⟩ (.int .u32 0)).setCell ⟨gb133, 5, none⟩ (.slice none 0 0)).setCell ⟨gb133, 6, none⟩ (.slice none 0 0)) = w41 at n0_ n1_ n2_ n3_ n4_ n5_ n6_ n7_ n8_ n9_ ⊢
             have HO108 := n0_
             have HO111 := n1_
             have HO120 := n2_
             have HO123 := n3_
             have HO127 := n4_
             have HO131 := n5_
             have BK112 := n6_
             have BK124 := n7_
             have BK133 := n8_
             have HB := n9_
             clear n0_ n1_ n2_ n3_ n4_ n5_ n6_ n7_ n8_ n9_
             have n0_ := Aside0.mk (Kd.R_drew HO108.out)
             have n1_ := Aside0.mk (Kd.R_drew HO111.out)
             have n2_ := Aside0.mk (Kd.R_drew HO120.out)
             have n3_ := Aside0.mk (Kd.R_drew HO123.out)
             have n4_ := Aside0.mk (Kd.R_drew HO127.out)
             have n5_ := Aside0.mk (Kd.R_drew HO131.out)
             have n6_ := Aside0.mk (blk_drew BK112.out)
             have n7_ := Aside0.mk (blk_drew BK124.out)
             have n8_ := Aside0.mk (blk_drew BK133.out)
             have n9_ := Aside0.mk (below_drew1 HB.out)
             clear HO108
             clear HO111
             clear HO120
             clear HO123
             clear HO127
             clear HO131
             clear BK112
             clear BK124
             clear BK133
             clear HB
             have HO108 := n0_
             have HO111 := n1_
             have HO120 := n2_
             have HO123 := n3_
             have HO127 := n4_
             have HO131 := n5_
             have BK112 := n6_
             have BK124 := n7_
             have BK133 := n8_
             have HB := n9_
             clear n0_ n1_ n2_ n3_ n4_ n5_ n6_ n7_ n8_ n9_
             refine start_ (n := 34) (S := fun w' => w'.cell? ⟨gb112, 0, none⟩ = some (.int .i64 t101) ∧ w'.cell? ⟨gb112, 1, none⟩ = some (.int .u64 t102) ∧ w'.cell? ⟨gb112, 2, none⟩ = some (.int .i64 t103) ∧ w'.cell? ⟨gb112, 3, none⟩ = some (.int .i64 t104) ∧ w'.cell? ⟨gb112, 4, none⟩ = some (.int .u32 t105) ∧ w'.cell? ⟨gb112, 5, none⟩ = some (.slice Ao24 t106.length co24) ∧ w'.cell? ⟨gb112, 6, none⟩ = some (.slice Ao25 t109.length co25) ∧ w'.cell? ⟨gb124, 0, none⟩ = some (.int .i64 t113) ∧ w'.cell? ⟨gb124, 1, none⟩ = some (.int .u64 t114) ∧ w'.cell? ⟨gb124, 2, none⟩ = some (.int .i64 t115) ∧ w'.cell? ⟨gb124, 3, none⟩ = some (.int .i64 t116) ∧ w'.cell? ⟨gb124, 4, none⟩ = some (.int .u32 t117) ∧ w'.cell? ⟨gb124, 5, none⟩ = some (.slice Ao31 t118.length co31) ∧ w'.cell? ⟨gb124, 6, none⟩ = some (.slice Ao32 t121.length co32) ∧ w'.cell? ⟨gb133, 0, none⟩ = some (.int .i64 6) ∧ w'.cell? ⟨gb133, 1, none⟩ = some (.int .u64 a0) ∧ w'.cell? ⟨gb133, 2, none⟩ = some (.int .i64 0) ∧ w'.cell? ⟨gb133, 3, none⟩ = some (.int .i64 0) ∧ w'.cell? ⟨gb133, 4, none⟩ = some (.int .u32 0) ∧ w'.cell? ⟨gb133, 5, none⟩ = some (.slice none 0 0) ∧ w'.cell? ⟨gb133, 6, none⟩ = some (.slice none 0 0) ∧ (convert 25 9 v126).run Try.prog w' = .ok (.string (strOfNums t125)) w' ∧ (convert 25 9 v130).run Try.prog w' = .ok (.string (strOfNums t129)) w') (ds := []) #[false, false, false, false, false, false, false, false, false, false, false, false, false, false, false, false, false, false, false, false, false, false, false, false, false, false, false, false, false, false, false, false, false, false] (by kernel_rfl) rfl rfl ⟨(blk_cell BK112.out 0).trans rfl, (blk_cell BK112.out 1).trans rfl, (blk_cell BK112.out 2).trans rfl, (blk_cell BK112.out 3).trans rfl, (blk_cell BK112.out 4).trans rfl, (blk_cell BK112.out 5).trans rfl, (blk_cell BK112.out 6).trans rfl, (blk_cell BK124.out 0).trans rfl, (blk_cell BK124.out 1).trans rfl, (blk_cell BK124.out 2).trans rfl, (blk_cell BK124.out 3).trans rfl, (blk_cell BK124.out 4).trans rfl, (blk_cell BK124.out 5).trans rfl, (blk_cell BK124.out 6).trans rfl, (blk_cell BK133.out 0).trans rfl, (blk_cell BK133.out 1).trans rfl, (blk_cell BK133.out 2).trans rfl, (blk_cell BK133.out 3).trans rfl, (blk_cell BK133.out 4).trans rfl, (blk_cell BK133.out 5).trans rfl, (blk_cell BK133.out 6).trans rfl, (own_string (P := Try.prog) Try.underlying25 Try.underlying5 Try.underlying9 (Kd.own_of_R (by (with_reducible repeat (first | apply Kd.R_alloc | apply Kd.R_drewN | apply Kd.R_drew)); exact HO127.out))), (own_string (P := Try.prog) Try.underlying25 Try.underlying5 Try.underlying9 (Kd.own_of_R (by (with_reducible repeat (first | apply Kd.R_alloc | apply Kd.R_drewN | apply Kd.R_drew)); exact HO131.out)))⟩ (fun hHeld => ?_); refine with_tabW scullerlaw13_PackSame.tab6 scullerlaw13_PackSame.bits6 (fun HT_ HW_ => ?_)
             generalize w41.drew = w42 at HO108 HO111 HO120 HO123 HO127 HO131 BK112 BK124 BK133 HB hHeld ⊢
             refine one_ (i := 0) (N := some 48) #[true, false, false, false, false, false, false, false, false, false, false, false, false, false, false, false, false, false, false, false, false, false, false, false, false, false, false, false, false, false, false, false, false, false] rfl rfl (one_of HT_.out (by kernel_rfl)) (by decide) (fun K hK => ?_)
             refine goes_ Try.func13 (by kernel_rfl) rfl #[] (by rfl) rfl rfl (by (try simp only [List.map_toArray, List.map_cons, List.map_nil]); first | done | rfl | (simp only [List.length_drop, List.length_take]; rfl)) ?_
             with_reducible refine (scullerlaw13_known_c.calls  true _ A12.out).mono ?_
             rintro e w43 ⟨rfl, hb⟩
             refine ⟨_, rfl, ?_⟩
             have n0_ := Aside0.mk (Kd.R_below (by (with_reducible repeat (first | apply Kd.R_alloc | apply Kd.R_drewN | apply Kd.R_drew)); exact HO108.out) hb)
             have n1_ := Aside0.mk (Kd.R_below (by (with_reducible repeat (first | apply Kd.R_alloc | apply Kd.R_drewN | apply Kd.R_drew)); exact HO111.out) hb)
             have n2_ := Aside0.mk (Kd.R_below (by (with_reducible repeat (first | apply Kd.R_alloc | apply Kd.R_drewN | apply Kd.R_drew)); exact HO120.out) hb)
             have n3_ := Aside0.mk (Kd.R_below (by (with_reducible repeat (first | apply Kd.R_alloc | apply Kd.R_drewN | apply Kd.R_drew)); exact HO123.out) hb)
             have n4_ := Aside0.mk (Kd.R_below (by (with_reducible repeat (first | apply Kd.R_alloc | apply Kd.R_drewN | apply Kd.R_drew)); exact HO127.out) hb)
             have n5_ := Aside0.mk (Kd.R_below (by (with_reducible repeat (first | apply Kd.R_alloc | apply Kd.R_drewN | apply Kd.R_drew)); exact HO131.out) hb)
             have n6_ := Aside0.mk (blk_below (g := gb112) (o := .cells #[.int .i64 t101, .int .u64 t102, .int .i64 t103, .int .i64 t104, .int .u32 t105, .slice Ao24 t106.length co24, .slice Ao25 t109.length co25] 28 (0, 0)) (by (with_reducible repeat (first | refine blk_drewN ?_ _ | refine blk_drew ?_ | refine blk_alloc ?_ _)); exact BK112.out) hb)
             have n7_ := Aside0.mk (blk_below (g := gb124) (o := .cells #[.int .i64 t113, .int .u64 t114, .int .i64 t115, .int .i64 t116, .int .u32 t117, .slice Ao31 t118.length co31, .slice Ao32 t121.length co32] 28 (0, 0)) (by (with_reducible repeat (first | refine blk_drewN ?_ _ | refine blk_drew ?_ | refine blk_alloc ?_ _)); exact BK124.out) hb)
             have n8_ := Aside0.mk (blk_below (g := gb133) (o := .cells #[.int .i64 6, .int .u64 a0, .int .i64 0, .int .i64 0, .int .u32 0, .slice none 0 0, .slice none 0 0] 28 (0, 0)) (by (with_reducible repeat (first | refine blk_drewN ?_ _ | refine blk_drew ?_ | refine blk_alloc ?_ _)); exact BK133.out) hb)
             have n9_ := Aside0.mk (below_step (by repeat (first | (with_reducible first | exact HB.out | apply below_alloc | apply pw_below_drewN | apply below_drew1 | refine below_set ?_ GE112.out | refine below_set ?_ GE124.out | refine below_set ?_ GE133.out) | exact HB.out)) hb)
             clear HO108
             clear HO111
             clear HO120
             clear HO123
             clear HO127
             clear HO131
             clear BK112
             clear BK124
             clear BK133
             clear HB
             have HO108 := n0_
             have HO111 := n1_
             have HO120 := n2_
             have HO123 := n3_
             have HO127 := n4_
             have HO131 := n5_
             have BK112 := n6_
             have BK124 := n7_
             have BK133 := n8_
             have HB := n9_
             clear n0_ n1_ n2_ n3_ n4_ n5_ n6_ n7_ n8_ n9_
             (try clear hb)
             (try clear hb2)
             (try clear hk)
             (try clear hi)
             refine hK.out _ _ ⟨(blk_cell BK112.out 0).trans rfl, (blk_cell BK112.out 1).trans rfl, (blk_cell BK112.out 2).trans rfl, (blk_cell BK112.out 3).trans rfl, (blk_cell BK112.out 4).trans rfl, (blk_cell BK112.out 5).trans rfl, (blk_cell BK112.out 6).trans rfl, (blk_cell BK124.out 0).trans rfl, (blk_cell BK124.out 1).trans rfl, (blk_cell BK124.out 2).trans rfl, (blk_cell BK124.out 3).trans rfl, (blk_cell BK124.out 4).trans rfl, (blk_cell BK124.out 5).trans rfl, (blk_cell BK124.out 6).trans rfl, (blk_cell BK133.out 0).trans rfl, (blk_cell BK133.out 1).trans rfl, (blk_cell BK133.out 2).trans rfl, (blk_cell BK133.out 3).trans rfl, (blk_cell BK133.out 4).trans rfl, (blk_cell BK133.out 5).trans rfl, (blk_cell BK133.out 6).trans rfl, (own_string (P := Try.prog) Try.underlying25 Try.underlying5 Try.underlying9 (Kd.own_of_R (by (with_reducible repeat (first | apply Kd.R_alloc | apply Kd.R_drewN | apply Kd.R_drew)); exact HO127.out))), (own_string (P := Try.prog) Try.underlying25 Try.underlying5 Try.underlying9 (Kd.own_of_R (by (with_reducible repeat (first | apply Kd.R_alloc | apply Kd.R_drewN | apply Kd.R_drew)); exact HO131.out)))⟩ (fun hHeld => ?_)
             clear hK K
             refine norm_ (a' := ?_) ?_ ?_
             rotate_left
             · show Act.put _ (some 48) _ = _
               simp only [Act.put, List.setIfInBounds_toArray, List.set_cons_zero, List.set_cons_succ, i64_w, i32_w]
               rfl
             refine pure_ (i := 1) (N := some 49) (v := ?_) (a' := ?_) #[true, true, false, false, false, false, false, false, false, false, false, false, false, false, false, false, false, false, false, false, false, false, false, false, false, false, false, false, false, false, false, false, false, false] rfl rfl (any_of HT_.out (by kernel_rfl)) (fun _ _ _ h => h) (Or.inl ⟨by rfl, ?_⟩) ?_ ?_
             rotate_left
             · intro w'
               go_simp
               with_reducible rfl
             rotate_left
             · simp only [Act.put, List.setIfInBounds_toArray, List.set_cons_zero, List.set_cons_succ, i64_w, i32_w]
               rfl
             refine pure_ (i := 2) (N := some 50) (v := ?_) (a' := ?_) #[true, true, true, false, false, false, false, false, false, false, false, false, false, false, false, false, false, false, false, false, false, false, false, false, false, false, false, false, false, false, false, false, false, false] rfl rfl (any_of HT_.out (by kernel_rfl)) (fun _ _ _ h => h) (Or.inl ⟨by rfl, ?_⟩) ?_ ?_
             rotate_left
             · intro w'
               go_simp
               with_reducible rfl
             rotate_left
             · simp only [Act.put, List.setIfInBounds_toArray, List.set_cons_zero, List.set_cons_succ, i64_w, i32_w]
               rfl
             refine pure_ (i := 3) (N := some 51) (v := ?_) (a' := ?_) #[true, true, true, true, false, false, false, false, false, false, false, false, false, false, false, false, false, false, false, false, false, false, false, false, false, false, false, false, false, false, false, false, false, false] rfl rfl (any_of HT_.out (by kernel_rfl)) (fun _ _ _ h => h) (Or.inl ⟨by rfl, ?_⟩) ?_ ?_
             rotate_left
             · intro w'
               go_simp
               with_reducible rfl
             rotate_left
             · simp only [Act.put, List.setIfInBounds_toArray, List.set_cons_zero, List.set_cons_succ, i64_w, i32_w]
               rfl
             refine pure_ (i := 4) (N := some 52) (v := ?_) (a' := ?_) #[true, true, true, true, true, false, false, false, false, false, false, false, false, false, false, false, false, false, false, false, false, false, false, false, false, false, false, false, false, false, false, false, false, false] rfl rfl (any_of HT_.out (by kernel_rfl)) (fun _ _ _ h => h) (Or.inl ⟨by rfl, ?_⟩) ?_ ?_
             rotate_left
             · intro w'
               go_simp
               with_reducible rfl
             rotate_left
             · simp only [Act.put, List.setIfInBounds_toArray, List.set_cons_zero, List.set_cons_succ, i64_w, i32_w]
               rfl
             refine pure_ (i := 5) (N := some 53) (v := ?_) (a' := ?_) #[true, true, true, true, true, true, false, false, false, false, false, false, false, false, false, false, false, false, false, false, false, false, false, false, false, false, false, false, false, false, false, false, false, false] rfl rfl (any_of HT_.out (by kernel_rfl)) (fun _ _ _ h => h) (Or.inl ⟨by rfl, ?_⟩) ?_ ?_
             rotate_left
             · intro w'
               go_simp
               with_reducible rfl
             rotate_left
             · simp only [Act.put, List.setIfInBounds_toArray, List.set_cons_zero, List.set_cons_succ, i64_w, i32_w]
               rfl
             refine pure_ (i := 6) (N := some 54) (v := ?_) (a' := ?_) #[true, true, true, true, true, true, true, false, false, false, false, false, false, false, false, false, false, false, false, false, false, false, false, false, false, false, false, false, false, false, false, false, false, false] rfl rfl (any_of HT_.out (by kernel_rfl)) (fun _ _ _ h => h) (Or.inl ⟨by rfl, ?_⟩) ?_ ?_
             rotate_left
             · intro w'
               go_simp
               with_reducible rfl
             rotate_left
             · simp only [Act.put, List.setIfInBounds_toArray, List.set_cons_zero, List.set_cons_succ, i64_w, i32_w]
               rfl
             refine pure_ (i := 7) (N := some 55) (v := ?_) (a' := ?_) #[true, true, true, true, true, true, true, true, false, false, false, false, false, false, false, false, false, false, false, false, false, false, false, false, false, false, false, false, false, false, false, false, false, false] rfl rfl (any_of HT_.out (by kernel_rfl)) (fun _ _ _ h => h) (Or.inl ⟨by rfl, ?_⟩) ?_ ?_
             rotate_left
             · intro w'
               go_simp
               with_reducible rfl
             rotate_left
             · simp only [Act.put, List.setIfInBounds_toArray, List.set_cons_zero, List.set_cons_succ, i64_w, i32_w]
               rfl
             refine pure_ (i := 8) (N := some 56) (v := ?_) (a' := ?_) #[true, true, true, true, true, true, true, true, true, false, false, false, false, false, false, false, false, false, false, false, false, false, false, false, false, false, false, false, false, false, false, false, false, false] rfl rfl (any_of HT_.out (by kernel_rfl)) (fun _ _ _ h => h) (Or.inl ⟨by rfl, ?_⟩) ?_ ?_
             rotate_left
             · intro w'
               go_simp
               with_reducible rfl
             rotate_left
             · simp only [Act.put, List.setIfInBounds_toArray, List.set_cons_zero, List.set_cons_succ, i64_w, i32_w]
               rfl
             refine pure_ (i := 9) (N := some 57) (v := ?_) (a' := ?_) #[true, true, true, true, true, true, true, true, true, true, false, false, false, false, false, false, false, false, false, false, false, false, false, false, false, false, false, false, false, false, false, false, false, false] rfl rfl (any_of HT_.out (by kernel_rfl)) (fun _ _ _ h => h) (Or.inl ⟨by rfl, ?_⟩) ?_ ?_
             rotate_left
             · intro w'
               go_simp
               with_reducible rfl
             rotate_left
             · simp only [Act.put, List.setIfInBounds_toArray, List.set_cons_zero, List.set_cons_succ, i64_w, i32_w]
               rfl
             refine pure_ (i := 13) (N := some 61) (v := ?_) (a' := ?_) #[true, true, true, true, true, true, true, true, true, true, false, false, false, true, false, false, false, false, false, false, false, false, false, false, false, false, false, false, false, false, false, false, false, false] rfl rfl (any_of HT_.out (by kernel_rfl)) (fun _ _ _ h => h) (Or.inl ⟨by rfl, ?_⟩) ?_ ?_
             rotate_left
             · intro w'
               go_simp
               with_reducible rfl
             rotate_left
             · simp only [Act.put, List.setIfInBounds_toArray, List.set_cons_zero, List.set_cons_succ, i64_w, i32_w]
               rfl
             refine pure_ (i := 15) (N := some 63) (v := ?_) (a' := ?_) #[true, true, true, true, true, true, true, true, true, true, false, false, false, true, false, true, false, false, false, false, false, false, false, false, false, false, false, false, false, false, false, false, false, false] rfl rfl (any_of HT_.out (by kernel_rfl)) (fun _ _ _ h => h) (Or.inl ⟨by rfl, ?_⟩) ?_ ?_
             rotate_left
             · intro w'
               go_simp
               with_reducible rfl
             rotate_left
             · simp only [Act.put, List.setIfInBounds_toArray, List.set_cons_zero, List.set_cons_succ, i64_w, i32_w]
               rfl
             refine take_ (i := 10) (N := some 58) (v := ?_) (a' := ?_) #[true, true, true, true, true, true, true, true, true, true, true, false, false, true, false, true, false, false, false, false, false, false, false, false, false, false, false, false, false, false, false, false, false, false] rfl rfl (take_ofW HT_.out HW_.out (by kernel_rfl)) (fun _ _ _ h => h) (Or.inl ⟨by rfl, ?_⟩) hHeld ?_ ?_
             rotate_left
             · rintro w' ⟨s0, s1, s2, s3, s4, s5, s6, s7, s8, s9, s10, s11, s12, s13, s14, s15, s16, s17, s18, s19, s20, s21, s22⟩
               go_simp
               with_reducible rfl
             rotate_left
             · simp only [Act.put, List.setIfInBounds_toArray, List.set_cons_zero, List.set_cons_succ, i64_w, i32_w]
               rfl
             refine take_ (i := 11) (N := some 59) (v := ?_) (a' := ?_) #[true, true, true, true, true, true, true, true, true, true, true, true, false, true, false, true, false, false, false, false, false, false, false, false, false, false, false, false, false, false, false, false, false, false] rfl rfl (take_ofW HT_.out HW_.out (by kernel_rfl)) (fun _ _ _ h => h) (Or.inl ⟨by rfl, ?_⟩) hHeld ?_ ?_
             rotate_left
             · rintro w' ⟨s0, s1, s2, s3, s4, s5, s6, s7, s8, s9, s10, s11, s12, s13, s14, s15, s16, s17, s18, s19, s20, s21, s22⟩
               go_simp
               with_reducible rfl
             rotate_left
             · simp only [Act.put, List.setIfInBounds_toArray, List.set_cons_zero, List.set_cons_succ, i64_w, i32_w]
               rfl
             refine take_ (i := 14) (N := some 62) (v := ?_) (a' := ?_) #[true, true, true, true, true, true, true, true, true, true, true, true, false, true, true, true, false, false, false, false, false, false, false, false, false, false, false, false, false, false, false, false, false, false] rfl rfl (take_ofW HT_.out HW_.out (by kernel_rfl)) (fun _ _ _ h => h) (Or.inl ⟨by rfl, ?_⟩) hHeld ?_ ?_
             rotate_left
             · rintro w' ⟨s0, s1, s2, s3, s4, s5, s6, s7, s8, s9, s10, s11, s12, s13, s14, s15, s16, s17, s18, s19, s20, s21, s22⟩
               go_simp
               with_reducible rfl
             rotate_left
             · simp only [Act.put, List.setIfInBounds_toArray, List.set_cons_zero, List.set_cons_succ, i64_w, i32_w]
               rfl
             refine take_ (i := 16) (N := some 64) (v := ?_) (a' := ?_) #[true, true, true, true, true, true, true, true, true, true, true, true, false, true, true, true, true, false, false, false, false, false, false, false, false, false, false, false, false, false, false, false, false, false] rfl rfl (take_ofW HT_.out HW_.out (by kernel_rfl)) (fun _ _ _ h => h) (Or.inl ⟨by rfl, ?_⟩) hHeld ?_ ?_
             rotate_left
             · rintro w' ⟨s0, s1, s2, s3, s4, s5, s6, s7, s8, s9, s10, s11, s12, s13, s14, s15, s16, s17, s18, s19, s20, s21, s22⟩
               go_simp
               with_reducible rfl
             rotate_left
             · simp only [Act.put, List.setIfInBounds_toArray, List.set_cons_zero, List.set_cons_succ, i64_w, i32_w]
               rfl
             refine pure_ (i := 17) (N := some 65) (v := ?_) (a' := ?_) #[true, true, true, true, true, true, true, true, true, true, true, true, false, true, true, true, true, true, false, false, false, false, false, false, false, false, false, false, false, false, false, false, false, false] rfl rfl (any_of HT_.out (by kernel_rfl)) (fun _ _ _ h => h) (Or.inl ⟨by rfl, ?_⟩) ?_ ?_
             rotate_left
             · intro w'
               go_simp
               with_reducible rfl
             rotate_left
             · simp only [Act.put, List.setIfInBounds_toArray, List.set_cons_zero, List.set_cons_succ, i64_w, i32_w]
               rfl
             refine one_ (i := 12) (N := some 60) #[true, true, true, true, true, true, true, true, true, true, true, true, true, true, true, true, true, true, false, false, false, false, false, false, false, false, false, false, false, false, false, false, false, false] rfl rfl (one_of HT_.out (by kernel_rfl)) (by decide) (fun K hK => ?_)
             refine goes_ Try.func18 (by kernel_rfl) rfl #[.agg #[.int .i64 t101, .int .u64 t102, .int .i64 t103, .int .i64 t104, .int .u32 t105, .slice Ao24 t106.length co24, .slice Ao25 t109.length co25], .agg #[.int .i64 t113, .int .u64 t114, .int .i64 t115, .int .i64 t116, .int .u32 t117, .slice Ao31 t118.length co31, .slice Ao32 t121.length co32]] (by rfl) rfl rfl (by (try simp only [List.map_toArray, List.map_cons, List.map_nil]); first | done | rfl | (simp only [List.length_drop, List.length_take]; rfl)) ?_
             with_reducible refine (pack_Same.calls t101 t102 t103 t104 t105 _ _ t106 _ _ t109 t113 t114 t115 t116 t117 _ _ t118 _ _ t121 t135 _ ?side1 ?side2 ?side3 ?side4 ?side5 ?side6 ?side7 ?side8 A16.out).mono ?_
             (case side1 => repeat (first | exact (Kd.R_reads' HO108.out).2.2 | (with_reducible refine Kd.C_alloc ?_ _) | (with_reducible refine Kd.C_drewN ?_ _) | (with_reducible refine Kd.C_drew ?_)))
             (case side2 => exact (Kd.R_reads' HO108.out).2.1)
             (case side3 => repeat (first | exact (Kd.R_reads' HO111.out).2.2 | (with_reducible refine Kd.C_alloc ?_ _) | (with_reducible refine Kd.C_drewN ?_ _) | (with_reducible refine Kd.C_drew ?_)))
             (case side4 => exact (Kd.R_reads' HO111.out).2.1)
             (case side5 => repeat (first | exact (Kd.R_reads' HO120.out).2.2 | (with_reducible refine Kd.C_alloc ?_ _) | (with_reducible refine Kd.C_drewN ?_ _) | (with_reducible refine Kd.C_drew ?_)))
             (case side6 => exact (Kd.R_reads' HO120.out).2.1)
             (case side7 => repeat (first | exact (Kd.R_reads' HO123.out).2.2 | (with_reducible refine Kd.C_alloc ?_ _) | (with_reducible refine Kd.C_drewN ?_ _) | (with_reducible refine Kd.C_drew ?_)))
             (case side8 => exact (Kd.R_reads' HO123.out).2.1)
             rintro e w44 ⟨rfl, hb⟩
             refine ⟨_, rfl, ?_⟩
             have n0_ := Aside0.mk (Kd.R_below (by (with_reducible repeat (first | apply Kd.R_alloc | apply Kd.R_drewN | apply Kd.R_drew)); exact HO108.out) hb)
             have n1_ := Aside0.mk (Kd.R_below (by (with_reducible repeat (first | apply Kd.R_alloc | apply Kd.R_drewN | apply Kd.R_drew)); exact HO111.out) hb)
             have n2_ := Aside0.mk (Kd.R_below (by (with_reducible repeat (first | apply Kd.R_alloc | apply Kd.R_drewN | apply Kd.R_drew)); exact HO120.out) hb)
             have n3_ := Aside0.mk (Kd.R_below (by (with_reducible repeat (first | apply Kd.R_alloc | apply Kd.R_drewN | apply Kd.R_drew)); exact HO123.out) hb)
             have n4_ := Aside0.mk (Kd.R_below (by (with_reducible repeat (first | apply Kd.R_alloc | apply Kd.R_drewN | apply Kd.R_drew)); exact HO127.out) hb)
             have n5_ := Aside0.mk (Kd.R_below (by (with_reducible repeat (first | apply Kd.R_alloc | apply Kd.R_drewN | apply Kd.R_drew)); exact HO131.out) hb)
             have n6_ := Aside0.mk (blk_below (g := gb112) (o := .cells #[.int .i64 t101, .int .u64 t102, .int .i64 t103, .int .i64 t104, .int .u32 t105, .slice Ao24 t106.length co24, .slice Ao25 t109.length co25] 28 (0, 0)) (by (with_reducible repeat (first | refine blk_drewN ?_ _ | refine blk_drew ?_ | refine blk_alloc ?_ _)); exact BK112.out) hb)
             have n7_ := Aside0.mk (blk_below (g := gb124) (o := .cells #[.int .i64 t113, .int .u64 t114, .int .i64 t115, .int .i64 t116, .int .u32 t117, .slice Ao31 t118.length co31, .slice Ao32 t121.length co32] 28 (0, 0)) (by (with_reducible repeat (first | refine blk_drewN ?_ _ | refine blk_drew ?_ | refine blk_alloc ?_ _)); exact BK124.out) hb)
             have n8_ := Aside0.mk (blk_below (g := gb133) (o := .cells #[.int .i64 6, .int .u64 a0, .int .i64 0, .int .i64 0, .int .u32 0, .slice none 0 0, .slice none 0 0] 28 (0, 0)) (by (with_reducible repeat (first | refine blk_drewN ?_ _ | refine blk_drew ?_ | refine blk_alloc ?_ _)); exact BK133.out) hb)
             have n9_ := Aside0.mk (below_step (by repeat (first | (with_reducible first | exact HB.out | apply below_alloc | apply pw_below_drewN | apply below_drew1 | refine below_set ?_ GE112.out | refine below_set ?_ GE124.out | refine below_set ?_ GE133.out) | exact HB.out)) hb)
             clear HO108
             clear HO111
             clear HO120
             clear HO123
             clear HO127
             clear HO131
             clear BK112
             clear BK124
             clear BK133
             clear HB
             have HO108 := n0_
             have HO111 := n1_
             have HO120 := n2_
             have HO123 := n3_
             have HO127 := n4_
             have HO131 := n5_
             have BK112 := n6_
             have BK124 := n7_
             have BK133 := n8_
             have HB := n9_
             clear n0_ n1_ n2_ n3_ n4_ n5_ n6_ n7_ n8_ n9_
             (try clear hb)
             (try clear hb2)
             (try clear hk)
             (try clear hi)
             refine hK.out _ _ ⟨(blk_cell BK112.out 0).trans rfl, (blk_cell BK112.out 1).trans rfl, (blk_cell BK112.out 2).trans rfl, (blk_cell BK112.out 3).trans rfl, (blk_cell BK112.out 4).trans rfl, (blk_cell BK112.out 5).trans rfl, (blk_cell BK112.out 6).trans rfl, (blk_cell BK124.out 0).trans rfl, (blk_cell BK124.out 1).trans rfl, (blk_cell BK124.out 2).trans rfl, (blk_cell BK124.out 3).trans rfl, (blk_cell BK124.out 4).trans rfl, (blk_cell BK124.out 5).trans rfl, (blk_cell BK124.out 6).trans rfl, (blk_cell BK133.out 0).trans rfl, (blk_cell BK133.out 1).trans rfl, (blk_cell BK133.out 2).trans rfl, (blk_cell BK133.out 3).trans rfl, (blk_cell BK133.out 4).trans rfl, (blk_cell BK133.out 5).trans rfl, (blk_cell BK133.out 6).trans rfl, (own_string (P := Try.prog) Try.underlying25 Try.underlying5 Try.underlying9 (Kd.own_of_R (by (with_reducible repeat (first | apply Kd.R_alloc | apply Kd.R_drewN | apply Kd.R_drew)); exact HO127.out))), (own_string (P := Try.prog) Try.underlying25 Try.underlying5 Try.underlying9 (Kd.own_of_R (by (with_reducible repeat (first | apply Kd.R_alloc | apply Kd.R_drewN | apply Kd.R_drew)); exact HO131.out)))⟩ (fun hHeld => ?_)
             clear hK K
             refine norm_ (a' := ?_) ?_ ?_
             rotate_left
             · show Act.put _ (some 60) _ = _
               simp only [Act.put, List.setIfInBounds_toArray, List.set_cons_zero, List.set_cons_succ, i64_w, i32_w]
               rfl
             refine pure_ (i := 18) (N := some 66) (v := ?_) (a' := ?_) #[true, true, true, true, true, true, true, true, true, true, true, true, true, true, true, true, true, true, true, false, false, false, false, false, false, false, false, false, false, false, false, false, false, false] rfl rfl (any_of HT_.out (by kernel_rfl)) (fun _ _ _ h => h) (Or.inl ⟨by rfl, ?_⟩) ?_ ?_
             rotate_left
             · intro w'
               go_simp
               with_reducible rfl
             rotate_left
             · simp only [Act.put, List.setIfInBounds_toArray, List.set_cons_zero, List.set_cons_succ, i64_w, i32_w]
               rfl
             refine pure_ (i := 19) (N := some 67) (v := ?_) (a' := ?_) #[true, true, true, true, true, true, true, true, true, true, true, true, true, true, true, true, true, true, true, true, false, false, false, false, false, false, false, false, false, false, false, false, false, false] rfl rfl (any_of HT_.out (by kernel_rfl)) (fun _ _ _ h => h) (Or.inl ⟨by rfl, ?_⟩) ?_ ?_
             rotate_left
             · intro w'
               go_simp
               with_reducible rfl
             rotate_left
             · simp only [Act.put, List.setIfInBounds_toArray, List.set_cons_zero, List.set_cons_succ, i64_w, i32_w]
               rfl
             refine pure_ (i := 20) (N := some 68) (v := ?_) (a' := ?_) #[true, true, true, true, true, true, true, true, true, true, true, true, true, true, true, true, true, true, true, true, true, false, false, false, false, false, false, false, false, false, false, false, false, false] rfl rfl (any_of HT_.out (by kernel_rfl)) (fun _ _ _ h => h) (Or.inl ⟨by rfl, ?_⟩) ?_ ?_
             rotate_left
             · intro w'
               go_simp
               with_reducible rfl
             rotate_left
             · simp only [Act.put, List.setIfInBounds_toArray, List.set_cons_zero, List.set_cons_succ, i64_w, i32_w]
               rfl
             refine take_ (i := 21) (N := some 69) (v := ?_) (a' := ?_) #[true, true, true, true, true, true, true, true, true, true, true, true, true, true, true, true, true, true, true, true, true, true, false, false, false, false, false, false, false, false, false, false, false, false] rfl rfl (take_ofW HT_.out HW_.out (by kernel_rfl)) (fun _ _ _ h => h) (Or.inl ⟨by rfl, ?_⟩) hHeld ?_ ?_
             rotate_left
             · rintro w' ⟨s0, s1, s2, s3, s4, s5, s6, s7, s8, s9, s10, s11, s12, s13, s14, s15, s16, s17, s18, s19, s20, s21, s22⟩
               go_simp
               with_reducible rfl
             rotate_left
             · simp only [Act.put, List.setIfInBounds_toArray, List.set_cons_zero, List.set_cons_succ, i64_w, i32_w]
               rfl
             refine take_ (i := 22) (N := some 70) (v := ?_) (a' := ?_) #[true, true, true, true, true, true, true, true, true, true, true, true, true, true, true, true, true, true, true, true, true, true, true, false, false, false, false, false, false, false, false, false, false, false] rfl rfl (take_ofW HT_.out HW_.out (by kernel_rfl)) (fun _ _ _ h => h) (Or.inl ⟨by rfl, ?_⟩) hHeld ?_ ?_
             rotate_left
             · rintro w' ⟨s0, s1, s2, s3, s4, s5, s6, s7, s8, s9, s10, s11, s12, s13, s14, s15, s16, s17, s18, s19, s20, s21, s22⟩
               go_simp
               with_reducible rfl
             rotate_left
             · simp only [Act.put, List.setIfInBounds_toArray, List.set_cons_zero, List.set_cons_succ, i64_w, i32_w]
               rfl
             refine one_ (i := 23) (N := some 71) #[true, true, true, true, true, true, true, true, true, true, true, true, true, true, true, true, true, true, true, true, true, true, true, true, false, false, false, false, false, false, false, false, false, false] rfl rfl (one_of HT_.out (by kernel_rfl)) (by decide) (fun K hK => ?_)
             refine goes_ Try.func18 (by kernel_rfl) rfl #[.agg #[.int .i64 t113, .int .u64 t114, .int .i64 t115, .int .i64 t116, .int .u32 t117, .slice Ao31 t118.length co31, .slice Ao32 t121.length co32], .agg #[.int .i64 t113, .int .u64 t114, .int .i64 t115, .int .i64 t116, .int .u32 t117, .slice Ao31 t118.length co31, .slice Ao32 t121.length co32]] (by rfl) rfl rfl (by (try simp only [List.map_toArray, List.map_cons, List.map_nil]); first | done | rfl | (simp only [List.length_drop, List.length_take]; rfl)) ?_
             with_reducible refine (pack_Same.calls t113 t114 t115 t116 t117 _ _ t118 _ _ t121 t113 t114 t115 t116 t117 _ _ t118 _ _ t121 true _ ?side1 ?side2 ?side3 ?side4 ?side5 ?side6 ?side7 ?side8 A18.out).mono ?_
             (case side1 => repeat (first | exact (Kd.R_reads' HO120.out).2.2 | (with_reducible refine Kd.C_alloc ?_ _) | (with_reducible refine Kd.C_drewN ?_ _) | (with_reducible refine Kd.C_drew ?_)))
             (case side2 => exact (Kd.R_reads' HO120.out).2.1)
             (case side3 => repeat (first | exact (Kd.R_reads' HO123.out).2.2 | (with_reducible refine Kd.C_alloc ?_ _) | (with_reducible refine Kd.C_drewN ?_ _) | (with_reducible refine Kd.C_drew ?_)))
             (case side4 => exact (Kd.R_reads' HO123.out).2.1)
             (case side5 => repeat (first | exact (Kd.R_reads' HO120.out).2.2 | (with_reducible refine Kd.C_alloc ?_ _) | (with_reducible refine Kd.C_drewN ?_ _) | (with_reducible refine Kd.C_drew ?_)))
             (case side6 => exact (Kd.R_reads' HO120.out).2.1)
             (case side7 => repeat (first | exact (Kd.R_reads' HO123.out).2.2 | (with_reducible refine Kd.C_alloc ?_ _) | (with_reducible refine Kd.C_drewN ?_ _) | (with_reducible refine Kd.C_drew ?_)))
             (case side8 => exact (Kd.R_reads' HO123.out).2.1)
             rintro e w48 ⟨rfl, hb⟩
             refine ⟨_, rfl, ?_⟩
             have n0_ := Aside0.mk (Kd.R_below (by (with_reducible repeat (first | apply Kd.R_alloc | apply Kd.R_drewN | apply Kd.R_drew)); exact HO108.out) hb)
             have n1_ := Aside0.mk (Kd.R_below (by (with_reducible repeat (first | apply Kd.R_alloc | apply Kd.R_drewN | apply Kd.R_drew)); exact HO111.out) hb)
             have n2_ := Aside0.mk (Kd.R_below (by (with_reducible repeat (first | apply Kd.R_alloc | apply Kd.R_drewN | apply Kd.R_drew)); exact HO120.out) hb)
             have n3_ := Aside0.mk (Kd.R_below (by (with_reducible repeat (first | apply Kd.R_alloc | apply Kd.R_drewN | apply Kd.R_drew)); exact HO123.out) hb)
             have n4_ := Aside0.mk (Kd.R_below (by (with_reducible repeat (first | apply Kd.R_alloc | apply Kd.R_drewN | apply Kd.R_drew)); exact HO127.out) hb)
             have n5_ := Aside0.mk (Kd.R_below (by (with_reducible repeat (first | apply Kd.R_alloc | apply Kd.R_drewN | apply Kd.R_drew)); exact HO131.out) hb)
             have n6_ := Aside0.mk (blk_below (g := gb112) (o := .cells #[.int .i64 t101, .int .u64 t102, .int .i64 t103, .int .i64 t104, .int .u32 t105, .slice Ao24 t106.length co24, .slice Ao25 t109.length co25] 28 (0, 0)) (by (with_reducible repeat (first | refine blk_drewN ?_ _ | refine blk_drew ?_ | refine blk_alloc ?_ _)); exact BK112.out) hb)
             have n7_ := Aside0.mk (blk_below (g := gb124) (o := .cells #[.int .i64 t113, .int .u64 t114, .int .i64 t115, .int .i64 t116, .int .u32 t117, .slice Ao31 t118.length co31, .slice Ao32 t121.length co32] 28 (0, 0)) (by (with_reducible repeat (first | refine blk_drewN ?_ _ | refine blk_drew ?_ | refine blk_alloc ?_ _)); exact BK124.out) hb)
             have n8_ := Aside0.mk (blk_below (g := gb133) (o := .cells #[.int .i64 6, .int .u64 a0, .int .i64 0, .int .i64 0, .int .u32 0, .slice none 0 0, .slice none 0 0] 28 (0, 0)) (by (with_reducible repeat (first | refine blk_drewN ?_ _ | refine blk_drew ?_ | refine blk_alloc ?_ _)); exact BK133.out) hb)
             have n9_ := Aside0.mk (below_step (by repeat (first | (with_reducible first | exact HB.out | apply below_alloc | apply pw_below_drewN | apply below_drew1 | refine below_set ?_ GE112.out | refine below_set ?_ GE124.out | refine below_set ?_ GE133.out) | exact HB.out)) hb)
             clear HO108
             clear HO111
             clear HO120
             clear HO123
             clear HO127
             clear HO131
             clear BK112
             clear BK124
             clear BK133
             clear HB
             have HO108 := n0_
             have HO111 := n1_
             have HO120 := n2_
             have HO123 := n3_
             have HO127 := n4_
             have HO131 := n5_
             have BK112 := n6_
             have BK124 := n7_
             have BK133 := n8_
             have HB := n9_
             clear n0_ n1_ n2_ n3_ n4_ n5_ n6_ n7_ n8_ n9_
             (try clear hb)
             (try clear hb2)
             (try clear hk)
             (try clear hi)
             refine hK.out _ _ ⟨(blk_cell BK112.out 0).trans rfl, (blk_cell BK112.out 1).trans rfl, (blk_cell BK112.out 2).trans rfl, (blk_cell BK112.out 3).trans rfl, (blk_cell BK112.out 4).trans rfl, (blk_cell BK112.out 5).trans rfl, (blk_cell BK112.out 6).trans rfl, (blk_cell BK124.out 0).trans rfl, (blk_cell BK124.out 1).trans rfl, (blk_cell BK124.out 2).trans rfl, (blk_cell BK124.out 3).trans rfl, (blk_cell BK124.out 4).trans rfl, (blk_cell BK124.out 5).trans rfl, (blk_cell BK124.out 6).trans rfl, (blk_cell BK133.out 0).trans rfl, (blk_cell BK133.out 1).trans rfl, (blk_cell BK133.out 2).trans rfl, (blk_cell BK133.out 3).trans rfl, (blk_cell BK133.out 4).trans rfl, (blk_cell BK133.out 5).trans rfl, (blk_cell BK133.out 6).trans rfl, (own_string (P := Try.prog) Try.underlying25 Try.underlying5 Try.underlying9 (Kd.own_of_R (by (with_reducible repeat (first | apply Kd.R_alloc | apply Kd.R_drewN | apply Kd.R_drew)); exact HO127.out))), (own_string (P := Try.prog) Try.underlying25 Try.underlying5 Try.underlying9 (Kd.own_of_R (by (with_reducible repeat (first | apply Kd.R_alloc | apply Kd.R_drewN | apply Kd.R_drew)); exact HO131.out)))⟩ (fun hHeld => ?_)
             clear hK K
             refine norm_ (a' := ?_) ?_ ?_
             rotate_left
             · show Act.put _ (some 71) _ = _
               simp only [Act.put, List.setIfInBounds_toArray, List.set_cons_zero, List.set_cons_succ, i64_w, i32_w]
               rfl
             refine pure_ (i := 24) (N := some 72) (v := ?_) (a' := ?_) #[true, true, true, true, true, true, true, true, true, true, true, true, true, true, true, true, true, true, true, true, true, true, true, true, true, false, false, false, false, false, false, false, false, false] rfl rfl (any_of HT_.out (by kernel_rfl)) (fun _ _ _ h => h) (Or.inl ⟨by rfl, ?_⟩) ?_ ?_
             rotate_left
             · intro w'
               go_simp
               with_reducible rfl
             rotate_left
             · simp only [Act.put, List.setIfInBounds_toArray, List.set_cons_zero, List.set_cons_succ, i64_w, i32_w]
               rfl
             refine pure_ (i := 25) (N := some 73) (v := ?_) (a' := ?_) #[true, true, true, true, true, true, true, true, true, true, true, true, true, true, true, true, true, true, true, true, true, true, true, true, true, true, false, false, false, false, false, false, false, false] rfl rfl (any_of HT_.out (by kernel_rfl)) (fun _ _ _ h => h) (Or.inl ⟨by rfl, ?_⟩) ?_ ?_
             rotate_left
             · intro w'
               go_simp
               with_reducible rfl
             rotate_left
             · simp only [Act.put, List.setIfInBounds_toArray, List.set_cons_zero, List.set_cons_succ, i64_w, i32_w]
               rfl
             refine pure_ (i := 27) (N := some 75) (v := ?_) (a' := ?_) #[true, true, true, true, true, true, true, true, true, true, true, true, true, true, true, true, true, true, true, true, true, true, true, true, true, true, false, true, false, false, false, false, false, false] rfl rfl (any_of HT_.out (by kernel_rfl)) (fun _ _ _ h => h) (Or.inl ⟨by rfl, ?_⟩) ?_ ?_
             rotate_left
             · intro w'
               go_simp
               with_reducible rfl
             rotate_left
             · simp only [Act.put, List.setIfInBounds_toArray, List.set_cons_zero, List.set_cons_succ, i64_w, i32_w]
               rfl
             refine pure_ (i := 28) (N := some 76) (v := ?_) (a' := ?_) #[true, true, true, true, true, true, true, true, true, true, true, true, true, true, true, true, true, true, true, true, true, true, true, true, true, true, false, true, true, false, false, false, false, false] rfl rfl (any_of HT_.out (by kernel_rfl)) (fun _ _ _ h => h) (Or.inl ⟨by rfl, ?_⟩) ?_ ?_
             rotate_left
             · intro w'
               go_simp
               with_reducible rfl
             rotate_left
             · simp only [Act.put, List.setIfInBounds_toArray, List.set_cons_zero, List.set_cons_succ, i64_w, i32_w]
               rfl
             refine pure_ (i := 29) (N := some 77) (v := ?_) (a' := ?_) #[true, true, true, true, true, true, true, true, true, true, true, true, true, true, true, true, true, true, true, true, true, true, true, true, true, true, false, true, true, true, false, false, false, false] rfl rfl (any_of HT_.out (by kernel_rfl)) (fun _ _ _ h => h) (Or.inl ⟨by rfl, ?_⟩) ?_ ?_
             rotate_left
             · intro w'
               go_simp
               with_reducible rfl
             rotate_left
             · simp only [Act.put, List.setIfInBounds_toArray, List.set_cons_zero, List.set_cons_succ, i64_w, i32_w]
               rfl
             refine take_ (i := 26) (N := some 74) (v := ?_) (a' := ?_) #[true, true, true, true, true, true, true, true, true, true, true, true, true, true, true, true, true, true, true, true, true, true, true, true, true, true, true, true, true, true, false, false, false, false] rfl rfl (take_ofW HT_.out HW_.out (by kernel_rfl)) (fun _ _ _ h => h) (Or.inl ⟨by rfl, ?_⟩) hHeld ?_ ?_
             rotate_left
             · rintro w' ⟨s0, s1, s2, s3, s4, s5, s6, s7, s8, s9, s10, s11, s12, s13, s14, s15, s16, s17, s18, s19, s20, s21, s22⟩
               go_simp
               with_reducible rfl
             rotate_left
             · simp only [Act.put, List.setIfInBounds_toArray, List.set_cons_zero, List.set_cons_succ, i64_w, i32_w]
               rfl
             refine one_ (i := 30) (N := some 78) #[true, true, true, true, true, true, true, true, true, true, true, true, true, true, true, true, true, true, true, true, true, true, true, true, true, true, true, true, true, true, true, false, false, false] rfl rfl (one_of HT_.out (by kernel_rfl)) (by decide) (fun K hK => ?_)
             refine goes_ Try.func18 (by kernel_rfl) rfl #[.agg #[.int .i64 6, .int .u64 a0, .int .i64 0, .int .i64 0, .int .u32 0, .slice none 0 0, .slice none 0 0], .agg #[.int .i64 6, .int .u64 (IntKind.u64.wrap (a0 + 1)), .int .i64 0, .int .i64 0, .int .u32 0, .slice none 0 0, .slice none 0 0]] (by rfl) rfl rfl (by (try simp only [List.map_toArray, List.map_cons, List.map_nil]); first | done | rfl | (simp only [List.length_drop, List.length_take]; rfl)) ?_
             refine (pack_Same.calls 6 a0 0 0 0 _ _ ([] : List Int) _ _ ([] : List Int) 6 (IntKind.u64.wrap (a0 + 1)) 0 0 0 _ _ ([] : List Int) _ _ ([] : List Int) t137 _ ?side1 ?side2 ?side3 ?side4 ?side5 ?side6 ?side7 ?side8 A20.out).mono ?_
             (case side1 => exact Kd.C_nil _ _)
             (case side2 => exact Nat.le_refl _)
             (case side3 => exact Kd.C_nil _ _)
             (case side4 => exact Nat.le_refl _)
             (case side5 => exact Kd.C_nil _ _)
             (case side6 => exact Nat.le_refl _)
             (case side7 => exact Kd.C_nil _ _)
             (case side8 => exact Nat.le_refl _)
             rintro e w49 ⟨rfl, hb⟩
             refine ⟨_, rfl, ?_⟩
             have n0_ := Aside0.mk (Kd.R_below (by (with_reducible repeat (first | apply Kd.R_alloc | apply Kd.R_drewN | apply Kd.R_drew)); exact HO108.out) hb)
             have n1_ := Aside0.mk (Kd.R_below (by (with_reducible repeat (first | apply Kd.R_alloc | apply Kd.R_drewN | apply Kd.R_drew)); exact HO111.out) hb)
             have n2_ := Aside0.mk (Kd.R_below (by (with_reducible repeat (first | apply Kd.R_alloc | apply Kd.R_drewN | apply Kd.R_drew)); exact HO120.out) hb)
             have n3_ := Aside0.mk (Kd.R_below (by (with_reducible repeat (first | apply Kd.R_alloc | apply Kd.R_drewN | apply Kd.R_drew)); exact HO123.out) hb)
             have n4_ := Aside0.mk (Kd.R_below (by (with_reducible repeat (first | apply Kd.R_alloc | apply Kd.R_drewN | apply Kd.R_drew)); exact HO127.out) hb)
             have n5_ := Aside0.mk (Kd.R_below (by (with_reducible repeat (first | apply Kd.R_alloc | apply Kd.R_drewN | apply Kd.R_drew)); exact HO131.out) hb)
             have n6_ := Aside0.mk (blk_below (g := gb112) (o := .cells #[.int .i64 t101, .int .u64 t102, .int .i64 t103, .int .i64 t104, .int .u32 t105, .slice Ao24 t106.length co24, .slice Ao25 t109.length co25] 28 (0, 0)) (by (with_reducible repeat (first | refine blk_drewN ?_ _ | refine blk_drew ?_ | refine blk_alloc ?_ _)); exact BK112.out) hb)
             have n7_ := Aside0.mk (blk_below (g := gb124) (o := .cells #[.int .i64 t113, .int .u64 t114, .int .i64 t115, .int .i64 t116, .int .u32 t117, .slice Ao31 t118.length co31, .slice Ao32 t121.length co32] 28 (0, 0)) (by (with_reducible repeat (first | refine blk_drewN ?_ _ | refine blk_drew ?_ | refine blk_alloc ?_ _)); exact BK124.out) hb)
             have n8_ := Aside0.mk (blk_below (g := gb133) (o := .cells #[.int .i64 6, .int .u64 a0, .int .i64 0, .int .i64 0, .int .u32 0, .slice none 0 0, .slice none 0 0] 28 (0, 0)) (by (with_reducible repeat (first | refine blk_drewN ?_ _ | refine blk_drew ?_ | refine blk_alloc ?_ _)); exact BK133.out) hb)
             have n9_ := Aside0.mk (below_step (by repeat (first | (with_reducible first | exact HB.out | apply below_alloc | apply pw_below_drewN | apply below_drew1 | refine below_set ?_ GE112.out | refine below_set ?_ GE124.out | refine below_set ?_ GE133.out) | exact HB.out)) hb)
             clear HO108
             clear HO111
             clear HO120
             clear HO123
             clear HO127
             clear HO131
             clear BK112
             clear BK124
             clear BK133
             clear HB
             have HO108 := n0_
             have HO111 := n1_
             have HO120 := n2_
             have HO123 := n3_
             have HO127 := n4_
             have HO131 := n5_
             have BK112 := n6_
             have BK124 := n7_
             have BK133 := n8_
             have HB := n9_
             clear n0_ n1_ n2_ n3_ n4_ n5_ n6_ n7_ n8_ n9_
             (try clear hb)
             (try clear hb2)
             (try clear hk)
             (try clear hi)
             refine hK.out _ _ ⟨(blk_cell BK112.out 0).trans rfl, (blk_cell BK112.out 1).trans rfl, (blk_cell BK112.out 2).trans rfl, (blk_cell BK112.out 3).trans rfl, (blk_cell BK112.out 4).trans rfl, (blk_cell BK112.out 5).trans rfl, (blk_cell BK112.out 6).trans rfl, (blk_cell BK124.out 0).trans rfl, (blk_cell BK124.out 1).trans rfl, (blk_cell BK124.out 2).trans rfl, (blk_cell BK124.out 3).trans rfl, (blk_cell BK124.out 4).trans rfl, (blk_cell BK124.out 5).trans rfl, (blk_cell BK124.out 6).trans rfl, (blk_cell BK133.out 0).trans rfl, (blk_cell BK133.out 1).trans rfl, (blk_cell BK133.out 2).trans rfl, (blk_cell BK133.out 3).trans rfl, (blk_cell BK133.out 4).trans rfl, (blk_cell BK133.out 5).trans rfl, (blk_cell BK133.out 6).trans rfl, (own_string (P := Try.prog) Try.underlying25 Try.underlying5 Try.underlying9 (Kd.own_of_R (by (with_reducible repeat (first | apply Kd.R_alloc | apply Kd.R_drewN | apply Kd.R_drew)); exact HO127.out))), (own_string (P := Try.prog) Try.underlying25 Try.underlying5 Try.underlying9 (Kd.own_of_R (by (with_reducible repeat (first | apply Kd.R_alloc | apply Kd.R_drewN | apply Kd.R_drew)); exact HO131.out)))⟩ (fun hHeld => ?_)
             clear hK K
             refine norm_ (a' := ?_) ?_ ?_
             rotate_left
             · show Act.put _ (some 78) _ = _
               simp only [Act.put, List.setIfInBounds_toArray, List.set_cons_zero, List.set_cons_succ, i64_w, i32_w]
               rfl
             refine pure_ (i := 31) (N := some 79) (v := ?_) (a' := ?_) #[true, true, true, true, true, true, true, true, true, true, true, true, true, true, true, true, true, true, true, true, true, true, true, true, true, true, true, true, true, true, true, true, false, false] rfl rfl (any_of HT_.out (by kernel_rfl)) (fun _ _ _ h => h) (Or.inl ⟨by rfl, ?_⟩) ?_ ?_
             rotate_left
             · intro w'
               go_simp
               with_reducible rfl
             rotate_left
             · simp only [Act.put, List.setIfInBounds_toArray, List.set_cons_zero, List.set_cons_succ, i64_w, i32_w]
               rfl
             refine pure_ (i := 32) (N := some 80) (v := ?_) (a' := ?_) #[true, true, true, true, true, true, true, true, true, true, true, true, true, true, true, true, true, true, true, true, true, true, true, true, true, true, true, true, true, true, true, true, true, false] rfl rfl (any_of HT_.out (by kernel_rfl)) (fun _ _ _ h => h) (Or.inl ⟨by rfl, ?_⟩) ?_ ?_
             rotate_left
             · intro w'
               go_simp
               with_reducible rfl
             rotate_left
             · simp only [Act.put, List.setIfInBounds_toArray, List.set_cons_zero, List.set_cons_succ, i64_w, i32_w]
               rfl
             refine pure_ (i := 33) (N := some 12) (v := ?_) (a' := ?_) #[true, true, true, true, true, true, true, true, true, true, true, true, true, true, true, true, true, true, true, true, true, true, true, true, true, true, true, true, true, true, true, true, true, true] rfl rfl (any_of HT_.out (by kernel_rfl)) (fun _ _ _ h => h) (Or.inl ⟨by rfl, ?_⟩) ?_ ?_
             rotate_left
             · intro w'
               go_simp
               with_reducible rfl
             rotate_left
             · simp only [Act.put, List.setIfInBounds_toArray, List.set_cons_zero, List.set_cons_succ, i64_w, i32_w]
               rfl
             refine done_ (done_of HT_.out (by kernel_rfl)) ?_
             try go_wp2
             go_ret
             exact ⟨by first | rfl | (simp [errW_none, errW_some] <;> rfl) | (simp [*, errW_none, errW_some] <;> rfl), by repeat (first | (with_reducible first | exact HB.out | apply below_alloc | apply pw_below_drewN | apply below_drew1 | refine below_set ?_ GE112.out | refine below_set ?_ GE124.out | refine below_set ?_ GE133.out) | exact HB.out)⟩
           · replace c19 := Bool.eq_false_iff.mpr c19
             subst c19
             have H1 : (some false) = some r := by rw [if_neg (show ¬ (false = true) by decide)] at H; exact H
             clear H
             have H := H1
             clear H1
             exact absurd H (by rw [hr_.out]; simp)
         · rw [if_neg c17] at H
           have c17b0 : (t135 == ((strOfNums t125).toList == (strOfNums t129).toList)) = false := by simpa using c17
           (try (have c17b1 : decide (t135 = ((strOfNums t125).toList == (strOfNums t129).toList)) = false := by simpa using c17))
           (try (have c17b2 : (t135 == ((strOfNums t125).toList == (strOfNums t129).toList)) = false := by simpa using c17))
           (try (have c17b3 : ¬ (t135 = ((strOfNums t125).toList == (strOfNums t129).toList)) := by simpa using c17))
           clear c17
           exact absurd H (by rw [hr_.out]; simp)
       · rw [if_neg c15] at H
         have c15b0 : (t132 == 0) = false := beq_eq_false_iff_ne.mpr c15
         have c15b1 : (t132 != 0) = true := bne_iff_ne.mpr c15
         exact absurd H (by rw [hr_.out]; simp)
     · rw [if_neg c14] at H
       have c14b0 : (t128 == 0) = false := beq_eq_false_iff_ne.mpr c14
       have c14b1 : (t128 != 0) = true := bne_iff_ne.mpr c14
       exact absurd H (by rw [hr_.out]; simp)
   · replace c13 := Bool.eq_false_iff.mpr c13
     subst c13
     have H1 : (some false) = some r := by rw [if_neg (show ¬ (false = true) by decide)] at H; exact H
     clear H
     have H := H1
     clear H1
     exact absurd H (by rw [hr_.out]; simp)

/-- THE ONE PURE STATEMENT of scullerlaw13_PackSame: yours. -/
def scullerlaw13_PackSame.Pure : Prop := ∀ (a0 : Int) (a1 : Int) (l2 : List Int) (l3 : List Int) (a4 : Int) (a5 : Int), (Lit.int .u64 a0).wf = true → (Lit.int .u64 a1).wf = true → l2.length ≤ maxLen → l2.length * 1 ≤ 140737488351232 → (∀ x ∈ l2, (Lit.int .u8 x).wf = true) → l3.length ≤ maxLen → l3.length * 1 ≤ 140737488351232 → (∀ x ∈ l3, (Lit.int .u8 x).wf = true) → (Lit.int .u8 a4).wf = true → (Lit.int .u8 a5).wf = true → scullerlaw13_PackSame.f a0 a1 l2 l3 a4 a5 = some true
theorem scullerlaw13_PackSame.walk (P : scullerlaw13_PackSame.Pure) (a0 : Int) (a1 : Int) (a2 : Option Addr) (len2 cap2 : Nat) (z2 : List Int) (a3 : Option Addr) (len3 cap3 : Nat) (z3 : List Int) (a4 : Int) (a5 : Int) (w : World) (w0 : (Lit.int .u64 a0).wf = true) (w1 : (Lit.int .u64 a1).wf = true) (w2 : (a2 = none ∧ len2 = 0 ∧ cap2 = 0 ∧ z2 = []) ∨ ∃ x, a2 = some x ∧ len2 ≤ cap2 ∧ cap2 ≤ maxLen ∧ z2.length = cap2 ∧ (∀ i, i < z2.length → w.cell? (x.add i) = some (.int .u8 (z2.getD i 0))) ∧ ∀ n ∈ z2, (Lit.int .u8 n).wf = true) (y2 : len2 * 1 ≤ 140737488351232) (w3 : (a3 = none ∧ len3 = 0 ∧ cap3 = 0 ∧ z3 = []) ∨ ∃ x, a3 = some x ∧ len3 ≤ cap3 ∧ cap3 ≤ maxLen ∧ z3.length = cap3 ∧ (∀ i, i < z3.length → w.cell? (x.add i) = some (.int .u8 (z3.getD i 0))) ∧ ∀ n ∈ z3, (Lit.int .u8 n).wf = true) (y3 : len3 * 1 ≤ 140737488351232) (w4 : (Lit.int .u8 a4).wf = true) (w5 : (Lit.int .u8 a5).wf = true) :
 Calls Try.prog 8 #[.int .u64 a0, .int .u64 a1, .slice a2 len2 cap2, .slice a3 len3 cap3, .int .u8 a4, .int .u8 a5] w fun e w' => e = .returned (.bool true) ∧ Below w.heap.size w w' := by
 obtain ⟨l2, rfl, hr2, hm2, hw2, hc2⟩ := ReadsInt.ofRowC w2
 obtain ⟨l3, rfl, hr3, hm3, hw3, hc3⟩ := ReadsInt.ofRowC w3
 have h := P a0 a1 l2 l3 a4 a5 w0 w1 hm2 y2 hw2 hm3 y3 hw3 w4 w5
 refine (scullerlaw13_PackSame.calls a0 a1 _ _ l2 _ _ l3 a4 a5 true w (Kd.C_of_reads (d := (0 : Int)) (h1 := fun _ => rfl) hr2) hc2 (Kd.C_of_reads (d := (0 : Int)) (h1 := fun _ => rfl) hr3) hc3 h ⟨rfl⟩).mono ?_
 rintro e w' ⟨rfl, hd⟩
 exact ⟨rfl, hd⟩

end Go.Proofs.Ytoooceaoggkeeaa.F
end

section
/- The statements' own arenas: they fit, and what is cut from their bytes is they again. No program in sight. -/
namespace Go.Proofs.Ytoooceaoggkeeaa.H
set_option linter.unusedVariables false
set_option linter.unusedSimpArgs false
end Go.Proofs.Ytoooceaoggkeeaa.H
end

section
/- Numbers in the bounds of their kinds. -/
namespace Go.Proofs.Ytoooceaoggkeeaa.Pure
open Go.RowKit Go.Proofs.Ytoooceaoggkeeaa.H
theorem byte_wf {x : Int} (h : (Lit.int .u8 x).wf = true) : 0 ≤ x ∧ x ≤ 255 := by
 simp [Lit.wf, IntKind.min, IntKind.max, IntKind.signed, IntKind.bits] at h
 omega
theorem bytes_wf {l : List Int} (h : ∀ x ∈ l, (Lit.int .u8 x).wf = true) : bytesB l = true := bytesB_of fun x hx => byte_wf (h x hx)
end Go.Proofs.Ytoooceaoggkeeaa.Pure
end

section
/- One byte another one: the checksum is another one. No program in sight. -/
namespace Go.Proofs.Ytoooceaoggkeeaa.H
set_option linter.unusedVariables false
theorem sealL_length (l : List Int) : (sealL l).length = l.length + 4 := by rw [sealL, List.length_append, putL_length]
end Go.Proofs.Ytoooceaoggkeeaa.H
end

section
/- What a datagram's bytes are parsed as. -/
namespace Go.Proofs.Ytoooceaoggkeeaa.Pure
set_option linter.unusedVariables false
open Go.RowKit Go.Proofs.Ytoooceaoggkeeaa.F Go.Proofs.Ytoooceaoggkeeaa.H Go.Proofs.YtoooceaoggkeeaaW.PrintWords Go.Proofs.YtoooceaoggkeeaaW.PrintLast Go.Proofs.YtoooceaoggkeeaaW.PrintMore
theorem known13 : scullerlaw13_known_c.f = some true := rfl
theorem mid_at (P M R : List Int) (a c : Nat) (ha : P.length = a) (hc : a + M.length = c) : midL (P ++ (M ++ R)) a c = M := by
 unfold midL
 rw [← List.append_assoc, List.take_left' (by rw [List.length_append]; omega), List.drop_left' ha]
theorem flat2_drop : ∀ (l : List Int) (i : Nat), (l.flatMap fun n => putL n 2).drop (2 * i) = (l.drop i).flatMap fun n => putL n 2
 | _, 0 => rfl
 | [], i + 1 => by simp
 | x :: l, i + 1 => by
   rw [List.flatMap_cons, show 2 * (i + 1) = 2 + 2 * i from by omega, ← List.drop_drop, List.drop_left' (putL_length x 2), flat2_drop l i, List.drop_succ_cons]
theorem pairsL_flat (sizes : List Int) (h : ∀ x ∈ sizes, 0 ≤ x ∧ x ≤ 65535) : pairsL (sizes.flatMap fun n => putL n 2) = sizes := by
 have e : chunkN 2 (2 * sizes.length) = sizes.length := by unfold chunkN; omega
 unfold pairsL
 rw [flat2_len, e]
 apply List.ext_getElem
 · rw [List.length_map, List.length_range]
 · intro i h1 h2
   have hx := h _ (List.getElem_mem h2)
   rw [List.getElem_map, List.getElem_range, flat2_drop, drop_at sizes i h2, List.flatMap_cons, List.take_left' (putL_length _ 2), getL_putL 2 _ hx.1 (by omega)]
theorem frontG_eq (k s i o m : Int) (R : List Int) : frontG k s i o m ++ R = putL k 1 ++ (putL s 8 ++ (putL i 2 ++ (putL o 2 ++ (putL m 4 ++ R)))) := by simp [frontG, List.append_assoc]
theorem gramB_length (k s i o m : Int) (sizes body : List Int) : (gramB k s i o m sizes body).length = 17 + 2 * sizes.length + body.length := by
 unfold gramB
 rw [List.length_append, List.length_append, frontG_length, flat2_len]
 omega
/-- A datagram's fields, in their bounds. -/
structure GOk (k s i o m : Int) (sizes body : List Int) : Prop where
 k0 : 0 ≤ k ∧ k ≤ 255
 s0 : 0 ≤ s ∧ s < 18446744073709551616
 i0 : 0 ≤ i ∧ i ≤ 65535
 o0 : 0 ≤ o ∧ o ≤ 65535
 m0 : 0 ≤ m ∧ m < 4294967296
 z0 : ∀ x ∈ sizes, 0 ≤ x ∧ x ≤ 65535
 b0 : bytesB body = true
 one : k = 1 → body = []
 two : k ≠ 1 → sizes = []
 zl : sizes.length ≤ 1000
 bl : body.length ≤ 1000
theorem rightG_at {k i o : Int} {sizes body : List Int} (h : rightG k i o sizes body = true) : (1 ≤ k ∧ k ≤ 8) ∧ (0 ≤ i ∧ i ≤ 65535) ∧ (0 ≤ o ∧ o ≤ 65535) ∧ sizes.length ≤ 4 ∧ body.length ≤ 64 ∧ (∀ x ∈ sizes, 0 ≤ x ∧ x ≤ 4096) ∧ (k = 1 → body = []) ∧ (k ≠ 1 → sizes = []) := by
 have hk := kinds_small k
 simp only [rightG, isKindB, Bool.and_eq_true, decide_eq_true_eq, Bool.not_eq_true'] at h
 obtain ⟨⟨⟨⟨⟨⟨⟨h1, h2⟩, h3⟩, h4⟩, h5⟩, h6⟩, h7⟩, h8⟩ := h
 refine ⟨h1, ⟨h2, h4⟩, ⟨h3, h5⟩, by omega, by omega, fun x hx => badS_any h8 x hx, ?_, ?_⟩
 · intro e
   rw [e, hasL, if_pos rfl] at h7
   exact List.eq_nil_of_length_eq_zero (by omega)
 · intro e
   refine List.eq_nil_of_length_eq_zero ?_
   unfold hasL at h6
   rw [if_neg e] at h6
   split at h6 <;> omega
theorem parseE_seal {k s i o m : Int} {sizes body : List Int} (h : GOk k s i o m sizes body) : parseE (sealL (gramB k s i o m sizes body)) = (k, s, i, o, m, sizes, body) := by
 have hl := gramB_length k s i o m sizes body
 have hsl := sealL_length (gramB k s i o m sizes body)
 obtain ⟨C, hC⟩ : ∃ C, putL (sumL (gramB k s i o m sizes body)) 4 = C := ⟨_, rfl⟩
 obtain ⟨Z, hZ⟩ : ∃ Z, (sizes.flatMap fun n => putL n 2) ++ body = Z := ⟨_, rfl⟩
 have hZl : Z.length = 2 * sizes.length + body.length := by rw [← hZ, List.length_append, flat2_len]
 have eb : sealL (gramB k s i o m sizes body) = putL k 1 ++ (putL s 8 ++ (putL i 2 ++ (putL o 2 ++ (putL m 4 ++ (Z ++ C))))) := by
  rw [sealL, hC, gramB, hZ, List.append_assoc, frontG_eq]
 have e1 : getL (midL (sealL (gramB k s i o m sizes body)) 1 9) = s := by
  rw [eb, mid_at (putL k 1) (putL s 8) _ 1 9 (putL_length _ _) (by rw [putL_length]), getL_putL 8 s h.s0.1 (by have := h.s0.2; omega)]
 have e2 : getL (midL (sealL (gramB k s i o m sizes body)) 9 11) = i := by
  rw [eb, ← List.append_assoc, mid_at (putL k 1 ++ putL s 8) (putL i 2) _ 9 11 (by simp only [List.length_append, putL_length]) (by rw [putL_length]), getL_putL 2 i h.i0.1 (by have := h.i0.2; omega)]
 have e3 : getL (midL (sealL (gramB k s i o m sizes body)) 11 13) = o := by
  rw [eb, ← List.append_assoc, ← List.append_assoc, mid_at (putL k 1 ++ putL s 8 ++ putL i 2) (putL o 2) _ 11 13 (by simp only [List.length_append, putL_length]) (by rw [putL_length]), getL_putL 2 o h.o0.1 (by have := h.o0.2; omega)]
 have e4 : getL (midL (sealL (gramB k s i o m sizes body)) 13 17) = m := by
  rw [eb, ← List.append_assoc, ← List.append_assoc, ← List.append_assoc, mid_at (putL k 1 ++ putL s 8 ++ putL i 2 ++ putL o 2) (putL m 4) _ 13 17 (by simp only [List.length_append, putL_length]) (by rw [putL_length]), getL_putL 4 m h.m0.1 (by have := h.m0.2; omega)]
 have e5 : restG (sealL (gramB k s i o m sizes body)) = Z := by
  rw [restG, hsl, hl, eb, ← List.append_assoc, ← List.append_assoc, ← List.append_assoc, ← List.append_assoc, mid_at (putL k 1 ++ putL s 8 ++ putL i 2 ++ putL o 2 ++ putL m 4) Z C 17 _ (by simp only [List.length_append, putL_length]) (by rw [hZl]; omega)]
 have e0 : (sealL (gramB k s i o m sizes body)).getD 0 0 = k := by
  rw [eb]
  show (putL k 1 ++ _).getD 0 0 = k
  have : putL k 1 = [k] := by
   rw [putL_succ, putL_zero]
   congr 1
   have := h.k0
   omega
  rw [this]
  rfl
 rw [parseE, e0, e1, e2, e3, e4, e5]
 by_cases hk : k = 1
 · rw [if_pos hk, if_pos hk, ← hZ, h.one hk, List.append_nil, pairsL_flat sizes h.z0]
 · rw [if_neg hk, if_neg hk, ← hZ, h.two hk]
   rfl
theorem gok_of_right {k s i o m : Int} {sizes body : List Int} (h : rightG k i o sizes body = true) (hs : 0 ≤ s ∧ s < 18446744073709551616) (hm : 0 ≤ m ∧ m < 4294967296) (hb : bytesB body = true) : GOk k s i o m sizes body := by
 obtain ⟨h1, h2, h3, h4, h5, h6, h7, h8⟩ := rightG_at h
 exact ⟨by omega, hs, h2, h3, hm, fun x hx => by have := h6 x hx; omega, hb, h7, h8, by omega, by omega⟩
theorem seal_byte (k s i o m : Int) (sizes : List Int) {body : List Int} (h : bytesB body = true) : bytesB (sealL (gramB k s i o m sizes body)) = true := sealL_byte _ (gramB_byte _ _ _ _ _ _ _ h)
theorem encode_is {k s i o m : Int} {sizes body : List Int} (hz : sizes.length ≤ 1000000) (hl : body.length ≤ 1000000) (hb : bytesB body = true) (hm : 0 ≤ m ∧ m < 4294967296) : pack_Encode.f k s i o m sizes body = some (encodeG k s i o m sizes body) := by
 rw [pack_Encode.f, if_pos ⟨hz, hl, hb, hm.1, hm.2⟩]
theorem encode_right {k s i o m : Int} {sizes body : List Int} (h : rightG k i o sizes body = true) (hb : bytesB body = true) (hm : 0 ≤ m ∧ m < 4294967296) : pack_Encode.f k s i o m sizes body = some (sealL (gramB k s i o m sizes body), 0) := by
 obtain ⟨h1, h2, h3, h4, h5, h6, h7, h8⟩ := rightG_at h
 rw [encode_is (by omega) (by omega) hb hm, encodeG, if_pos h]
/-- The statements' datagram may be. -/
theorem gramC_right {s m i o : Int} {c : List Int} {k : Int} (hi : 0 ≤ i ∧ i ≤ 65535) (ho : 0 ≤ o ∧ o ≤ 65535) (hk : 0 ≤ k ∧ k ≤ 230) :
 gramC s m i o c k = (1 + k % 8, s, i, o, m, if k % 8 = 0 then sizesG c else [], if 1 ≤ k % 8 ∧ k % 8 ≤ 3 then c.take 64 else []) ∧ rightG (1 + k % 8) i o (if k % 8 = 0 then sizesG c else []) (if 1 ≤ k % 8 ∧ k % 8 ≤ 3 then c.take 64 else []) = true := by
 constructor
 · rw [gramC, if_neg (by omega), if_neg (by omega)]
 · have hsl := sizesG_length c
   have hbs : (sizesG c).any badS = false := by
    rw [List.any_eq_false]
    intro x hx
    have := sizesG_at c x hx
    simp only [badS, Bool.or_eq_true, decide_eq_true_eq]
    omega
   have ht : (c.take 64).length ≤ 64 := by rw [List.length_take]; omega
   simp only [rightG, isKindB, Bool.and_eq_true, decide_eq_true_eq, Bool.not_eq_true']
   refine ⟨⟨⟨⟨⟨⟨⟨⟨by omega, by omega⟩, hi.1⟩, ho.1⟩, hi.2⟩, ho.2⟩, ?_⟩, ?_⟩, ?_⟩
   · unfold hasL
     by_cases h0 : k % 8 = 0
     · rw [if_pos h0, if_pos (by omega)]
       dsimp only
       omega
     · rw [if_neg h0, if_neg (by omega)]
       split <;> simp
   · unfold hasL
     by_cases h0 : 1 ≤ k % 8 ∧ k % 8 ≤ 3
     · rw [if_pos h0, if_neg (by omega), if_pos (by omega)]
       dsimp only
       omega
     · rw [if_neg h0]
       split
       · simp
       · split <;> simp
   · split
     · exact hbs
     · rfl
theorem gram_is {s m i o : Int} {c : List Int} {k : Int} (hb : bytesB c = true) (hl : c.length ≤ 140737488351232) (hi : 0 ≤ i ∧ i ≤ 65535) (ho : 0 ≤ o ∧ o ≤ 65535) (hk : 0 ≤ k ∧ k ≤ 255) : scullerlaw13_Gram_c.f s m i o c k = some (gramC s m i o c k) :=
 if_pos ⟨hb, hl, hi.1, hi.2, ho.1, ho.2, hk.1, hk.2⟩
theorem body_byte {c : List Int} (hb : bytesB c = true) (p : Prop) [Decidable p] : bytesB (if p then c.take 64 else []) = true := by
 split
 · exact bytesB_take hb 64
 · rfl
theorem u64_wf {x : Int} (h : (Lit.int .u64 x).wf = true) : 0 ≤ x ∧ x < 18446744073709551616 := by
 simp [Lit.wf, IntKind.min, IntKind.max, IntKind.signed, IntKind.bits] at h
 omega
end Go.Proofs.Ytoooceaoggkeeaa.Pure
end

section
/- Two datagrams are the same just if their bytes are. -/
namespace Go.Proofs.Ytoooceaoggkeeaa.Pure
open Go.RowKit Go.Proofs.Ytoooceaoggkeeaa.F Go.Proofs.Ytoooceaoggkeeaa.H Go.Proofs.YtoooceaoggkeeaaW.PrintWords Go.Proofs.YtoooceaoggkeeaaW.PrintLast Go.Proofs.YtoooceaoggkeeaaW.PrintMore
theorem same_eq (k s i o m : Int) (z b : List Int) (k' s' i' o' m' : Int) (z' b' : List Int) (hz : z.length ≤ 1000000) (hb : bytesB b = true) (hb' : bytesB b' = true) :
 pack_Same.f k s i o m z b k' s' i' o' m' z' b' = some (decide (k = k' ∧ s = s' ∧ i = i' ∧ o = o' ∧ m = m' ∧ z = z' ∧ b = b')) := by
 rw [pack_Same.f, slices_Equal_int_int_c.f, if_pos hz, Option.bind_some, bytes_Equal.f, strs_beq b b' hb hb', Option.bind_some]
 by_cases e1 : k = k'
 · rw [if_pos e1]
   by_cases e2 : s = s'
   · rw [if_pos e2]
     by_cases e3 : i = i'
     · rw [if_pos e3]
       by_cases e4 : o = o'
       · rw [if_pos e4]
         by_cases e5 : m = m'
         · rw [if_pos e5]
           by_cases e6 : z = z'
           · rw [if_pos (by simpa using e6)]
             simp [e1, e2, e3, e4, e5, e6]
           · rw [if_neg (by simpa using e6)]
             simp [e6]
         · rw [if_neg e5]
           simp [e5]
       · rw [if_neg e4]
         simp [e4]
     · rw [if_neg e3]
       simp [e3]
   · rw [if_neg e2]
     simp [e2]
 · rw [if_neg e1]
   simp [e1]
theorem PackSame : scullerlaw13_PackSame.Pure := by
 intro a0 a1 l2 l3 a4 a5 h0 h1 hl2 hl2' h2 hl3 hl3' h3 h4 h5
 have hs := u64_wf h0
 have ht := u64_wf h1
 have hb2 := bytes_wf h2
 have hb3 := bytes_wf h3
 have hk := byte_wf h4
 have hj := byte_wf h5
 have e4 : Int.tmod a4 8 = a4 % 8 := Int.tmod_eq_emod_of_nonneg hk.1
 have e5 : Int.tmod a5 8 = a5 % 8 := Int.tmod_eq_emod_of_nonneg hj.1
 have e3 : Int.tmod a0 3 = a0 % 3 := Int.tmod_eq_emod_of_nonneg hs.1
 have hq : IntKind.u64.wrap (a0 % 3 + 1) = a0 % 3 + 1 := by simp only [IntKind.wrap, IntKind.signed, IntKind.bits]; simp; omega
 have hu : ∀ x, 0 ≤ IntKind.u64.wrap x ∧ IntKind.u64.wrap x < 18446744073709551616 := fun x => by simp only [IntKind.wrap, IntKind.signed, IntKind.bits]; simp; omega
 obtain ⟨t, htq⟩ : ∃ t, IntKind.u64.wrap (Int.tmod a1 (a0 % 3 + 1) + a0) = t := ⟨_, rfl⟩
 have htt := hu (Int.tmod a1 (a0 % 3 + 1) + a0)
 rw [htq] at htt
 obtain ⟨hge, hgr⟩ := gramC_right (s := a0) (m := 7) (i := 1) (o := 2) (c := l2) (by omega) (by omega) (k := a4 % 8) (by omega)
 obtain ⟨hhe, hhr⟩ := gramC_right (s := t) (m := 7) (i := 1) (o := 2) (c := l3) (by omega) (by omega) (k := a5 % 8) (by omega)
 have hgb := body_byte hb2 (1 ≤ a4 % 8 % 8 ∧ a4 % 8 % 8 ≤ 3)
 have hhb := body_byte hb3 (1 ≤ a5 % 8 % 8 ∧ a5 % 8 % 8 ≤ 3)
 rw [scullerlaw13_PackSame.f, e4, e5, e3, hq, htq, gram_is hb2 (by omega) (by omega) (by omega) (by omega), hge, Option.bind_some, if_neg (show ¬ a0 % 3 + 1 = 0 by omega), gram_is hb3 (by omega) (by omega) (by omega) (by omega), hhe, Option.bind_some]
 dsimp only
 generalize (if a4 % 8 % 8 = 0 then sizesG l2 else []) = z at *
 generalize (if 1 ≤ a4 % 8 % 8 ∧ a4 % 8 % 8 ≤ 3 then l2.take 64 else []) = b at *
 generalize 1 + a4 % 8 % 8 = k at *
 generalize (if a5 % 8 % 8 = 0 then sizesG l3 else []) = z' at *
 generalize (if 1 ≤ a5 % 8 % 8 ∧ a5 % 8 % 8 ≤ 3 then l3.take 64 else []) = b' at *
 generalize 1 + a5 % 8 % 8 = k' at *
 have hra := rightG_at hgr
 have hrb := rightG_at hhr
 have hg := gok_of_right hgr hs (m := 7) (by omega) hgb
 have hh := gok_of_right hhr htt (m := 7) (by omega) hhb
 rw [encode_right hgr hgb (by omega), Option.bind_some, encode_right hhr hhb (by omega), Option.bind_some, known13, Option.bind_some]
 dsimp only
 rw [if_pos rfl, if_pos rfl, if_pos rfl, same_eq k a0 1 2 7 z b k' t 1 2 7 z' b' (by omega) hgb hhb, Option.bind_some, strs_beq _ _ (seal_byte k a0 1 2 7 z hgb) (seal_byte k' t 1 2 7 z' hhb), same_eq k' t 1 2 7 z' b' k' t 1 2 7 z' b' (by omega) hhb hhb]
 have key : (k = k' ∧ a0 = t ∧ (1 : Int) = 1 ∧ (2 : Int) = 2 ∧ (7 : Int) = 7 ∧ z = z' ∧ b = b') ↔ (sealL (gramB k a0 1 2 7 z b) = sealL (gramB k' t 1 2 7 z' b')) := by
  constructor
  · rintro ⟨r1, r2, -, -, -, r3, r4⟩
    rw [r1, r2, r3, r4]
  · intro e
    have h9 := parseE_seal hg
    rw [e, parseE_seal hh] at h9
    simp only [Prod.mk.injEq] at h9
    obtain ⟨r1, r2, -, -, -, r3, r4⟩ := h9
    exact ⟨r1.symm, r2.symm, rfl, rfl, rfl, r3.symm, r4.symm⟩
 have hkey : decide (k = k' ∧ a0 = t ∧ (1 : Int) = 1 ∧ (2 : Int) = 2 ∧ (7 : Int) = 7 ∧ z = z' ∧ b = b') = decide (sealL (gramB k a0 1 2 7 z b) = sealL (gramB k' t 1 2 7 z' b')) := decide_eq_decide.2 key
 rw [hkey, if_pos (by simp), decide_eq_true (show k' = k' ∧ t = t ∧ (1 : Int) = 1 ∧ (2 : Int) = 2 ∧ (7 : Int) = 7 ∧ z' = z' ∧ b' = b' from ⟨rfl, rfl, rfl, rfl, rfl, rfl, rfl⟩), Option.bind_some, if_pos rfl, same_eq 6 a0 0 0 0 [] [] 6 _ 0 0 0 [] [] (by simp) rfl rfl, Option.bind_some]
 have hne : ¬ a0 = IntKind.u64.wrap (a0 + 1) := by
  simp only [IntKind.wrap, IntKind.signed, IntKind.bits]
  simp
  omega
 have : decide ((6 : Int) = 6 ∧ a0 = IntKind.u64.wrap (a0 + 1) ∧ (0 : Int) = 0 ∧ (0 : Int) = 0 ∧ (0 : Int) = 0 ∧ ([] : List Int) = [] ∧ ([] : List Int) = []) = false := decide_eq_false fun e => hne e.2.1
 rw [this]
 rfl
end Go.Proofs.Ytoooceaoggkeeaa.Pure
end
