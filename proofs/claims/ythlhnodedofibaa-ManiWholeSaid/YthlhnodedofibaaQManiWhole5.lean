/- Proved: at every input in bounds the statement ManiWhole of the manifest layer answers yes, the chunks one behind the other are the arena's bytes and the pages its sizes.
Text 5 of 6; functions told as plain ones, with the contracts of their calls. -/
import Derived.Test.YthlhnodedofibaaQManiWhole1
import Derived.Test.YthlhnodedofibaaQManiWhole3
import Derived.Test.YthlhnodedofibaaQManiWhole2
import Derived.Test.YthlhnodedofibaaQManiWhole4
section
namespace Go.Proofs.Ythlhnodedofibaa.F
open Go.RowKit Go.Proofs.YthlhnodedofibaaW.PrintWords Go.Proofs.YthlhnodedofibaaW.PrintLast Go.Proofs.YthlhnodedofibaaW.PrintMore
attribute [local go_sem] max2_int min2_int max_two min_two max_three min_three max_four min_four   -- for this text's walks alone
set_option linter.unusedVariables false
set_option linter.unusedSimpArgs false

/-! ### scullerlaw12_ManiWhole: function 11 -/
mutual
def scullerlaw12_ManiWhole.l0 : Nat → List (List Int) → Int → List Int → Int → Int → List Int → Int → Option (Bool)
  | 0, _, _, _, _, _, _, _ => none
  | k + 1, x9, x11, x12, x13, x111000, x111001, x111002 => (mani_Chunks.f x111000 x111001 x111002).bind fun t111 => (if x13 < t111 then ((mani_Chunk.f x9 x13).bind fun t112 => ((mani_Size.f x111000 x111001 x111002 x13).bind fun t115 => (if (t112.length : Int) = t115 then (if (t112.length : Int) = 0 then (some false) else (if x12.length + t112.length < 140737488355328 then (scullerlaw12_ManiWhole.l0 k x9 x11 (x12 ++ t112) (wrap64 (x13 + 1)) x111000 x111001 x111002) else (none))) else (some false)))) else (scullerlaw12_ManiWhole.l1 k x9 x11 x12 ([] : List (List Int)) 0 x111000 x111001 x111002))
def scullerlaw12_ManiWhole.l1 : Nat → List (List Int) → Int → List Int → List (List Int) → Int → Int → List Int → Int → Option (Bool)
  | 0, _, _, _, _, _, _, _, _ => none
  | k + 1, x9, x11, x12, x15, x16, x111000, x111001, x111002 => (mani_Pages.f x111000 x111001 x111002).bind fun t119 => (if x16 < t119 then ((mani_Page.f x111000 x111001 x111002 x16).bind fun t120 => (if x15.length < 5864062014805 then (scullerlaw12_ManiWhole.l1 k x9 x11 x12 (x15 ++ [t120]) (wrap64 (x16 + 1)) x111000 x111001 x111002) else (none))) else ((mani_Join_c.f x15).bind fun bt126 => ((scullerlaw12_known.f).bind fun t130 => (if t130 = true then (if x11 = 0 then ((scullerref07_Bytes_c.f x9).bind fun t131 => (if (strOfNums x12).toList = (strOfNums t131).toList then (if bt126.2 = true then ((scullerref07_Sizes_c.f x9).bind fun t134 => ((scullerref07_SameInts_c.f bt126.1 t134).bind fun t137 => (if t137 = true then ((mani_Chunks.f x111000 x111001 x111002).bind fun t138 => ((mani_Chunk.f x9 t138).bind fun t139 => (if (t139.length : Int) = 0 then ((mani_Size.f x111000 x111001 x111002 (-1)).bind fun t142 => (some (t142 == 0))) else (some false)))) else (some false)))) else (some false)) else (some false))) else (some false)) else (some false)))))
end
def scullerlaw12_ManiWhole.f (k : Nat) (a0 : Int) (l1 : List Int) (a2 : Int) (a3 : Int) : Option (Bool) := (scullerlaw12_Arena_c.f l1 a2 a3).bind fun t101 => ((mani_Of.f a0 t101).bind fun bt104 => (scullerlaw12_ManiWhole.l0 k t101 bt104.2.2.2 ([] : List Int) 0 bt104.1 bt104.2.1 bt104.2.2.1))
theorem scullerlaw12_ManiWhole.mono_l : ∀ k, (∀ y0 y1 y2 y3 y4 y5 y6, LeO (scullerlaw12_ManiWhole.l0 k y0 y1 y2 y3 y4 y5 y6) (scullerlaw12_ManiWhole.l0 (k + 1) y0 y1 y2 y3 y4 y5 y6)) ∧ (∀ y0 y1 y2 y3 y4 y5 y6 y7, LeO (scullerlaw12_ManiWhole.l1 k y0 y1 y2 y3 y4 y5 y6 y7) (scullerlaw12_ManiWhole.l1 (k + 1) y0 y1 y2 y3 y4 y5 y6 y7))
  | 0 => ⟨fun _ _ _ _ _ _ _ r h => by simp [scullerlaw12_ManiWhole.l0] at h, fun _ _ _ _ _ _ _ _ r h => by simp [scullerlaw12_ManiWhole.l1] at h⟩
  | k + 1 => by
    obtain ⟨ih0, ih1⟩ := scullerlaw12_ManiWhole.mono_l k
    refine ⟨?_, ?_⟩
    · intro y0 y1 y2 y3 y4 y5 y6
      unfold scullerlaw12_ManiWhole.l0
      repeat' first
      | (with_reducible exact ih0 _ _ _ _ _ _ _)
      | (with_reducible exact ih1 _ _ _ _ _ _ _ _)
      | (with_reducible exact LeO.refl _)
      | (with_reducible exact LeO.none _)
      | (with_reducible refine LeO.ite ?_ ?_)
      | (with_reducible refine LeO.bind ?_ (fun _ => ?_))
      | exact ih0 _ _ _ _ _ _ _
      | exact ih1 _ _ _ _ _ _ _ _
      | exact LeO.none _
      | refine LeO.ite ?_ ?_
      | refine LeO.bind ?_ (fun _ => ?_)
    · intro y0 y1 y2 y3 y4 y5 y6 y7
      unfold scullerlaw12_ManiWhole.l1
      repeat' first
      | (with_reducible exact ih0 _ _ _ _ _ _ _)
      | (with_reducible exact ih1 _ _ _ _ _ _ _ _)
      | (with_reducible exact LeO.refl _)
      | (with_reducible exact LeO.none _)
      | (with_reducible refine LeO.ite ?_ ?_)
      | (with_reducible refine LeO.bind ?_ (fun _ => ?_))
      | exact ih0 _ _ _ _ _ _ _
      | exact ih1 _ _ _ _ _ _ _ _
      | exact LeO.none _
      | refine LeO.ite ?_ ?_
      | refine LeO.bind ?_ (fun _ => ?_)
theorem scullerlaw12_ManiWhole.mono : ∀ a0 a1 a2 a3 k, LeO (scullerlaw12_ManiWhole.f k a0 a1 a2 a3) (scullerlaw12_ManiWhole.f (k + 1) a0 a1 a2 a3) := by
  intro a0 a1 a2 a3 k
  obtain ⟨ih0, ih1⟩ := scullerlaw12_ManiWhole.mono_l k
  unfold scullerlaw12_ManiWhole.f
  repeat' first
      | (with_reducible exact ih0 _ _ _ _ _ _ _)
      | (with_reducible exact ih1 _ _ _ _ _ _ _ _)
      | (with_reducible exact LeO.refl _)
      | (with_reducible exact LeO.none _)
      | (with_reducible refine LeO.ite ?_ ?_)
      | (with_reducible refine LeO.bind ?_ (fun _ => ?_))
      | exact ih0 _ _ _ _ _ _ _
      | exact ih1 _ _ _ _ _ _ _ _
      | exact LeO.none _
      | refine LeO.ite ?_ ?_
      | refine LeO.bind ?_ (fun _ => ?_)
def scullerlaw12_ManiWhole.T17 : Bool × List (List Nat × List Nat) := (true, [([], []), ([0, 0], [0]), ([1], [1]), ([2, 1], [1, 2]), ([1, 3], [1, 3]), ([4, 1], [4]), ([5], [5]), ([6, 5], [5, 6]), ([5], [5]), ([8, 5, 5], [5, 8]), ([9, 5], [5, 9]), ([7, 10, 5], [5, 7, 10]), ([5, 11], [5, 11]), ([12, 9], [12]), ([13], [13]), ([13, 14], [13, 14]), ([15, 13], [15]), ([16], [16]), ([16], [16]), ([18, 16, 16], [16, 18]), ([17, 19, 19, 16], [16, 17, 19]), ([16, 20], [16, 20]), ([21, 20], [21]), ([22], [22]), ([22], [22]), ([24, 22, 22], [22, 24]), ([23, 25, 25, 22], [22, 23, 25]), ([26, 22], [22, 26]), ([27, 22], [22, 27]), ([22, 28], [22, 28]), ([29, 26], [29]), ([30], [30]), ([31, 30, 30], [30, 31]), ([32, 30], [30, 32]), ([30, 33], [30, 33]), ([34, 32, 0, 1, 2, 3, 4, 5, 6, 7, 8, 9, 10, 11, 12, 13, 14, 15, 16, 17, 18, 19, 20, 21, 22, 23, 24, 25, 26, 27, 28, 29, 30, 31, 32, 33, 34], [34])])
def scullerlaw12_ManiWhole.B17 : List Nat := [0, 1, 3, 7, 15, 31, 63, 127, 63, 319, 831, 2047, 4095, 8191, 16383, 32767, 65535, 131071, 131071, 393215, 1048575, 2097151, 4194303, 8388607, 8388607, 25165823, 67108863, 134217727, 268435455, 536870911, 1073741823, 2147483647, 4294967295, 8589934591, 17179869183, 34359738367]
theorem scullerlaw12_ManiWhole.tab17 : rtab .any (opsOf Try.f11 17) = scullerlaw12_ManiWhole.T17 := by kernel_rfl
theorem scullerlaw12_ManiWhole.bits17 : waitsOk scullerlaw12_ManiWhole.T17.2 scullerlaw12_ManiWhole.B17 = true := by kernel_rfl
set_option maxHeartbeats 8000000 in
set_option maxRecDepth 100000 in
theorem scullerlaw12_ManiWhole.calls (k : Nat) (a0 : Int) (A1 : Option Addr) (c1 : Nat) (l1 : List Int) (a2 : Int) (a3 : Int) (r : Bool) (w : World) (hr1 : Kd.C (Kd.int .u8) w A1 l1.length l1) (hc1 : l1.length ≤ c1) (h : scullerlaw12_ManiWhole.f k a0 l1 a2 a3 = some r) (hr_ : Aside0 (r = true)) :
    Calls Try.prog 11 #[.int .u64 a0, .slice A1 l1.length c1, .int .u8 a2, .int .u8 a3] w fun e w' => e = .returned (.bool r) ∧ Below w.heap.size w w' := by
  have hu46 := Try.underlying46
  have HR1 := Aside0.mk hr1
  have HC1 := Aside0.mk hc1
  clear hr1 hc1
  have HB := Aside0.mk (Below.refl w.heap.size w)
  have H : ((scullerlaw12_Arena_c.f l1 a2 a3).bind fun t101 => ((mani_Of.f a0 t101).bind fun bt104 => (scullerlaw12_ManiWhole.l0 k t101 bt104.2.2.2 ([] : List Int) 0 bt104.1 bt104.2.1 bt104.2.2.1))) = some r := h
  clear h
  replace H := Option.bind_eq_some_iff.mp H
  obtain ⟨t101, A50, H⟩ := H
  replace H : ((mani_Of.f a0 t101).bind fun bt104 => (scullerlaw12_ManiWhole.l0 k t101 bt104.2.2.2 ([] : List Int) 0 bt104.1 bt104.2.1 bt104.2.2.1)) = some r := H
  have A5 := Aside0.mk A50
  clear A50
  replace H := Option.bind_eq_some_iff.mp H
  obtain ⟨⟨t104, t105, t108, t109⟩, A60, H⟩ := H
  replace H : (scullerlaw12_ManiWhole.l0 k t101 t109 ([] : List Int) 0 t104 t105 t108) = some r := H
  have A6 := Aside0.mk A60
  clear A60
  have H' := Aside0.mk H
  clear H
  go_enter Try.func11, Try.ntmps11
  go_wp2_with (first | ((with_reducible refine gate_callee (f := 23) rfl ?_); refine goesL_ (some 22) rfl rfl Try.func23 (by kernel_rfl) rfl #[.slice A1 l1.length c1, .int .u8 a2, .int .u8 a3] rfl (by (try simp only [List.map_toArray, List.map_cons, List.map_nil]); first | done | rfl | (simp only [List.length_drop, List.length_take]; rfl)) ?_; (with_reducible refine (scullerlaw12_Arena_c.calls _ _ l1 a2 a3 t101 _ ?side1 ?side2 A5.out).mono ?_); (case side1 => repeat (first | exact HR1.out | (with_reducible refine Kd.C_alloc ?_ _) | (with_reducible refine Kd.C_drewN ?_ _) | (with_reducible refine Kd.C_drew ?_))); (case side2 => exact HC1.out); rintro e w7 ⟨v102, rfl, ho0, hb⟩; refine ⟨_, rfl, ?_⟩; have n0_ := Aside0.mk (Kd.S_lower ho0 (below_size (by repeat (first | (with_reducible first | exact HB.out | apply below_alloc | apply pw_below_drewN | apply below_drew1) | exact HB.out)))); have n1_ := Aside0.mk (below_step (by repeat (first | (with_reducible first | exact HB.out | apply below_alloc | apply pw_below_drewN | apply below_drew1) | exact HB.out)) hb); clear HB; have HO103 := n0_; have HB := n1_; clear n0_ n1_; (try clear hb); (try clear hb2); (try clear hk); (try clear hi); (try clear ho0); obtain ⟨Ao8, co8, eo8⟩ := Kd.S_slice HO103.out; subst eo8) | ((with_reducible refine gate_callee (f := 24) rfl ?_); refine goesL_ (some 26) rfl rfl Try.func24 (by kernel_rfl) rfl #[.int .u64 a0, .slice Ao8 t101.length co8] rfl (by (try simp only [List.map_toArray, List.map_cons, List.map_nil]); first | done | rfl | (simp only [List.length_drop, List.length_take]; rfl)) ?_; (with_reducible refine (mani_Of.calls a0 _ _ t101 t104 t105 t108 t109 _ ?side1 ?side2 A6.out).mono ?_); (case side1 => repeat (first | exact (Kd.S_reads' HO103.out).2.2 | (with_reducible refine Kd.C_alloc ?_ _) | (with_reducible refine Kd.C_drewN ?_ _) | (with_reducible refine Kd.C_drew ?_))); (case side2 => exact (Kd.S_reads' HO103.out).2.1); rintro e w9 ⟨v106, rfl, ho0, hb⟩; refine ⟨_, rfl, ?_⟩; have n0_ := Aside0.mk (Kd.S_below (by (with_reducible repeat (first | apply Kd.S_alloc | apply Kd.S_drewN | apply Kd.S_drew)); exact HO103.out) hb); have n1_ := Aside0.mk (Kd.R_lower ho0 (below_size (by repeat (first | (with_reducible first | exact HB.out | apply below_alloc | apply pw_below_drewN | apply below_drew1) | exact HB.out)))); have n2_ := Aside0.mk (below_step (by repeat (first | (with_reducible first | exact HB.out | apply below_alloc | apply pw_below_drewN | apply below_drew1) | exact HB.out)) hb); clear HO103; clear HB; have HO103 := n0_; have HO107 := n1_; have HB := n2_; clear n0_ n1_ n2_; (try clear hb); (try clear hb2); (try clear hk); (try clear hi); (try clear ho0)) | ((with_reducible refine gate_dst (N := 10) rfl ?_); (try (refine gate_guard (by rfl) ?_; dsimp only)); refine box_event ?hg (N := 10) ?hd (cs := #[.int .u64 0, .slice none 0 0, .int .u32 0]) (t := 46) ?hr ?_; (case hd => rfl); (case hg => rfl); (case hr => first | (go_simp; done) | (go_simp; rfl)); intro gb110 hg w10 hbox hb; have n0_ := Aside0.mk (Kd.S_below (by (with_reducible repeat (first | apply Kd.S_alloc | apply Kd.S_drewN | apply Kd.S_drew)); exact HO103.out) hb); have n1_ := Aside0.mk (Kd.R_below (by (with_reducible repeat (first | apply Kd.R_alloc | apply Kd.R_drewN | apply Kd.R_drew)); exact HO107.out) hb); have n2_ := Aside0.mk (below_step (by repeat (first | (with_reducible first | exact HB.out | apply below_alloc | apply pw_below_drewN | apply below_drew1) | exact HB.out)) hb); have n3_ := Aside0.mk (hbox); have n4_ := Aside0.mk ((by rw [hg]; exact (below_size (by repeat (first | (with_reducible first | exact HB.out | apply below_alloc | apply pw_below_drewN | apply below_drew1) | exact HB.out))) : w.heap.size ≤ gb110)); have n5_ := Aside0.mk ((by rw [hg]; exact (below_size (by repeat (first | (with_reducible first | exact HB.out | apply below_alloc | apply pw_below_drewN | apply below_drew1) | exact HB.out))) : w.heap.size ≤ gb110)); clear HO103; clear HO107; clear HB; have HO103 := n0_; have HO107 := n1_; have HB := n2_; have BK110 := n3_; have GW110 := n4_; have GE110 := n5_; clear n0_ n1_ n2_ n3_ n4_ n5_; clear hb hbox hg; have hcz11_0 : w10.cell? ⟨gb110, 0, none⟩ = some (.int .u64 0) := (blk_cell BK110.out 0).trans rfl; have hcz11_1 : w10.cell? ⟨gb110, 1, none⟩ = some (.slice none 0 0) := (blk_cell BK110.out 1).trans rfl; have hcz11_2 : w10.cell? ⟨gb110, 2, none⟩ = some (.int .u32 0) := (blk_cell BK110.out 2).trans rfl; have hfz11_0 := blk_frozen BK110.out 0; have hfz11_1 := blk_frozen BK110.out 1; have hfz11_2 := blk_frozen BK110.out 2; obtain ⟨Ao12, co12, eo12⟩ := Kd.R_slice HO107.out; subst eo12))
  go_loopg [12, 13] k (fun kq v12 v13 w' => ∃ (x12_1 : List Int) (x13_1 : Int), v13 = .int .i64 x13_1 ∧ Aside0 (scullerlaw12_ManiWhole.l0 kq t101 t109 x12_1 x13_1 t104 t105 t108 = some r) ∧ Aside0 (kq ≤ k) ∧ Aside0 (Kd.S (Kd.slice 42 (Kd.int .u64)) 37 w' w.heap.size (fun _ => True) (.slice Ao8 t101.length co8) t101) ∧ Aside0 (Kd.R (Kd.int .u8) 5 w' w.heap.size (fun _ => True) v12 x12_1) ∧ Aside0 (Kd.R (Kd.int .i64) 3 w' w.heap.size (fun _ => True) (.slice Ao12 t105.length co12) t105) ∧ Aside0 (w'.heap[gb110]? = some (.cells #[.int .u64 t104, (.slice Ao12 t105.length co12), .int .u32 t108] 46 (0, 0))) ∧ Aside0 (Below w.heap.size w w'))
  case atStart => exact ⟨(([] : List Int)), (0), (by first | rfl | (simp; done) | (simp [*]; done)), H', ⟨Nat.le_refl _⟩, ⟨by (with_reducible repeat (first | apply Kd.S_alloc | apply Kd.S_drewN | apply Kd.S_drew)); exact Kd.S_mono (Kd.S_far (p := ⟨gb110, 2, none⟩) (Kd.S_far (p := ⟨gb110, 1, none⟩) (Kd.S_far (p := ⟨gb110, 0, none⟩) (Kd.S_types HO103.out BK110.out (by decide)) (fun _ hk => hk.2) (.int .u64 t104)) (fun _ hk => hk.2) (.slice Ao12 t105.length co12)) (fun _ hk => hk.2) (.int .u32 t108)) (fun _ hk => trivial)⟩, ⟨by first | exact Kd.R_nil _ _ _ _ _ | exact Kd.N_nil _ _ _ _ _ | exact Kd.V_nil _ _ _ _ _ | exact Kd.Q_nil _ _ _ _ _ | exact Kd.S_nil _ _ _ _ _⟩, ⟨by (with_reducible repeat (first | apply Kd.R_alloc | apply Kd.R_drewN | apply Kd.R_drew)); exact Kd.R_mono (Kd.R_far (p := ⟨gb110, 2, none⟩) (Kd.R_far (p := ⟨gb110, 1, none⟩) (Kd.R_far (p := ⟨gb110, 0, none⟩) (Kd.R_types HO107.out BK110.out (by decide)) (fun _ hk => hk.2) (.int .u64 t104)) (fun _ hk => hk.2) (.slice Ao12 t105.length co12)) (fun _ hk => hk.2) (.int .u32 t108)) (fun _ hk => trivial)⟩, ⟨by (with_reducible repeat (first | refine blk_drewN ?_ _ | refine blk_drew ?_ | refine blk_alloc ?_ _)); refine blk_put (cs := #[.int .u64 t104, .slice Ao12 t105.length co12, .int .u32 0]) ?_ 2 _ rfl; (with_reducible repeat (first | refine blk_drewN ?_ _ | refine blk_drew ?_ | refine blk_alloc ?_ _)); refine blk_put (cs := #[.int .u64 t104, .slice none 0 0, .int .u32 0]) ?_ 1 _ rfl; (with_reducible repeat (first | refine blk_drewN ?_ _ | refine blk_drew ?_ | refine blk_alloc ?_ _)); refine blk_put (cs := #[.int .u64 0, .slice none 0 0, .int .u32 0]) ?_ 0 _ rfl; (with_reducible repeat (first | refine blk_drewN ?_ _ | refine blk_drew ?_ | refine blk_alloc ?_ _)); exact BK110.out⟩, ⟨by repeat (first | (with_reducible first | exact HB.out | apply below_alloc | apply pw_below_drewN | apply below_drew1 | refine below_set ?_ GE110.out) | exact HB.out)⟩⟩
  case round =>
    clear H'
    try clear c1
    try clear c2
    try clear p2
    try clear c11
    try clear hcz11_0
    try clear hcz11_1
    try clear hcz11_2
    try clear hfz11_0
    try clear hfz11_1
    try clear hfz11_2
    obtain ⟨x12_1, x13_1, rfl, HA, HK1, HO_9, HO_12, HO_111001, BK110, HB⟩ := hrel
    cases gk with
    | zero => exact absurd HA.out (by simp [scullerlaw12_ManiWhole.l0])
    | succ k1 =>
      have H := HA.out
      clear HA
      simp only [scullerlaw12_ManiWhole.l0] at H
      replace H := Option.bind_eq_some_iff.mp H
      obtain ⟨t111, A130, H⟩ := H
      replace H : (if x13_1 < t111 then ((mani_Chunk.f t101 x13_1).bind fun t112 => ((mani_Size.f t104 t105 t108 x13_1).bind fun t115 => (if (t112.length : Int) = t115 then (if (t112.length : Int) = 0 then (some false) else (if x12_1.length + t112.length < 140737488355328 then (scullerlaw12_ManiWhole.l0 k1 t101 t109 (x12_1 ++ t112) (wrap64 (x13_1 + 1)) t104 t105 t108) else (none))) else (some false)))) else (scullerlaw12_ManiWhole.l1 k1 t101 t109 x12_1 ([] : List (List Int)) 0 t104 t105 t108)) = some r := H
      have A13 := Aside0.mk A130
      clear A130
      by_cases c14 : x13_1 < t111
      · rw [if_pos c14] at H
        have c14b0 : decide (x13_1 < t111) = true := decide_eq_true c14
        clear c14
        replace H := Option.bind_eq_some_iff.mp H
        obtain ⟨t112, A150, H⟩ := H
        replace H : ((mani_Size.f t104 t105 t108 x13_1).bind fun t115 => (if (t112.length : Int) = t115 then (if (t112.length : Int) = 0 then (some false) else (if x12_1.length + t112.length < 140737488355328 then (scullerlaw12_ManiWhole.l0 k1 t101 t109 (x12_1 ++ t112) (wrap64 (x13_1 + 1)) t104 t105 t108) else (none))) else (some false))) = some r := H
        have A15 := Aside0.mk A150
        clear A150
        replace H := Option.bind_eq_some_iff.mp H
        obtain ⟨t115, A160, H⟩ := H
        replace H : (if (t112.length : Int) = t115 then (if (t112.length : Int) = 0 then (some false) else (if x12_1.length + t112.length < 140737488355328 then (scullerlaw12_ManiWhole.l0 k1 t101 t109 (x12_1 ++ t112) (wrap64 (x13_1 + 1)) t104 t105 t108) else (none))) else (some false)) = some r := H
        have A16 := Aside0.mk A160
        clear A160
        by_cases c17 : (t112.length : Int) = t115
        · rw [if_pos c17] at H
          have c17b0 : ((t112.length : Int) == t115) = true := beq_iff_eq.mpr c17
          have c17b1 : ((t112.length : Int) != t115) = false := bne_eq_false_iff_eq.mpr c17
          clear c17
          by_cases c18 : (t112.length : Int) = 0
          · rw [if_pos c18] at H
            have c18b0 : ((t112.length : Int) == 0) = true := beq_iff_eq.mpr c18
            have c18b1 : ((t112.length : Int) != 0) = false := bne_eq_false_iff_eq.mpr c18
            clear c18
            obtain rfl := Option.some.inj H
            have hcz19_0 : wr.cell? ⟨gb110, 0, none⟩ = some (.int .u64 t104) := (blk_cell BK110.out 0).trans rfl
            have hcz19_1 : wr.cell? ⟨gb110, 1, none⟩ = some (.slice Ao12 t105.length co12) := (blk_cell BK110.out 1).trans rfl
            have hcz19_2 : wr.cell? ⟨gb110, 2, none⟩ = some (.int .u32 t108) := (blk_cell BK110.out 2).trans rfl
            have hfz19_0 := blk_frozen BK110.out 0
            have hfz19_1 := blk_frozen BK110.out 1
            have hfz19_2 := blk_frozen BK110.out 2
            go_wp2_with (first | ((with_reducible refine gate_callee (f := 28) rfl ?_); refine goesL_ (some 31) rfl rfl Try.func28 (by kernel_rfl) rfl #[.agg #[.int .u64 t104, .slice Ao12 t105.length co12, .int .u32 t108]] rfl (by (try simp only [List.map_toArray, List.map_cons, List.map_nil]); first | done | rfl | (simp only [List.length_drop, List.length_take]; rfl)) ?_; (with_reducible refine (mani_Chunks.calls t104 _ _ t105 t108 t111 _ ?side1 ?side2 A13.out).mono ?_); (case side1 => repeat (first | exact (Kd.R_reads' HO_111001.out).2.2 | (with_reducible refine Kd.C_alloc ?_ _) | (with_reducible refine Kd.C_drewN ?_ _) | (with_reducible refine Kd.C_drew ?_))); (case side2 => exact (Kd.R_reads' HO_111001.out).2.1); rintro e w20 ⟨rfl, hb⟩; refine ⟨_, rfl, ?_⟩; have n0_ := Aside0.mk (Kd.S_below (by (with_reducible repeat (first | apply Kd.S_alloc | apply Kd.S_drewN | apply Kd.S_drew)); exact HO_9.out) hb); have n1_ := Aside0.mk (Kd.R_below (by (with_reducible repeat (first | apply Kd.R_alloc | apply Kd.R_drewN | apply Kd.R_drew)); exact HO_12.out) hb); have n2_ := Aside0.mk (Kd.R_below (by (with_reducible repeat (first | apply Kd.R_alloc | apply Kd.R_drewN | apply Kd.R_drew)); exact HO_111001.out) hb); have n3_ := Aside0.mk (blk_below (g := gb110) (o := .cells #[.int .u64 t104, .slice Ao12 t105.length co12, .int .u32 t108] 46 (0, 0)) (by (with_reducible repeat (first | refine blk_drewN ?_ _ | refine blk_drew ?_ | refine blk_alloc ?_ _)); exact BK110.out) hb); have n4_ := Aside0.mk (below_step (by repeat (first | (with_reducible first | exact HB.out | apply below_alloc | apply pw_below_drewN | apply below_drew1 | refine below_set ?_ GE110.out) | exact HB.out)) hb); clear HO_9; clear HO_12; clear HO_111001; clear BK110; clear HB; have HO_9 := n0_; have HO_12 := n1_; have HO_111001 := n2_; have BK110 := n3_; have HB := n4_; clear n0_ n1_ n2_ n3_ n4_; (try clear hb); (try clear hb2); (try clear hk); (try clear hi)) | ((with_reducible refine gate_callee (f := 45) rfl ?_); refine goesL_ (some 37) rfl rfl Try.func45 (by kernel_rfl) rfl #[.slice Ao8 t101.length co8, .int .i64 x13_1] rfl (by (try simp only [List.map_toArray, List.map_cons, List.map_nil]); first | done | rfl | (simp only [List.length_drop, List.length_take]; rfl)) ?_; (with_reducible refine (mani_Chunk.calls _ _ t101 x13_1 t112 _ ?side1 ?side2 A15.out).mono ?_); (case side1 => repeat (first | exact (Kd.S_reads' HO_9.out).2.2 | (with_reducible refine Kd.C_alloc ?_ _) | (with_reducible refine Kd.C_drewN ?_ _) | (with_reducible refine Kd.C_drew ?_))); (case side2 => exact (Kd.S_reads' HO_9.out).2.1); rintro e w21 ⟨v113, rfl, ho0, hb⟩; refine ⟨_, rfl, ?_⟩; have n0_ := Aside0.mk (Kd.S_below (by (with_reducible repeat (first | apply Kd.S_alloc | apply Kd.S_drewN | apply Kd.S_drew)); exact HO_9.out) hb); have n1_ := Aside0.mk (Kd.R_elder' (by (with_reducible repeat (first | apply Kd.R_alloc | apply Kd.R_drewN | apply Kd.R_drew)); exact HO_12.out) (Kd.R_base ho0) hb); have n2_ := Aside0.mk (Kd.R_below (by (with_reducible repeat (first | apply Kd.R_alloc | apply Kd.R_drewN | apply Kd.R_drew)); exact HO_111001.out) hb); have n3_ := Aside0.mk (Kd.R_lower (Kd.R_new' ho0 (Kd.R_lt (by (with_reducible repeat (first | apply Kd.R_alloc | apply Kd.R_drewN | apply Kd.R_drew)); exact HO_12.out))) (below_size (by repeat (first | (with_reducible first | exact HB.out | apply below_alloc | apply pw_below_drewN | apply below_drew1 | refine below_set ?_ GE110.out) | exact HB.out)))); have n4_ := Aside0.mk (blk_below (g := gb110) (o := .cells #[.int .u64 t104, .slice Ao12 t105.length co12, .int .u32 t108] 46 (0, 0)) (by (with_reducible repeat (first | refine blk_drewN ?_ _ | refine blk_drew ?_ | refine blk_alloc ?_ _)); exact BK110.out) hb); have n5_ := Aside0.mk (below_step (by repeat (first | (with_reducible first | exact HB.out | apply below_alloc | apply pw_below_drewN | apply below_drew1 | refine below_set ?_ GE110.out) | exact HB.out)) hb); clear HO_9; clear HO_12; clear HO_111001; clear BK110; clear HB; have HO_9 := n0_; have HO_12 := n1_; have HO_111001 := n2_; have HO114 := n3_; have BK110 := n4_; have HB := n5_; clear n0_ n1_ n2_ n3_ n4_ n5_; (try clear hb); (try clear hb2); (try clear hk); (try clear hi); (try clear ho0); obtain ⟨Ao22, co22, eo22⟩ := Kd.R_slice HO114.out; subst eo22; have hcz23_0 : w21.cell? ⟨gb110, 0, none⟩ = some (.int .u64 t104) := (blk_cell BK110.out 0).trans rfl; have hcz23_1 : w21.cell? ⟨gb110, 1, none⟩ = some (.slice Ao12 t105.length co12) := (blk_cell BK110.out 1).trans rfl; have hcz23_2 : w21.cell? ⟨gb110, 2, none⟩ = some (.int .u32 t108) := (blk_cell BK110.out 2).trans rfl; have hfz23_0 := blk_frozen BK110.out 0; have hfz23_1 := blk_frozen BK110.out 1; have hfz23_2 := blk_frozen BK110.out 2) | ((with_reducible refine gate_callee (f := 32) rfl ?_); refine goesL_ (some 42) rfl rfl Try.func32 (by kernel_rfl) rfl #[.agg #[.int .u64 t104, .slice Ao12 t105.length co12, .int .u32 t108], .int .i64 x13_1] rfl (by (try simp only [List.map_toArray, List.map_cons, List.map_nil]); first | done | rfl | (simp only [List.length_drop, List.length_take]; rfl)) ?_; (with_reducible refine (mani_Size.calls t104 _ _ t105 t108 x13_1 t115 _ ?side1 ?side2 A16.out).mono ?_); (case side1 => repeat (first | exact (Kd.R_reads' HO_111001.out).2.2 | (with_reducible refine Kd.C_alloc ?_ _) | (with_reducible refine Kd.C_drewN ?_ _) | (with_reducible refine Kd.C_drew ?_))); (case side2 => exact (Kd.R_reads' HO_111001.out).2.1); rintro e w24 ⟨rfl, hb⟩; refine ⟨_, rfl, ?_⟩; have n0_ := Aside0.mk (Kd.S_below (by (with_reducible repeat (first | apply Kd.S_alloc | apply Kd.S_drewN | apply Kd.S_drew)); exact HO_9.out) hb); have n1_ := Aside0.mk (Kd.R_below (by (with_reducible repeat (first | apply Kd.R_alloc | apply Kd.R_drewN | apply Kd.R_drew)); exact HO_12.out) hb); have n2_ := Aside0.mk (Kd.R_below (by (with_reducible repeat (first | apply Kd.R_alloc | apply Kd.R_drewN | apply Kd.R_drew)); exact HO_111001.out) hb); have n3_ := Aside0.mk (Kd.R_below (by (with_reducible repeat (first | apply Kd.R_alloc | apply Kd.R_drewN | apply Kd.R_drew)); exact HO114.out) hb); have n4_ := Aside0.mk (blk_below (g := gb110) (o := .cells #[.int .u64 t104, .slice Ao12 t105.length co12, .int .u32 t108] 46 (0, 0)) (by (with_reducible repeat (first | refine blk_drewN ?_ _ | refine blk_drew ?_ | refine blk_alloc ?_ _)); exact BK110.out) hb); have n5_ := Aside0.mk (below_step (by repeat (first | (with_reducible first | exact HB.out | apply below_alloc | apply pw_below_drewN | apply below_drew1 | refine below_set ?_ GE110.out) | exact HB.out)) hb); clear HO_9; clear HO_12; clear HO_111001; clear HO114; clear BK110; clear HB; have HO_9 := n0_; have HO_12 := n1_; have HO_111001 := n2_; have HO114 := n3_; have BK110 := n4_; have HB := n5_; clear n0_ n1_ n2_ n3_ n4_ n5_; (try clear hb); (try clear hb2); (try clear hk); (try clear hi)))
            go_ret
            exact ⟨by first | rfl | (simp [errW_none, errW_some] <;> rfl) | (simp [*, errW_none, errW_some] <;> rfl), by repeat (first | (with_reducible first | exact HB.out | apply below_alloc | apply pw_below_drewN | apply below_drew1 | refine below_set ?_ GE110.out) | exact HB.out)⟩
          · rw [if_neg c18] at H
            have c18b0 : ((t112.length : Int) == 0) = false := beq_eq_false_iff_ne.mpr c18
            have c18b1 : ((t112.length : Int) != 0) = true := bne_iff_ne.mpr c18
            have c18b2 : ¬ (t112 = []) := fun h_ => c18 (by rw [h_]; rfl)
            by_cases c25 : x12_1.length + t112.length < 140737488355328
            · rw [if_pos c25] at H
              have LMc25 := Aside0.mk c25
              clear c25
              obtain ⟨y116, hy116⟩ : ∃ y_ : List Int, y_ = (x12_1 ++ t112) := ⟨_, rfl⟩
              replace H : (scullerlaw12_ManiWhole.l0 k1 t101 t109 y116 (wrap64 (x13_1 + 1)) t104 t105 t108) = some r := by first | (rw [hy116]; with_reducible exact H) | (have H2_ := (Option.bind_some _ _).symm.trans H; rw [hy116]; with_reducible exact H2_) | (have H2_ := (Option.bind_some _ _).symm.trans H; with_reducible exact H2_) | with_reducible exact H | (rw [hy116]; exact H) | exact H
              have Ny116 := Aside0.mk hy116
              clear hy116
              have H' := Aside0.mk H
              clear H
              have hcz26_0 : wr.cell? ⟨gb110, 0, none⟩ = some (.int .u64 t104) := (blk_cell BK110.out 0).trans rfl
              have hcz26_1 : wr.cell? ⟨gb110, 1, none⟩ = some (.slice Ao12 t105.length co12) := (blk_cell BK110.out 1).trans rfl
              have hcz26_2 : wr.cell? ⟨gb110, 2, none⟩ = some (.int .u32 t108) := (blk_cell BK110.out 2).trans rfl
              have hfz26_0 := blk_frozen BK110.out 0
              have hfz26_1 := blk_frozen BK110.out 1
              have hfz26_2 := blk_frozen BK110.out 2
              go_wp2_with (first | ((with_reducible refine gate_callee (f := 28) rfl ?_); refine goesL_ (some 31) rfl rfl Try.func28 (by kernel_rfl) rfl #[.agg #[.int .u64 t104, .slice Ao12 t105.length co12, .int .u32 t108]] rfl (by (try simp only [List.map_toArray, List.map_cons, List.map_nil]); first | done | rfl | (simp only [List.length_drop, List.length_take]; rfl)) ?_; (with_reducible refine (mani_Chunks.calls t104 _ _ t105 t108 t111 _ ?side1 ?side2 A13.out).mono ?_); (case side1 => repeat (first | exact (Kd.R_reads' HO_111001.out).2.2 | (with_reducible refine Kd.C_alloc ?_ _) | (with_reducible refine Kd.C_drewN ?_ _) | (with_reducible refine Kd.C_drew ?_))); (case side2 => exact (Kd.R_reads' HO_111001.out).2.1); rintro e w27 ⟨rfl, hb⟩; refine ⟨_, rfl, ?_⟩; have n0_ := Aside0.mk (Kd.S_below (by (with_reducible repeat (first | apply Kd.S_alloc | apply Kd.S_drewN | apply Kd.S_drew)); exact HO_9.out) hb); have n1_ := Aside0.mk (Kd.R_below (by (with_reducible repeat (first | apply Kd.R_alloc | apply Kd.R_drewN | apply Kd.R_drew)); exact HO_12.out) hb); have n2_ := Aside0.mk (Kd.R_below (by (with_reducible repeat (first | apply Kd.R_alloc | apply Kd.R_drewN | apply Kd.R_drew)); exact HO_111001.out) hb); have n3_ := Aside0.mk (blk_below (g := gb110) (o := .cells #[.int .u64 t104, .slice Ao12 t105.length co12, .int .u32 t108] 46 (0, 0)) (by (with_reducible repeat (first | refine blk_drewN ?_ _ | refine blk_drew ?_ | refine blk_alloc ?_ _)); exact BK110.out) hb); have n4_ := Aside0.mk (below_step (by repeat (first | (with_reducible first | exact HB.out | apply below_alloc | apply pw_below_drewN | apply below_drew1 | refine below_set ?_ GE110.out) | exact HB.out)) hb); clear HO_9; clear HO_12; clear HO_111001; clear BK110; clear HB; have HO_9 := n0_; have HO_12 := n1_; have HO_111001 := n2_; have BK110 := n3_; have HB := n4_; clear n0_ n1_ n2_ n3_ n4_; (try clear hb); (try clear hb2); (try clear hk); (try clear hi)) | ((with_reducible refine gate_callee (f := 45) rfl ?_); refine goesL_ (some 37) rfl rfl Try.func45 (by kernel_rfl) rfl #[.slice Ao8 t101.length co8, .int .i64 x13_1] rfl (by (try simp only [List.map_toArray, List.map_cons, List.map_nil]); first | done | rfl | (simp only [List.length_drop, List.length_take]; rfl)) ?_; (with_reducible refine (mani_Chunk.calls _ _ t101 x13_1 t112 _ ?side1 ?side2 A15.out).mono ?_); (case side1 => repeat (first | exact (Kd.S_reads' HO_9.out).2.2 | (with_reducible refine Kd.C_alloc ?_ _) | (with_reducible refine Kd.C_drewN ?_ _) | (with_reducible refine Kd.C_drew ?_))); (case side2 => exact (Kd.S_reads' HO_9.out).2.1); rintro e w28 ⟨v113, rfl, ho0, hb⟩; refine ⟨_, rfl, ?_⟩; have n0_ := Aside0.mk (Kd.S_below (by (with_reducible repeat (first | apply Kd.S_alloc | apply Kd.S_drewN | apply Kd.S_drew)); exact HO_9.out) hb); have n1_ := Aside0.mk (Kd.R_elder' (by (with_reducible repeat (first | apply Kd.R_alloc | apply Kd.R_drewN | apply Kd.R_drew)); exact HO_12.out) (Kd.R_base ho0) hb); have n2_ := Aside0.mk (Kd.R_below (by (with_reducible repeat (first | apply Kd.R_alloc | apply Kd.R_drewN | apply Kd.R_drew)); exact HO_111001.out) hb); have n3_ := Aside0.mk (Kd.R_lower (Kd.R_new' ho0 (Kd.R_lt (by (with_reducible repeat (first | apply Kd.R_alloc | apply Kd.R_drewN | apply Kd.R_drew)); exact HO_12.out))) (below_size (by repeat (first | (with_reducible first | exact HB.out | apply below_alloc | apply pw_below_drewN | apply below_drew1 | refine below_set ?_ GE110.out) | exact HB.out)))); have n4_ := Aside0.mk (blk_below (g := gb110) (o := .cells #[.int .u64 t104, .slice Ao12 t105.length co12, .int .u32 t108] 46 (0, 0)) (by (with_reducible repeat (first | refine blk_drewN ?_ _ | refine blk_drew ?_ | refine blk_alloc ?_ _)); exact BK110.out) hb); have n5_ := Aside0.mk (below_step (by repeat (first | (with_reducible first | exact HB.out | apply below_alloc | apply pw_below_drewN | apply below_drew1 | refine below_set ?_ GE110.out) | exact HB.out)) hb); clear HO_9; clear HO_12; clear HO_111001; clear BK110; clear HB; have HO_9 := n0_; have HO_12 := n1_; have HO_111001 := n2_; have HO114 := n3_; have BK110 := n4_; have HB := n5_; clear n0_ n1_ n2_ n3_ n4_ n5_; (try clear hb); (try clear hb2); (try clear hk); (try clear hi); (try clear ho0); obtain ⟨Ao29, co29, eo29⟩ := Kd.R_slice HO114.out; subst eo29; have hcz30_0 : w28.cell? ⟨gb110, 0, none⟩ = some (.int .u64 t104) := (blk_cell BK110.out 0).trans rfl; have hcz30_1 : w28.cell? ⟨gb110, 1, none⟩ = some (.slice Ao12 t105.length co12) := (blk_cell BK110.out 1).trans rfl; have hcz30_2 : w28.cell? ⟨gb110, 2, none⟩ = some (.int .u32 t108) := (blk_cell BK110.out 2).trans rfl; have hfz30_0 := blk_frozen BK110.out 0; have hfz30_1 := blk_frozen BK110.out 1; have hfz30_2 := blk_frozen BK110.out 2) | ((with_reducible refine gate_callee (f := 32) rfl ?_); refine goesL_ (some 42) rfl rfl Try.func32 (by kernel_rfl) rfl #[.agg #[.int .u64 t104, .slice Ao12 t105.length co12, .int .u32 t108], .int .i64 x13_1] rfl (by (try simp only [List.map_toArray, List.map_cons, List.map_nil]); first | done | rfl | (simp only [List.length_drop, List.length_take]; rfl)) ?_; (with_reducible refine (mani_Size.calls t104 _ _ t105 t108 x13_1 t115 _ ?side1 ?side2 A16.out).mono ?_); (case side1 => repeat (first | exact (Kd.R_reads' HO_111001.out).2.2 | (with_reducible refine Kd.C_alloc ?_ _) | (with_reducible refine Kd.C_drewN ?_ _) | (with_reducible refine Kd.C_drew ?_))); (case side2 => exact (Kd.R_reads' HO_111001.out).2.1); rintro e w31 ⟨rfl, hb⟩; refine ⟨_, rfl, ?_⟩; have n0_ := Aside0.mk (Kd.S_below (by (with_reducible repeat (first | apply Kd.S_alloc | apply Kd.S_drewN | apply Kd.S_drew)); exact HO_9.out) hb); have n1_ := Aside0.mk (Kd.R_below (by (with_reducible repeat (first | apply Kd.R_alloc | apply Kd.R_drewN | apply Kd.R_drew)); exact HO_12.out) hb); have n2_ := Aside0.mk (Kd.R_below (by (with_reducible repeat (first | apply Kd.R_alloc | apply Kd.R_drewN | apply Kd.R_drew)); exact HO_111001.out) hb); have n3_ := Aside0.mk (Kd.R_below (by (with_reducible repeat (first | apply Kd.R_alloc | apply Kd.R_drewN | apply Kd.R_drew)); exact HO114.out) hb); have n4_ := Aside0.mk (blk_below (g := gb110) (o := .cells #[.int .u64 t104, .slice Ao12 t105.length co12, .int .u32 t108] 46 (0, 0)) (by (with_reducible repeat (first | refine blk_drewN ?_ _ | refine blk_drew ?_ | refine blk_alloc ?_ _)); exact BK110.out) hb); have n5_ := Aside0.mk (below_step (by repeat (first | (with_reducible first | exact HB.out | apply below_alloc | apply pw_below_drewN | apply below_drew1 | refine below_set ?_ GE110.out) | exact HB.out)) hb); clear HO_9; clear HO_12; clear HO_111001; clear HO114; clear BK110; clear HB; have HO_9 := n0_; have HO_12 := n1_; have HO_111001 := n2_; have HO114 := n3_; have BK110 := n4_; have HB := n5_; clear n0_ n1_ n2_ n3_ n4_ n5_; (try clear hb); (try clear hb2); (try clear hk); (try clear hi)) | ((with_reducible refine gate_builtin (b := .append) (xs := #[.tmp 49, .tmp 50]) rfl ?_); (try (refine gate_guard (by rfl) ?_; dsimp only)); at_builtin; refine Kd.R_append_rows (Kd.int .u8) (w0 := w) w.heap.size rfl (.tmp 49) (.tmp 50) 23 5 (.int .u8 0) 1 rfl Try.underlying23 info5 rfl (by decide) (by omega) u12 x12_1 t112 _ _ _ (fun k_ => some k_ ≠ (.slice Ao29 t112.length co29 : Value).ownBlock) (fun _ => False) rfl rfl ?aO ?aR (fun _ _ h => h) (fun _ h => h.elim) ?aF ?aB ?aS ?aL ?_; (case aR => repeat (first | exact (Kd.R_reads' HO114.out).2.2 | (with_reducible refine Kd.C_alloc ?_ _) | (with_reducible refine Kd.C_drewN ?_ _) | (with_reducible refine Kd.C_drew ?_))); (case aB => exact (by repeat (first | (with_reducible first | exact HB.out | apply below_alloc | apply pw_below_drewN | apply below_drew1 | refine below_set ?_ GE110.out) | exact HB.out))); (case aF => exact (fun k_ hk => Kd.fresh' (Kd.R_lt (by (with_reducible repeat (first | apply Kd.R_alloc | apply Kd.R_drewN | apply Kd.R_drew)); exact HO114.out)) k_ hk)); (case aO => exact (by (with_reducible repeat (first | apply Kd.R_alloc | apply Kd.R_drewN | apply Kd.R_drew)); exact Kd.R_mono HO_12.out (fun _ hk => hk.2))); (case aS => exact (below_size (by repeat (first | (with_reducible first | exact HB.out | apply below_alloc | apply pw_below_drewN | apply below_drew1 | refine below_set ?_ GE110.out) | exact HB.out)))); (case aL => have := LMc25.out; omega); intro v117 w32 ho hb hg hat; rw [← Ny116.out] at ho; have n0_ := Aside0.mk (Kd.S_over' (by (with_reducible repeat (first | apply Kd.S_alloc | apply Kd.S_drewN | apply Kd.S_drew)); exact HO_9.out) (Kd.R_typed (by (with_reducible repeat (first | apply Kd.R_alloc | apply Kd.R_drewN | apply Kd.R_drew)); exact HO_12.out)) (by decide) hg); have n1_ := Aside0.mk (Kd.R_over' (by (with_reducible repeat (first | apply Kd.R_alloc | apply Kd.R_drewN | apply Kd.R_drew)); exact HO_111001.out) (Kd.R_typed (by (with_reducible repeat (first | apply Kd.R_alloc | apply Kd.R_drewN | apply Kd.R_drew)); exact HO_12.out)) (by decide) hg); have n2_ := Aside0.mk (blk_grown (g := gb110) (o := .cells #[.int .u64 t104, .slice Ao12 t105.length co12, .int .u32 t108] 46 (0, 0)) (by (with_reducible repeat (first | refine blk_drewN ?_ _ | refine blk_drew ?_ | refine blk_alloc ?_ _)); exact BK110.out) hg (Kd.R_ne HO_12.out BK110.out (by decide))); have n3_ := Aside0.mk (Kd.R_after (ok := (fun _ => True)) (by (with_reducible repeat (first | apply Kd.R_alloc | apply Kd.R_drewN | apply Kd.R_drew)); exact HO114.out) hg hat); have n4_ := Aside0.mk (hb); have n5_ := Aside0.mk (ho); clear HO_9; clear HO_111001; clear BK110; clear HO114; clear HB; clear HO_12; have HO_9 := n0_; have HO_111001 := n1_; have BK110 := n2_; have HO114 := n3_; have HB := n4_; have HO118 := n5_; clear n0_ n1_ n2_ n3_ n4_ n5_; clear ho hb hg hat))
              go_roundg k1
              case measure => have := HK1.out; omega
              case rel => exact ⟨(y116), (wrap64 (x13_1 + 1)), (by first | rfl | (simp; done) | (simp [*]; done)), H', ⟨by have := HK1.out; omega⟩, ⟨by (with_reducible repeat (first | apply Kd.S_alloc | apply Kd.S_drewN | apply Kd.S_drew)); exact HO_9.out⟩, ⟨by (with_reducible repeat (first | apply Kd.R_alloc | apply Kd.R_drewN | apply Kd.R_drew)); exact Kd.R_mono HO118.out (fun _ hk => trivial)⟩, ⟨by (with_reducible repeat (first | apply Kd.R_alloc | apply Kd.R_drewN | apply Kd.R_drew)); exact HO_111001.out⟩, ⟨by (with_reducible repeat (first | refine blk_drewN ?_ _ | refine blk_drew ?_ | refine blk_alloc ?_ _)); exact BK110.out⟩, ⟨by repeat (first | (with_reducible first | exact HB.out | apply below_alloc | apply pw_below_drewN | apply below_drew1 | refine below_set ?_ GE110.out) | exact HB.out)⟩⟩
            · rw [if_neg c25] at H
              exact absurd H (by simp)
        · rw [if_neg c17] at H
          have c17b0 : ((t112.length : Int) == t115) = false := beq_eq_false_iff_ne.mpr c17
          have c17b1 : ((t112.length : Int) != t115) = true := bne_iff_ne.mpr c17
          exact absurd H (by rw [hr_.out]; simp)
      · rw [if_neg c14] at H
        have c14b0 : decide (x13_1 < t111) = false := decide_eq_false c14
        clear c14
        have H' := Aside0.mk H
        clear H
        have hcz39_0 : wr.cell? ⟨gb110, 0, none⟩ = some (.int .u64 t104) := (blk_cell BK110.out 0).trans rfl
        have hcz39_1 : wr.cell? ⟨gb110, 1, none⟩ = some (.slice Ao12 t105.length co12) := (blk_cell BK110.out 1).trans rfl
        have hcz39_2 : wr.cell? ⟨gb110, 2, none⟩ = some (.int .u32 t108) := (blk_cell BK110.out 2).trans rfl
        have hfz39_0 := blk_frozen BK110.out 0
        have hfz39_1 := blk_frozen BK110.out 1
        have hfz39_2 := blk_frozen BK110.out 2
        go_wp2_with (first | ((with_reducible refine gate_callee (f := 28) rfl ?_); refine goesL_ (some 31) rfl rfl Try.func28 (by kernel_rfl) rfl #[.agg #[.int .u64 t104, .slice Ao12 t105.length co12, .int .u32 t108]] rfl (by (try simp only [List.map_toArray, List.map_cons, List.map_nil]); first | done | rfl | (simp only [List.length_drop, List.length_take]; rfl)) ?_; (with_reducible refine (mani_Chunks.calls t104 _ _ t105 t108 t111 _ ?side1 ?side2 A13.out).mono ?_); (case side1 => repeat (first | exact (Kd.R_reads' HO_111001.out).2.2 | (with_reducible refine Kd.C_alloc ?_ _) | (with_reducible refine Kd.C_drewN ?_ _) | (with_reducible refine Kd.C_drew ?_))); (case side2 => exact (Kd.R_reads' HO_111001.out).2.1); rintro e w40 ⟨rfl, hb⟩; refine ⟨_, rfl, ?_⟩; have n0_ := Aside0.mk (Kd.S_below (by (with_reducible repeat (first | apply Kd.S_alloc | apply Kd.S_drewN | apply Kd.S_drew)); exact HO_9.out) hb); have n1_ := Aside0.mk (Kd.R_below (by (with_reducible repeat (first | apply Kd.R_alloc | apply Kd.R_drewN | apply Kd.R_drew)); exact HO_12.out) hb); have n2_ := Aside0.mk (Kd.R_below (by (with_reducible repeat (first | apply Kd.R_alloc | apply Kd.R_drewN | apply Kd.R_drew)); exact HO_111001.out) hb); have n3_ := Aside0.mk (blk_below (g := gb110) (o := .cells #[.int .u64 t104, .slice Ao12 t105.length co12, .int .u32 t108] 46 (0, 0)) (by (with_reducible repeat (first | refine blk_drewN ?_ _ | refine blk_drew ?_ | refine blk_alloc ?_ _)); exact BK110.out) hb); have n4_ := Aside0.mk (below_step (by repeat (first | (with_reducible first | exact HB.out | apply below_alloc | apply pw_below_drewN | apply below_drew1 | refine below_set ?_ GE110.out) | exact HB.out)) hb); clear HO_9; clear HO_12; clear HO_111001; clear BK110; clear HB; have HO_9 := n0_; have HO_12 := n1_; have HO_111001 := n2_; have BK110 := n3_; have HB := n4_; clear n0_ n1_ n2_ n3_ n4_; (try clear hb); (try clear hb2); (try clear hk); (try clear hi)))
        go_loopg [15, 16] k1 (fun kq v15 v16 w' => ∃ (x15_2 : List (List Int)) (x16_2 : Int), v16 = .int .i64 x16_2 ∧ Aside0 (scullerlaw12_ManiWhole.l1 kq t101 t109 x12_1 x15_2 x16_2 t104 t105 t108 = some r) ∧ Aside0 (kq ≤ k1) ∧ Aside0 (Kd.S (Kd.slice 42 (Kd.int .u64)) 37 w' w.heap.size (fun _ => True) (.slice Ao8 t101.length co8) t101) ∧ Aside0 (Kd.R (Kd.int .u8) 5 w' w.heap.size (fun _ => True) u12 x12_1) ∧ Aside0 (Kd.S (Kd.slice 3 (Kd.int .i64)) 22 w' w.heap.size (fun k_ => some k_ ≠ ((.slice Ao12 t105.length co12) : Value).ownBlock) v15 x15_2) ∧ Aside0 (Kd.R (Kd.int .i64) 3 w' w.heap.size (fun _ => True) (.slice Ao12 t105.length co12) t105) ∧ Aside0 (w'.heap[gb110]? = some (.cells #[.int .u64 t104, (.slice Ao12 t105.length co12), .int .u32 t108] 46 (0, 0))) ∧ Aside0 (Below w.heap.size w w'))
        case atStart => exact ⟨(([] : List (List Int))), (0), (by first | rfl | (simp; done) | (simp [*]; done)), H', ⟨Nat.le_refl _⟩, ⟨by (with_reducible repeat (first | apply Kd.S_alloc | apply Kd.S_drewN | apply Kd.S_drew)); exact HO_9.out⟩, ⟨by (with_reducible repeat (first | apply Kd.R_alloc | apply Kd.R_drewN | apply Kd.R_drew)); exact HO_12.out⟩, ⟨by first | exact Kd.S_nil _ _ _ _ _ | exact Kd.N_nil _ _ _ _ _ | exact Kd.V_nil _ _ _ _ _ | exact Kd.Q_nil _ _ _ _ _ | exact Kd.R_nil _ _ _ _ _⟩, ⟨by (with_reducible repeat (first | apply Kd.R_alloc | apply Kd.R_drewN | apply Kd.R_drew)); exact HO_111001.out⟩, ⟨by (with_reducible repeat (first | refine blk_drewN ?_ _ | refine blk_drew ?_ | refine blk_alloc ?_ _)); exact BK110.out⟩, ⟨by repeat (first | (with_reducible first | exact HB.out | apply below_alloc | apply pw_below_drewN | apply below_drew1 | refine below_set ?_ GE110.out) | exact HB.out)⟩⟩
        case round =>
          clear H'
          try clear c1
          try clear c2
          try clear p2
          try clear c3
          try clear c4
          try clear p6
          try clear c11
          try clear c14
          try clear c14b0
          try clear c17
          try clear c17b0
          try clear c17b1
          try clear c18
          try clear c18b0
          try clear c18b1
          try clear c18b2
          try clear c23
          try clear c24
          try clear c25
          try clear c28
          try clear c32
          try clear hcz11_0
          try clear hcz11_1
          try clear hcz11_2
          try clear hcz19_0
          try clear hcz19_1
          try clear hcz19_2
          try clear hcz23_0
          try clear hcz23_1
          try clear hcz23_2
          try clear hcz26_0
          try clear hcz26_1
          try clear hcz26_2
          try clear hcz30_0
          try clear hcz30_1
          try clear hcz30_2
          try clear hcz33_0
          try clear hcz33_1
          try clear hcz33_2
          try clear hcz37_0
          try clear hcz37_1
          try clear hcz37_2
          try clear hcz39_0
          try clear hcz39_1
          try clear hcz39_2
          try clear hfz11_0
          try clear hfz11_1
          try clear hfz11_2
          try clear hfz19_0
          try clear hfz19_1
          try clear hfz19_2
          try clear hfz23_0
          try clear hfz23_1
          try clear hfz23_2
          try clear hfz26_0
          try clear hfz26_1
          try clear hfz26_2
          try clear hfz30_0
          try clear hfz30_1
          try clear hfz30_2
          try clear hfz33_0
          try clear hfz33_1
          try clear hfz33_2
          try clear hfz37_0
          try clear hfz37_1
          try clear hfz37_2
          try clear hfz39_0
          try clear hfz39_1
          try clear hfz39_2
          try clear p2
          obtain ⟨x15_2, x16_2, rfl, HA, HK2, HO_9, HO_12, HO_15, HO_111001, BK110, HB⟩ := hrel
          cases gk with
          | zero => exact absurd HA.out (by simp [scullerlaw12_ManiWhole.l1])
          | succ k2 =>
            have H := HA.out
            clear HA
            simp only [scullerlaw12_ManiWhole.l1] at H
            replace H := Option.bind_eq_some_iff.mp H
            obtain ⟨t119, A410, H⟩ := H
            replace H : (if x16_2 < t119 then ((mani_Page.f t104 t105 t108 x16_2).bind fun t120 => (if x15_2.length < 5864062014805 then (scullerlaw12_ManiWhole.l1 k2 t101 t109 x12_1 (x15_2 ++ [t120]) (wrap64 (x16_2 + 1)) t104 t105 t108) else (none))) else ((mani_Join_c.f x15_2).bind fun bt126 => ((scullerlaw12_known.f).bind fun t130 => (if t130 = true then (if t109 = 0 then ((scullerref07_Bytes_c.f t101).bind fun t131 => (if (strOfNums x12_1).toList = (strOfNums t131).toList then (if bt126.2 = true then ((scullerref07_Sizes_c.f t101).bind fun t134 => ((scullerref07_SameInts_c.f bt126.1 t134).bind fun t137 => (if t137 = true then ((mani_Chunks.f t104 t105 t108).bind fun t138 => ((mani_Chunk.f t101 t138).bind fun t139 => (if (t139.length : Int) = 0 then ((mani_Size.f t104 t105 t108 (-1)).bind fun t142 => (some (t142 == 0))) else (some false)))) else (some false)))) else (some false)) else (some false))) else (some false)) else (some false))))) = some r := H
            have A41 := Aside0.mk A410
            clear A410
            by_cases c42 : x16_2 < t119
            · rw [if_pos c42] at H
              have c42b0 : decide (x16_2 < t119) = true := decide_eq_true c42
              clear c42
              replace H := Option.bind_eq_some_iff.mp H
              obtain ⟨t120, A430, H⟩ := H
              replace H : (if x15_2.length < 5864062014805 then (scullerlaw12_ManiWhole.l1 k2 t101 t109 x12_1 (x15_2 ++ [t120]) (wrap64 (x16_2 + 1)) t104 t105 t108) else (none)) = some r := H
              have A43 := Aside0.mk A430
              clear A430
              by_cases c44 : x15_2.length < 5864062014805
              · rw [if_pos c44] at H
                have LMc44 := Aside0.mk c44
                clear c44
                obtain ⟨y123, hy123⟩ : ∃ y_ : List (List Int), y_ = (x15_2 ++ [t120]) := ⟨_, rfl⟩
                replace H : (scullerlaw12_ManiWhole.l1 k2 t101 t109 x12_1 y123 (wrap64 (x16_2 + 1)) t104 t105 t108) = some r := by first | (rw [hy123]; with_reducible exact H) | (have H2_ := (Option.bind_some _ _).symm.trans H; rw [hy123]; with_reducible exact H2_) | (have H2_ := (Option.bind_some _ _).symm.trans H; with_reducible exact H2_) | with_reducible exact H | (rw [hy123]; exact H) | exact H
                have Ny123 := Aside0.mk hy123
                clear hy123
                have H' := Aside0.mk H
                clear H
                have hcz45_0 : wr.cell? ⟨gb110, 0, none⟩ = some (.int .u64 t104) := (blk_cell BK110.out 0).trans rfl
                have hcz45_1 : wr.cell? ⟨gb110, 1, none⟩ = some (.slice Ao12 t105.length co12) := (blk_cell BK110.out 1).trans rfl
                have hcz45_2 : wr.cell? ⟨gb110, 2, none⟩ = some (.int .u32 t108) := (blk_cell BK110.out 2).trans rfl
                have hfz45_0 := blk_frozen BK110.out 0
                have hfz45_1 := blk_frozen BK110.out 1
                have hfz45_2 := blk_frozen BK110.out 2
                go_wp2_with (first | ((with_reducible refine gate_callee (f := 29) rfl ?_); refine goesL_ (some 54) rfl rfl Try.func29 (by kernel_rfl) rfl #[.agg #[.int .u64 t104, .slice Ao12 t105.length co12, .int .u32 t108]] rfl (by (try simp only [List.map_toArray, List.map_cons, List.map_nil]); first | done | rfl | (simp only [List.length_drop, List.length_take]; rfl)) ?_; (with_reducible refine (mani_Pages.calls t104 _ _ t105 t108 t119 _ ?side1 ?side2 A41.out).mono ?_); (case side1 => repeat (first | exact (Kd.R_reads' HO_111001.out).2.2 | (with_reducible refine Kd.C_alloc ?_ _) | (with_reducible refine Kd.C_drewN ?_ _) | (with_reducible refine Kd.C_drew ?_))); (case side2 => exact (Kd.R_reads' HO_111001.out).2.1); rintro e w46 ⟨rfl, hb⟩; refine ⟨_, rfl, ?_⟩; have n0_ := Aside0.mk (Kd.S_below (by (with_reducible repeat (first | apply Kd.S_alloc | apply Kd.S_drewN | apply Kd.S_drew)); exact HO_9.out) hb); have n1_ := Aside0.mk (Kd.R_below (by (with_reducible repeat (first | apply Kd.R_alloc | apply Kd.R_drewN | apply Kd.R_drew)); exact HO_12.out) hb); have n2_ := Aside0.mk (Kd.S_below (by (with_reducible repeat (first | apply Kd.S_alloc | apply Kd.S_drewN | apply Kd.S_drew)); exact HO_15.out) hb); have n3_ := Aside0.mk (Kd.R_below (by (with_reducible repeat (first | apply Kd.R_alloc | apply Kd.R_drewN | apply Kd.R_drew)); exact HO_111001.out) hb); have n4_ := Aside0.mk (blk_below (g := gb110) (o := .cells #[.int .u64 t104, .slice Ao12 t105.length co12, .int .u32 t108] 46 (0, 0)) (by (with_reducible repeat (first | refine blk_drewN ?_ _ | refine blk_drew ?_ | refine blk_alloc ?_ _)); exact BK110.out) hb); have n5_ := Aside0.mk (below_step (by repeat (first | (with_reducible first | exact HB.out | apply below_alloc | apply pw_below_drewN | apply below_drew1 | refine below_set ?_ GE110.out) | exact HB.out)) hb); clear HO_9; clear HO_12; clear HO_15; clear HO_111001; clear BK110; clear HB; have HO_9 := n0_; have HO_12 := n1_; have HO_15 := n2_; have HO_111001 := n3_; have BK110 := n4_; have HB := n5_; clear n0_ n1_ n2_ n3_ n4_ n5_; (try clear hb); (try clear hb2); (try clear hk); (try clear hi); have hcz47_0 : w46.cell? ⟨gb110, 0, none⟩ = some (.int .u64 t104) := (blk_cell BK110.out 0).trans rfl; have hcz47_1 : w46.cell? ⟨gb110, 1, none⟩ = some (.slice Ao12 t105.length co12) := (blk_cell BK110.out 1).trans rfl; have hcz47_2 : w46.cell? ⟨gb110, 2, none⟩ = some (.int .u32 t108) := (blk_cell BK110.out 2).trans rfl; have hfz47_0 := blk_frozen BK110.out 0; have hfz47_1 := blk_frozen BK110.out 1; have hfz47_2 := blk_frozen BK110.out 2) | ((with_reducible refine gate_callee (f := 37) rfl ?_); refine goesL_ (some 61) rfl rfl Try.func37 (by kernel_rfl) rfl #[.agg #[.int .u64 t104, .slice Ao12 t105.length co12, .int .u32 t108], .int .i64 x16_2] rfl (by (try simp only [List.map_toArray, List.map_cons, List.map_nil]); first | done | rfl | (simp only [List.length_drop, List.length_take]; rfl)) ?_; (with_reducible refine (mani_Page.calls t104 _ _ t105 t108 x16_2 t120 _ ?side1 ?side2 A43.out).mono ?_); (case side1 => repeat (first | exact (Kd.R_reads' HO_111001.out).2.2 | (with_reducible refine Kd.C_alloc ?_ _) | (with_reducible refine Kd.C_drewN ?_ _) | (with_reducible refine Kd.C_drew ?_))); (case side2 => exact (Kd.R_reads' HO_111001.out).2.1); rintro e w48 ⟨v121, rfl, ho0, hb⟩; refine ⟨_, rfl, ?_⟩; have n0_ := Aside0.mk (Kd.S_below (by (with_reducible repeat (first | apply Kd.S_alloc | apply Kd.S_drewN | apply Kd.S_drew)); exact HO_9.out) hb); have n1_ := Aside0.mk (Kd.R_below (by (with_reducible repeat (first | apply Kd.R_alloc | apply Kd.R_drewN | apply Kd.R_drew)); exact HO_12.out) hb); have n2_ := Aside0.mk (Kd.S_elder' (by (with_reducible repeat (first | apply Kd.S_alloc | apply Kd.S_drewN | apply Kd.S_drew)); exact HO_15.out) (Kd.R_base ho0) hb); have n3_ := Aside0.mk (Kd.R_elder' (by (with_reducible repeat (first | apply Kd.R_alloc | apply Kd.R_drewN | apply Kd.R_drew)); exact HO_111001.out) (Kd.R_base ho0) hb); have n4_ := Aside0.mk (Kd.R_lower (Kd.R_new' ho0 (Kd.R_lt (by (with_reducible repeat (first | apply Kd.R_alloc | apply Kd.R_drewN | apply Kd.R_drew)); exact HO_111001.out))) (below_size (by repeat (first | (with_reducible first | exact HB.out | apply below_alloc | apply pw_below_drewN | apply below_drew1 | refine below_set ?_ GE110.out) | exact HB.out)))); have n5_ := Aside0.mk (blk_below (g := gb110) (o := .cells #[.int .u64 t104, .slice Ao12 t105.length co12, .int .u32 t108] 46 (0, 0)) (by (with_reducible repeat (first | refine blk_drewN ?_ _ | refine blk_drew ?_ | refine blk_alloc ?_ _)); exact BK110.out) hb); have n6_ := Aside0.mk (below_step (by repeat (first | (with_reducible first | exact HB.out | apply below_alloc | apply pw_below_drewN | apply below_drew1 | refine below_set ?_ GE110.out) | exact HB.out)) hb); clear HO_9; clear HO_12; clear HO_15; clear HO_111001; clear BK110; clear HB; have HO_9 := n0_; have HO_12 := n1_; have HO_15 := n2_; have HO_111001 := n3_; have HO122 := n4_; have BK110 := n5_; have HB := n6_; clear n0_ n1_ n2_ n3_ n4_ n5_ n6_; (try clear hb); (try clear hb2); (try clear hk); (try clear hi); (try clear ho0); obtain ⟨Ao50, co50, eo50⟩ := Kd.R_slice HO122.out; subst eo50) | ((with_reducible refine gate_builtin (b := .append) (xs := #[.tmp 58, .tmp 62]) rfl ?_); (try (refine gate_guard (by rfl) ?_; dsimp only)); at_builtin; refine Kd.S_append (Kd.slice 3 (Kd.int .i64)) (w0 := w) w.heap.size rfl (.tmp 58) (.tmp 62) 61 22 (.slice none 0 0) 24 rfl Try.underlying61 info22 rfl (by decide) (by omega) u15 x15_2 t120 [.slice Ao50 t120.length co50] (fun k_ => some k_ ≠ (.slice Ao12 t105.length co12 : Value).ownBlock) (fun k_ => some k_ = (.slice Ao50 t120.length co50 : Value).ownBlock) rfl rfl ?aP (fun k_ hk_ => ((Kd.R_mono (ok' := fun k_ => ((fun k_ => some k_ ≠ (.slice Ao12 t105.length co12 : Value).ownBlock)) k_ ∧ some k_ ≠ (u15 : Value).ownBlock) (Kd.R_apart' (HO122.out) (Kd.S_typed HO_15.out) (by decide)) (fun k_ hk => ⟨hk.1.2, hk.2⟩))).1 k_ hk_.symm) ?aF ?aO ?aB ?aS ?aL ?_; (case aP => exact Kd.M_row (Kd.R_mono (Kd.R_tight rfl (Kd.R_mono (ok' := fun k_ => ((fun k_ => some k_ ≠ (.slice Ao12 t105.length co12 : Value).ownBlock)) k_ ∧ some k_ ≠ (u15 : Value).ownBlock) (Kd.R_apart' (HO122.out) (Kd.S_typed HO_15.out) (by decide)) (fun k_ hk => ⟨hk.1.2, hk.2⟩))) (fun _ h_ => h_))); (case aB => exact (by repeat (first | (with_reducible first | exact HB.out | apply below_alloc | apply pw_below_drewN | apply below_drew1 | refine below_set ?_ GE110.out) | exact HB.out))); (case aF => exact (fun k_ hk => Kd.fresh' (Kd.R_lt (by (with_reducible repeat (first | apply Kd.R_alloc | apply Kd.R_drewN | apply Kd.R_drew)); exact HO_111001.out)) k_ hk)); (case aO => exact (by (with_reducible repeat (first | apply Kd.S_alloc | apply Kd.S_drewN | apply Kd.S_drew)); exact Kd.S_mono HO_15.out (fun k_ hk => ⟨hk.1, fun e_ => hk.2 e_⟩))); (case aS => exact (below_size (by repeat (first | (with_reducible first | exact HB.out | apply below_alloc | apply pw_below_drewN | apply below_drew1 | refine below_set ?_ GE110.out) | exact HB.out)))); (case aL => have := LMc44.out; omega); intro v124 w49 ho hb hg hat; rw [← Ny123.out] at ho; have n0_ := Aside0.mk (Kd.S_over' (by (with_reducible repeat (first | apply Kd.S_alloc | apply Kd.S_drewN | apply Kd.S_drew)); exact HO_9.out) (Kd.S_typed (by (with_reducible repeat (first | apply Kd.S_alloc | apply Kd.S_drewN | apply Kd.S_drew)); exact HO_15.out)) (by decide) hg); have n1_ := Aside0.mk (Kd.R_over' (by (with_reducible repeat (first | apply Kd.R_alloc | apply Kd.R_drewN | apply Kd.R_drew)); exact HO_12.out) (Kd.S_typed (by (with_reducible repeat (first | apply Kd.S_alloc | apply Kd.S_drewN | apply Kd.S_drew)); exact HO_15.out)) (by decide) hg); have n2_ := Aside0.mk (Kd.R_over' (by (with_reducible repeat (first | apply Kd.R_alloc | apply Kd.R_drewN | apply Kd.R_drew)); exact HO_111001.out) (Kd.S_typed (by (with_reducible repeat (first | apply Kd.S_alloc | apply Kd.S_drewN | apply Kd.S_drew)); exact HO_15.out)) (by decide) hg); have n3_ := Aside0.mk (blk_grown (g := gb110) (o := .cells #[.int .u64 t104, .slice Ao12 t105.length co12, .int .u32 t108] 46 (0, 0)) (by (with_reducible repeat (first | refine blk_drewN ?_ _ | refine blk_drew ?_ | refine blk_alloc ?_ _)); exact BK110.out) hg (Kd.S_ne HO_15.out BK110.out (by decide))); have n4_ := Aside0.mk (hb); have n5_ := Aside0.mk (ho); clear HO_9; clear HO_12; clear HO_111001; clear BK110; clear HB; clear HO_15; clear HO122; have HO_9 := n0_; have HO_12 := n1_; have HO_111001 := n2_; have BK110 := n3_; have HB := n4_; have HO125 := n5_; clear n0_ n1_ n2_ n3_ n4_ n5_; clear ho hb hg hat))
                go_roundg k2
                case measure => have := HK1.out; have := HK2.out; omega
                case rel => exact ⟨(y123), (wrap64 (x16_2 + 1)), (by first | rfl | (simp; done) | (simp [*]; done)), H', ⟨by have := HK1.out; have := HK2.out; omega⟩, ⟨by (with_reducible repeat (first | apply Kd.S_alloc | apply Kd.S_drewN | apply Kd.S_drew)); exact HO_9.out⟩, ⟨by (with_reducible repeat (first | apply Kd.R_alloc | apply Kd.R_drewN | apply Kd.R_drew)); exact HO_12.out⟩, ⟨by (with_reducible repeat (first | apply Kd.S_alloc | apply Kd.S_drewN | apply Kd.S_drew)); exact HO125.out⟩, ⟨by (with_reducible repeat (first | apply Kd.R_alloc | apply Kd.R_drewN | apply Kd.R_drew)); exact Kd.R_mono HO_111001.out (fun _ hk => trivial)⟩, ⟨by (with_reducible repeat (first | refine blk_drewN ?_ _ | refine blk_drew ?_ | refine blk_alloc ?_ _)); exact BK110.out⟩, ⟨by repeat (first | (with_reducible first | exact HB.out | apply below_alloc | apply pw_below_drewN | apply below_drew1 | refine below_set ?_ GE110.out) | exact HB.out)⟩⟩
              · rw [if_neg c44] at H
                exact absurd H (by simp)
            · rw [if_neg c42] at H
              have c42b0 : decide (x16_2 < t119) = false := decide_eq_false c42
              clear c42
              replace H := Option.bind_eq_some_iff.mp H
              obtain ⟨⟨t126, t127⟩, A510, H⟩ := H
              replace H : ((scullerlaw12_known.f).bind fun t130 => (if t130 = true then (if t109 = 0 then ((scullerref07_Bytes_c.f t101).bind fun t131 => (if (strOfNums x12_1).toList = (strOfNums t131).toList then (if t127 = true then ((scullerref07_Sizes_c.f t101).bind fun t134 => ((scullerref07_SameInts_c.f t126 t134).bind fun t137 => (if t137 = true then ((mani_Chunks.f t104 t105 t108).bind fun t138 => ((mani_Chunk.f t101 t138).bind fun t139 => (if (t139.length : Int) = 0 then ((mani_Size.f t104 t105 t108 (-1)).bind fun t142 => (some (t142 == 0))) else (some false)))) else (some false)))) else (some false)) else (some false))) else (some false)) else (some false))) = some r := H
              have A51 := Aside0.mk A510
              clear A510
              replace H := Option.bind_eq_some_iff.mp H
              obtain ⟨t130, A520, H⟩ := H
              replace H : (if t130 = true then (if t109 = 0 then ((scullerref07_Bytes_c.f t101).bind fun t131 => (if (strOfNums x12_1).toList = (strOfNums t131).toList then (if t127 = true then ((scullerref07_Sizes_c.f t101).bind fun t134 => ((scullerref07_SameInts_c.f t126 t134).bind fun t137 => (if t137 = true then ((mani_Chunks.f t104 t105 t108).bind fun t138 => ((mani_Chunk.f t101 t138).bind fun t139 => (if (t139.length : Int) = 0 then ((mani_Size.f t104 t105 t108 (-1)).bind fun t142 => (some (t142 == 0))) else (some false)))) else (some false)))) else (some false)) else (some false))) else (some false)) else (some false)) = some r := H
              have A52 := Aside0.mk A520
              clear A520
              by_cases c53 : t130 = true
              · subst c53
                have H1 : (if t109 = 0 then ((scullerref07_Bytes_c.f t101).bind fun t131 => (if (strOfNums x12_1).toList = (strOfNums t131).toList then (if t127 = true then ((scullerref07_Sizes_c.f t101).bind fun t134 => ((scullerref07_SameInts_c.f t126 t134).bind fun t137 => (if t137 = true then ((mani_Chunks.f t104 t105 t108).bind fun t138 => ((mani_Chunk.f t101 t138).bind fun t139 => (if (t139.length : Int) = 0 then ((mani_Size.f t104 t105 t108 (-1)).bind fun t142 => (some (t142 == 0))) else (some false)))) else (some false)))) else (some false)) else (some false))) else (some false)) = some r := by rw [if_pos rfl] at H; exact H
                clear H
                have H := H1
                clear H1
                by_cases c54 : t109 = 0
                · rw [if_pos c54] at H
                  have c54b0 : (t109 == 0) = true := beq_iff_eq.mpr c54
                  have c54b1 : (t109 != 0) = false := bne_eq_false_iff_eq.mpr c54
                  clear c54
                  replace H := Option.bind_eq_some_iff.mp H
                  obtain ⟨t131, A550, H⟩ := H
                  replace H : (if (strOfNums x12_1).toList = (strOfNums t131).toList then (if t127 = true then ((scullerref07_Sizes_c.f t101).bind fun t134 => ((scullerref07_SameInts_c.f t126 t134).bind fun t137 => (if t137 = true then ((mani_Chunks.f t104 t105 t108).bind fun t138 => ((mani_Chunk.f t101 t138).bind fun t139 => (if (t139.length : Int) = 0 then ((mani_Size.f t104 t105 t108 (-1)).bind fun t142 => (some (t142 == 0))) else (some false)))) else (some false)))) else (some false)) else (some false)) = some r := H
                  have A55 := Aside0.mk A550
                  clear A550
                  by_cases c56 : (strOfNums x12_1).toList = (strOfNums t131).toList
                  · rw [if_pos c56] at H
                    have c56b0 : ((strOfNums x12_1).toList == (strOfNums t131).toList) = true := beq_iff_eq.mpr c56
                    have c56b1 : ((strOfNums x12_1).toList != (strOfNums t131).toList) = false := bne_eq_false_iff_eq.mpr c56
                    clear c56
                    by_cases c57 : t127 = true
                    · subst c57
                      have H1 : ((scullerref07_Sizes_c.f t101).bind fun t134 => ((scullerref07_SameInts_c.f t126 t134).bind fun t137 => (if t137 = true then ((mani_Chunks.f t104 t105 t108).bind fun t138 => ((mani_Chunk.f t101 t138).bind fun t139 => (if (t139.length : Int) = 0 then ((mani_Size.f t104 t105 t108 (-1)).bind fun t142 => (some (t142 == 0))) else (some false)))) else (some false)))) = some r := by rw [if_pos rfl] at H; exact H
                      clear H
                      have H := H1
                      clear H1
                      replace H := Option.bind_eq_some_iff.mp H
                      obtain ⟨t134, A580, H⟩ := H
                      replace H : ((scullerref07_SameInts_c.f t126 t134).bind fun t137 => (if t137 = true then ((mani_Chunks.f t104 t105 t108).bind fun t138 => ((mani_Chunk.f t101 t138).bind fun t139 => (if (t139.length : Int) = 0 then ((mani_Size.f t104 t105 t108 (-1)).bind fun t142 => (some (t142 == 0))) else (some false)))) else (some false))) = some r := H
                      have A58 := Aside0.mk A580
                      clear A580
                      replace H := Option.bind_eq_some_iff.mp H
                      obtain ⟨t137, A590, H⟩ := H
                      replace H : (if t137 = true then ((mani_Chunks.f t104 t105 t108).bind fun t138 => ((mani_Chunk.f t101 t138).bind fun t139 => (if (t139.length : Int) = 0 then ((mani_Size.f t104 t105 t108 (-1)).bind fun t142 => (some (t142 == 0))) else (some false)))) else (some false)) = some r := H
                      have A59 := Aside0.mk A590
                      clear A590
                      by_cases c60 : t137 = true
                      · subst c60
                        have H1 : ((mani_Chunks.f t104 t105 t108).bind fun t138 => ((mani_Chunk.f t101 t138).bind fun t139 => (if (t139.length : Int) = 0 then ((mani_Size.f t104 t105 t108 (-1)).bind fun t142 => (some (t142 == 0))) else (some false)))) = some r := by rw [if_pos rfl] at H; exact H
                        clear H
                        have H := H1
                        clear H1
                        replace H := Option.bind_eq_some_iff.mp H
                        obtain ⟨t138, A610, H⟩ := H
                        replace H : ((mani_Chunk.f t101 t138).bind fun t139 => (if (t139.length : Int) = 0 then ((mani_Size.f t104 t105 t108 (-1)).bind fun t142 => (some (t142 == 0))) else (some false))) = some r := H
                        have A61 := Aside0.mk A610
                        clear A610
                        replace H := Option.bind_eq_some_iff.mp H
                        obtain ⟨t139, A620, H⟩ := H
                        replace H : (if (t139.length : Int) = 0 then ((mani_Size.f t104 t105 t108 (-1)).bind fun t142 => (some (t142 == 0))) else (some false)) = some r := H
                        have A62 := Aside0.mk A620
                        clear A620
                        by_cases c63 : (t139.length : Int) = 0
                        · rw [if_pos c63] at H
                          have c63b0 : ((t139.length : Int) == 0) = true := beq_iff_eq.mpr c63
                          have c63b1 : ((t139.length : Int) != 0) = false := bne_eq_false_iff_eq.mpr c63
                          clear c63
                          replace H := Option.bind_eq_some_iff.mp H
                          obtain ⟨t142, A640, H⟩ := H
                          replace H : (some (t142 == 0)) = some r := H
                          have A64 := Aside0.mk A640
                          clear A640
                          obtain rfl := Option.some.inj H
                          have hcz65_0 : wr.cell? ⟨gb110, 0, none⟩ = some (.int .u64 t104) := (blk_cell BK110.out 0).trans rfl
                          have hcz65_1 : wr.cell? ⟨gb110, 1, none⟩ = some (.slice Ao12 t105.length co12) := (blk_cell BK110.out 1).trans rfl
                          have hcz65_2 : wr.cell? ⟨gb110, 2, none⟩ = some (.int .u32 t108) := (blk_cell BK110.out 2).trans rfl
                          have hfz65_0 := blk_frozen BK110.out 0
                          have hfz65_1 := blk_frozen BK110.out 1
                          have hfz65_2 := blk_frozen BK110.out 2
                          try go_wp2_with (first | ((with_reducible refine gate_callee (f := 29) rfl ?_); refine goesL_ (some 54) rfl rfl Try.func29 (by kernel_rfl) rfl #[.agg #[.int .u64 t104, .slice Ao12 t105.length co12, .int .u32 t108]] rfl (by (try simp only [List.map_toArray, List.map_cons, List.map_nil]); first | done | rfl | (simp only [List.length_drop, List.length_take]; rfl)) ?_; (with_reducible refine (mani_Pages.calls t104 _ _ t105 t108 t119 _ ?side1 ?side2 A41.out).mono ?_); (case side1 => repeat (first | exact (Kd.R_reads' HO_111001.out).2.2 | (with_reducible refine Kd.C_alloc ?_ _) | (with_reducible refine Kd.C_drewN ?_ _) | (with_reducible refine Kd.C_drew ?_))); (case side2 => exact (Kd.R_reads' HO_111001.out).2.1); rintro e w66 ⟨rfl, hb⟩; refine ⟨_, rfl, ?_⟩; have n0_ := Aside0.mk (Kd.S_below (by (with_reducible repeat (first | apply Kd.S_alloc | apply Kd.S_drewN | apply Kd.S_drew)); exact HO_9.out) hb); have n1_ := Aside0.mk (Kd.R_below (by (with_reducible repeat (first | apply Kd.R_alloc | apply Kd.R_drewN | apply Kd.R_drew)); exact HO_12.out) hb); have n2_ := Aside0.mk (Kd.S_below (by (with_reducible repeat (first | apply Kd.S_alloc | apply Kd.S_drewN | apply Kd.S_drew)); exact HO_15.out) hb); have n3_ := Aside0.mk (Kd.R_below (by (with_reducible repeat (first | apply Kd.R_alloc | apply Kd.R_drewN | apply Kd.R_drew)); exact HO_111001.out) hb); have n4_ := Aside0.mk (blk_below (g := gb110) (o := .cells #[.int .u64 t104, .slice Ao12 t105.length co12, .int .u32 t108] 46 (0, 0)) (by (with_reducible repeat (first | refine blk_drewN ?_ _ | refine blk_drew ?_ | refine blk_alloc ?_ _)); exact BK110.out) hb); have n5_ := Aside0.mk (below_step (by repeat (first | (with_reducible first | exact HB.out | apply below_alloc | apply pw_below_drewN | apply below_drew1 | refine below_set ?_ GE110.out) | exact HB.out)) hb); clear HO_9; clear HO_12; clear HO_15; clear HO_111001; clear BK110; clear HB; have HO_9 := n0_; have HO_12 := n1_; have HO_15 := n2_; have HO_111001 := n3_; have BK110 := n4_; have HB := n5_; clear n0_ n1_ n2_ n3_ n4_ n5_; (try clear hb); (try clear hb2); (try clear hk); (try clear hi); obtain ⟨Ao67, co67, eo67⟩ := Kd.S_slice HO_15.out; subst eo67) | ((with_reducible refine gate_callee (f := 38) rfl ?_); refine goesL_ (some 66) rfl rfl Try.func38 (by kernel_rfl) rfl #[.slice Ao67 x15_2.length co67] rfl (by (try simp only [List.map_toArray, List.map_cons, List.map_nil]); first | done | rfl | (simp only [List.length_drop, List.length_take]; rfl)) ?_; (with_reducible refine (mani_Join_c.calls _ _ x15_2 t126 true _ ?side1 ?side2 A51.out).mono ?_); (case side1 => repeat (first | exact (Kd.S_reads' HO_15.out).2.2 | (with_reducible refine Kd.C_alloc ?_ _) | (with_reducible refine Kd.C_drewN ?_ _) | (with_reducible refine Kd.C_drew ?_))); (case side2 => exact (Kd.S_reads' HO_15.out).2.1); rintro e w68 ⟨v128, rfl, ho0, hb⟩; refine ⟨_, rfl, ?_⟩; have n0_ := Aside0.mk (Kd.S_below (by (with_reducible repeat (first | apply Kd.S_alloc | apply Kd.S_drewN | apply Kd.S_drew)); exact HO_9.out) hb); have n1_ := Aside0.mk (Kd.R_below (by (with_reducible repeat (first | apply Kd.R_alloc | apply Kd.R_drewN | apply Kd.R_drew)); exact HO_12.out) hb); have n2_ := Aside0.mk (Kd.S_elder' (by (with_reducible repeat (first | apply Kd.S_alloc | apply Kd.S_drewN | apply Kd.S_drew)); exact HO_15.out) (Kd.R_base ho0) hb); have n3_ := Aside0.mk (Kd.R_elder' (by (with_reducible repeat (first | apply Kd.R_alloc | apply Kd.R_drewN | apply Kd.R_drew)); exact HO_111001.out) (Kd.R_base ho0) hb); have n4_ := Aside0.mk (Kd.R_lower (Kd.R_new' ho0 (Kd.R_lt (by (with_reducible repeat (first | apply Kd.R_alloc | apply Kd.R_drewN | apply Kd.R_drew)); exact HO_111001.out))) (below_size (by repeat (first | (with_reducible first | exact HB.out | apply below_alloc | apply pw_below_drewN | apply below_drew1 | refine below_set ?_ GE110.out) | exact HB.out)))); have n5_ := Aside0.mk (blk_below (g := gb110) (o := .cells #[.int .u64 t104, .slice Ao12 t105.length co12, .int .u32 t108] 46 (0, 0)) (by (with_reducible repeat (first | refine blk_drewN ?_ _ | refine blk_drew ?_ | refine blk_alloc ?_ _)); exact BK110.out) hb); have n6_ := Aside0.mk (below_step (by repeat (first | (with_reducible first | exact HB.out | apply below_alloc | apply pw_below_drewN | apply below_drew1 | refine below_set ?_ GE110.out) | exact HB.out)) hb); clear HO_9; clear HO_12; clear HO_15; clear HO_111001; clear BK110; clear HB; have HO_9 := n0_; have HO_12 := n1_; have HO_15 := n2_; have HO_111001 := n3_; have HO129 := n4_; have BK110 := n5_; have HB := n6_; clear n0_ n1_ n2_ n3_ n4_ n5_ n6_; (try clear hb); (try clear hb2); (try clear hk); (try clear hi); (try clear ho0); obtain ⟨Ao69, co69, eo69⟩ := Kd.R_slice HO129.out; subst eo69))
                          have n0_ := Aside0.mk (Kd.S_drew HO_9.out)
                          have n1_ := Aside0.mk (Kd.R_drew HO_12.out)
                          have n2_ := Aside0.mk (Kd.S_drew HO_15.out)
                          have n3_ := Aside0.mk (Kd.R_drew HO_111001.out)
                          have n4_ := Aside0.mk (Kd.R_drew HO129.out)
                          have n5_ := Aside0.mk (blk_drew BK110.out)
                          have n6_ := Aside0.mk (below_drew1 HB.out)
                          clear HO_9
                          clear HO_12
                          clear HO_15
                          clear HO_111001
                          clear HO129
                          clear BK110
                          clear HB
                          have HO_9 := n0_
                          have HO_12 := n1_
                          have HO_15 := n2_
                          have HO_111001 := n3_
                          have HO129 := n4_
                          have BK110 := n5_
                          have HB := n6_
                          clear n0_ n1_ n2_ n3_ n4_ n5_ n6_
                          refine start_ (n := 36) (S := fun w' => w'.cell? ⟨gb110, 0, none⟩ = some (.int .u64 t104) ∧ w'.cell? ⟨gb110, 1, none⟩ = some (.slice Ao12 t105.length co12) ∧ w'.cell? ⟨gb110, 2, none⟩ = some (.int .u32 t108) ∧ (Go.convert 23 9 u12).run Try.prog w' = .ok (.string (strOfNums x12_1)) w') (ds := []) #[false, false, false, false, false, false, false, false, false, false, false, false, false, false, false, false, false, false, false, false, false, false, false, false, false, false, false, false, false, false, false, false, false, false, false, false] (by kernel_rfl) rfl rfl ⟨(blk_cell BK110.out 0).trans rfl, (blk_cell BK110.out 1).trans rfl, (blk_cell BK110.out 2).trans rfl, own_string (P := Try.prog) Try.underlying23 Try.underlying5 Try.underlying9 (Kd.own_of_R HO_12.out)⟩ (fun hHeld => ?_); refine with_tabW scullerlaw12_ManiWhole.tab17 scullerlaw12_ManiWhole.bits17 (fun HT_ HW_ => ?_)
                          generalize w68.drew = w70 at HO_9 HO_12 HO_15 HO_111001 HO129 BK110 HB hHeld ⊢
                          refine one_ (i := 0) (N := some 69) #[true, false, false, false, false, false, false, false, false, false, false, false, false, false, false, false, false, false, false, false, false, false, false, false, false, false, false, false, false, false, false, false, false, false, false, false] rfl rfl (one_of HT_.out (by kernel_rfl)) (by decide) (fun K hK => ?_)
                          refine goes_ Try.func25 (by kernel_rfl) rfl #[] (by rfl) rfl rfl (by (try simp only [List.map_toArray, List.map_cons, List.map_nil]); first | done | rfl | (simp only [List.length_drop, List.length_take]; rfl)) ?_
                          with_reducible refine (scullerlaw12_known.calls  true _ A52.out).mono ?_
                          rintro e w71 ⟨rfl, hb⟩
                          refine ⟨_, rfl, ?_⟩
                          have n0_ := Aside0.mk (Kd.S_below (by (with_reducible repeat (first | apply Kd.S_alloc | apply Kd.S_drewN | apply Kd.S_drew)); exact HO_9.out) hb)
                          have n1_ := Aside0.mk (Kd.R_below (by (with_reducible repeat (first | apply Kd.R_alloc | apply Kd.R_drewN | apply Kd.R_drew)); exact HO_12.out) hb)
                          have n2_ := Aside0.mk (Kd.S_below (by (with_reducible repeat (first | apply Kd.S_alloc | apply Kd.S_drewN | apply Kd.S_drew)); exact HO_15.out) hb)
                          have n3_ := Aside0.mk (Kd.R_below (by (with_reducible repeat (first | apply Kd.R_alloc | apply Kd.R_drewN | apply Kd.R_drew)); exact HO_111001.out) hb)
                          have n4_ := Aside0.mk (Kd.R_below (by (with_reducible repeat (first | apply Kd.R_alloc | apply Kd.R_drewN | apply Kd.R_drew)); exact HO129.out) hb)
                          have n5_ := Aside0.mk (blk_below (g := gb110) (o := .cells #[.int .u64 t104, .slice Ao12 t105.length co12, .int .u32 t108] 46 (0, 0)) (by (with_reducible repeat (first | refine blk_drewN ?_ _ | refine blk_drew ?_ | refine blk_alloc ?_ _)); exact BK110.out) hb)
                          have n6_ := Aside0.mk (below_step (by repeat (first | (with_reducible first | exact HB.out | apply below_alloc | apply pw_below_drewN | apply below_drew1 | refine below_set ?_ GE110.out) | exact HB.out)) hb)
                          clear HO_9
                          clear HO_12
                          clear HO_15
                          clear HO_111001
                          clear HO129
                          clear BK110
                          clear HB
                          have HO_9 := n0_
                          have HO_12 := n1_
                          have HO_15 := n2_
                          have HO_111001 := n3_
                          have HO129 := n4_
                          have BK110 := n5_
                          have HB := n6_
                          clear n0_ n1_ n2_ n3_ n4_ n5_ n6_
                          (try clear hb)
                          (try clear hb2)
                          (try clear hk)
                          (try clear hi)
                          have hcv72 := own_string (P := Try.prog) Try.underlying23 Try.underlying5 Try.underlying9 (Kd.own_of_R HO_12.out)
                          refine hK.out _ _ ⟨(blk_cell BK110.out 0).trans rfl, (blk_cell BK110.out 1).trans rfl, (blk_cell BK110.out 2).trans rfl, own_string (P := Try.prog) Try.underlying23 Try.underlying5 Try.underlying9 (Kd.own_of_R HO_12.out)⟩ (fun hHeld => ?_)
                          clear hK K
                          refine norm_ (a' := ?_) ?_ ?_
                          rotate_left
                          · show Act.put _ (some 69) _ = _
                            simp only [Act.put, List.setIfInBounds_toArray, List.set_cons_zero, List.set_cons_succ, i64_w, i32_w]
                            rfl
                          refine pure_ (i := 1) (N := some 70) (v := ?_) (a' := ?_) #[true, true, false, false, false, false, false, false, false, false, false, false, false, false, false, false, false, false, false, false, false, false, false, false, false, false, false, false, false, false, false, false, false, false, false, false] rfl rfl (any_of HT_.out (by kernel_rfl)) (fun _ _ _ h => h) (Or.inl ⟨by rfl, ?_⟩) ?_ ?_
                          rotate_left
                          · intro w'
                            go_simp
                            with_reducible rfl
                          rotate_left
                          · simp only [Act.put, List.setIfInBounds_toArray, List.set_cons_zero, List.set_cons_succ, i64_w, i32_w]
                            rfl
                          refine pure_ (i := 2) (N := some 71) (v := ?_) (a' := ?_) #[true, true, true, false, false, false, false, false, false, false, false, false, false, false, false, false, false, false, false, false, false, false, false, false, false, false, false, false, false, false, false, false, false, false, false, false] rfl rfl (any_of HT_.out (by kernel_rfl)) (fun _ _ _ h => h) (Or.inl ⟨by rfl, ?_⟩) ?_ ?_
                          rotate_left
                          · intro w'
                            go_simp
                            with_reducible rfl
                          rotate_left
                          · simp only [Act.put, List.setIfInBounds_toArray, List.set_cons_zero, List.set_cons_succ, i64_w, i32_w]
                            rfl
                          refine pure_ (i := 3) (N := some 72) (v := ?_) (a' := ?_) #[true, true, true, true, false, false, false, false, false, false, false, false, false, false, false, false, false, false, false, false, false, false, false, false, false, false, false, false, false, false, false, false, false, false, false, false] rfl rfl (any_of HT_.out (by kernel_rfl)) (fun _ _ _ h => h) (Or.inl ⟨by rfl, ?_⟩) ?_ ?_
                          rotate_left
                          · intro w'
                            go_simp
                            with_reducible rfl
                          rotate_left
                          · simp only [Act.put, List.setIfInBounds_toArray, List.set_cons_zero, List.set_cons_succ, i64_w, i32_w]
                            rfl
                          refine pure_ (i := 4) (N := some 73) (v := ?_) (a' := ?_) #[true, true, true, true, true, false, false, false, false, false, false, false, false, false, false, false, false, false, false, false, false, false, false, false, false, false, false, false, false, false, false, false, false, false, false, false] rfl rfl (any_of HT_.out (by kernel_rfl)) (fun _ _ _ h => h) (Or.inl ⟨by rfl, ?_⟩) ?_ ?_
                          rotate_left
                          · intro w'
                            go_simp
                            with_reducible rfl
                          rotate_left
                          · simp only [Act.put, List.setIfInBounds_toArray, List.set_cons_zero, List.set_cons_succ, i64_w, i32_w]
                            rfl
                          refine pure_ (i := 5) (N := some 74) (v := ?_) (a' := ?_) #[true, true, true, true, true, true, false, false, false, false, false, false, false, false, false, false, false, false, false, false, false, false, false, false, false, false, false, false, false, false, false, false, false, false, false, false] rfl rfl (any_of HT_.out (by kernel_rfl)) (fun _ _ _ h => h) (Or.inl ⟨by rfl, ?_⟩) ?_ ?_
                          rotate_left
                          · intro w'
                            go_simp
                            with_reducible rfl
                          rotate_left
                          · simp only [Act.put, List.setIfInBounds_toArray, List.set_cons_zero, List.set_cons_succ, i64_w, i32_w]
                            rfl
                          refine pure_ (i := 6) (N := some 75) (v := ?_) (a' := ?_) #[true, true, true, true, true, true, true, false, false, false, false, false, false, false, false, false, false, false, false, false, false, false, false, false, false, false, false, false, false, false, false, false, false, false, false, false] rfl rfl (any_of HT_.out (by kernel_rfl)) (fun _ _ _ h => h) (Or.inl ⟨by rfl, ?_⟩) ?_ ?_
                          rotate_left
                          · intro w'
                            go_simp
                            with_reducible rfl
                          rotate_left
                          · simp only [Act.put, List.setIfInBounds_toArray, List.set_cons_zero, List.set_cons_succ, i64_w, i32_w]
                            rfl
                          refine take_ (i := 7) (N := some 76) (v := ?_) (a' := ?_) #[true, true, true, true, true, true, true, true, false, false, false, false, false, false, false, false, false, false, false, false, false, false, false, false, false, false, false, false, false, false, false, false, false, false, false, false] rfl rfl (take_ofW HT_.out HW_.out (by kernel_rfl)) (fun _ _ _ h => h) (Or.inl ⟨by rfl, ?_⟩) hHeld ?_ ?_
                          rotate_left
                          · rintro w' ⟨s0, s1, s2, s3⟩
                            go_simp
                            with_reducible rfl
                          rotate_left
                          · simp only [Act.put, List.setIfInBounds_toArray, List.set_cons_zero, List.set_cons_succ, i64_w, i32_w]
                            rfl
                          refine pure_ (i := 8) (N := some 77) (v := ?_) (a' := ?_) #[true, true, true, true, true, true, true, true, true, false, false, false, false, false, false, false, false, false, false, false, false, false, false, false, false, false, false, false, false, false, false, false, false, false, false, false] rfl rfl (any_of HT_.out (by kernel_rfl)) (fun _ _ _ h => h) (Or.inl ⟨by rfl, ?_⟩) ?_ ?_
                          rotate_left
                          · intro w'
                            go_simp
                            with_reducible rfl
                          rotate_left
                          · simp only [Act.put, List.setIfInBounds_toArray, List.set_cons_zero, List.set_cons_succ, i64_w, i32_w]
                            rfl
                          refine one_ (i := 9) (N := some 78) #[true, true, true, true, true, true, true, true, true, true, false, false, false, false, false, false, false, false, false, false, false, false, false, false, false, false, false, false, false, false, false, false, false, false, false, false] rfl rfl (one_of HT_.out (by kernel_rfl)) (by decide) (fun K hK => ?_)
                          refine goes_ Try.func14 (by kernel_rfl) rfl #[.slice Ao8 t101.length co8] (by rfl) rfl rfl (by (try simp only [List.map_toArray, List.map_cons, List.map_nil]); first | done | rfl | (simp only [List.length_drop, List.length_take]; rfl)) ?_
                          with_reducible refine (scullerref07_Bytes_c.calls _ _ t101 t131 _ ?side1 ?side2 A55.out).mono ?_
                          (case side1 => repeat (first | exact (Kd.S_reads' HO_9.out).2.2 | (with_reducible refine Kd.C_alloc ?_ _) | (with_reducible refine Kd.C_drewN ?_ _) | (with_reducible refine Kd.C_drew ?_)))
                          (case side2 => exact (Kd.S_reads' HO_9.out).2.1)
                          rintro e w73 ⟨v132, rfl, ho0, hb⟩
                          refine ⟨_, rfl, ?_⟩
                          have n0_ := Aside0.mk (Kd.S_below (by (with_reducible repeat (first | apply Kd.S_alloc | apply Kd.S_drewN | apply Kd.S_drew)); exact HO_9.out) hb)
                          have n1_ := Aside0.mk (Kd.R_elder' (by (with_reducible repeat (first | apply Kd.R_alloc | apply Kd.R_drewN | apply Kd.R_drew)); exact HO_12.out) (Kd.R_base ho0) hb)
                          have n2_ := Aside0.mk (Kd.S_below (by (with_reducible repeat (first | apply Kd.S_alloc | apply Kd.S_drewN | apply Kd.S_drew)); exact HO_15.out) hb)
                          have n3_ := Aside0.mk (Kd.R_below (by (with_reducible repeat (first | apply Kd.R_alloc | apply Kd.R_drewN | apply Kd.R_drew)); exact HO_111001.out) hb)
                          have n4_ := Aside0.mk (Kd.R_below (by (with_reducible repeat (first | apply Kd.R_alloc | apply Kd.R_drewN | apply Kd.R_drew)); exact HO129.out) hb)
                          have n5_ := Aside0.mk (Kd.R_lower (Kd.R_new' ho0 (Kd.R_lt (by (with_reducible repeat (first | apply Kd.R_alloc | apply Kd.R_drewN | apply Kd.R_drew)); exact HO_12.out))) (below_size (by repeat (first | (with_reducible first | exact HB.out | apply below_alloc | apply pw_below_drewN | apply below_drew1 | refine below_set ?_ GE110.out) | exact HB.out))))
                          have n6_ := Aside0.mk (blk_below (g := gb110) (o := .cells #[.int .u64 t104, .slice Ao12 t105.length co12, .int .u32 t108] 46 (0, 0)) (by (with_reducible repeat (first | refine blk_drewN ?_ _ | refine blk_drew ?_ | refine blk_alloc ?_ _)); exact BK110.out) hb)
                          have n7_ := Aside0.mk (below_step (by repeat (first | (with_reducible first | exact HB.out | apply below_alloc | apply pw_below_drewN | apply below_drew1 | refine below_set ?_ GE110.out) | exact HB.out)) hb)
                          clear HO_9
                          clear HO_12
                          clear HO_15
                          clear HO_111001
                          clear HO129
                          clear BK110
                          clear HB
                          have HO_9 := n0_
                          have HO_12 := n1_
                          have HO_15 := n2_
                          have HO_111001 := n3_
                          have HO129 := n4_
                          have HO133 := n5_
                          have BK110 := n6_
                          have HB := n7_
                          clear n0_ n1_ n2_ n3_ n4_ n5_ n6_ n7_
                          (try clear hb)
                          (try clear hb2)
                          (try clear hk)
                          (try clear hi)
                          (try clear ho0)
                          refine hK.out _ _ ⟨(blk_cell BK110.out 0).trans rfl, (blk_cell BK110.out 1).trans rfl, (blk_cell BK110.out 2).trans rfl, own_string (P := Try.prog) Try.underlying23 Try.underlying5 Try.underlying9 (Kd.own_of_R HO_12.out)⟩ (fun hHeld => ?_)
                          clear hK K
                          refine norm_ (a' := ?_) ?_ ?_
                          rotate_left
                          · show Act.put _ (some 78) _ = _
                            simp only [Act.put, List.setIfInBounds_toArray, List.set_cons_zero, List.set_cons_succ, i64_w, i32_w]
                            rfl
                          refine one_ (i := 10) (N := some 79) #[true, true, true, true, true, true, true, true, true, true, true, false, false, false, false, false, false, false, false, false, false, false, false, false, false, false, false, false, false, false, false, false, false, false, false, false] rfl rfl (one_of HT_.out (by kernel_rfl)) (by decide) (fun K hK => ?_)
                          have hcv74 := own_string (P := Try.prog) Try.underlying23 Try.underlying5 Try.underlying9 (Kd.own_of_R HO133.out)
                          refine value_ (w1 := ?_) (v := ?_) (by rfl) rfl ?_ ?_
                          rotate_left 2
                          · go_simp
                            constructor
                            · rfl
                            · rfl
                          clear hcv74
                          refine hK.out _ _ ⟨(blk_cell BK110.out 0).trans rfl, (blk_cell BK110.out 1).trans rfl, (blk_cell BK110.out 2).trans rfl, own_string (P := Try.prog) Try.underlying23 Try.underlying5 Try.underlying9 (Kd.own_of_R HO_12.out)⟩ (fun hHeld => ?_)
                          clear hK K
                          refine norm_ (a' := ?_) ?_ ?_
                          rotate_left
                          · show Act.put _ (some 79) _ = _
                            simp only [Act.put, List.setIfInBounds_toArray, List.set_cons_zero, List.set_cons_succ, i64_w, i32_w]
                            rfl
                          refine pure_ (i := 11) (N := some 80) (v := ?_) (a' := ?_) #[true, true, true, true, true, true, true, true, true, true, true, true, false, false, false, false, false, false, false, false, false, false, false, false, false, false, false, false, false, false, false, false, false, false, false, false] rfl rfl (any_of HT_.out (by kernel_rfl)) (fun _ _ _ h => h) (Or.inl ⟨by rfl, ?_⟩) ?_ ?_
                          rotate_left
                          · intro w'
                            go_simp
                            with_reducible rfl
                          rotate_left
                          · simp only [Act.put, List.setIfInBounds_toArray, List.set_cons_zero, List.set_cons_succ, i64_w, i32_w]
                            rfl
                          refine pure_ (i := 12) (N := some 81) (v := ?_) (a' := ?_) #[true, true, true, true, true, true, true, true, true, true, true, true, true, false, false, false, false, false, false, false, false, false, false, false, false, false, false, false, false, false, false, false, false, false, false, false] rfl rfl (any_of HT_.out (by kernel_rfl)) (fun _ _ _ h => h) (Or.inl ⟨by rfl, ?_⟩) ?_ ?_
                          rotate_left
                          · intro w'
                            go_simp
                            with_reducible rfl
                          rotate_left
                          · simp only [Act.put, List.setIfInBounds_toArray, List.set_cons_zero, List.set_cons_succ, i64_w, i32_w]
                            rfl
                          refine pure_ (i := 13) (N := some 82) (v := ?_) (a' := ?_) #[true, true, true, true, true, true, true, true, true, true, true, true, true, true, false, false, false, false, false, false, false, false, false, false, false, false, false, false, false, false, false, false, false, false, false, false] rfl rfl (any_of HT_.out (by kernel_rfl)) (fun _ _ _ h => h) (Or.inl ⟨by rfl, ?_⟩) ?_ ?_
                          rotate_left
                          · intro w'
                            go_simp
                            with_reducible rfl
                          rotate_left
                          · simp only [Act.put, List.setIfInBounds_toArray, List.set_cons_zero, List.set_cons_succ, i64_w, i32_w]
                            rfl
                          refine pure_ (i := 14) (N := some 83) (v := ?_) (a' := ?_) #[true, true, true, true, true, true, true, true, true, true, true, true, true, true, true, false, false, false, false, false, false, false, false, false, false, false, false, false, false, false, false, false, false, false, false, false] rfl rfl (any_of HT_.out (by kernel_rfl)) (fun _ _ _ h => h) (Or.inl ⟨by rfl, ?_⟩) ?_ ?_
                          rotate_left
                          · intro w'
                            go_simp
                            with_reducible rfl
                          rotate_left
                          · simp only [Act.put, List.setIfInBounds_toArray, List.set_cons_zero, List.set_cons_succ, i64_w, i32_w]
                            rfl
                          refine pure_ (i := 15) (N := some 84) (v := ?_) (a' := ?_) #[true, true, true, true, true, true, true, true, true, true, true, true, true, true, true, true, false, false, false, false, false, false, false, false, false, false, false, false, false, false, false, false, false, false, false, false] rfl rfl (any_of HT_.out (by kernel_rfl)) (fun _ _ _ h => h) (Or.inl ⟨by rfl, ?_⟩) ?_ ?_
                          rotate_left
                          · intro w'
                            go_simp
                            with_reducible rfl
                          rotate_left
                          · simp only [Act.put, List.setIfInBounds_toArray, List.set_cons_zero, List.set_cons_succ, i64_w, i32_w]
                            rfl
                          refine pure_ (i := 16) (N := some 85) (v := ?_) (a' := ?_) #[true, true, true, true, true, true, true, true, true, true, true, true, true, true, true, true, true, false, false, false, false, false, false, false, false, false, false, false, false, false, false, false, false, false, false, false] rfl rfl (any_of HT_.out (by kernel_rfl)) (fun _ _ _ h => h) (Or.inl ⟨by rfl, ?_⟩) ?_ ?_
                          rotate_left
                          · intro w'
                            go_simp
                            with_reducible rfl
                          rotate_left
                          · simp only [Act.put, List.setIfInBounds_toArray, List.set_cons_zero, List.set_cons_succ, i64_w, i32_w]
                            rfl
                          refine pure_ (i := 17) (N := some 86) (v := ?_) (a' := ?_) #[true, true, true, true, true, true, true, true, true, true, true, true, true, true, true, true, true, true, false, false, false, false, false, false, false, false, false, false, false, false, false, false, false, false, false, false] rfl rfl (any_of HT_.out (by kernel_rfl)) (fun _ _ _ h => h) (Or.inl ⟨by rfl, ?_⟩) ?_ ?_
                          rotate_left
                          · intro w'
                            go_simp
                            with_reducible rfl
                          rotate_left
                          · simp only [Act.put, List.setIfInBounds_toArray, List.set_cons_zero, List.set_cons_succ, i64_w, i32_w]
                            rfl
                          refine pure_ (i := 18) (N := some 87) (v := ?_) (a' := ?_) #[true, true, true, true, true, true, true, true, true, true, true, true, true, true, true, true, true, true, true, false, false, false, false, false, false, false, false, false, false, false, false, false, false, false, false, false] rfl rfl (any_of HT_.out (by kernel_rfl)) (fun _ _ _ h => h) (Or.inl ⟨by rfl, ?_⟩) ?_ ?_
                          rotate_left
                          · intro w'
                            go_simp
                            with_reducible rfl
                          rotate_left
                          · simp only [Act.put, List.setIfInBounds_toArray, List.set_cons_zero, List.set_cons_succ, i64_w, i32_w]
                            rfl
                          refine one_ (i := 19) (N := some 88) #[true, true, true, true, true, true, true, true, true, true, true, true, true, true, true, true, true, true, true, true, false, false, false, false, false, false, false, false, false, false, false, false, false, false, false, false] rfl rfl (one_of HT_.out (by kernel_rfl)) (by decide) (fun K hK => ?_)
                          refine goes_ Try.func16 (by kernel_rfl) rfl #[.slice Ao8 t101.length co8] (by rfl) rfl rfl (by (try simp only [List.map_toArray, List.map_cons, List.map_nil]); first | done | rfl | (simp only [List.length_drop, List.length_take]; rfl)) ?_
                          with_reducible refine (scullerref07_Sizes_c.calls _ _ t101 t134 _ ?side1 ?side2 A58.out).mono ?_
                          (case side1 => repeat (first | exact (Kd.S_reads' HO_9.out).2.2 | (with_reducible refine Kd.C_alloc ?_ _) | (with_reducible refine Kd.C_drewN ?_ _) | (with_reducible refine Kd.C_drew ?_)))
                          (case side2 => exact (Kd.S_reads' HO_9.out).2.1)
                          rintro e w76 ⟨v135, rfl, ho0, hb⟩
                          refine ⟨_, rfl, ?_⟩
                          have n0_ := Aside0.mk (Kd.S_below (by (with_reducible repeat (first | apply Kd.S_alloc | apply Kd.S_drewN | apply Kd.S_drew)); exact HO_9.out) hb)
                          have n1_ := Aside0.mk (Kd.R_below (by (with_reducible repeat (first | apply Kd.R_alloc | apply Kd.R_drewN | apply Kd.R_drew)); exact HO_12.out) hb)
                          have n2_ := Aside0.mk (Kd.S_elder' (by (with_reducible repeat (first | apply Kd.S_alloc | apply Kd.S_drewN | apply Kd.S_drew)); exact HO_15.out) (Kd.R_base ho0) hb)
                          have n3_ := Aside0.mk (Kd.R_elder' (by (with_reducible repeat (first | apply Kd.R_alloc | apply Kd.R_drewN | apply Kd.R_drew)); exact HO_111001.out) (Kd.R_base ho0) hb)
                          have n4_ := Aside0.mk (Kd.R_elder' (by (with_reducible repeat (first | apply Kd.R_alloc | apply Kd.R_drewN | apply Kd.R_drew)); exact HO129.out) (Kd.R_base ho0) hb)
                          have n5_ := Aside0.mk (Kd.R_below (by (with_reducible repeat (first | apply Kd.R_alloc | apply Kd.R_drewN | apply Kd.R_drew)); exact HO133.out) hb)
                          have n6_ := Aside0.mk (Kd.R_lower (Kd.R_new' (Kd.R_new' ho0 (Kd.R_lt (by (with_reducible repeat (first | apply Kd.R_alloc | apply Kd.R_drewN | apply Kd.R_drew)); exact HO_111001.out))) (Kd.R_lt (by (with_reducible repeat (first | apply Kd.R_alloc | apply Kd.R_drewN | apply Kd.R_drew)); exact HO129.out))) (below_size (by repeat (first | (with_reducible first | exact HB.out | apply below_alloc | apply pw_below_drewN | apply below_drew1 | refine below_set ?_ GE110.out) | exact HB.out))))
                          have n7_ := Aside0.mk (blk_below (g := gb110) (o := .cells #[.int .u64 t104, .slice Ao12 t105.length co12, .int .u32 t108] 46 (0, 0)) (by (with_reducible repeat (first | refine blk_drewN ?_ _ | refine blk_drew ?_ | refine blk_alloc ?_ _)); exact BK110.out) hb)
                          have n8_ := Aside0.mk (below_step (by repeat (first | (with_reducible first | exact HB.out | apply below_alloc | apply pw_below_drewN | apply below_drew1 | refine below_set ?_ GE110.out) | exact HB.out)) hb)
                          clear HO_9
                          clear HO_12
                          clear HO_15
                          clear HO_111001
                          clear HO129
                          clear HO133
                          clear BK110
                          clear HB
                          have HO_9 := n0_
                          have HO_12 := n1_
                          have HO_15 := n2_
                          have HO_111001 := n3_
                          have HO129 := n4_
                          have HO133 := n5_
                          have HO136 := n6_
                          have BK110 := n7_
                          have HB := n8_
                          clear n0_ n1_ n2_ n3_ n4_ n5_ n6_ n7_ n8_
                          (try clear hb)
                          (try clear hb2)
                          (try clear hk)
                          (try clear hi)
                          (try clear ho0)
                          obtain ⟨Ao77, co77, eo77⟩ := Kd.R_slice HO136.out
                          (first | subst eo77 | (injection eo77 with f1_ f2_ f3_; have f4_ := f1_.symm; have f5_ := f3_.symm; clear f1_ f2_ f3_; subst f4_; subst f5_))
                          refine hK.out _ _ ⟨(blk_cell BK110.out 0).trans rfl, (blk_cell BK110.out 1).trans rfl, (blk_cell BK110.out 2).trans rfl, own_string (P := Try.prog) Try.underlying23 Try.underlying5 Try.underlying9 (Kd.own_of_R HO_12.out)⟩ (fun hHeld => ?_)
                          clear hK K
                          refine norm_ (a' := ?_) ?_ ?_
                          rotate_left
                          · show Act.put _ (some 88) _ = _
                            simp only [Act.put, List.setIfInBounds_toArray, List.set_cons_zero, List.set_cons_succ, i64_w, i32_w]
                            rfl
                          refine one_ (i := 20) (N := some 89) #[true, true, true, true, true, true, true, true, true, true, true, true, true, true, true, true, true, true, true, true, true, false, false, false, false, false, false, false, false, false, false, false, false, false, false, false] rfl rfl (one_of HT_.out (by kernel_rfl)) (by decide) (fun K hK => ?_)
                          refine goes_ Try.func22 (by kernel_rfl) rfl #[.slice Ao69 t126.length co69, .slice Ao77 t134.length co77] (by rfl) rfl rfl (by (try simp only [List.map_toArray, List.map_cons, List.map_nil]); first | done | rfl | (simp only [List.length_drop, List.length_take]; rfl)) ?_
                          with_reducible refine (scullerref07_SameInts_c.calls _ _ t126 _ _ t134 true _ ?side1 ?side2 ?side3 ?side4 A59.out).mono ?_
                          (case side1 => repeat (first | exact (Kd.R_reads' HO129.out).2.2 | (with_reducible refine Kd.C_alloc ?_ _) | (with_reducible refine Kd.C_drewN ?_ _) | (with_reducible refine Kd.C_drew ?_)))
                          (case side2 => exact (Kd.R_reads' HO129.out).2.1)
                          (case side3 => repeat (first | exact (Kd.R_reads' HO136.out).2.2 | (with_reducible refine Kd.C_alloc ?_ _) | (with_reducible refine Kd.C_drewN ?_ _) | (with_reducible refine Kd.C_drew ?_)))
                          (case side4 => exact (Kd.R_reads' HO136.out).2.1)
                          rintro e w' ⟨rfl, ⟨nd, rfl⟩⟩
                          refine ⟨_, rfl, ?_⟩
                          refine hK.out _ _ ⟨(blk_cell BK110.out 0).trans rfl, (blk_cell BK110.out 1).trans rfl, (blk_cell BK110.out 2).trans rfl, own_string (P := Try.prog) Try.underlying23 Try.underlying5 Try.underlying9 (Kd.own_of_R HO_12.out)⟩ (fun hHeld => ?_)
                          clear hK K
                          refine norm_ (a' := ?_) ?_ ?_
                          rotate_left
                          · show Act.put _ (some 89) _ = _
                            simp only [Act.put, List.setIfInBounds_toArray, List.set_cons_zero, List.set_cons_succ, i64_w, i32_w]
                            rfl
                          refine pure_ (i := 21) (N := some 90) (v := ?_) (a' := ?_) #[true, true, true, true, true, true, true, true, true, true, true, true, true, true, true, true, true, true, true, true, true, true, false, false, false, false, false, false, false, false, false, false, false, false, false, false] rfl rfl (any_of HT_.out (by kernel_rfl)) (fun _ _ _ h => h) (Or.inl ⟨by rfl, ?_⟩) ?_ ?_
                          rotate_left
                          · intro w'
                            go_simp
                            with_reducible rfl
                          rotate_left
                          · simp only [Act.put, List.setIfInBounds_toArray, List.set_cons_zero, List.set_cons_succ, i64_w, i32_w]
                            rfl
                          refine pure_ (i := 22) (N := some 91) (v := ?_) (a' := ?_) #[true, true, true, true, true, true, true, true, true, true, true, true, true, true, true, true, true, true, true, true, true, true, true, false, false, false, false, false, false, false, false, false, false, false, false, false] rfl rfl (any_of HT_.out (by kernel_rfl)) (fun _ _ _ h => h) (Or.inl ⟨by rfl, ?_⟩) ?_ ?_
                          rotate_left
                          · intro w'
                            go_simp
                            with_reducible rfl
                          rotate_left
                          · simp only [Act.put, List.setIfInBounds_toArray, List.set_cons_zero, List.set_cons_succ, i64_w, i32_w]
                            rfl
                          refine pure_ (i := 23) (N := some 92) (v := ?_) (a' := ?_) #[true, true, true, true, true, true, true, true, true, true, true, true, true, true, true, true, true, true, true, true, true, true, true, true, false, false, false, false, false, false, false, false, false, false, false, false] rfl rfl (any_of HT_.out (by kernel_rfl)) (fun _ _ _ h => h) (Or.inl ⟨by rfl, ?_⟩) ?_ ?_
                          rotate_left
                          · intro w'
                            go_simp
                            with_reducible rfl
                          rotate_left
                          · simp only [Act.put, List.setIfInBounds_toArray, List.set_cons_zero, List.set_cons_succ, i64_w, i32_w]
                            rfl
                          refine take_ (i := 24) (N := some 93) (v := ?_) (a' := ?_) #[true, true, true, true, true, true, true, true, true, true, true, true, true, true, true, true, true, true, true, true, true, true, true, true, true, false, false, false, false, false, false, false, false, false, false, false] rfl rfl (take_ofW HT_.out HW_.out (by kernel_rfl)) (fun _ _ _ h => h) (Or.inl ⟨by rfl, ?_⟩) hHeld ?_ ?_
                          rotate_left
                          · rintro w' ⟨s0, s1, s2, s3⟩
                            go_simp
                            with_reducible rfl
                          rotate_left
                          · simp only [Act.put, List.setIfInBounds_toArray, List.set_cons_zero, List.set_cons_succ, i64_w, i32_w]
                            rfl
                          refine one_ (i := 25) (N := some 94) #[true, true, true, true, true, true, true, true, true, true, true, true, true, true, true, true, true, true, true, true, true, true, true, true, true, true, false, false, false, false, false, false, false, false, false, false] rfl rfl (one_of HT_.out (by kernel_rfl)) (by decide) (fun K hK => ?_)
                          refine goes_ Try.func28 (by kernel_rfl) rfl #[.agg #[.int .u64 t104, .slice Ao12 t105.length co12, .int .u32 t108]] (by rfl) rfl rfl (by (try simp only [List.map_toArray, List.map_cons, List.map_nil]); first | done | rfl | (simp only [List.length_drop, List.length_take]; rfl)) ?_
                          with_reducible refine (mani_Chunks.calls t104 _ _ t105 t108 t138 _ ?side1 ?side2 A61.out).mono ?_
                          (case side1 => repeat (first | exact (Kd.R_reads' HO_111001.out).2.2 | (with_reducible refine Kd.C_alloc ?_ _) | (with_reducible refine Kd.C_drewN ?_ _) | (with_reducible refine Kd.C_drew ?_)))
                          (case side2 => exact (Kd.R_reads' HO_111001.out).2.1)
                          rintro e w78 ⟨rfl, hb⟩
                          refine ⟨_, rfl, ?_⟩
                          have n0_ := Aside0.mk (Kd.S_below (by (with_reducible repeat (first | apply Kd.S_alloc | apply Kd.S_drewN | apply Kd.S_drew)); exact HO_9.out) hb)
                          have n1_ := Aside0.mk (Kd.R_below (by (with_reducible repeat (first | apply Kd.R_alloc | apply Kd.R_drewN | apply Kd.R_drew)); exact HO_12.out) hb)
                          have n2_ := Aside0.mk (Kd.S_below (by (with_reducible repeat (first | apply Kd.S_alloc | apply Kd.S_drewN | apply Kd.S_drew)); exact HO_15.out) hb)
                          have n3_ := Aside0.mk (Kd.R_below (by (with_reducible repeat (first | apply Kd.R_alloc | apply Kd.R_drewN | apply Kd.R_drew)); exact HO_111001.out) hb)
                          have n4_ := Aside0.mk (Kd.R_below (by (with_reducible repeat (first | apply Kd.R_alloc | apply Kd.R_drewN | apply Kd.R_drew)); exact HO129.out) hb)
                          have n5_ := Aside0.mk (Kd.R_below (by (with_reducible repeat (first | apply Kd.R_alloc | apply Kd.R_drewN | apply Kd.R_drew)); exact HO133.out) hb)
                          have n6_ := Aside0.mk (Kd.R_below (by (with_reducible repeat (first | apply Kd.R_alloc | apply Kd.R_drewN | apply Kd.R_drew)); exact HO136.out) hb)
                          have n7_ := Aside0.mk (blk_below (g := gb110) (o := .cells #[.int .u64 t104, .slice Ao12 t105.length co12, .int .u32 t108] 46 (0, 0)) (by (with_reducible repeat (first | refine blk_drewN ?_ _ | refine blk_drew ?_ | refine blk_alloc ?_ _)); exact BK110.out) hb)
                          have n8_ := Aside0.mk (below_step (by repeat (first | (with_reducible first | exact HB.out | apply below_alloc | apply pw_below_drewN | apply below_drew1 | refine below_set ?_ GE110.out) | exact HB.out)) hb)
                          clear HO_9
                          clear HO_12
                          clear HO_15
                          clear HO_111001
                          clear HO129
                          clear HO133
                          clear HO136
                          clear BK110
                          clear HB
                          have HO_9 := n0_
                          have HO_12 := n1_
                          have HO_15 := n2_
                          have HO_111001 := n3_
                          have HO129 := n4_
                          have HO133 := n5_
                          have HO136 := n6_
                          have BK110 := n7_
                          have HB := n8_
                          clear n0_ n1_ n2_ n3_ n4_ n5_ n6_ n7_ n8_
                          (try clear hb)
                          (try clear hb2)
                          (try clear hk)
                          (try clear hi)
                          refine hK.out _ _ ⟨(blk_cell BK110.out 0).trans rfl, (blk_cell BK110.out 1).trans rfl, (blk_cell BK110.out 2).trans rfl, own_string (P := Try.prog) Try.underlying23 Try.underlying5 Try.underlying9 (Kd.own_of_R HO_12.out)⟩ (fun hHeld => ?_)
                          clear hK K
                          refine norm_ (a' := ?_) ?_ ?_
                          rotate_left
                          · show Act.put _ (some 94) _ = _
                            simp only [Act.put, List.setIfInBounds_toArray, List.set_cons_zero, List.set_cons_succ, i64_w, i32_w]
                            rfl
                          refine one_ (i := 26) (N := some 95) #[true, true, true, true, true, true, true, true, true, true, true, true, true, true, true, true, true, true, true, true, true, true, true, true, true, true, true, false, false, false, false, false, false, false, false, false] rfl rfl (one_of HT_.out (by kernel_rfl)) (by decide) (fun K hK => ?_)
                          refine goes_ Try.func45 (by kernel_rfl) rfl #[.slice Ao8 t101.length co8, .int .i64 t138] (by rfl) rfl rfl (by (try simp only [List.map_toArray, List.map_cons, List.map_nil]); first | done | rfl | (simp only [List.length_drop, List.length_take]; rfl)) ?_
                          with_reducible refine (mani_Chunk.calls _ _ t101 t138 t139 _ ?side1 ?side2 A62.out).mono ?_
                          (case side1 => repeat (first | exact (Kd.S_reads' HO_9.out).2.2 | (with_reducible refine Kd.C_alloc ?_ _) | (with_reducible refine Kd.C_drewN ?_ _) | (with_reducible refine Kd.C_drew ?_)))
                          (case side2 => exact (Kd.S_reads' HO_9.out).2.1)
                          rintro e w79 ⟨v140, rfl, ho0, hb⟩
                          refine ⟨_, rfl, ?_⟩
                          have n0_ := Aside0.mk (Kd.S_below (by (with_reducible repeat (first | apply Kd.S_alloc | apply Kd.S_drewN | apply Kd.S_drew)); exact HO_9.out) hb)
                          have n1_ := Aside0.mk (Kd.R_elder' (by (with_reducible repeat (first | apply Kd.R_alloc | apply Kd.R_drewN | apply Kd.R_drew)); exact HO_12.out) (Kd.R_base ho0) hb)
                          have n2_ := Aside0.mk (Kd.S_below (by (with_reducible repeat (first | apply Kd.S_alloc | apply Kd.S_drewN | apply Kd.S_drew)); exact HO_15.out) hb)
                          have n3_ := Aside0.mk (Kd.R_below (by (with_reducible repeat (first | apply Kd.R_alloc | apply Kd.R_drewN | apply Kd.R_drew)); exact HO_111001.out) hb)
                          have n4_ := Aside0.mk (Kd.R_below (by (with_reducible repeat (first | apply Kd.R_alloc | apply Kd.R_drewN | apply Kd.R_drew)); exact HO129.out) hb)
                          have n5_ := Aside0.mk (Kd.R_elder' (by (with_reducible repeat (first | apply Kd.R_alloc | apply Kd.R_drewN | apply Kd.R_drew)); exact HO133.out) (Kd.R_base ho0) hb)
                          have n6_ := Aside0.mk (Kd.R_below (by (with_reducible repeat (first | apply Kd.R_alloc | apply Kd.R_drewN | apply Kd.R_drew)); exact HO136.out) hb)
                          have n7_ := Aside0.mk (Kd.R_lower (Kd.R_new' (Kd.R_new' ho0 (Kd.R_lt (by (with_reducible repeat (first | apply Kd.R_alloc | apply Kd.R_drewN | apply Kd.R_drew)); exact HO_12.out))) (Kd.R_lt (by (with_reducible repeat (first | apply Kd.R_alloc | apply Kd.R_drewN | apply Kd.R_drew)); exact HO133.out))) (below_size (by repeat (first | (with_reducible first | exact HB.out | apply below_alloc | apply pw_below_drewN | apply below_drew1 | refine below_set ?_ GE110.out) | exact HB.out))))
                          have n8_ := Aside0.mk (blk_below (g := gb110) (o := .cells #[.int .u64 t104, .slice Ao12 t105.length co12, .int .u32 t108] 46 (0, 0)) (by (with_reducible repeat (first | refine blk_drewN ?_ _ | refine blk_drew ?_ | refine blk_alloc ?_ _)); exact BK110.out) hb)
                          have n9_ := Aside0.mk (below_step (by repeat (first | (with_reducible first | exact HB.out | apply below_alloc | apply pw_below_drewN | apply below_drew1 | refine below_set ?_ GE110.out) | exact HB.out)) hb)
                          clear HO_9
                          clear HO_12
                          clear HO_15
                          clear HO_111001
                          clear HO129
                          clear HO133
                          clear HO136
                          clear BK110
                          clear HB
                          have HO_9 := n0_
                          have HO_12 := n1_
                          have HO_15 := n2_
                          have HO_111001 := n3_
                          have HO129 := n4_
                          have HO133 := n5_
                          have HO136 := n6_
                          have HO141 := n7_
                          have BK110 := n8_
                          have HB := n9_
                          clear n0_ n1_ n2_ n3_ n4_ n5_ n6_ n7_ n8_ n9_
                          (try clear hb)
                          (try clear hb2)
                          (try clear hk)
                          (try clear hi)
                          (try clear ho0)
                          obtain ⟨Ao80, co80, eo80⟩ := Kd.R_slice HO141.out
                          (first | subst eo80 | (injection eo80 with f1_ f2_ f3_; have f4_ := f1_.symm; have f5_ := f3_.symm; clear f1_ f2_ f3_; subst f4_; subst f5_))
                          refine hK.out _ _ ⟨(blk_cell BK110.out 0).trans rfl, (blk_cell BK110.out 1).trans rfl, (blk_cell BK110.out 2).trans rfl, own_string (P := Try.prog) Try.underlying23 Try.underlying5 Try.underlying9 (Kd.own_of_R HO_12.out)⟩ (fun hHeld => ?_)
                          clear hK K
                          refine norm_ (a' := ?_) ?_ ?_
                          rotate_left
                          · show Act.put _ (some 95) _ = _
                            simp only [Act.put, List.setIfInBounds_toArray, List.set_cons_zero, List.set_cons_succ, i64_w, i32_w]
                            rfl
                          refine pure_ (i := 27) (N := some 96) (v := ?_) (a' := ?_) #[true, true, true, true, true, true, true, true, true, true, true, true, true, true, true, true, true, true, true, true, true, true, true, true, true, true, true, true, false, false, false, false, false, false, false, false] rfl rfl (any_of HT_.out (by kernel_rfl)) (fun _ _ _ h => h) (Or.inl ⟨by rfl, ?_⟩) ?_ ?_
                          rotate_left
                          · intro w'
                            go_simp
                            with_reducible rfl
                          rotate_left
                          · simp only [Act.put, List.setIfInBounds_toArray, List.set_cons_zero, List.set_cons_succ, i64_w, i32_w]
                            rfl
                          refine pure_ (i := 28) (N := some 97) (v := ?_) (a' := ?_) #[true, true, true, true, true, true, true, true, true, true, true, true, true, true, true, true, true, true, true, true, true, true, true, true, true, true, true, true, true, false, false, false, false, false, false, false] rfl rfl (any_of HT_.out (by kernel_rfl)) (fun _ _ _ h => h) (Or.inl ⟨by rfl, ?_⟩) ?_ ?_
                          rotate_left
                          · intro w'
                            go_simp
                            with_reducible rfl
                          rotate_left
                          · simp only [Act.put, List.setIfInBounds_toArray, List.set_cons_zero, List.set_cons_succ, i64_w, i32_w]
                            rfl
                          refine pure_ (i := 29) (N := some 98) (v := ?_) (a' := ?_) #[true, true, true, true, true, true, true, true, true, true, true, true, true, true, true, true, true, true, true, true, true, true, true, true, true, true, true, true, true, true, false, false, false, false, false, false] rfl rfl (any_of HT_.out (by kernel_rfl)) (fun _ _ _ h => h) (Or.inl ⟨by rfl, ?_⟩) ?_ ?_
                          rotate_left
                          · intro w'
                            go_simp
                            with_reducible rfl
                          rotate_left
                          · simp only [Act.put, List.setIfInBounds_toArray, List.set_cons_zero, List.set_cons_succ, i64_w, i32_w]
                            rfl
                          refine pure_ (i := 30) (N := some 99) (v := ?_) (a' := ?_) #[true, true, true, true, true, true, true, true, true, true, true, true, true, true, true, true, true, true, true, true, true, true, true, true, true, true, true, true, true, true, true, false, false, false, false, false] rfl rfl (any_of HT_.out (by kernel_rfl)) (fun _ _ _ h => h) (Or.inl ⟨by rfl, ?_⟩) ?_ ?_
                          rotate_left
                          · intro w'
                            go_simp
                            with_reducible rfl
                          rotate_left
                          · simp only [Act.put, List.setIfInBounds_toArray, List.set_cons_zero, List.set_cons_succ, i64_w, i32_w]
                            rfl
                          refine take_ (i := 31) (N := some 100) (v := ?_) (a' := ?_) #[true, true, true, true, true, true, true, true, true, true, true, true, true, true, true, true, true, true, true, true, true, true, true, true, true, true, true, true, true, true, true, true, false, false, false, false] rfl rfl (take_ofW HT_.out HW_.out (by kernel_rfl)) (fun _ _ _ h => h) (Or.inl ⟨by rfl, ?_⟩) hHeld ?_ ?_
                          rotate_left
                          · rintro w' ⟨s0, s1, s2, s3⟩
                            go_simp
                            with_reducible rfl
                          rotate_left
                          · simp only [Act.put, List.setIfInBounds_toArray, List.set_cons_zero, List.set_cons_succ, i64_w, i32_w]
                            rfl
                          refine one_ (i := 32) (N := some 101) #[true, true, true, true, true, true, true, true, true, true, true, true, true, true, true, true, true, true, true, true, true, true, true, true, true, true, true, true, true, true, true, true, true, false, false, false] rfl rfl (one_of HT_.out (by kernel_rfl)) (by decide) (fun K hK => ?_)
                          refine goes_ Try.func32 (by kernel_rfl) rfl #[.agg #[.int .u64 t104, .slice Ao12 t105.length co12, .int .u32 t108], .int .i64 (-1)] (by rfl) rfl rfl (by (try simp only [List.map_toArray, List.map_cons, List.map_nil]); first | done | rfl | (simp only [List.length_drop, List.length_take]; rfl)) ?_
                          with_reducible refine (mani_Size.calls t104 _ _ t105 t108 (-1) t142 _ ?side1 ?side2 A64.out).mono ?_
                          (case side1 => repeat (first | exact (Kd.R_reads' HO_111001.out).2.2 | (with_reducible refine Kd.C_alloc ?_ _) | (with_reducible refine Kd.C_drewN ?_ _) | (with_reducible refine Kd.C_drew ?_)))
                          (case side2 => exact (Kd.R_reads' HO_111001.out).2.1)
                          rintro e w81 ⟨rfl, hb⟩
                          refine ⟨_, rfl, ?_⟩
                          have n0_ := Aside0.mk (Kd.S_below (by (with_reducible repeat (first | apply Kd.S_alloc | apply Kd.S_drewN | apply Kd.S_drew)); exact HO_9.out) hb)
                          have n1_ := Aside0.mk (Kd.R_below (by (with_reducible repeat (first | apply Kd.R_alloc | apply Kd.R_drewN | apply Kd.R_drew)); exact HO_12.out) hb)
                          have n2_ := Aside0.mk (Kd.S_below (by (with_reducible repeat (first | apply Kd.S_alloc | apply Kd.S_drewN | apply Kd.S_drew)); exact HO_15.out) hb)
                          have n3_ := Aside0.mk (Kd.R_below (by (with_reducible repeat (first | apply Kd.R_alloc | apply Kd.R_drewN | apply Kd.R_drew)); exact HO_111001.out) hb)
                          have n4_ := Aside0.mk (Kd.R_below (by (with_reducible repeat (first | apply Kd.R_alloc | apply Kd.R_drewN | apply Kd.R_drew)); exact HO129.out) hb)
                          have n5_ := Aside0.mk (Kd.R_below (by (with_reducible repeat (first | apply Kd.R_alloc | apply Kd.R_drewN | apply Kd.R_drew)); exact HO133.out) hb)
                          have n6_ := Aside0.mk (Kd.R_below (by (with_reducible repeat (first | apply Kd.R_alloc | apply Kd.R_drewN | apply Kd.R_drew)); exact HO136.out) hb)
                          have n7_ := Aside0.mk (Kd.R_below (by (with_reducible repeat (first | apply Kd.R_alloc | apply Kd.R_drewN | apply Kd.R_drew)); exact HO141.out) hb)
                          have n8_ := Aside0.mk (blk_below (g := gb110) (o := .cells #[.int .u64 t104, .slice Ao12 t105.length co12, .int .u32 t108] 46 (0, 0)) (by (with_reducible repeat (first | refine blk_drewN ?_ _ | refine blk_drew ?_ | refine blk_alloc ?_ _)); exact BK110.out) hb)
                          have n9_ := Aside0.mk (below_step (by repeat (first | (with_reducible first | exact HB.out | apply below_alloc | apply pw_below_drewN | apply below_drew1 | refine below_set ?_ GE110.out) | exact HB.out)) hb)
                          clear HO_9
                          clear HO_12
                          clear HO_15
                          clear HO_111001
                          clear HO129
                          clear HO133
                          clear HO136
                          clear HO141
                          clear BK110
                          clear HB
                          have HO_9 := n0_
                          have HO_12 := n1_
                          have HO_15 := n2_
                          have HO_111001 := n3_
                          have HO129 := n4_
                          have HO133 := n5_
                          have HO136 := n6_
                          have HO141 := n7_
                          have BK110 := n8_
                          have HB := n9_
                          clear n0_ n1_ n2_ n3_ n4_ n5_ n6_ n7_ n8_ n9_
                          (try clear hb)
                          (try clear hb2)
                          (try clear hk)
                          (try clear hi)
                          refine hK.out _ _ ⟨(blk_cell BK110.out 0).trans rfl, (blk_cell BK110.out 1).trans rfl, (blk_cell BK110.out 2).trans rfl, own_string (P := Try.prog) Try.underlying23 Try.underlying5 Try.underlying9 (Kd.own_of_R HO_12.out)⟩ (fun hHeld => ?_)
                          clear hK K
                          refine norm_ (a' := ?_) ?_ ?_
                          rotate_left
                          · show Act.put _ (some 101) _ = _
                            simp only [Act.put, List.setIfInBounds_toArray, List.set_cons_zero, List.set_cons_succ, i64_w, i32_w]
                            rfl
                          refine pure_ (i := 33) (N := some 102) (v := ?_) (a' := ?_) #[true, true, true, true, true, true, true, true, true, true, true, true, true, true, true, true, true, true, true, true, true, true, true, true, true, true, true, true, true, true, true, true, true, true, false, false] rfl rfl (any_of HT_.out (by kernel_rfl)) (fun _ _ _ h => h) (Or.inl ⟨by rfl, ?_⟩) ?_ ?_
                          rotate_left
                          · intro w'
                            go_simp
                            with_reducible rfl
                          rotate_left
                          · simp only [Act.put, List.setIfInBounds_toArray, List.set_cons_zero, List.set_cons_succ, i64_w, i32_w]
                            rfl
                          refine pure_ (i := 34) (N := some 103) (v := ?_) (a' := ?_) #[true, true, true, true, true, true, true, true, true, true, true, true, true, true, true, true, true, true, true, true, true, true, true, true, true, true, true, true, true, true, true, true, true, true, true, false] rfl rfl (any_of HT_.out (by kernel_rfl)) (fun _ _ _ h => h) (Or.inl ⟨by rfl, ?_⟩) ?_ ?_
                          rotate_left
                          · intro w'
                            go_simp
                            with_reducible rfl
                          rotate_left
                          · simp only [Act.put, List.setIfInBounds_toArray, List.set_cons_zero, List.set_cons_succ, i64_w, i32_w]
                            rfl
                          refine pure_ (i := 35) (N := some 8) (v := ?_) (a' := ?_) #[true, true, true, true, true, true, true, true, true, true, true, true, true, true, true, true, true, true, true, true, true, true, true, true, true, true, true, true, true, true, true, true, true, true, true, true] rfl rfl (any_of HT_.out (by kernel_rfl)) (fun _ _ _ h => h) (Or.inl ⟨by rfl, ?_⟩) ?_ ?_
                          rotate_left
                          · intro w'
                            go_simp
                            with_reducible rfl
                          rotate_left
                          · simp only [Act.put, List.setIfInBounds_toArray, List.set_cons_zero, List.set_cons_succ, i64_w, i32_w]
                            rfl
                          refine done_ (done_of HT_.out (by kernel_rfl)) ?_
                          try go_wp2
                          go_ret
                          exact ⟨by first | rfl | (simp [errW_none, errW_some] <;> rfl) | (simp [*, errW_none, errW_some] <;> rfl), by repeat (first | (with_reducible first | exact HB.out | apply below_alloc | apply pw_below_drewN | apply below_drew1 | refine below_set ?_ GE110.out) | exact HB.out)⟩
                        · rw [if_neg c63] at H
                          have c63b0 : ((t139.length : Int) == 0) = false := beq_eq_false_iff_ne.mpr c63
                          have c63b1 : ((t139.length : Int) != 0) = true := bne_iff_ne.mpr c63
                          have c63b2 : ¬ (t139 = []) := fun h_ => c63 (by rw [h_]; rfl)
                          exact absurd H (by rw [hr_.out]; simp)
                      · replace c60 := Bool.eq_false_iff.mpr c60
                        subst c60
                        have H1 : (some false) = some r := by rw [if_neg (show ¬ (false = true) by decide)] at H; exact H
                        clear H
                        have H := H1
                        clear H1
                        exact absurd H (by rw [hr_.out]; simp)
                    · replace c57 := Bool.eq_false_iff.mpr c57
                      subst c57
                      have H1 : (some false) = some r := by rw [if_neg (show ¬ (false = true) by decide)] at H; exact H
                      clear H
                      have H := H1
                      clear H1
                      exact absurd H (by rw [hr_.out]; simp)
                  · rw [if_neg c56] at H
                    have c56b0 : ((strOfNums x12_1).toList == (strOfNums t131).toList) = false := beq_eq_false_iff_ne.mpr c56
                    have c56b1 : ((strOfNums x12_1).toList != (strOfNums t131).toList) = true := bne_iff_ne.mpr c56
                    exact absurd H (by rw [hr_.out]; simp)
                · rw [if_neg c54] at H
                  have c54b0 : (t109 == 0) = false := beq_eq_false_iff_ne.mpr c54
                  have c54b1 : (t109 != 0) = true := bne_iff_ne.mpr c54
                  exact absurd H (by rw [hr_.out]; simp)
              · replace c53 := Bool.eq_false_iff.mpr c53
                subst c53
                have H1 : (some false) = some r := by rw [if_neg (show ¬ (false = true) by decide)] at H; exact H
                clear H
                have H := H1
                clear H1
                exact absurd H (by rw [hr_.out]; simp)

/-- THE ONE PURE STATEMENT of scullerlaw12_ManiWhole: yours. -/
def scullerlaw12_ManiWhole.Pure : Prop := ∀ (a0 : Int) (l1 : List Int) (a2 : Int) (a3 : Int), (Lit.int .u64 a0).wf = true → l1.length ≤ maxLen → l1.length * 1 ≤ 140737488351232 → (∀ x ∈ l1, (Lit.int .u8 x).wf = true) → (Lit.int .u8 a2).wf = true → (Lit.int .u8 a3).wf = true → ∃ k, scullerlaw12_ManiWhole.f k a0 l1 a2 a3 = some true
theorem scullerlaw12_ManiWhole.walk (P : scullerlaw12_ManiWhole.Pure) (a0 : Int) (a1 : Option Addr) (len1 cap1 : Nat) (z1 : List Int) (a2 : Int) (a3 : Int) (w : World) (w0 : (Lit.int .u64 a0).wf = true) (w1 : (a1 = none ∧ len1 = 0 ∧ cap1 = 0 ∧ z1 = []) ∨ ∃ x, a1 = some x ∧ len1 ≤ cap1 ∧ cap1 ≤ maxLen ∧ z1.length = cap1 ∧ (∀ i, i < z1.length → w.cell? (x.add i) = some (.int .u8 (z1.getD i 0))) ∧ ∀ n ∈ z1, (Lit.int .u8 n).wf = true) (y1 : len1 * 1 ≤ 140737488351232) (w2 : (Lit.int .u8 a2).wf = true) (w3 : (Lit.int .u8 a3).wf = true) :
    Calls Try.prog 11 #[.int .u64 a0, .slice a1 len1 cap1, .int .u8 a2, .int .u8 a3] w fun e w' => e = .returned (.bool true) ∧ Below w.heap.size w w' := by
  obtain ⟨l1, rfl, hr1, hm1, hw1, hc1⟩ := ReadsInt.ofRowC w1
  obtain ⟨k, h⟩ := P a0 l1 a2 a3 w0 hm1 y1 hw1 w2 w3
  refine (scullerlaw12_ManiWhole.calls k a0 _ _ l1 a2 a3 true w (Kd.C_of_reads (d := (0 : Int)) (h1 := fun _ => rfl) hr1) hc1 h ⟨rfl⟩).mono ?_
  rintro e w' ⟨rfl, hd⟩
  exact ⟨rfl, hd⟩

end Go.Proofs.Ythlhnodedofibaa.F
end

section
/- Numbers in the bounds of their kinds. -/
namespace Go.Proofs.Ythlhnodedofibaa.Pure
open Go.RowKit Go.Proofs.Ythlhnodedofibaa.H
theorem byte_wf {x : Int} (h : (Lit.int .u8 x).wf = true) : 0 ≤ x ∧ x ≤ 255 := by
  simp [Lit.wf, IntKind.min, IntKind.max, IntKind.signed, IntKind.bits] at h
  omega
theorem bytes_wf {l : List Int} (h : ∀ x ∈ l, (Lit.int .u8 x).wf = true) : bytesB l = true := bytesB_of fun x hx => byte_wf (h x hx)
end Go.Proofs.Ythlhnodedofibaa.Pure
end

section
/- Plain facts that several laws of the manifest layer need. -/
namespace Go.Proofs.Ythlhnodedofibaa.Pure
open Go.RowKit Go.Proofs.Ythlhnodedofibaa.F Go.Proofs.Ythlhnodedofibaa.H Go.Proofs.YthlhnodedofibaaW.PrintWords Go.Proofs.YthlhnodedofibaaW.PrintLast Go.Proofs.YthlhnodedofibaaW.PrintMore
theorem known12 : scullerlaw12_known.f = some true := by decide +kernel
theorem ceil8 (n : Int) (h0 : 0 ≤ n) (h1 : n ≤ 1000000) (m : Int) (hm : 1 ≤ m) (hm1 : m ≤ 100) : word_Ceil.f n m = some ((n + m - 1) / m) := by
  have hq0 : 0 ≤ (n + m - 1) / m := Int.ediv_nonneg (by omega) (by omega)
  have hq1 : (n + m - 1) / m ≤ n + m - 1 := Int.ediv_le_self m (by omega)
  rw [word_Ceil.f, if_neg (by omega), if_neg (by omega), if_neg (by omega), if_neg (by omega), if_neg (by omega), show wrap64 (n + m) = n + m from by unfold wrap64; omega, show wrap64 (n + m - 1) = n + m - 1 from by unfold wrap64; omega, Int.tdiv_eq_ediv_of_nonneg (by omega)]
  congr 1
  unfold wrap64
  omega
def chunksM (l : List Int) : Int := (wordsM l + 7) / 8
def pagesM (l : List Int) : Int := if fitsB l = true then ((l.length : Int) + 3) / 4 else 0
def sizeM (l : List Int) (i : Int) : Int := if 0 ≤ i ∧ i < chunksM l then min 64 (wordsM l * 8 - i * 64) else 0
theorem chunks_is (a : Int) (l : List Int) (b : Int) : mani_Chunks.f a l b = some (chunksM l) := by
  have h := wordsM_range l
  rw [mani_Chunks.f, mani_Words_c.f, Option.bind_some, ceil8 _ h.1 (by omega) 8 (by omega) (by omega), Option.bind_some, chunksM]
  congr 2
  omega
theorem pages_is (a : Int) (l : List Int) (b : Int) : mani_Pages.f a l b = some (pagesM l) := by
  rw [mani_Pages.f, mani_Right.f, arena_Fits_c.f, Option.bind_some, Option.bind_some, pagesM]
  split
  · rename_i h
    have h := fitsB_at h
    rw [ceil8 _ (by omega) (by omega) 4 (by omega) (by omega), Option.bind_some]
    congr 2
    omega
  · rfl
theorem size_is (a : Int) (l : List Int) (b : Int) (i : Int) : mani_Size.f a l b i = some (sizeM l i) := by
  have h := wordsM_range l
  rw [mani_Size.f, sizeM]
  by_cases h0 : i < 0
  · rw [if_pos h0, if_neg (by omega)]
  · rw [if_neg h0, chunks_is, Option.bind_some]
    by_cases h1 : i ≥ chunksM l
    · rw [if_pos h1, if_neg (by omega)]
    · have hc : chunksM l = (wordsM l + 7) / 8 := rfl
      rw [if_neg h1, if_pos (by omega), mani_Words_c.f, Option.bind_some, show wrap64 (wordsM l * 8) = wordsM l * 8 from by unfold wrap64; omega, show wrap64 (i * 64) = i * 64 from by unfold wrap64; omega, show wrap64 (wordsM l * 8 - i * 64) = wordsM l * 8 - i * 64 from by unfold wrap64; omega]
      congr 1
      unfold mn
      split <;> omega
theorem chunks_range (l : List Int) : 0 ≤ chunksM l ∧ chunksM l ≤ 512 := by
  have h := wordsM_range l
  unfold chunksM
  omega
theorem wordsM_pos {l : List Int} (hf : fitsB l = true) : 1 ≤ wordsM l := by
  have h := fitsB_at hf
  rw [wordsM, if_pos hf]
  match l with
  | [] => simp at h
  | x :: l =>
    have := sum_nonneg' (l := l) (fun y hy => h.2.2.2.1 y (by simp [hy]))
    have h3 := h.2.2.1
    simp at h3
    rw [List.sum_cons]; omega
end Go.Proofs.Ythlhnodedofibaa.Pure
end

section
/- Pages of sizes, and chunks of bytes: joined they are what they were cut from. -/
namespace Go.Proofs.Ythlhnodedofibaa.Pure
set_option linter.unusedVariables false
open Go.RowKit Go.Proofs.Ythlhnodedofibaa.F Go.Proofs.Ythlhnodedofibaa.H Go.Proofs.YthlhnodedofibaaW.PrintWords Go.Proofs.YthlhnodedofibaaW.PrintLast Go.Proofs.YthlhnodedofibaaW.PrintMore
/-- The first k pieces of n. -/
def piecesL (l : List Int) (n : Nat) (k : Nat) : List (List Int) := (List.range k).map fun i => (l.drop (n * i)).take n
theorem piecesL_succ (l : List Int) (n k : Nat) : piecesL l n (k + 1) = piecesL l n k ++ [(l.drop (n * k)).take n] := by simp [piecesL, List.range_succ]
theorem piecesL_length (l : List Int) (n k : Nat) : (piecesL l n k).length = k := by simp [piecesL]
theorem piecesL_flat (l : List Int) (n : Nat) : ∀ k, (piecesL l n k).flatten = l.take (n * k)
  | 0 => by simp [piecesL]
  | k + 1 => by
    rw [piecesL_succ, List.flatten_append, piecesL_flat l n k, Nat.mul_succ, List.take_add]
    simp
theorem pieceL_in (l : List Int) (n k : Nat) (h : n * k < l.length) : pieceL l n k = (l.drop (n * k)).take n := by
  have e : ((n * k : Nat) : Int) = (n : Int) * (k : Int) := by simp
  unfold pieceL
  rw [if_pos ⟨by omega, by omega⟩, ← e, Int.toNat_natCast, Int.toNat_natCast]
theorem pieceL_out (l : List Int) (n : Nat) (i : Int) (h : ¬ (0 ≤ i ∧ (n : Int) * i < l.length)) : pieceL l n i = [] := if_neg h
theorem page_is (a : Int) (l : List Int) (b i : Int) : mani_Page.f a l b i = some (if fitsB l = true then pieceL l 4 i else []) := by
  rw [mani_Page.f, mani_Right.f, arena_Fits_c.f, Option.bind_some, Option.bind_some]
  split
  · rename_i h
    have h := fitsB_at h
    rw [mani_piece_int.f, if_pos ⟨by omega, by omega, by omega⟩, Option.bind_some]
  · rfl
theorem chunk_is (a : List (List Int)) (hok : a.length ≤ 1000000) (hf : rightB a = true) (i : Int) : mani_Chunk.f a i = some (pieceL (bytesL a) 64 i) := by
  have hfit := fitsB_at (l := sizesL a) hf
  have hs := sizesL_sum a
  have hb := bytesL_length a
  rw [mani_Chunk.f, arena_Right_c.f, if_pos hok, Option.bind_some, if_pos hf, arena_Bytes.f, if_pos ⟨hok, by omega⟩, Option.bind_some, mani_piece_byte.f, if_pos ⟨by omega, by omega, by omega⟩, Option.bind_some]
/-- Pages may be joined. -/
theorem pages_whole (l : List Int) : ∀ (m k : Nat), m = (l.length + 3) / 4 - k → k ≤ (l.length + 3) / 4 → wholeB ((piecesL l 4 ((l.length + 3) / 4)).drop k) = true
  | 0, k, hm, hk => by
    rw [List.drop_of_length_le (by rw [piecesL_length]; omega)]
    rfl
  | m + 1, k, hm, hk => by
    have hlt : k < (piecesL l 4 ((l.length + 3) / 4)).length := by rw [piecesL_length]; omega
    have hx : (piecesL l 4 ((l.length + 3) / 4))[k] = (l.drop (4 * k)).take 4 := by simp [piecesL]
    have hle : ((l.drop (4 * k)).take 4).length = min 4 (l.length - 4 * k) := by simp
    rw [drop_at _ k hlt, hx, wholeB, pages_whole l m (k + 1) (by omega) (by omega), hle]
    rw [decide_eq_true (show 1 ≤ min 4 (l.length - 4 * k) by omega), decide_eq_true (show min 4 (l.length - 4 * k) ≤ 4 by omega)]
    by_cases h : k + 1 < (l.length + 3) / 4
    · rw [decide_eq_true (show 4 ≤ min 4 (l.length - 4 * k) by omega)]
      simp
    · rw [List.drop_of_length_le (by rw [piecesL_length]; omega)]
      rfl
theorem pages_joined {l : List Int} (hf : fitsB l = true) : joinL (piecesL l 4 ((l.length + 3) / 4)) = (l, true) := by
  have h := pages_whole l _ 0 rfl (by omega)
  rw [List.drop_zero] at h
  have e : (piecesL l 4 ((l.length + 3) / 4)).flatten = l := by rw [piecesL_flat, List.take_of_length_le (by omega)]
  unfold joinL
  rw [e, if_pos ⟨h, hf⟩]
theorem of_is {c : List Int} (hc : bytesB c = true) {n m : Int} (h0 : 0 ≤ n) (h1 : n ≤ 255) (hm : 0 ≤ m) {s : Int} (hs : u64B s = true) :
    mani_Of.f s (arena12L c n m) = some (s, sizesL (arena12L c n m), moreL 0 (ofBytes s (arena12L c n m) (arena12L c n m).length ++ bytesL (arena12L c n m)), 0) := by
  have hl := arena12L_length c h0 hm
  have hf : rightB (arena12L c n m) = true := arena12L_fits c h0 hm
  rw [mani_Of.f, if_pos ⟨by omega, hs⟩, ofL, if_pos hf]
end Go.Proofs.Ythlhnodedofibaa.Pure
end

section
/- Chunks, one behind the other, are the arena's bytes; pages its sizes. -/
namespace Go.Proofs.Ythlhnodedofibaa.Pure
open Go.RowKit Go.Proofs.Ythlhnodedofibaa.F Go.Proofs.Ythlhnodedofibaa.H Go.Proofs.YthlhnodedofibaaW.PrintWords Go.Proofs.YthlhnodedofibaaW.PrintLast Go.Proofs.YthlhnodedofibaaW.PrintMore
theorem maniwhole_end (a : List (List Int)) (hf : rightB a = true) (hok : okA a = true) (hl : a.length ≤ 1000000) (s t : Int) :
    scullerlaw12_ManiWhole.l1 1 a 0 (bytesL a) (piecesL (sizesL a) 4 ((a.length + 3) / 4)) (((a.length + 3) / 4 : Nat) : Int) s (sizesL a) t = some true := by
  have hfit := fitsB_at (l := sizesL a) hf
  have hS := sizesL_length a
  have hsum := sizesL_sum a
  have hbl := bytesL_length a
  have hpg : pagesM (sizesL a) = (((sizesL a).length : Int) + 3) / 4 := if_pos hf
  have hj := pages_joined (l := sizesL a) hf
  have hfl := piecesL_flat (sizesL a) 4 ((a.length + 3) / 4)
  have hpl := piecesL_length (sizesL a) 4 ((a.length + 3) / 4)
  have hw : wordsM (sizesL a) = (sizesL a).sum := if_pos hf
  have hc : chunksM (sizesL a) = (wordsM (sizesL a) + 7) / 8 := rfl
  have hout : pieceL (bytesL a) 64 (chunksM (sizesL a)) = [] := pieceL_out (bytesL a) 64 _ (by omega)
  have hsz : sizeM (sizesL a) (-1) = 0 := if_neg (by omega)
  rw [hS] at hj hpg hfit
  rw [scullerlaw12_ManiWhole.l1, pages_is, Option.bind_some, if_neg (by omega), mani_Join_c.f, if_pos ⟨by omega, by rw [hfl, List.length_take]; omega⟩, Option.bind_some, hj, known12, Option.bind_some, if_pos rfl, if_pos rfl,
    scullerref07_Bytes_c.f, if_pos hok, Option.bind_some, if_pos rfl, if_pos rfl, scullerref07_Sizes_c.f, if_pos hl, Option.bind_some, scullerref07_SameInts_c.f, if_pos (by rw [hS]; omega), Option.bind_some, if_pos (by simp),
    chunks_is, Option.bind_some, chunk_is a hl hf, Option.bind_some, hout, if_pos (by rfl), size_is, Option.bind_some, hsz]
  rfl
theorem maniwhole_l1 (a : List (List Int)) (hf : rightB a = true) (hok : okA a = true) (hl : a.length ≤ 1000000) (s t : Int) : ∀ (d i : Nat), (a.length + 3) / 4 - i = d → i ≤ (a.length + 3) / 4 →
    ∃ k, scullerlaw12_ManiWhole.l1 k a 0 (bytesL a) (piecesL (sizesL a) 4 i) (i : Int) s (sizesL a) t = some true
  | 0, i, hd, hi => by
    obtain rfl : i = (a.length + 3) / 4 := by omega
    exact ⟨1, maniwhole_end a hf hok hl s t⟩
  | d + 1, i, hd, hi => by
    have hS := sizesL_length a
    have hfit := fitsB_at (l := sizesL a) hf
    have hpg : pagesM (sizesL a) = (((sizesL a).length : Int) + 3) / 4 := if_pos hf
    obtain ⟨k, hk⟩ := maniwhole_l1 a hf hok hl s t d (i + 1) (by omega) (by omega)
    refine ⟨k + 1, ?_⟩
    rw [piecesL_succ] at hk
    have hpc : pieceL (sizesL a) 4 (i : Int) = ((sizesL a).drop (4 * i)).take 4 := pieceL_in (sizesL a) 4 i (by omega)
    have hf2 : fitsB (sizesL a) = true := hf
    rw [scullerlaw12_ManiWhole.l1, pages_is, Option.bind_some, if_pos (by omega), page_is, Option.bind_some, if_pos hf2, hpc, if_pos (by rw [piecesL_length]; omega), show wrap64 ((i : Int) + 1) = ((i + 1 : Nat) : Int) from by unfold wrap64; omega]
    exact hk
theorem maniwhole_l0 (a : List (List Int)) (hf : rightB a = true) (hok : okA a = true) (hl : a.length ≤ 1000000) (s t : Int) : ∀ (d i : Nat), (wordsL a + 7) / 8 - i = d → i ≤ (wordsL a + 7) / 8 →
    ∃ k, scullerlaw12_ManiWhole.l0 k a 0 ((bytesL a).take (64 * i)) (i : Int) s (sizesL a) t = some true
  | 0, i, hd, hi => by
    have hsum := sizesL_sum a
    have hbl := bytesL_length a
    have hw : wordsM (sizesL a) = (sizesL a).sum := if_pos hf
    have hc : chunksM (sizesL a) = (wordsM (sizesL a) + 7) / 8 := rfl
    obtain ⟨k, hk⟩ := maniwhole_l1 a hf hok hl s t _ 0 rfl (by omega)
    refine ⟨k + 1, ?_⟩
    rw [scullerlaw12_ManiWhole.l0, chunks_is, Option.bind_some, if_neg (by omega), List.take_of_length_le (by omega)]
    exact hk
  | d + 1, i, hd, hi => by
    have hfit := fitsB_at (l := sizesL a) hf
    have hsum := sizesL_sum a
    have hbl := bytesL_length a
    have hw : wordsM (sizesL a) = (sizesL a).sum := if_pos hf
    have hc : chunksM (sizesL a) = (wordsM (sizesL a) + 7) / 8 := rfl
    obtain ⟨k, hk⟩ := maniwhole_l0 a hf hok hl s t d (i + 1) (by omega) (by omega)
    refine ⟨k + 1, ?_⟩
    have hpc : pieceL (bytesL a) 64 (i : Int) = ((bytesL a).drop (64 * i)).take 64 := pieceL_in (bytesL a) 64 i (by omega)
    have hplen : (((bytesL a).drop (64 * i)).take 64).length = min 64 ((bytesL a).length - 64 * i) := by simp
    have hsz : sizeM (sizesL a) (i : Int) = min 64 (wordsM (sizesL a) * 8 - (i : Int) * 64) := if_pos (by omega)
    have htl : ((bytesL a).take (64 * i)).length ≤ (bytesL a).length := by rw [List.length_take]; omega
    rw [scullerlaw12_ManiWhole.l0, chunks_is, Option.bind_some, if_pos (by omega), chunk_is a hl hf, Option.bind_some, size_is, Option.bind_some, hpc, hsz, hplen, if_pos (by omega), if_neg (by omega), if_pos (by omega), show wrap64 ((i : Int) + 1) = ((i + 1 : Nat) : Int) from by unfold wrap64; omega,
      ← List.take_add, show 64 * i + 64 = 64 * (i + 1) from by omega]
    exact hk
theorem ManiWhole : scullerlaw12_ManiWhole.Pure := by
  intro a0 l1 a2 a3 h0 h1 h2 h3 h4 h5
  have hb := bytes_wf h3
  have hn := byte_wf h4
  have hm := byte_wf h5
  have hs : u64B a0 = true := by
    simp [Lit.wf, IntKind.min, IntKind.max, IntKind.signed, IntKind.bits] at h0
    exact u64B_mk (by omega) (by omega)
  have hl := arena12L_length l1 hn.1 hm.1
  obtain ⟨k, hk⟩ := maniwhole_l0 (arena12L l1 a2 a3) (arena12L_fits l1 hn.1 hm.1) (arena12L_ok hb hn.1 hn.2 hm.1) (by omega) a0 (moreL 0 (ofBytes a0 (arena12L l1 a2 a3) (arena12L l1 a2 a3).length ++ bytesL (arena12L l1 a2 a3))) _ 0 rfl (by omega)
  refine ⟨k, ?_⟩
  rw [Nat.mul_zero, List.take_zero] at hk
  rw [scullerlaw12_ManiWhole.f, scullerlaw12_Arena_c.f, if_pos ⟨hb, by omega, hn.1, hn.2, hm.1, hm.2⟩, Option.bind_some, of_is hb hn.1 hn.2 hm.1 hs, Option.bind_some]
  exact hk
end Go.Proofs.Ythlhnodedofibaa.Pure
end
