/- Proved: at every input in bounds the statement ManiOrder of the manifest layer answers yes, pages that are not whole or are none are joined to nothing.
Text 5 of 6; functions told as plain ones, with the contracts of their calls. -/
import Derived.Test.YthlhnodedofibaaQManiOrder1
import Derived.Test.YthlhnodedofibaaQManiOrder3
import Derived.Test.YthlhnodedofibaaQManiOrder2
import Derived.Test.YthlhnodedofibaaQManiOrder4
import Derived.WalkSpells
section
namespace Go.Proofs.Ythlhnodedofibaa.F
open Go.RowKit Go.Proofs.YthlhnodedofibaaW.PrintWords Go.Proofs.YthlhnodedofibaaW.PrintLast Go.Proofs.YthlhnodedofibaaW.PrintMore
attribute [local go_sem] max2_int min2_int max_two min_two max_three min_three max_four min_four   -- for this text's walks alone
set_option linter.unusedVariables false
set_option linter.unusedSimpArgs false

/-! ### scullerlaw12_ManiOrder: function 9 -/
def scullerlaw12_ManiOrder.l0 : Nat → Int → List (List Int) → Int → Int → List Int → Int → Option (Bool)
  | 0, _, _, _, _, _, _ => none
  | k + 1, x3, x12, x13, x111000, x111001, x111002 => (mani_Pages.f x111000 x111001 x111002).bind fun t111 => (if x13 < t111 then ((mani_Page.f x111000 x111001 x111002 x13).bind fun t112 => (if x12.length < 5864062014805 then (scullerlaw12_ManiOrder.l0 k x3 (x12 ++ [t112]) (wrap64 (x13 + 1)) x111000 x111001 x111002) else (none))) else (if (x12.length : Int) = 0 then (some false) else ((mani_Join_c.f x12).bind fun bt118 => (if (Int.tmod x3 3) = 0 then (if x12.length < 5864062014805 then ((mani_Join_c.f (x12 ++ [[]])).bind fun bt125 => ((scullerlaw12_known.f).bind fun t129 => (if t129 = true then (if bt118.2 = true then (if bt125.2 = true then (some false) else (if (bt125.1.length : Int) = 0 then ((mani_Same.f x111000 x111001 x111002 x111000 x111001 x111002).bind fun t130 => (some t130)) else (some false))) else (some false)) else (some false)))) else (none)) else (if (Int.tmod x3 3) = 1 then (if x12.length < 5864062014805 then ((mani_Join_c.f (x12 ++ [(([1, 1, 1, 1, 1] : List Int))])).bind fun bt137 => ((scullerlaw12_known.f).bind fun t141 => (if t141 = true then (if bt118.2 = true then (if bt137.2 = true then (some false) else (if (bt137.1.length : Int) = 0 then ((mani_Same.f x111000 x111001 x111002 x111000 x111001 x111002).bind fun t142 => (some t142)) else (some false))) else (some false)) else (some false)))) else (none)) else (if ([] : List (List Int)).length < 5864062014805 then ((some (([] : List (List Int)) ++ [(([1] : List Int))] : List (List Int))).bind fun y146 => (if y146.length + x12.length < 5864062014805 then ((mani_Join_c.f (y146 ++ x12)).bind fun bt152 => ((scullerlaw12_known.f).bind fun t156 => (if t156 = true then (if bt118.2 = true then (if bt152.2 = true then (some false) else (if (bt152.1.length : Int) = 0 then ((mani_Same.f x111000 x111001 x111002 x111000 x111001 x111002).bind fun t157 => (some t157)) else (some false))) else (some false)) else (some false)))) else (none))) else (none)))))))
def scullerlaw12_ManiOrder.f (k : Nat) (l0 : List Int) (a1 : Int) (a2 : Int) (a3 : Int) : Option (Bool) := (scullerlaw12_Arena_c.f l0 a1 a2).bind fun t101 => ((mani_Of.f 1 t101).bind fun bt104 => (scullerlaw12_ManiOrder.l0 k a3 ([] : List (List Int)) 0 bt104.1 bt104.2.1 bt104.2.2.1))
theorem scullerlaw12_ManiOrder.mono_l : ∀ k, (∀ y0 y1 y2 y3 y4 y5, LeO (scullerlaw12_ManiOrder.l0 k y0 y1 y2 y3 y4 y5) (scullerlaw12_ManiOrder.l0 (k + 1) y0 y1 y2 y3 y4 y5))
  | 0 => fun _ _ _ _ _ _ r h => by simp [scullerlaw12_ManiOrder.l0] at h
  | k + 1 => by
    have ih0 := scullerlaw12_ManiOrder.mono_l k
    · intro y0 y1 y2 y3 y4 y5
      unfold scullerlaw12_ManiOrder.l0
      repeat' first
      | (with_reducible exact ih0 _ _ _ _ _ _)
      | (with_reducible exact LeO.refl _)
      | (with_reducible exact LeO.none _)
      | (with_reducible refine LeO.ite ?_ ?_)
      | (with_reducible refine LeO.bind ?_ (fun _ => ?_))
      | exact ih0 _ _ _ _ _ _
      | exact LeO.none _
      | refine LeO.ite ?_ ?_
      | refine LeO.bind ?_ (fun _ => ?_)
theorem scullerlaw12_ManiOrder.mono : ∀ a0 a1 a2 a3 k, LeO (scullerlaw12_ManiOrder.f k a0 a1 a2 a3) (scullerlaw12_ManiOrder.f (k + 1) a0 a1 a2 a3) := by
  intro a0 a1 a2 a3 k
  have ih0 := scullerlaw12_ManiOrder.mono_l k
  unfold scullerlaw12_ManiOrder.f
  repeat' first
      | (with_reducible exact ih0 _ _ _ _ _ _)
      | (with_reducible exact LeO.refl _)
      | (with_reducible exact LeO.none _)
      | (with_reducible refine LeO.ite ?_ ?_)
      | (with_reducible refine LeO.bind ?_ (fun _ => ?_))
      | exact ih0 _ _ _ _ _ _
      | exact LeO.none _
      | refine LeO.ite ?_ ?_
      | refine LeO.bind ?_ (fun _ => ?_)
set_option maxHeartbeats 8000000 in
set_option maxRecDepth 100000 in
theorem scullerlaw12_ManiOrder.calls (k : Nat) (A0 : Option Addr) (c0 : Nat) (l0 : List Int) (a1 : Int) (a2 : Int) (a3 : Int) (r : Bool) (w : World) (hr0 : Kd.C (Kd.int .u8) w A0 l0.length l0) (hc0 : l0.length ≤ c0) (h : scullerlaw12_ManiOrder.f k l0 a1 a2 a3 = some r) (hr_ : Aside0 (r = true)) :
    Calls Try.prog 9 #[.slice A0 l0.length c0, .int .u8 a1, .int .u8 a2, .int .u8 a3] w fun e w' => e = .returned (.bool r) ∧ Below w.heap.size w w' := by
  have hu46 := Try.underlying46
  have HR0 := Aside0.mk hr0
  have HC0 := Aside0.mk hc0
  clear hr0 hc0
  have HB := Aside0.mk (Below.refl w.heap.size w)
  have H : ((scullerlaw12_Arena_c.f l0 a1 a2).bind fun t101 => ((mani_Of.f 1 t101).bind fun bt104 => (scullerlaw12_ManiOrder.l0 k a3 ([] : List (List Int)) 0 bt104.1 bt104.2.1 bt104.2.2.1))) = some r := h
  clear h
  replace H := Option.bind_eq_some_iff.mp H
  obtain ⟨t101, A50, H⟩ := H
  replace H : ((mani_Of.f 1 t101).bind fun bt104 => (scullerlaw12_ManiOrder.l0 k a3 ([] : List (List Int)) 0 bt104.1 bt104.2.1 bt104.2.2.1)) = some r := H
  have A5 := Aside0.mk A50
  clear A50
  replace H := Option.bind_eq_some_iff.mp H
  obtain ⟨⟨t104, t105, t108, t109⟩, A60, H⟩ := H
  replace H : (scullerlaw12_ManiOrder.l0 k a3 ([] : List (List Int)) 0 t104 t105 t108) = some r := H
  have A6 := Aside0.mk A60
  clear A60
  have H' := Aside0.mk H
  clear H
  go_enter Try.func9, Try.ntmps9
  go_wp2_with (first | ((with_reducible refine gate_callee (f := 23) rfl ?_); refine goesL_ (some 22) rfl rfl Try.func23 (by kernel_rfl) rfl #[.slice A0 l0.length c0, .int .u8 a1, .int .u8 a2] rfl (by (try simp only [List.map_toArray, List.map_cons, List.map_nil]); first | done | rfl | (simp only [List.length_drop, List.length_take]; rfl)) ?_; (with_reducible refine (scullerlaw12_Arena_c.calls _ _ l0 a1 a2 t101 _ ?side1 ?side2 A5.out).mono ?_); (case side1 => repeat (first | exact HR0.out | (with_reducible refine Kd.C_alloc ?_ _) | (with_reducible refine Kd.C_drewN ?_ _) | (with_reducible refine Kd.C_drew ?_))); (case side2 => exact HC0.out); rintro e w7 ⟨v102, rfl, ho0, hb⟩; refine ⟨_, rfl, ?_⟩; have n0_ := Aside0.mk (Kd.N_lower (Kd.N_mono (ok' := fun k_ => True) (Kd.S_N (Kd.S_bound ho0)) (fun k_ hk_ => trivial)) (below_size (by repeat (first | (with_reducible first | exact HB.out | apply below_alloc | apply pw_below_drewN | apply below_drew1) | exact HB.out)))); have n1_ := Aside0.mk (below_step (by repeat (first | (with_reducible first | exact HB.out | apply below_alloc | apply pw_below_drewN | apply below_drew1) | exact HB.out)) hb); clear HB; have HO103 := n0_; have HB := n1_; clear n0_ n1_; (try clear hb); (try clear hb2); (try clear hk); (try clear hi); (try clear ho0); obtain ⟨Ao8, co8, eo8⟩ := Kd.N_slice HO103.out; subst eo8) | ((with_reducible refine gate_callee (f := 24) rfl ?_); refine goesL_ (some 25) rfl rfl Try.func24 (by kernel_rfl) rfl #[.int .u64 1, .slice Ao8 t101.length co8] rfl (by (try simp only [List.map_toArray, List.map_cons, List.map_nil]); first | done | rfl | (simp only [List.length_drop, List.length_take]; rfl)) ?_; (with_reducible refine (mani_Of.calls 1 _ _ t101 t104 t105 t108 t109 _ ?side1 ?side2 A6.out).mono ?_); (case side1 => repeat (first | exact (Kd.N_reads' HO103.out).2.2 | (with_reducible refine Kd.C_alloc ?_ _) | (with_reducible refine Kd.C_drewN ?_ _) | (with_reducible refine Kd.C_drew ?_))); (case side2 => exact (Kd.N_reads' HO103.out).2.1); rintro e w9 ⟨v106, rfl, ho0, hb⟩; refine ⟨_, rfl, ?_⟩; have n0_ := Aside0.mk (Kd.N_elder' (by (with_reducible repeat (first | apply Kd.N_alloc | apply Kd.N_drewN | apply Kd.N_drew)); exact HO103.out) (Kd.R_base ho0) hb); have n1_ := Aside0.mk (Kd.R_lower ho0 (below_size (by repeat (first | (with_reducible first | exact HB.out | apply below_alloc | apply pw_below_drewN | apply below_drew1) | exact HB.out)))); have n2_ := Aside0.mk (below_step (by repeat (first | (with_reducible first | exact HB.out | apply below_alloc | apply pw_below_drewN | apply below_drew1) | exact HB.out)) hb); clear HO103; clear HB; have HO103 := n0_; have HO107 := n1_; have HB := n2_; clear n0_ n1_ n2_; (try clear hb); (try clear hb2); (try clear hk); (try clear hi); (try clear ho0)) | ((with_reducible refine gate_dst (N := 10) rfl ?_); (try (refine gate_guard (by rfl) ?_; dsimp only)); refine box_event ?hg (N := 10) ?hd (cs := #[.int .u64 0, .slice none 0 0, .int .u32 0]) (t := 46) ?hr ?_; (case hd => rfl); (case hg => rfl); (case hr => first | (go_simp; done) | (go_simp; rfl)); intro gb110 hg w10 hbox hb; have n0_ := Aside0.mk (Kd.N_below (Kd.N_elderB (by (with_reducible repeat (first | apply Kd.N_alloc | apply Kd.N_drewN | apply Kd.N_drew)); exact HO103.out) gb110 (Nat.le_of_eq hg.symm)) hb); have n1_ := Aside0.mk (Kd.R_below (by (with_reducible repeat (first | apply Kd.R_alloc | apply Kd.R_drewN | apply Kd.R_drew)); exact HO107.out) hb); have n2_ := Aside0.mk (below_step (by repeat (first | (with_reducible first | exact HB.out | apply below_alloc | apply pw_below_drewN | apply below_drew1) | exact HB.out)) hb); have n3_ := Aside0.mk (hbox); have n4_ := Aside0.mk ((by rw [hg]; exact (below_size (by repeat (first | (with_reducible first | exact HB.out | apply below_alloc | apply pw_below_drewN | apply below_drew1) | exact HB.out))) : w.heap.size ≤ gb110)); have n5_ := Aside0.mk ((by rw [hg]; exact (below_size (by repeat (first | (with_reducible first | exact HB.out | apply below_alloc | apply pw_below_drewN | apply below_drew1) | exact HB.out))) : w.heap.size ≤ gb110)); clear HO103; clear HO107; clear HB; have HO103 := n0_; have HO107 := n1_; have HB := n2_; have BK110 := n3_; have GW110 := n4_; have GE110 := n5_; clear n0_ n1_ n2_ n3_ n4_ n5_; clear hb hbox hg; have hcz11_0 : w10.cell? ⟨gb110, 0, none⟩ = some (.int .u64 0) := (blk_cell BK110.out 0).trans rfl; have hcz11_1 : w10.cell? ⟨gb110, 1, none⟩ = some (.slice none 0 0) := (blk_cell BK110.out 1).trans rfl; have hcz11_2 : w10.cell? ⟨gb110, 2, none⟩ = some (.int .u32 0) := (blk_cell BK110.out 2).trans rfl; have hfz11_0 := blk_frozen BK110.out 0; have hfz11_1 := blk_frozen BK110.out 1; have hfz11_2 := blk_frozen BK110.out 2; obtain ⟨Ao12, co12, eo12⟩ := Kd.R_slice HO107.out; subst eo12))
  go_loopg [12, 13] k (fun kq v12 v13 w' => ∃ (x12_1 : List (List Int)) (x13_1 : Int), v13 = .int .i64 x13_1 ∧ Aside0 (scullerlaw12_ManiOrder.l0 kq a3 x12_1 x13_1 t104 t105 t108 = some r) ∧ Aside0 (kq ≤ k) ∧ Aside0 (Kd.N (Kd.slice 3 (Kd.int .i64)) 22 w' w.heap.size (fun k_ => some k_ ≠ ((.slice Ao12 t105.length co12) : Value).ownBlock ∧ k_ ≠ gb110) v12 x12_1) ∧ Aside0 (Kd.R (Kd.int .i64) 3 w' w.heap.size (fun _ => True) (.slice Ao12 t105.length co12) t105) ∧ Aside0 (w'.heap[gb110]? = some (.cells #[.int .u64 t104, (.slice Ao12 t105.length co12), .int .u32 t108] 46 (0, 0))) ∧ Aside0 (Below w.heap.size w w'))
  case atStart => exact ⟨(([] : List (List Int))), (0), (by first | rfl | (simp; done) | (simp [*]; done)), H', ⟨Nat.le_refl _⟩, ⟨by first | exact Kd.S_nil _ _ _ _ _ | exact Kd.N_nil _ _ _ _ _ | exact Kd.V_nil _ _ _ _ _ | exact Kd.Q_nil _ _ _ _ _ | exact Kd.R_nil _ _ _ _ _⟩, ⟨by (with_reducible repeat (first | apply Kd.R_alloc | apply Kd.R_drewN | apply Kd.R_drew)); exact Kd.R_mono (Kd.R_far (p := ⟨gb110, 2, none⟩) (Kd.R_far (p := ⟨gb110, 1, none⟩) (Kd.R_far (p := ⟨gb110, 0, none⟩) (Kd.R_types HO107.out BK110.out (by decide)) (fun _ hk => hk.2) (.int .u64 t104)) (fun _ hk => hk.2) (.slice Ao12 t105.length co12)) (fun _ hk => hk.2) (.int .u32 t108)) (fun _ hk => trivial)⟩, ⟨by (with_reducible repeat (first | refine blk_drewN ?_ _ | refine blk_drew ?_ | refine blk_alloc ?_ _)); refine blk_put (cs := #[.int .u64 t104, .slice Ao12 t105.length co12, .int .u32 0]) ?_ 2 _ rfl; (with_reducible repeat (first | refine blk_drewN ?_ _ | refine blk_drew ?_ | refine blk_alloc ?_ _)); refine blk_put (cs := #[.int .u64 t104, .slice none 0 0, .int .u32 0]) ?_ 1 _ rfl; (with_reducible repeat (first | refine blk_drewN ?_ _ | refine blk_drew ?_ | refine blk_alloc ?_ _)); refine blk_put (cs := #[.int .u64 0, .slice none 0 0, .int .u32 0]) ?_ 0 _ rfl; (with_reducible repeat (first | refine blk_drewN ?_ _ | refine blk_drew ?_ | refine blk_alloc ?_ _)); exact BK110.out⟩, ⟨by repeat (first | (with_reducible first | exact HB.out | apply below_alloc | apply pw_below_drewN | apply below_drew1 | refine below_set ?_ GE110.out) | exact HB.out)⟩⟩
  case round =>
    clear H'
    try clear c2
    try clear p2
    try clear c9
    try clear hcz11_0
    try clear hcz11_1
    try clear hcz11_2
    try clear hfz11_0
    try clear hfz11_1
    try clear hfz11_2
    obtain ⟨x12_1, x13_1, rfl, HA, HK1, HO_12, HO_111001, BK110, HB⟩ := hrel
    cases gk with
    | zero => exact absurd HA.out (by simp [scullerlaw12_ManiOrder.l0])
    | succ k1 =>
      have H := HA.out
      clear HA
      simp only [scullerlaw12_ManiOrder.l0] at H
      replace H := Option.bind_eq_some_iff.mp H
      obtain ⟨t111, A130, H⟩ := H
      replace H : (if x13_1 < t111 then ((mani_Page.f t104 t105 t108 x13_1).bind fun t112 => (if x12_1.length < 5864062014805 then (scullerlaw12_ManiOrder.l0 k1 a3 (x12_1 ++ [t112]) (wrap64 (x13_1 + 1)) t104 t105 t108) else (none))) else (if (x12_1.length : Int) = 0 then (some false) else ((mani_Join_c.f x12_1).bind fun bt118 => (if (Int.tmod a3 3) = 0 then (if x12_1.length < 5864062014805 then ((mani_Join_c.f (x12_1 ++ [[]])).bind fun bt125 => ((scullerlaw12_known.f).bind fun t129 => (if t129 = true then (if bt118.2 = true then (if bt125.2 = true then (some false) else (if (bt125.1.length : Int) = 0 then ((mani_Same.f t104 t105 t108 t104 t105 t108).bind fun t130 => (some t130)) else (some false))) else (some false)) else (some false)))) else (none)) else (if (Int.tmod a3 3) = 1 then (if x12_1.length < 5864062014805 then ((mani_Join_c.f (x12_1 ++ [(([1, 1, 1, 1, 1] : List Int))])).bind fun bt137 => ((scullerlaw12_known.f).bind fun t141 => (if t141 = true then (if bt118.2 = true then (if bt137.2 = true then (some false) else (if (bt137.1.length : Int) = 0 then ((mani_Same.f t104 t105 t108 t104 t105 t108).bind fun t142 => (some t142)) else (some false))) else (some false)) else (some false)))) else (none)) else (if ([] : List (List Int)).length < 5864062014805 then ((some (([] : List (List Int)) ++ [(([1] : List Int))] : List (List Int))).bind fun y146 => (if y146.length + x12_1.length < 5864062014805 then ((mani_Join_c.f (y146 ++ x12_1)).bind fun bt152 => ((scullerlaw12_known.f).bind fun t156 => (if t156 = true then (if bt118.2 = true then (if bt152.2 = true then (some false) else (if (bt152.1.length : Int) = 0 then ((mani_Same.f t104 t105 t108 t104 t105 t108).bind fun t157 => (some t157)) else (some false))) else (some false)) else (some false)))) else (none))) else (none))))))) = some r := H
      have A13 := Aside0.mk A130
      clear A130
      by_cases c14 : x13_1 < t111
      · rw [if_pos c14] at H
        have c14b0 : decide (x13_1 < t111) = true := decide_eq_true c14
        clear c14
        replace H := Option.bind_eq_some_iff.mp H
        obtain ⟨t112, A150, H⟩ := H
        replace H : (if x12_1.length < 5864062014805 then (scullerlaw12_ManiOrder.l0 k1 a3 (x12_1 ++ [t112]) (wrap64 (x13_1 + 1)) t104 t105 t108) else (none)) = some r := H
        have A15 := Aside0.mk A150
        clear A150
        by_cases c16 : x12_1.length < 5864062014805
        · rw [if_pos c16] at H
          have LMc16 := Aside0.mk c16
          clear c16
          obtain ⟨y115, hy115⟩ : ∃ y_ : List (List Int), y_ = (x12_1 ++ [t112]) := ⟨_, rfl⟩
          replace H : (scullerlaw12_ManiOrder.l0 k1 a3 y115 (wrap64 (x13_1 + 1)) t104 t105 t108) = some r := by first | (rw [hy115]; with_reducible exact H) | (have H2_ := (Option.bind_some _ _).symm.trans H; rw [hy115]; with_reducible exact H2_) | (have H2_ := (Option.bind_some _ _).symm.trans H; with_reducible exact H2_) | with_reducible exact H | (rw [hy115]; exact H) | exact H
          have Ny115 := Aside0.mk hy115
          clear hy115
          have H' := Aside0.mk H
          clear H
          have hcz17_0 : wr.cell? ⟨gb110, 0, none⟩ = some (.int .u64 t104) := (blk_cell BK110.out 0).trans rfl
          have hcz17_1 : wr.cell? ⟨gb110, 1, none⟩ = some (.slice Ao12 t105.length co12) := (blk_cell BK110.out 1).trans rfl
          have hcz17_2 : wr.cell? ⟨gb110, 2, none⟩ = some (.int .u32 t108) := (blk_cell BK110.out 2).trans rfl
          have hfz17_0 := blk_frozen BK110.out 0
          have hfz17_1 := blk_frozen BK110.out 1
          have hfz17_2 := blk_frozen BK110.out 2
          go_wp2_with (first | ((with_reducible refine gate_callee (f := 29) rfl ?_); refine goesL_ (some 30) rfl rfl Try.func29 (by kernel_rfl) rfl #[.agg #[.int .u64 t104, .slice Ao12 t105.length co12, .int .u32 t108]] rfl (by (try simp only [List.map_toArray, List.map_cons, List.map_nil]); first | done | rfl | (simp only [List.length_drop, List.length_take]; rfl)) ?_; (with_reducible refine (mani_Pages.calls t104 _ _ t105 t108 t111 _ ?side1 ?side2 A13.out).mono ?_); (case side1 => repeat (first | exact (Kd.R_reads' HO_111001.out).2.2 | (with_reducible refine Kd.C_alloc ?_ _) | (with_reducible refine Kd.C_drewN ?_ _) | (with_reducible refine Kd.C_drew ?_))); (case side2 => exact (Kd.R_reads' HO_111001.out).2.1); rintro e w18 ⟨rfl, hb⟩; refine ⟨_, rfl, ?_⟩; have n0_ := Aside0.mk (Kd.N_below (by (with_reducible repeat (first | apply Kd.N_alloc | apply Kd.N_drewN | apply Kd.N_drew)); exact HO_12.out) hb); have n1_ := Aside0.mk (Kd.R_below (by (with_reducible repeat (first | apply Kd.R_alloc | apply Kd.R_drewN | apply Kd.R_drew)); exact HO_111001.out) hb); have n2_ := Aside0.mk (blk_below (g := gb110) (o := .cells #[.int .u64 t104, .slice Ao12 t105.length co12, .int .u32 t108] 46 (0, 0)) (by (with_reducible repeat (first | refine blk_drewN ?_ _ | refine blk_drew ?_ | refine blk_alloc ?_ _)); exact BK110.out) hb); have n3_ := Aside0.mk (below_step (by repeat (first | (with_reducible first | exact HB.out | apply below_alloc | apply pw_below_drewN | apply below_drew1 | refine below_set ?_ GE110.out) | exact HB.out)) hb); clear HO_12; clear HO_111001; clear BK110; clear HB; have HO_12 := n0_; have HO_111001 := n1_; have BK110 := n2_; have HB := n3_; clear n0_ n1_ n2_ n3_; (try clear hb); (try clear hb2); (try clear hk); (try clear hi); have hcz19_0 : w18.cell? ⟨gb110, 0, none⟩ = some (.int .u64 t104) := (blk_cell BK110.out 0).trans rfl; have hcz19_1 : w18.cell? ⟨gb110, 1, none⟩ = some (.slice Ao12 t105.length co12) := (blk_cell BK110.out 1).trans rfl; have hcz19_2 : w18.cell? ⟨gb110, 2, none⟩ = some (.int .u32 t108) := (blk_cell BK110.out 2).trans rfl; have hfz19_0 := blk_frozen BK110.out 0; have hfz19_1 := blk_frozen BK110.out 1; have hfz19_2 := blk_frozen BK110.out 2) | ((with_reducible refine gate_callee (f := 37) rfl ?_); refine goesL_ (some 37) rfl rfl Try.func37 (by kernel_rfl) rfl #[.agg #[.int .u64 t104, .slice Ao12 t105.length co12, .int .u32 t108], .int .i64 x13_1] rfl (by (try simp only [List.map_toArray, List.map_cons, List.map_nil]); first | done | rfl | (simp only [List.length_drop, List.length_take]; rfl)) ?_; (with_reducible refine (mani_Page.calls t104 _ _ t105 t108 x13_1 t112 _ ?side1 ?side2 A15.out).mono ?_); (case side1 => repeat (first | exact (Kd.R_reads' HO_111001.out).2.2 | (with_reducible refine Kd.C_alloc ?_ _) | (with_reducible refine Kd.C_drewN ?_ _) | (with_reducible refine Kd.C_drew ?_))); (case side2 => exact (Kd.R_reads' HO_111001.out).2.1); rintro e w20 ⟨v113, rfl, ho0, hb⟩; refine ⟨_, rfl, ?_⟩; have n0_ := Aside0.mk (Kd.N_elder' (by (with_reducible repeat (first | apply Kd.N_alloc | apply Kd.N_drewN | apply Kd.N_drew)); exact HO_12.out) (Kd.R_base ho0) hb); have n1_ := Aside0.mk (Kd.R_elder' (by (with_reducible repeat (first | apply Kd.R_alloc | apply Kd.R_drewN | apply Kd.R_drew)); exact HO_111001.out) (Kd.R_base ho0) hb); have n2_ := Aside0.mk (Kd.R_lower (Kd.R_new' ho0 (Kd.R_lt (by (with_reducible repeat (first | apply Kd.R_alloc | apply Kd.R_drewN | apply Kd.R_drew)); exact HO_111001.out))) (below_size (by repeat (first | (with_reducible first | exact HB.out | apply below_alloc | apply pw_below_drewN | apply below_drew1 | refine below_set ?_ GE110.out) | exact HB.out)))); have n3_ := Aside0.mk (blk_below (g := gb110) (o := .cells #[.int .u64 t104, .slice Ao12 t105.length co12, .int .u32 t108] 46 (0, 0)) (by (with_reducible repeat (first | refine blk_drewN ?_ _ | refine blk_drew ?_ | refine blk_alloc ?_ _)); exact BK110.out) hb); have n4_ := Aside0.mk (below_step (by repeat (first | (with_reducible first | exact HB.out | apply below_alloc | apply pw_below_drewN | apply below_drew1 | refine below_set ?_ GE110.out) | exact HB.out)) hb); clear HO_12; clear HO_111001; clear BK110; clear HB; have HO_12 := n0_; have HO_111001 := n1_; have HO114 := n2_; have BK110 := n3_; have HB := n4_; clear n0_ n1_ n2_ n3_ n4_; (try clear hb); (try clear hb2); (try clear hk); (try clear hi); (try clear ho0); obtain ⟨Ao22, co22, eo22⟩ := Kd.R_slice HO114.out; subst eo22) | ((with_reducible refine gate_builtin (b := .append) (xs := #[.tmp 34, .tmp 38]) rfl ?_); (try (refine gate_guard (by rfl) ?_; dsimp only)); at_builtin; refine Kd.N_append (Kd.slice 3 (Kd.int .i64)) (w0 := w) w.heap.size rfl (.tmp 34) (.tmp 38) 61 22 (.slice none 0 0) 24 rfl Try.underlying61 info22 rfl (by decide) (by omega) u12 x12_1 t112 [.slice Ao22 t112.length co22] (fun k_ => some k_ ≠ (.slice Ao12 t105.length co12 : Value).ownBlock ∧ k_ ≠ gb110) (fun k_ => ((fun k_ => some k_ ≠ (.slice Ao12 t105.length co12 : Value).ownBlock ∧ k_ ≠ gb110)) k_ ∧ some k_ ≠ (u12 : Value).ownBlock) rfl rfl ?aP (fun _ hk => hk) ?aF ?aO ?aB ?aS ?aL ?_; (case aP => exact (Kd.FK_slice_mk (Kd.R_reads' (Kd.R_mono (ok' := (fun k_ => ((fun k_ => some k_ ≠ (.slice Ao12 t105.length co12 : Value).ownBlock ∧ k_ ≠ gb110)) k_ ∧ some k_ ≠ (u12 : Value).ownBlock)) (Kd.R_types (Kd.R_apart' (HO114.out) (Kd.N_typed HO_12.out) (by decide)) BK110.out (by decide)) (fun k_ hk => ⟨⟨hk.1.1.2, hk.2⟩, hk.1.2⟩))).2.1 (Kd.R_F (Kd.R_mono (ok' := (fun k_ => ((fun k_ => some k_ ≠ (.slice Ao12 t105.length co12 : Value).ownBlock ∧ k_ ≠ gb110)) k_ ∧ some k_ ≠ (u12 : Value).ownBlock)) (Kd.R_types (Kd.R_apart' (HO114.out) (Kd.N_typed HO_12.out) (by decide)) BK110.out (by decide)) (fun k_ hk => ⟨⟨hk.1.1.2, hk.2⟩, hk.1.2⟩))))); (case aB => exact (by repeat (first | (with_reducible first | exact HB.out | apply below_alloc | apply pw_below_drewN | apply below_drew1 | refine below_set ?_ GE110.out) | exact HB.out))); (case aF => exact (fun k_ hk => ⟨Kd.fresh' (Kd.R_lt (by (with_reducible repeat (first | apply Kd.R_alloc | apply Kd.R_drewN | apply Kd.R_drew)); exact HO_111001.out)) k_ hk, Kd.freshB (g := gb110) (o := .cells #[.int .u64 t104, .slice Ao12 t105.length co12, .int .u32 t108] 46 (0, 0)) (by (with_reducible repeat (first | refine blk_drewN ?_ _ | refine blk_drew ?_ | refine blk_alloc ?_ _)); exact BK110.out) k_ hk⟩)); (case aO => exact (by (with_reducible repeat (first | apply Kd.N_alloc | apply Kd.N_drewN | apply Kd.N_drew)); exact Kd.N_mono HO_12.out (fun _ hk => ⟨hk.1.1, hk.1.2⟩))); (case aS => exact (below_size (by repeat (first | (with_reducible first | exact HB.out | apply below_alloc | apply pw_below_drewN | apply below_drew1 | refine below_set ?_ GE110.out) | exact HB.out)))); (case aL => have := LMc16.out; omega); intro v116 w21 ho hb hg hat; rw [← Ny115.out] at ho; have n0_ := Aside0.mk (Kd.R_over' (by (with_reducible repeat (first | apply Kd.R_alloc | apply Kd.R_drewN | apply Kd.R_drew)); exact HO_111001.out) (Kd.N_typed (by (with_reducible repeat (first | apply Kd.N_alloc | apply Kd.N_drewN | apply Kd.N_drew)); exact HO_12.out)) (by decide) hg); have n1_ := Aside0.mk (blk_grown (g := gb110) (o := .cells #[.int .u64 t104, .slice Ao12 t105.length co12, .int .u32 t108] 46 (0, 0)) (by (with_reducible repeat (first | refine blk_drewN ?_ _ | refine blk_drew ?_ | refine blk_alloc ?_ _)); exact BK110.out) hg (Kd.N_ne HO_12.out BK110.out (by decide))); have n2_ := Aside0.mk (hb); have n3_ := Aside0.mk (ho); clear HO_111001; clear BK110; clear HB; clear HO_12; clear HO114; have HO_111001 := n0_; have BK110 := n1_; have HB := n2_; have HO117 := n3_; clear n0_ n1_ n2_ n3_; clear ho hb hg hat))
          go_roundg k1
          case measure => have := HK1.out; omega
          case rel => exact ⟨(y115), (wrap64 (x13_1 + 1)), (by first | rfl | (simp; done) | (simp [*]; done)), H', ⟨by have := HK1.out; omega⟩, ⟨by (with_reducible repeat (first | apply Kd.N_alloc | apply Kd.N_drewN | apply Kd.N_drew)); exact HO117.out⟩, ⟨by (with_reducible repeat (first | apply Kd.R_alloc | apply Kd.R_drewN | apply Kd.R_drew)); exact Kd.R_mono HO_111001.out (fun _ hk => trivial)⟩, ⟨by (with_reducible repeat (first | refine blk_drewN ?_ _ | refine blk_drew ?_ | refine blk_alloc ?_ _)); exact BK110.out⟩, ⟨by repeat (first | (with_reducible first | exact HB.out | apply below_alloc | apply pw_below_drewN | apply below_drew1 | refine below_set ?_ GE110.out) | exact HB.out)⟩⟩
        · rw [if_neg c16] at H
          exact absurd H (by simp)
      · rw [if_neg c14] at H
        have c14b0 : decide (x13_1 < t111) = false := decide_eq_false c14
        clear c14
        by_cases c23 : (x12_1.length : Int) = 0
        · rw [if_pos c23] at H
          have c23b0 : ((x12_1.length : Int) == 0) = true := beq_iff_eq.mpr c23
          have c23b1 : ((x12_1.length : Int) != 0) = false := bne_eq_false_iff_eq.mpr c23
          clear c23
          obtain rfl := Option.some.inj H
          have hcz24_0 : wr.cell? ⟨gb110, 0, none⟩ = some (.int .u64 t104) := (blk_cell BK110.out 0).trans rfl
          have hcz24_1 : wr.cell? ⟨gb110, 1, none⟩ = some (.slice Ao12 t105.length co12) := (blk_cell BK110.out 1).trans rfl
          have hcz24_2 : wr.cell? ⟨gb110, 2, none⟩ = some (.int .u32 t108) := (blk_cell BK110.out 2).trans rfl
          have hfz24_0 := blk_frozen BK110.out 0
          have hfz24_1 := blk_frozen BK110.out 1
          have hfz24_2 := blk_frozen BK110.out 2
          go_wp2_with (first | ((with_reducible refine gate_callee (f := 29) rfl ?_); refine goesL_ (some 30) rfl rfl Try.func29 (by kernel_rfl) rfl #[.agg #[.int .u64 t104, .slice Ao12 t105.length co12, .int .u32 t108]] rfl (by (try simp only [List.map_toArray, List.map_cons, List.map_nil]); first | done | rfl | (simp only [List.length_drop, List.length_take]; rfl)) ?_; (with_reducible refine (mani_Pages.calls t104 _ _ t105 t108 t111 _ ?side1 ?side2 A13.out).mono ?_); (case side1 => repeat (first | exact (Kd.R_reads' HO_111001.out).2.2 | (with_reducible refine Kd.C_alloc ?_ _) | (with_reducible refine Kd.C_drewN ?_ _) | (with_reducible refine Kd.C_drew ?_))); (case side2 => exact (Kd.R_reads' HO_111001.out).2.1); rintro e w25 ⟨rfl, hb⟩; refine ⟨_, rfl, ?_⟩; have n0_ := Aside0.mk (Kd.N_below (by (with_reducible repeat (first | apply Kd.N_alloc | apply Kd.N_drewN | apply Kd.N_drew)); exact HO_12.out) hb); have n1_ := Aside0.mk (Kd.R_below (by (with_reducible repeat (first | apply Kd.R_alloc | apply Kd.R_drewN | apply Kd.R_drew)); exact HO_111001.out) hb); have n2_ := Aside0.mk (blk_below (g := gb110) (o := .cells #[.int .u64 t104, .slice Ao12 t105.length co12, .int .u32 t108] 46 (0, 0)) (by (with_reducible repeat (first | refine blk_drewN ?_ _ | refine blk_drew ?_ | refine blk_alloc ?_ _)); exact BK110.out) hb); have n3_ := Aside0.mk (below_step (by repeat (first | (with_reducible first | exact HB.out | apply below_alloc | apply pw_below_drewN | apply below_drew1 | refine below_set ?_ GE110.out) | exact HB.out)) hb); clear HO_12; clear HO_111001; clear BK110; clear HB; have HO_12 := n0_; have HO_111001 := n1_; have BK110 := n2_; have HB := n3_; clear n0_ n1_ n2_ n3_; (try clear hb); (try clear hb2); (try clear hk); (try clear hi); obtain ⟨Ao26, co26, eo26⟩ := Kd.N_slice HO_12.out; subst eo26))
          go_ret
          exact ⟨by first | rfl | (simp [errW_none, errW_some] <;> rfl) | (simp [*, errW_none, errW_some] <;> rfl), by repeat (first | (with_reducible first | exact HB.out | apply below_alloc | apply pw_below_drewN | apply below_drew1 | refine below_set ?_ GE110.out) | exact HB.out)⟩
        · rw [if_neg c23] at H
          have c23b0 : ((x12_1.length : Int) == 0) = false := beq_eq_false_iff_ne.mpr c23
          have c23b1 : ((x12_1.length : Int) != 0) = true := bne_iff_ne.mpr c23
          have c23b2 : ¬ (x12_1 = []) := fun h_ => c23 (by rw [h_]; rfl)
          replace H := Option.bind_eq_some_iff.mp H
          obtain ⟨⟨t118, t119⟩, A270, H⟩ := H
          replace H : (if (Int.tmod a3 3) = 0 then (if x12_1.length < 5864062014805 then ((mani_Join_c.f (x12_1 ++ [[]])).bind fun bt125 => ((scullerlaw12_known.f).bind fun t129 => (if t129 = true then (if t119 = true then (if bt125.2 = true then (some false) else (if (bt125.1.length : Int) = 0 then ((mani_Same.f t104 t105 t108 t104 t105 t108).bind fun t130 => (some t130)) else (some false))) else (some false)) else (some false)))) else (none)) else (if (Int.tmod a3 3) = 1 then (if x12_1.length < 5864062014805 then ((mani_Join_c.f (x12_1 ++ [(([1, 1, 1, 1, 1] : List Int))])).bind fun bt137 => ((scullerlaw12_known.f).bind fun t141 => (if t141 = true then (if t119 = true then (if bt137.2 = true then (some false) else (if (bt137.1.length : Int) = 0 then ((mani_Same.f t104 t105 t108 t104 t105 t108).bind fun t142 => (some t142)) else (some false))) else (some false)) else (some false)))) else (none)) else (if ([] : List (List Int)).length < 5864062014805 then ((some (([] : List (List Int)) ++ [(([1] : List Int))] : List (List Int))).bind fun y146 => (if y146.length + x12_1.length < 5864062014805 then ((mani_Join_c.f (y146 ++ x12_1)).bind fun bt152 => ((scullerlaw12_known.f).bind fun t156 => (if t156 = true then (if t119 = true then (if bt152.2 = true then (some false) else (if (bt152.1.length : Int) = 0 then ((mani_Same.f t104 t105 t108 t104 t105 t108).bind fun t157 => (some t157)) else (some false))) else (some false)) else (some false)))) else (none))) else (none)))) = some r := H
          have A27 := Aside0.mk A270
          clear A270
          by_cases c28 : (Int.tmod a3 3) = 0
          · rw [if_pos c28] at H
            have c28b0 : ((Int.tmod a3 3) == 0) = true := beq_iff_eq.mpr c28
            have c28b1 : ((Int.tmod a3 3) != 0) = false := bne_eq_false_iff_eq.mpr c28
            clear c28
            by_cases c29 : x12_1.length < 5864062014805
            · rw [if_pos c29] at H
              have LMc29 := Aside0.mk c29
              clear c29
              obtain ⟨y122, hy122⟩ : ∃ y_ : List (List Int), y_ = (x12_1 ++ [[]]) := ⟨_, rfl⟩
              replace H : ((mani_Join_c.f y122).bind fun bt125 => ((scullerlaw12_known.f).bind fun t129 => (if t129 = true then (if t119 = true then (if bt125.2 = true then (some false) else (if (bt125.1.length : Int) = 0 then ((mani_Same.f t104 t105 t108 t104 t105 t108).bind fun t130 => (some t130)) else (some false))) else (some false)) else (some false)))) = some r := by first | (rw [hy122]; with_reducible exact H) | (have H2_ := (Option.bind_some _ _).symm.trans H; rw [hy122]; with_reducible exact H2_) | (have H2_ := (Option.bind_some _ _).symm.trans H; with_reducible exact H2_) | with_reducible exact H | (rw [hy122]; exact H) | exact H
              have Ny122 := Aside0.mk hy122
              clear hy122
              replace H := Option.bind_eq_some_iff.mp H
              obtain ⟨⟨t125, t126⟩, A300, H⟩ := H
              replace H : ((scullerlaw12_known.f).bind fun t129 => (if t129 = true then (if t119 = true then (if t126 = true then (some false) else (if (t125.length : Int) = 0 then ((mani_Same.f t104 t105 t108 t104 t105 t108).bind fun t130 => (some t130)) else (some false))) else (some false)) else (some false))) = some r := H
              have A30 := Aside0.mk A300
              clear A300
              replace H := Option.bind_eq_some_iff.mp H
              obtain ⟨t129, A310, H⟩ := H
              replace H : (if t129 = true then (if t119 = true then (if t126 = true then (some false) else (if (t125.length : Int) = 0 then ((mani_Same.f t104 t105 t108 t104 t105 t108).bind fun t130 => (some t130)) else (some false))) else (some false)) else (some false)) = some r := H
              have A31 := Aside0.mk A310
              clear A310
              by_cases c32 : t129 = true
              · subst c32
                have H1 : (if t119 = true then (if t126 = true then (some false) else (if (t125.length : Int) = 0 then ((mani_Same.f t104 t105 t108 t104 t105 t108).bind fun t130 => (some t130)) else (some false))) else (some false)) = some r := by rw [if_pos rfl] at H; exact H
                clear H
                have H := H1
                clear H1
                by_cases c33 : t119 = true
                · subst c33
                  have H1 : (if t126 = true then (some false) else (if (t125.length : Int) = 0 then ((mani_Same.f t104 t105 t108 t104 t105 t108).bind fun t130 => (some t130)) else (some false))) = some r := by rw [if_pos rfl] at H; exact H
                  clear H
                  have H := H1
                  clear H1
                  by_cases c34 : t126 = true
                  · subst c34
                    have H1 : (some false) = some r := by rw [if_pos rfl] at H; exact H
                    clear H
                    have H := H1
                    clear H1
                    exact absurd H (by rw [hr_.out]; simp)
                  · replace c34 := Bool.eq_false_iff.mpr c34
                    subst c34
                    have H1 : (if (t125.length : Int) = 0 then ((mani_Same.f t104 t105 t108 t104 t105 t108).bind fun t130 => (some t130)) else (some false)) = some r := by rw [if_neg (show ¬ (false = true) by decide)] at H; exact H
                    clear H
                    have H := H1
                    clear H1
                    by_cases c43 : (t125.length : Int) = 0
                    · rw [if_pos c43] at H
                      have c43b0 : ((t125.length : Int) == 0) = true := beq_iff_eq.mpr c43
                      have c43b1 : ((t125.length : Int) != 0) = false := bne_eq_false_iff_eq.mpr c43
                      clear c43
                      replace H := Option.bind_eq_some_iff.mp H
                      obtain ⟨t130, A440, H⟩ := H
                      replace H : (some t130) = some r := H
                      have A44 := Aside0.mk A440
                      clear A440
                      obtain rfl := Option.some.inj H
                      have hcz45_0 : wr.cell? ⟨gb110, 0, none⟩ = some (.int .u64 t104) := (blk_cell BK110.out 0).trans rfl
                      have hcz45_1 : wr.cell? ⟨gb110, 1, none⟩ = some (.slice Ao12 t105.length co12) := (blk_cell BK110.out 1).trans rfl
                      have hcz45_2 : wr.cell? ⟨gb110, 2, none⟩ = some (.int .u32 t108) := (blk_cell BK110.out 2).trans rfl
                      have hfz45_0 := blk_frozen BK110.out 0
                      have hfz45_1 := blk_frozen BK110.out 1
                      have hfz45_2 := blk_frozen BK110.out 2
                      go_wp2_with (first | ((with_reducible refine gate_callee (f := 29) rfl ?_); refine goesL_ (some 30) rfl rfl Try.func29 (by kernel_rfl) rfl #[.agg #[.int .u64 t104, .slice Ao12 t105.length co12, .int .u32 t108]] rfl (by (try simp only [List.map_toArray, List.map_cons, List.map_nil]); first | done | rfl | (simp only [List.length_drop, List.length_take]; rfl)) ?_; (with_reducible refine (mani_Pages.calls t104 _ _ t105 t108 t111 _ ?side1 ?side2 A13.out).mono ?_); (case side1 => repeat (first | exact (Kd.R_reads' HO_111001.out).2.2 | (with_reducible refine Kd.C_alloc ?_ _) | (with_reducible refine Kd.C_drewN ?_ _) | (with_reducible refine Kd.C_drew ?_))); (case side2 => exact (Kd.R_reads' HO_111001.out).2.1); rintro e w46 ⟨rfl, hb⟩; refine ⟨_, rfl, ?_⟩; have n0_ := Aside0.mk (Kd.N_below (by (with_reducible repeat (first | apply Kd.N_alloc | apply Kd.N_drewN | apply Kd.N_drew)); exact HO_12.out) hb); have n1_ := Aside0.mk (Kd.R_below (by (with_reducible repeat (first | apply Kd.R_alloc | apply Kd.R_drewN | apply Kd.R_drew)); exact HO_111001.out) hb); have n2_ := Aside0.mk (blk_below (g := gb110) (o := .cells #[.int .u64 t104, .slice Ao12 t105.length co12, .int .u32 t108] 46 (0, 0)) (by (with_reducible repeat (first | refine blk_drewN ?_ _ | refine blk_drew ?_ | refine blk_alloc ?_ _)); exact BK110.out) hb); have n3_ := Aside0.mk (below_step (by repeat (first | (with_reducible first | exact HB.out | apply below_alloc | apply pw_below_drewN | apply below_drew1 | refine below_set ?_ GE110.out) | exact HB.out)) hb); clear HO_12; clear HO_111001; clear BK110; clear HB; have HO_12 := n0_; have HO_111001 := n1_; have BK110 := n2_; have HB := n3_; clear n0_ n1_ n2_ n3_; (try clear hb); (try clear hb2); (try clear hk); (try clear hi); obtain ⟨Ao47, co47, eo47⟩ := Kd.N_slice HO_12.out; subst eo47) | ((with_reducible refine gate_callee (f := 38) rfl ?_); refine goesL_ (some 45) rfl rfl Try.func38 (by kernel_rfl) rfl #[.slice Ao47 x12_1.length co47] rfl (by (try simp only [List.map_toArray, List.map_cons, List.map_nil]); first | done | rfl | (simp only [List.length_drop, List.length_take]; rfl)) ?_; (with_reducible refine (mani_Join_c.calls _ _ x12_1 t118 true _ ?side1 ?side2 A27.out).mono ?_); (case side1 => repeat (first | exact (Kd.N_reads' HO_12.out).2.2 | (with_reducible refine Kd.C_alloc ?_ _) | (with_reducible refine Kd.C_drewN ?_ _) | (with_reducible refine Kd.C_drew ?_))); (case side2 => exact (Kd.N_reads' HO_12.out).2.1); rintro e w48 ⟨v120, rfl, ho0, hb⟩; refine ⟨_, rfl, ?_⟩; have n0_ := Aside0.mk (Kd.N_elder' (by (with_reducible repeat (first | apply Kd.N_alloc | apply Kd.N_drewN | apply Kd.N_drew)); exact HO_12.out) (Kd.R_base ho0) hb); have n1_ := Aside0.mk (Kd.R_elder' (by (with_reducible repeat (first | apply Kd.R_alloc | apply Kd.R_drewN | apply Kd.R_drew)); exact HO_111001.out) (Kd.R_base ho0) hb); have n2_ := Aside0.mk (Kd.R_lower (Kd.R_new' ho0 (Kd.R_lt (by (with_reducible repeat (first | apply Kd.R_alloc | apply Kd.R_drewN | apply Kd.R_drew)); exact HO_111001.out))) (below_size (by repeat (first | (with_reducible first | exact HB.out | apply below_alloc | apply pw_below_drewN | apply below_drew1 | refine below_set ?_ GE110.out) | exact HB.out)))); have n3_ := Aside0.mk (blk_below (g := gb110) (o := .cells #[.int .u64 t104, .slice Ao12 t105.length co12, .int .u32 t108] 46 (0, 0)) (by (with_reducible repeat (first | refine blk_drewN ?_ _ | refine blk_drew ?_ | refine blk_alloc ?_ _)); exact BK110.out) hb); have n4_ := Aside0.mk (below_step (by repeat (first | (with_reducible first | exact HB.out | apply below_alloc | apply pw_below_drewN | apply below_drew1 | refine below_set ?_ GE110.out) | exact HB.out)) hb); clear HO_12; clear HO_111001; clear BK110; clear HB; have HO_12 := n0_; have HO_111001 := n1_; have HO121 := n2_; have BK110 := n3_; have HB := n4_; clear n0_ n1_ n2_ n3_ n4_; (try clear hb); (try clear hb2); (try clear hk); (try clear hi); (try clear ho0)) | ((with_reducible refine gate_builtin (b := .append) (xs := #[.tmp 60, .tmp 61]) rfl ?_); (try (refine gate_guard (by rfl) ?_; dsimp only)); at_builtin; refine Kd.N_append (Kd.slice 3 (Kd.int .i64)) (w0 := w) w.heap.size rfl (.tmp 60) (.tmp 61) 61 22 (.slice none 0 0) 24 rfl Try.underlying61 info22 rfl (by decide) (by omega) (.slice Ao47 x12_1.length co47) x12_1 [] [.slice none 0 0] (fun k_ => some k_ ≠ (.slice Ao12 t105.length co12 : Value).ownBlock ∧ some k_ ≠ (v120 : Value).ownBlock ∧ k_ ≠ gb110) (fun _ => False) rfl rfl ?aP (fun _ hk => hk.elim) ?aF ?aO ?aB ?aS ?aL ?_; (case aP => exact (Kd.FK_slice_mk (Nat.le_refl _) (Kd.F_nil _ _ _))); (case aB => exact (by repeat (first | (with_reducible first | exact HB.out | apply below_alloc | apply pw_below_drewN | apply below_drew1 | refine below_set ?_ GE110.out) | exact HB.out))); (case aF => exact (fun k_ hk => ⟨Kd.fresh' (Kd.R_lt (by (with_reducible repeat (first | apply Kd.R_alloc | apply Kd.R_drewN | apply Kd.R_drew)); exact HO_111001.out)) k_ hk, Kd.fresh' (Kd.R_lt (by (with_reducible repeat (first | apply Kd.R_alloc | apply Kd.R_drewN | apply Kd.R_drew)); exact HO121.out)) k_ hk, Kd.freshB (g := gb110) (o := .cells #[.int .u64 t104, .slice Ao12 t105.length co12, .int .u32 t108] 46 (0, 0)) (by (with_reducible repeat (first | refine blk_drewN ?_ _ | refine blk_drew ?_ | refine blk_alloc ?_ _)); exact BK110.out) k_ hk⟩)); (case aO => exact (by (with_reducible repeat (first | apply Kd.N_alloc | apply Kd.N_drewN | apply Kd.N_drew)); exact Kd.N_mono HO_12.out (fun _ hk => ⟨hk.1.1, ⟨hk.2, hk.1.2⟩⟩))); (case aS => exact (below_size (by repeat (first | (with_reducible first | exact HB.out | apply below_alloc | apply pw_below_drewN | apply below_drew1 | refine below_set ?_ GE110.out) | exact HB.out)))); (case aL => have := LMc29.out; omega); intro v123 w49 ho hb hg hat; rw [← Ny122.out] at ho; have n0_ := Aside0.mk (Kd.R_over' (by (with_reducible repeat (first | apply Kd.R_alloc | apply Kd.R_drewN | apply Kd.R_drew)); exact HO_111001.out) (Kd.N_typed (by (with_reducible repeat (first | apply Kd.N_alloc | apply Kd.N_drewN | apply Kd.N_drew)); exact HO_12.out)) (by decide) hg); have n1_ := Aside0.mk (blk_grown (g := gb110) (o := .cells #[.int .u64 t104, .slice Ao12 t105.length co12, .int .u32 t108] 46 (0, 0)) (by (with_reducible repeat (first | refine blk_drewN ?_ _ | refine blk_drew ?_ | refine blk_alloc ?_ _)); exact BK110.out) hg (Kd.N_ne HO_12.out BK110.out (by decide))); have n2_ := Aside0.mk (Kd.R_over' (by (with_reducible repeat (first | apply Kd.R_alloc | apply Kd.R_drewN | apply Kd.R_drew)); exact HO121.out) (Kd.N_typed (by (with_reducible repeat (first | apply Kd.N_alloc | apply Kd.N_drewN | apply Kd.N_drew)); exact HO_12.out)) (by decide) hg); have n3_ := Aside0.mk (hb); have n4_ := Aside0.mk (ho); clear HO_111001; clear BK110; clear HO121; clear HB; clear HO_12; have HO_111001 := n0_; have BK110 := n1_; have HO121 := n2_; have HB := n3_; have HO124 := n4_; clear n0_ n1_ n2_ n3_ n4_; clear ho hb hg hat; obtain ⟨Ao50, co50, eo50⟩ := Kd.N_slice HO124.out; subst eo50) | ((with_reducible refine gate_callee (f := 38) rfl ?_); refine goesL_ (some 71) rfl rfl Try.func38 (by kernel_rfl) rfl #[.slice Ao50 y122.length co50] rfl (by (try simp only [List.map_toArray, List.map_cons, List.map_nil]); first | done | rfl | (simp only [List.length_drop, List.length_take]; rfl)) ?_; (with_reducible refine (mani_Join_c.calls _ _ y122 t125 false _ ?side1 ?side2 A30.out).mono ?_); (case side1 => repeat (first | exact (Kd.N_reads' HO124.out).2.2 | (with_reducible refine Kd.C_alloc ?_ _) | (with_reducible refine Kd.C_drewN ?_ _) | (with_reducible refine Kd.C_drew ?_))); (case side2 => exact (Kd.N_reads' HO124.out).2.1); rintro e w51 ⟨v127, rfl, ho0, hb⟩; refine ⟨_, rfl, ?_⟩; have n0_ := Aside0.mk (Kd.R_elder' (by (with_reducible repeat (first | apply Kd.R_alloc | apply Kd.R_drewN | apply Kd.R_drew)); exact HO_111001.out) (Kd.R_base ho0) hb); have n1_ := Aside0.mk (Kd.R_elder' (by (with_reducible repeat (first | apply Kd.R_alloc | apply Kd.R_drewN | apply Kd.R_drew)); exact HO121.out) (Kd.R_base ho0) hb); have n2_ := Aside0.mk (Kd.N_elder' (by (with_reducible repeat (first | apply Kd.N_alloc | apply Kd.N_drewN | apply Kd.N_drew)); exact HO124.out) (Kd.R_base ho0) hb); have n3_ := Aside0.mk (Kd.R_lower (Kd.R_new' (Kd.R_new' ho0 (Kd.R_lt (by (with_reducible repeat (first | apply Kd.R_alloc | apply Kd.R_drewN | apply Kd.R_drew)); exact HO_111001.out))) (Kd.R_lt (by (with_reducible repeat (first | apply Kd.R_alloc | apply Kd.R_drewN | apply Kd.R_drew)); exact HO121.out))) (below_size (by repeat (first | (with_reducible first | exact HB.out | apply below_alloc | apply pw_below_drewN | apply below_drew1 | refine below_set ?_ GE110.out) | exact HB.out)))); have n4_ := Aside0.mk (blk_below (g := gb110) (o := .cells #[.int .u64 t104, .slice Ao12 t105.length co12, .int .u32 t108] 46 (0, 0)) (by (with_reducible repeat (first | refine blk_drewN ?_ _ | refine blk_drew ?_ | refine blk_alloc ?_ _)); exact BK110.out) hb); have n5_ := Aside0.mk (below_step (by repeat (first | (with_reducible first | exact HB.out | apply below_alloc | apply pw_below_drewN | apply below_drew1 | refine below_set ?_ GE110.out) | exact HB.out)) hb); clear HO_111001; clear HO121; clear HO124; clear BK110; clear HB; have HO_111001 := n0_; have HO121 := n1_; have HO124 := n2_; have HO128 := n3_; have BK110 := n4_; have HB := n5_; clear n0_ n1_ n2_ n3_ n4_ n5_; (try clear hb); (try clear hb2); (try clear hk); (try clear hi); (try clear ho0)) | ((with_reducible refine gate_callee (f := 25) rfl ?_); refine goesL_ (some 74) rfl rfl Try.func25 (by kernel_rfl) rfl #[] rfl (by (try simp only [List.map_toArray, List.map_cons, List.map_nil]); first | done | rfl | (simp only [List.length_drop, List.length_take]; rfl)) ?_; (with_reducible refine (scullerlaw12_known.calls  true _ A31.out).mono ?_); rintro e w52 ⟨rfl, hb⟩; refine ⟨_, rfl, ?_⟩; have n0_ := Aside0.mk (Kd.R_below (by (with_reducible repeat (first | apply Kd.R_alloc | apply Kd.R_drewN | apply Kd.R_drew)); exact HO_111001.out) hb); have n1_ := Aside0.mk (Kd.R_below (by (with_reducible repeat (first | apply Kd.R_alloc | apply Kd.R_drewN | apply Kd.R_drew)); exact HO121.out) hb); have n2_ := Aside0.mk (Kd.N_below (by (with_reducible repeat (first | apply Kd.N_alloc | apply Kd.N_drewN | apply Kd.N_drew)); exact HO124.out) hb); have n3_ := Aside0.mk (Kd.R_below (by (with_reducible repeat (first | apply Kd.R_alloc | apply Kd.R_drewN | apply Kd.R_drew)); exact HO128.out) hb); have n4_ := Aside0.mk (blk_below (g := gb110) (o := .cells #[.int .u64 t104, .slice Ao12 t105.length co12, .int .u32 t108] 46 (0, 0)) (by (with_reducible repeat (first | refine blk_drewN ?_ _ | refine blk_drew ?_ | refine blk_alloc ?_ _)); exact BK110.out) hb); have n5_ := Aside0.mk (below_step (by repeat (first | (with_reducible first | exact HB.out | apply below_alloc | apply pw_below_drewN | apply below_drew1 | refine below_set ?_ GE110.out) | exact HB.out)) hb); clear HO_111001; clear HO121; clear HO124; clear HO128; clear BK110; clear HB; have HO_111001 := n0_; have HO121 := n1_; have HO124 := n2_; have HO128 := n3_; have BK110 := n4_; have HB := n5_; clear n0_ n1_ n2_ n3_ n4_ n5_; (try clear hb); (try clear hb2); (try clear hk); (try clear hi); obtain ⟨Ao53, co53, eo53⟩ := Kd.R_slice HO128.out; subst eo53; have hcz54_0 : w52.cell? ⟨gb110, 0, none⟩ = some (.int .u64 t104) := (blk_cell BK110.out 0).trans rfl; have hcz54_1 : w52.cell? ⟨gb110, 1, none⟩ = some (.slice Ao12 t105.length co12) := (blk_cell BK110.out 1).trans rfl; have hcz54_2 : w52.cell? ⟨gb110, 2, none⟩ = some (.int .u32 t108) := (blk_cell BK110.out 2).trans rfl; have hfz54_0 := blk_frozen BK110.out 0; have hfz54_1 := blk_frozen BK110.out 1; have hfz54_2 := blk_frozen BK110.out 2) | (go_at_call 26; (with_reducible refine (mani_Same.calls t104 _ _ t105 t108 t104 _ _ t105 t108 t130 _ ?side1 ?side2 ?side3 ?side4 A44.out).mono ?_); (case side1 => repeat (first | exact (Kd.R_reads' HO_111001.out).2.2 | (with_reducible refine Kd.C_alloc ?_ _) | (with_reducible refine Kd.C_drewN ?_ _) | (with_reducible refine Kd.C_drew ?_))); (case side2 => exact (Kd.R_reads' HO_111001.out).2.1); (case side3 => repeat (first | exact (Kd.R_reads' HO_111001.out).2.2 | (with_reducible refine Kd.C_alloc ?_ _) | (with_reducible refine Kd.C_drewN ?_ _) | (with_reducible refine Kd.C_drew ?_))); (case side4 => exact (Kd.R_reads' HO_111001.out).2.1); rintro e w55 ⟨rfl, hb⟩; have n0_ := Aside0.mk (Kd.R_below (by (with_reducible repeat (first | apply Kd.R_alloc | apply Kd.R_drewN | apply Kd.R_drew)); exact HO_111001.out) hb); have n1_ := Aside0.mk (Kd.R_below (by (with_reducible repeat (first | apply Kd.R_alloc | apply Kd.R_drewN | apply Kd.R_drew)); exact HO121.out) hb); have n2_ := Aside0.mk (Kd.N_below (by (with_reducible repeat (first | apply Kd.N_alloc | apply Kd.N_drewN | apply Kd.N_drew)); exact HO124.out) hb); have n3_ := Aside0.mk (Kd.R_below (by (with_reducible repeat (first | apply Kd.R_alloc | apply Kd.R_drewN | apply Kd.R_drew)); exact HO128.out) hb); have n4_ := Aside0.mk (blk_below (g := gb110) (o := .cells #[.int .u64 t104, .slice Ao12 t105.length co12, .int .u32 t108] 46 (0, 0)) (by (with_reducible repeat (first | refine blk_drewN ?_ _ | refine blk_drew ?_ | refine blk_alloc ?_ _)); exact BK110.out) hb); have n5_ := Aside0.mk (below_step (by repeat (first | (with_reducible first | exact HB.out | apply below_alloc | apply pw_below_drewN | apply below_drew1 | refine below_set ?_ GE110.out) | exact HB.out)) hb); clear HO_111001; clear HO121; clear HO124; clear HO128; clear BK110; clear HB; have HO_111001 := n0_; have HO121 := n1_; have HO124 := n2_; have HO128 := n3_; have BK110 := n4_; have HB := n5_; clear n0_ n1_ n2_ n3_ n4_ n5_; (try clear hb); (try clear hb2); (try clear hk); (try clear hi)))
                      go_ret
                      exact ⟨by first | rfl | (simp [errW_none, errW_some] <;> rfl) | (simp [*, errW_none, errW_some] <;> rfl), by repeat (first | (with_reducible first | exact HB.out | apply below_alloc | apply pw_below_drewN | apply below_drew1 | refine below_set ?_ GE110.out) | exact HB.out)⟩
                    · rw [if_neg c43] at H
                      have c43b0 : ((t125.length : Int) == 0) = false := beq_eq_false_iff_ne.mpr c43
                      have c43b1 : ((t125.length : Int) != 0) = true := bne_iff_ne.mpr c43
                      have c43b2 : ¬ (t125 = []) := fun h_ => c43 (by rw [h_]; rfl)
                      exact absurd H (by rw [hr_.out]; simp)
                · replace c33 := Bool.eq_false_iff.mpr c33
                  subst c33
                  have H1 : (some false) = some r := by rw [if_neg (show ¬ (false = true) by decide)] at H; exact H
                  clear H
                  have H := H1
                  clear H1
                  exact absurd H (by rw [hr_.out]; simp)
              · replace c32 := Bool.eq_false_iff.mpr c32
                subst c32
                have H1 : (some false) = some r := by rw [if_neg (show ¬ (false = true) by decide)] at H; exact H
                clear H
                have H := H1
                clear H1
                exact absurd H (by rw [hr_.out]; simp)
            · rw [if_neg c29] at H
              exact absurd H (by simp)
          · rw [if_neg c28] at H
            have c28b0 : ((Int.tmod a3 3) == 0) = false := beq_eq_false_iff_ne.mpr c28
            have c28b1 : ((Int.tmod a3 3) != 0) = true := bne_iff_ne.mpr c28
            by_cases c81 : (Int.tmod a3 3) = 1
            · rw [if_pos c81] at H
              have c81b0 : ((Int.tmod a3 3) == 1) = true := beq_iff_eq.mpr c81
              have c81b1 : ((Int.tmod a3 3) != 1) = false := bne_eq_false_iff_eq.mpr c81
              clear c81
              obtain ⟨y131, hy131⟩ : ∃ y_ : List Int, y_ = (([1, 1, 1, 1, 1] : List Int)) := ⟨_, rfl⟩
              replace H : (if x12_1.length < 5864062014805 then ((mani_Join_c.f (x12_1 ++ [y131])).bind fun bt137 => ((scullerlaw12_known.f).bind fun t141 => (if t141 = true then (if t119 = true then (if bt137.2 = true then (some false) else (if (bt137.1.length : Int) = 0 then ((mani_Same.f t104 t105 t108 t104 t105 t108).bind fun t142 => (some t142)) else (some false))) else (some false)) else (some false)))) else (none)) = some r := by first | (rw [hy131]; with_reducible exact H) | (have H2_ := (Option.bind_some _ _).symm.trans H; rw [hy131]; with_reducible exact H2_) | (have H2_ := (Option.bind_some _ _).symm.trans H; with_reducible exact H2_) | with_reducible exact H | (rw [hy131]; exact H) | exact H
              have Ny131 := Aside0.mk hy131
              clear hy131
              by_cases c82 : x12_1.length < 5864062014805
              · rw [if_pos c82] at H
                have LMc82 := Aside0.mk c82
                clear c82
                obtain ⟨y134, hy134⟩ : ∃ y_ : List (List Int), y_ = (x12_1 ++ [y131]) := ⟨_, rfl⟩
                replace H : ((mani_Join_c.f y134).bind fun bt137 => ((scullerlaw12_known.f).bind fun t141 => (if t141 = true then (if t119 = true then (if bt137.2 = true then (some false) else (if (bt137.1.length : Int) = 0 then ((mani_Same.f t104 t105 t108 t104 t105 t108).bind fun t142 => (some t142)) else (some false))) else (some false)) else (some false)))) = some r := by first | (rw [hy134]; with_reducible exact H) | (have H2_ := (Option.bind_some _ _).symm.trans H; rw [hy134]; with_reducible exact H2_) | (have H2_ := (Option.bind_some _ _).symm.trans H; with_reducible exact H2_) | with_reducible exact H | (rw [hy134]; exact H) | exact H
                have Ny134 := Aside0.mk hy134
                clear hy134
                replace H := Option.bind_eq_some_iff.mp H
                obtain ⟨⟨t137, t138⟩, A830, H⟩ := H
                replace H : ((scullerlaw12_known.f).bind fun t141 => (if t141 = true then (if t119 = true then (if t138 = true then (some false) else (if (t137.length : Int) = 0 then ((mani_Same.f t104 t105 t108 t104 t105 t108).bind fun t142 => (some t142)) else (some false))) else (some false)) else (some false))) = some r := H
                have A83 := Aside0.mk A830
                clear A830
                replace H := Option.bind_eq_some_iff.mp H
                obtain ⟨t141, A840, H⟩ := H
                replace H : (if t141 = true then (if t119 = true then (if t138 = true then (some false) else (if (t137.length : Int) = 0 then ((mani_Same.f t104 t105 t108 t104 t105 t108).bind fun t142 => (some t142)) else (some false))) else (some false)) else (some false)) = some r := H
                have A84 := Aside0.mk A840
                clear A840
                by_cases c85 : t141 = true
                · subst c85
                  have H1 : (if t119 = true then (if t138 = true then (some false) else (if (t137.length : Int) = 0 then ((mani_Same.f t104 t105 t108 t104 t105 t108).bind fun t142 => (some t142)) else (some false))) else (some false)) = some r := by rw [if_pos rfl] at H; exact H
                  clear H
                  have H := H1
                  clear H1
                  by_cases c86 : t119 = true
                  · subst c86
                    have H1 : (if t138 = true then (some false) else (if (t137.length : Int) = 0 then ((mani_Same.f t104 t105 t108 t104 t105 t108).bind fun t142 => (some t142)) else (some false))) = some r := by rw [if_pos rfl] at H; exact H
                    clear H
                    have H := H1
                    clear H1
                    by_cases c87 : t138 = true
                    · subst c87
                      have H1 : (some false) = some r := by rw [if_pos rfl] at H; exact H
                      clear H
                      have H := H1
                      clear H1
                      exact absurd H (by rw [hr_.out]; simp)
                    · replace c87 := Bool.eq_false_iff.mpr c87
                      subst c87
                      have H1 : (if (t137.length : Int) = 0 then ((mani_Same.f t104 t105 t108 t104 t105 t108).bind fun t142 => (some t142)) else (some false)) = some r := by rw [if_neg (show ¬ (false = true) by decide)] at H; exact H
                      clear H
                      have H := H1
                      clear H1
                      by_cases c99 : (t137.length : Int) = 0
                      · rw [if_pos c99] at H
                        have c99b0 : ((t137.length : Int) == 0) = true := beq_iff_eq.mpr c99
                        have c99b1 : ((t137.length : Int) != 0) = false := bne_eq_false_iff_eq.mpr c99
                        clear c99
                        replace H := Option.bind_eq_some_iff.mp H
                        obtain ⟨t142, A1000, H⟩ := H
                        replace H : (some t142) = some r := H
                        have A100 := Aside0.mk A1000
                        clear A1000
                        obtain rfl := Option.some.inj H
                        have hcz101_0 : wr.cell? ⟨gb110, 0, none⟩ = some (.int .u64 t104) := (blk_cell BK110.out 0).trans rfl
                        have hcz101_1 : wr.cell? ⟨gb110, 1, none⟩ = some (.slice Ao12 t105.length co12) := (blk_cell BK110.out 1).trans rfl
                        have hcz101_2 : wr.cell? ⟨gb110, 2, none⟩ = some (.int .u32 t108) := (blk_cell BK110.out 2).trans rfl
                        have hfz101_0 := blk_frozen BK110.out 0
                        have hfz101_1 := blk_frozen BK110.out 1
                        have hfz101_2 := blk_frozen BK110.out 2
                        go_wp2_with (first | ((with_reducible refine gate_callee (f := 29) rfl ?_); refine goesL_ (some 30) rfl rfl Try.func29 (by kernel_rfl) rfl #[.agg #[.int .u64 t104, .slice Ao12 t105.length co12, .int .u32 t108]] rfl (by (try simp only [List.map_toArray, List.map_cons, List.map_nil]); first | done | rfl | (simp only [List.length_drop, List.length_take]; rfl)) ?_; (with_reducible refine (mani_Pages.calls t104 _ _ t105 t108 t111 _ ?side1 ?side2 A13.out).mono ?_); (case side1 => repeat (first | exact (Kd.R_reads' HO_111001.out).2.2 | (with_reducible refine Kd.C_alloc ?_ _) | (with_reducible refine Kd.C_drewN ?_ _) | (with_reducible refine Kd.C_drew ?_))); (case side2 => exact (Kd.R_reads' HO_111001.out).2.1); rintro e w102 ⟨rfl, hb⟩; refine ⟨_, rfl, ?_⟩; have n0_ := Aside0.mk (Kd.N_below (by (with_reducible repeat (first | apply Kd.N_alloc | apply Kd.N_drewN | apply Kd.N_drew)); exact HO_12.out) hb); have n1_ := Aside0.mk (Kd.R_below (by (with_reducible repeat (first | apply Kd.R_alloc | apply Kd.R_drewN | apply Kd.R_drew)); exact HO_111001.out) hb); have n2_ := Aside0.mk (blk_below (g := gb110) (o := .cells #[.int .u64 t104, .slice Ao12 t105.length co12, .int .u32 t108] 46 (0, 0)) (by (with_reducible repeat (first | refine blk_drewN ?_ _ | refine blk_drew ?_ | refine blk_alloc ?_ _)); exact BK110.out) hb); have n3_ := Aside0.mk (below_step (by repeat (first | (with_reducible first | exact HB.out | apply below_alloc | apply pw_below_drewN | apply below_drew1 | refine below_set ?_ GE110.out) | exact HB.out)) hb); clear HO_12; clear HO_111001; clear BK110; clear HB; have HO_12 := n0_; have HO_111001 := n1_; have BK110 := n2_; have HB := n3_; clear n0_ n1_ n2_ n3_; (try clear hb); (try clear hb2); (try clear hk); (try clear hi); obtain ⟨Ao103, co103, eo103⟩ := Kd.N_slice HO_12.out; subst eo103) | ((with_reducible refine gate_callee (f := 38) rfl ?_); refine goesL_ (some 45) rfl rfl Try.func38 (by kernel_rfl) rfl #[.slice Ao103 x12_1.length co103] rfl (by (try simp only [List.map_toArray, List.map_cons, List.map_nil]); first | done | rfl | (simp only [List.length_drop, List.length_take]; rfl)) ?_; (with_reducible refine (mani_Join_c.calls _ _ x12_1 t118 true _ ?side1 ?side2 A27.out).mono ?_); (case side1 => repeat (first | exact (Kd.N_reads' HO_12.out).2.2 | (with_reducible refine Kd.C_alloc ?_ _) | (with_reducible refine Kd.C_drewN ?_ _) | (with_reducible refine Kd.C_drew ?_))); (case side2 => exact (Kd.N_reads' HO_12.out).2.1); rintro e w104 ⟨v120, rfl, ho0, hb⟩; refine ⟨_, rfl, ?_⟩; have n0_ := Aside0.mk (Kd.N_elder' (by (with_reducible repeat (first | apply Kd.N_alloc | apply Kd.N_drewN | apply Kd.N_drew)); exact HO_12.out) (Kd.R_base ho0) hb); have n1_ := Aside0.mk (Kd.R_elder' (by (with_reducible repeat (first | apply Kd.R_alloc | apply Kd.R_drewN | apply Kd.R_drew)); exact HO_111001.out) (Kd.R_base ho0) hb); have n2_ := Aside0.mk (Kd.R_lower (Kd.R_new' ho0 (Kd.R_lt (by (with_reducible repeat (first | apply Kd.R_alloc | apply Kd.R_drewN | apply Kd.R_drew)); exact HO_111001.out))) (below_size (by repeat (first | (with_reducible first | exact HB.out | apply below_alloc | apply pw_below_drewN | apply below_drew1 | refine below_set ?_ GE110.out) | exact HB.out)))); have n3_ := Aside0.mk (blk_below (g := gb110) (o := .cells #[.int .u64 t104, .slice Ao12 t105.length co12, .int .u32 t108] 46 (0, 0)) (by (with_reducible repeat (first | refine blk_drewN ?_ _ | refine blk_drew ?_ | refine blk_alloc ?_ _)); exact BK110.out) hb); have n4_ := Aside0.mk (below_step (by repeat (first | (with_reducible first | exact HB.out | apply below_alloc | apply pw_below_drewN | apply below_drew1 | refine below_set ?_ GE110.out) | exact HB.out)) hb); clear HO_12; clear HO_111001; clear BK110; clear HB; have HO_12 := n0_; have HO_111001 := n1_; have HO121 := n2_; have BK110 := n3_; have HB := n4_; clear n0_ n1_ n2_ n3_ n4_; (try clear hb); (try clear hb2); (try clear hk); (try clear hi); (try clear ho0)) | ((with_reducible refine gate_dst (N := 66) rfl ?_); (try (refine gate_guard (by rfl) ?_; dsimp only)); refine Kd.R_lit (Kd.int .i64) _ 3 ?hg (N := 66) ?hd (xs := ([1, 1, 1, 1, 1] : List Int)) (inner := [.int .i64 1, .int .i64 1, .int .i64 1, .int .i64 1, .int .i64 1]) (ok := fun _ => True) (okp := fun _ => True) ?hr ?hp (fun _ hk => hk) trivial (Below.refl _ _) (Nat.le_refl _) (by simp) ?_; (case hd => rfl); (case hg => rfl); (case hr => first | (go_simp; done) | (go_simp; rfl)); (case hp => exact (Reps.one (show Kd.M (Kd.int .i64) _ _ _ 1 [.int .i64 1] from rfl) (Reps.one (show Kd.M (Kd.int .i64) _ _ _ 1 [.int .i64 1] from rfl) (Reps.one (show Kd.M (Kd.int .i64) _ _ _ 1 [.int .i64 1] from rfl) (Reps.one (show Kd.M (Kd.int .i64) _ _ _ 1 [.int .i64 1] from rfl) (Reps.one (show Kd.M (Kd.int .i64) _ _ _ 1 [.int .i64 1] from rfl) (Reps.none _ _))))))); intro v132 w105 ho106 hb hg_ hnew_; clear hg_ hnew_; (first | rw [← Ny131.out] at ho106 | (simp only [Int.reduceToNat] at ho106; rw [← Ny131.out] at ho106)); have n0_ := Aside0.mk (Kd.N_elder' (by (with_reducible repeat (first | apply Kd.N_alloc | apply Kd.N_drewN | apply Kd.N_drew)); exact HO_12.out) (Kd.R_base ho106) hb); have n1_ := Aside0.mk (Kd.R_elder' (by (with_reducible repeat (first | apply Kd.R_alloc | apply Kd.R_drewN | apply Kd.R_drew)); exact HO_111001.out) (Kd.R_base ho106) hb); have n2_ := Aside0.mk (Kd.R_elder' (by (with_reducible repeat (first | apply Kd.R_alloc | apply Kd.R_drewN | apply Kd.R_drew)); exact HO121.out) (Kd.R_base ho106) hb); have n3_ := Aside0.mk (Kd.R_lower (Kd.R_new' (Kd.R_new' ho106 (Kd.R_lt (by (with_reducible repeat (first | apply Kd.R_alloc | apply Kd.R_drewN | apply Kd.R_drew)); exact HO_111001.out))) (Kd.R_lt (by (with_reducible repeat (first | apply Kd.R_alloc | apply Kd.R_drewN | apply Kd.R_drew)); exact HO121.out))) (below_size (by repeat (first | (with_reducible first | exact HB.out | apply below_alloc | apply pw_below_drewN | apply below_drew1 | refine below_set ?_ GE110.out) | exact HB.out)))); have n4_ := Aside0.mk (blk_below (g := gb110) (o := .cells #[.int .u64 t104, .slice Ao12 t105.length co12, .int .u32 t108] 46 (0, 0)) (by (with_reducible repeat (first | refine blk_drewN ?_ _ | refine blk_drew ?_ | refine blk_alloc ?_ _)); exact BK110.out) hb); have n5_ := Aside0.mk (below_step (by repeat (first | (with_reducible first | exact HB.out | apply below_alloc | apply pw_below_drewN | apply below_drew1 | refine below_set ?_ GE110.out) | exact HB.out)) hb); clear HO_12; clear HO_111001; clear HO121; clear BK110; clear HB; have HO_12 := n0_; have HO_111001 := n1_; have HO121 := n2_; have HO133 := n3_; have BK110 := n4_; have HB := n5_; clear n0_ n1_ n2_ n3_ n4_ n5_; clear hb ho106; obtain ⟨Ao108, co108, eo108⟩ := Kd.R_slice HO133.out; subst eo108) | ((with_reducible refine gate_builtin (b := .append) (xs := #[.tmp 65, .tmp 67]) rfl ?_); (try (refine gate_guard (by rfl) ?_; dsimp only)); at_builtin; refine Kd.N_append (Kd.slice 3 (Kd.int .i64)) (w0 := w) w.heap.size rfl (.tmp 65) (.tmp 67) 61 22 (.slice none 0 0) 24 rfl Try.underlying61 info22 rfl (by decide) (by omega) (.slice Ao103 x12_1.length co103) x12_1 y131 [.slice Ao108 y131.length co108] (fun k_ => some k_ ≠ (.slice Ao12 t105.length co12 : Value).ownBlock ∧ some k_ ≠ (v120 : Value).ownBlock ∧ k_ ≠ gb110) (fun k_ => ((fun k_ => some k_ ≠ (.slice Ao12 t105.length co12 : Value).ownBlock ∧ some k_ ≠ (v120 : Value).ownBlock ∧ k_ ≠ gb110)) k_ ∧ some k_ ≠ (.slice Ao103 x12_1.length co103 : Value).ownBlock) rfl rfl ?aP (fun _ hk => hk) ?aF ?aO ?aB ?aS ?aL ?_; (case aP => exact (Kd.FK_slice_mk (Kd.R_reads' (Kd.R_mono (ok' := (fun k_ => ((fun k_ => some k_ ≠ (.slice Ao12 t105.length co12 : Value).ownBlock ∧ some k_ ≠ (v120 : Value).ownBlock ∧ k_ ≠ gb110)) k_ ∧ some k_ ≠ (.slice Ao103 x12_1.length co103 : Value).ownBlock)) (Kd.R_types (Kd.R_apart' (HO133.out) (Kd.N_typed HO_12.out) (by decide)) BK110.out (by decide)) (fun k_ hk => ⟨⟨hk.1.1.1.2, ⟨hk.1.1.2, hk.2⟩⟩, hk.1.2⟩))).2.1 (Kd.R_F (Kd.R_mono (ok' := (fun k_ => ((fun k_ => some k_ ≠ (.slice Ao12 t105.length co12 : Value).ownBlock ∧ some k_ ≠ (v120 : Value).ownBlock ∧ k_ ≠ gb110)) k_ ∧ some k_ ≠ (.slice Ao103 x12_1.length co103 : Value).ownBlock)) (Kd.R_types (Kd.R_apart' (HO133.out) (Kd.N_typed HO_12.out) (by decide)) BK110.out (by decide)) (fun k_ hk => ⟨⟨hk.1.1.1.2, ⟨hk.1.1.2, hk.2⟩⟩, hk.1.2⟩))))); (case aB => exact (by repeat (first | (with_reducible first | exact HB.out | apply below_alloc | apply pw_below_drewN | apply below_drew1 | refine below_set ?_ GE110.out) | exact HB.out))); (case aF => exact (fun k_ hk => ⟨Kd.fresh' (Kd.R_lt (by (with_reducible repeat (first | apply Kd.R_alloc | apply Kd.R_drewN | apply Kd.R_drew)); exact HO_111001.out)) k_ hk, Kd.fresh' (Kd.R_lt (by (with_reducible repeat (first | apply Kd.R_alloc | apply Kd.R_drewN | apply Kd.R_drew)); exact HO121.out)) k_ hk, Kd.freshB (g := gb110) (o := .cells #[.int .u64 t104, .slice Ao12 t105.length co12, .int .u32 t108] 46 (0, 0)) (by (with_reducible repeat (first | refine blk_drewN ?_ _ | refine blk_drew ?_ | refine blk_alloc ?_ _)); exact BK110.out) k_ hk⟩)); (case aO => exact (by (with_reducible repeat (first | apply Kd.N_alloc | apply Kd.N_drewN | apply Kd.N_drew)); exact Kd.N_mono HO_12.out (fun _ hk => ⟨hk.1.1.1, ⟨hk.1.2, hk.1.1.2⟩⟩))); (case aS => exact (below_size (by repeat (first | (with_reducible first | exact HB.out | apply below_alloc | apply pw_below_drewN | apply below_drew1 | refine below_set ?_ GE110.out) | exact HB.out)))); (case aL => have := LMc82.out; omega); intro v135 w107 ho hb hg hat; rw [← Ny134.out] at ho; have n0_ := Aside0.mk (Kd.R_over' (by (with_reducible repeat (first | apply Kd.R_alloc | apply Kd.R_drewN | apply Kd.R_drew)); exact HO_111001.out) (Kd.N_typed (by (with_reducible repeat (first | apply Kd.N_alloc | apply Kd.N_drewN | apply Kd.N_drew)); exact HO_12.out)) (by decide) hg); have n1_ := Aside0.mk (blk_grown (g := gb110) (o := .cells #[.int .u64 t104, .slice Ao12 t105.length co12, .int .u32 t108] 46 (0, 0)) (by (with_reducible repeat (first | refine blk_drewN ?_ _ | refine blk_drew ?_ | refine blk_alloc ?_ _)); exact BK110.out) hg (Kd.N_ne HO_12.out BK110.out (by decide))); have n2_ := Aside0.mk (Kd.R_over' (by (with_reducible repeat (first | apply Kd.R_alloc | apply Kd.R_drewN | apply Kd.R_drew)); exact HO121.out) (Kd.N_typed (by (with_reducible repeat (first | apply Kd.N_alloc | apply Kd.N_drewN | apply Kd.N_drew)); exact HO_12.out)) (by decide) hg); have n3_ := Aside0.mk (hb); have n4_ := Aside0.mk (ho); clear HO_111001; clear BK110; clear HO121; clear HB; clear HO_12; clear HO133; have HO_111001 := n0_; have BK110 := n1_; have HO121 := n2_; have HB := n3_; have HO136 := n4_; clear n0_ n1_ n2_ n3_ n4_; clear ho hb hg hat; obtain ⟨Ao109, co109, eo109⟩ := Kd.N_slice HO136.out; subst eo109) | ((with_reducible refine gate_callee (f := 38) rfl ?_); refine goesL_ (some 71) rfl rfl Try.func38 (by kernel_rfl) rfl #[.slice Ao109 y134.length co109] rfl (by (try simp only [List.map_toArray, List.map_cons, List.map_nil]); first | done | rfl | (simp only [List.length_drop, List.length_take]; rfl)) ?_; (with_reducible refine (mani_Join_c.calls _ _ y134 t137 false _ ?side1 ?side2 A83.out).mono ?_); (case side1 => repeat (first | exact (Kd.N_reads' HO136.out).2.2 | (with_reducible refine Kd.C_alloc ?_ _) | (with_reducible refine Kd.C_drewN ?_ _) | (with_reducible refine Kd.C_drew ?_))); (case side2 => exact (Kd.N_reads' HO136.out).2.1); rintro e w110 ⟨v139, rfl, ho0, hb⟩; refine ⟨_, rfl, ?_⟩; have n0_ := Aside0.mk (Kd.R_elder' (by (with_reducible repeat (first | apply Kd.R_alloc | apply Kd.R_drewN | apply Kd.R_drew)); exact HO_111001.out) (Kd.R_base ho0) hb); have n1_ := Aside0.mk (Kd.R_elder' (by (with_reducible repeat (first | apply Kd.R_alloc | apply Kd.R_drewN | apply Kd.R_drew)); exact HO121.out) (Kd.R_base ho0) hb); have n2_ := Aside0.mk (Kd.N_elder' (by (with_reducible repeat (first | apply Kd.N_alloc | apply Kd.N_drewN | apply Kd.N_drew)); exact HO136.out) (Kd.R_base ho0) hb); have n3_ := Aside0.mk (Kd.R_lower (Kd.R_new' (Kd.R_new' ho0 (Kd.R_lt (by (with_reducible repeat (first | apply Kd.R_alloc | apply Kd.R_drewN | apply Kd.R_drew)); exact HO_111001.out))) (Kd.R_lt (by (with_reducible repeat (first | apply Kd.R_alloc | apply Kd.R_drewN | apply Kd.R_drew)); exact HO121.out))) (below_size (by repeat (first | (with_reducible first | exact HB.out | apply below_alloc | apply pw_below_drewN | apply below_drew1 | refine below_set ?_ GE110.out) | exact HB.out)))); have n4_ := Aside0.mk (blk_below (g := gb110) (o := .cells #[.int .u64 t104, .slice Ao12 t105.length co12, .int .u32 t108] 46 (0, 0)) (by (with_reducible repeat (first | refine blk_drewN ?_ _ | refine blk_drew ?_ | refine blk_alloc ?_ _)); exact BK110.out) hb); have n5_ := Aside0.mk (below_step (by repeat (first | (with_reducible first | exact HB.out | apply below_alloc | apply pw_below_drewN | apply below_drew1 | refine below_set ?_ GE110.out) | exact HB.out)) hb); clear HO_111001; clear HO121; clear HO136; clear BK110; clear HB; have HO_111001 := n0_; have HO121 := n1_; have HO136 := n2_; have HO140 := n3_; have BK110 := n4_; have HB := n5_; clear n0_ n1_ n2_ n3_ n4_ n5_; (try clear hb); (try clear hb2); (try clear hk); (try clear hi); (try clear ho0)) | ((with_reducible refine gate_callee (f := 25) rfl ?_); refine goesL_ (some 74) rfl rfl Try.func25 (by kernel_rfl) rfl #[] rfl (by (try simp only [List.map_toArray, List.map_cons, List.map_nil]); first | done | rfl | (simp only [List.length_drop, List.length_take]; rfl)) ?_; (with_reducible refine (scullerlaw12_known.calls  true _ A84.out).mono ?_); rintro e w111 ⟨rfl, hb⟩; refine ⟨_, rfl, ?_⟩; have n0_ := Aside0.mk (Kd.R_below (by (with_reducible repeat (first | apply Kd.R_alloc | apply Kd.R_drewN | apply Kd.R_drew)); exact HO_111001.out) hb); have n1_ := Aside0.mk (Kd.R_below (by (with_reducible repeat (first | apply Kd.R_alloc | apply Kd.R_drewN | apply Kd.R_drew)); exact HO121.out) hb); have n2_ := Aside0.mk (Kd.N_below (by (with_reducible repeat (first | apply Kd.N_alloc | apply Kd.N_drewN | apply Kd.N_drew)); exact HO136.out) hb); have n3_ := Aside0.mk (Kd.R_below (by (with_reducible repeat (first | apply Kd.R_alloc | apply Kd.R_drewN | apply Kd.R_drew)); exact HO140.out) hb); have n4_ := Aside0.mk (blk_below (g := gb110) (o := .cells #[.int .u64 t104, .slice Ao12 t105.length co12, .int .u32 t108] 46 (0, 0)) (by (with_reducible repeat (first | refine blk_drewN ?_ _ | refine blk_drew ?_ | refine blk_alloc ?_ _)); exact BK110.out) hb); have n5_ := Aside0.mk (below_step (by repeat (first | (with_reducible first | exact HB.out | apply below_alloc | apply pw_below_drewN | apply below_drew1 | refine below_set ?_ GE110.out) | exact HB.out)) hb); clear HO_111001; clear HO121; clear HO136; clear HO140; clear BK110; clear HB; have HO_111001 := n0_; have HO121 := n1_; have HO136 := n2_; have HO140 := n3_; have BK110 := n4_; have HB := n5_; clear n0_ n1_ n2_ n3_ n4_ n5_; (try clear hb); (try clear hb2); (try clear hk); (try clear hi); obtain ⟨Ao112, co112, eo112⟩ := Kd.R_slice HO140.out; subst eo112; have hcz113_0 : w111.cell? ⟨gb110, 0, none⟩ = some (.int .u64 t104) := (blk_cell BK110.out 0).trans rfl; have hcz113_1 : w111.cell? ⟨gb110, 1, none⟩ = some (.slice Ao12 t105.length co12) := (blk_cell BK110.out 1).trans rfl; have hcz113_2 : w111.cell? ⟨gb110, 2, none⟩ = some (.int .u32 t108) := (blk_cell BK110.out 2).trans rfl; have hfz113_0 := blk_frozen BK110.out 0; have hfz113_1 := blk_frozen BK110.out 1; have hfz113_2 := blk_frozen BK110.out 2) | (go_at_call 26; (with_reducible refine (mani_Same.calls t104 _ _ t105 t108 t104 _ _ t105 t108 t142 _ ?side1 ?side2 ?side3 ?side4 A100.out).mono ?_); (case side1 => repeat (first | exact (Kd.R_reads' HO_111001.out).2.2 | (with_reducible refine Kd.C_alloc ?_ _) | (with_reducible refine Kd.C_drewN ?_ _) | (with_reducible refine Kd.C_drew ?_))); (case side2 => exact (Kd.R_reads' HO_111001.out).2.1); (case side3 => repeat (first | exact (Kd.R_reads' HO_111001.out).2.2 | (with_reducible refine Kd.C_alloc ?_ _) | (with_reducible refine Kd.C_drewN ?_ _) | (with_reducible refine Kd.C_drew ?_))); (case side4 => exact (Kd.R_reads' HO_111001.out).2.1); rintro e w114 ⟨rfl, hb⟩; have n0_ := Aside0.mk (Kd.R_below (by (with_reducible repeat (first | apply Kd.R_alloc | apply Kd.R_drewN | apply Kd.R_drew)); exact HO_111001.out) hb); have n1_ := Aside0.mk (Kd.R_below (by (with_reducible repeat (first | apply Kd.R_alloc | apply Kd.R_drewN | apply Kd.R_drew)); exact HO121.out) hb); have n2_ := Aside0.mk (Kd.N_below (by (with_reducible repeat (first | apply Kd.N_alloc | apply Kd.N_drewN | apply Kd.N_drew)); exact HO136.out) hb); have n3_ := Aside0.mk (Kd.R_below (by (with_reducible repeat (first | apply Kd.R_alloc | apply Kd.R_drewN | apply Kd.R_drew)); exact HO140.out) hb); have n4_ := Aside0.mk (blk_below (g := gb110) (o := .cells #[.int .u64 t104, .slice Ao12 t105.length co12, .int .u32 t108] 46 (0, 0)) (by (with_reducible repeat (first | refine blk_drewN ?_ _ | refine blk_drew ?_ | refine blk_alloc ?_ _)); exact BK110.out) hb); have n5_ := Aside0.mk (below_step (by repeat (first | (with_reducible first | exact HB.out | apply below_alloc | apply pw_below_drewN | apply below_drew1 | refine below_set ?_ GE110.out) | exact HB.out)) hb); clear HO_111001; clear HO121; clear HO136; clear HO140; clear BK110; clear HB; have HO_111001 := n0_; have HO121 := n1_; have HO136 := n2_; have HO140 := n3_; have BK110 := n4_; have HB := n5_; clear n0_ n1_ n2_ n3_ n4_ n5_; (try clear hb); (try clear hb2); (try clear hk); (try clear hi)))
                        go_ret
                        exact ⟨by first | rfl | (simp [errW_none, errW_some] <;> rfl) | (simp [*, errW_none, errW_some] <;> rfl), by repeat (first | (with_reducible first | exact HB.out | apply below_alloc | apply pw_below_drewN | apply below_drew1 | refine below_set ?_ GE110.out) | exact HB.out)⟩
                      · rw [if_neg c99] at H
                        have c99b0 : ((t137.length : Int) == 0) = false := beq_eq_false_iff_ne.mpr c99
                        have c99b1 : ((t137.length : Int) != 0) = true := bne_iff_ne.mpr c99
                        have c99b2 : ¬ (t137 = []) := fun h_ => c99 (by rw [h_]; rfl)
                        exact absurd H (by rw [hr_.out]; simp)
                  · replace c86 := Bool.eq_false_iff.mpr c86
                    subst c86
                    have H1 : (some false) = some r := by rw [if_neg (show ¬ (false = true) by decide)] at H; exact H
                    clear H
                    have H := H1
                    clear H1
                    exact absurd H (by rw [hr_.out]; simp)
                · replace c85 := Bool.eq_false_iff.mpr c85
                  subst c85
                  have H1 : (some false) = some r := by rw [if_neg (show ¬ (false = true) by decide)] at H; exact H
                  clear H
                  have H := H1
                  clear H1
                  exact absurd H (by rw [hr_.out]; simp)
              · rw [if_neg c82] at H
                exact absurd H (by simp)
            · rw [if_neg c81] at H
              have c81b0 : ((Int.tmod a3 3) == 1) = false := beq_eq_false_iff_ne.mpr c81
              have c81b1 : ((Int.tmod a3 3) != 1) = true := bne_iff_ne.mpr c81
              obtain ⟨y143, hy143⟩ : ∃ y_ : List Int, y_ = (([1] : List Int)) := ⟨_, rfl⟩
              replace H : (if ([] : List (List Int)).length < 5864062014805 then ((some (([] : List (List Int)) ++ [y143] : List (List Int))).bind fun y146 => (if y146.length + x12_1.length < 5864062014805 then ((mani_Join_c.f (y146 ++ x12_1)).bind fun bt152 => ((scullerlaw12_known.f).bind fun t156 => (if t156 = true then (if t119 = true then (if bt152.2 = true then (some false) else (if (bt152.1.length : Int) = 0 then ((mani_Same.f t104 t105 t108 t104 t105 t108).bind fun t157 => (some t157)) else (some false))) else (some false)) else (some false)))) else (none))) else (none)) = some r := by first | (rw [hy143]; with_reducible exact H) | (have H2_ := (Option.bind_some _ _).symm.trans H; rw [hy143]; with_reducible exact H2_) | (have H2_ := (Option.bind_some _ _).symm.trans H; with_reducible exact H2_) | with_reducible exact H | (rw [hy143]; exact H) | exact H
              have Ny143 := Aside0.mk hy143
              clear hy143
              by_cases c149 : ([] : List (List Int)).length < 5864062014805
              · rw [if_pos c149] at H
                have LMc149 := Aside0.mk c149
                clear c149
                obtain ⟨y146, hy146⟩ : ∃ y_ : List (List Int), y_ = (([] : List (List Int)) ++ [y143]) := ⟨_, rfl⟩
                replace H : (if y146.length + x12_1.length < 5864062014805 then ((mani_Join_c.f (y146 ++ x12_1)).bind fun bt152 => ((scullerlaw12_known.f).bind fun t156 => (if t156 = true then (if t119 = true then (if bt152.2 = true then (some false) else (if (bt152.1.length : Int) = 0 then ((mani_Same.f t104 t105 t108 t104 t105 t108).bind fun t157 => (some t157)) else (some false))) else (some false)) else (some false)))) else (none)) = some r := by first | (rw [hy146]; with_reducible exact H) | (have H2_ := (Option.bind_some _ _).symm.trans H; rw [hy146]; with_reducible exact H2_) | (have H2_ := (Option.bind_some _ _).symm.trans H; with_reducible exact H2_) | with_reducible exact H | (rw [hy146]; exact H) | exact H
                have Ny146 := Aside0.mk hy146
                clear hy146
                by_cases c150 : y146.length + x12_1.length < 5864062014805
                · rw [if_pos c150] at H
                  have LMc150 := Aside0.mk c150
                  clear c150
                  obtain ⟨y149, hy149⟩ : ∃ y_ : List (List Int), y_ = (y146 ++ x12_1) := ⟨_, rfl⟩
                  replace H : ((mani_Join_c.f y149).bind fun bt152 => ((scullerlaw12_known.f).bind fun t156 => (if t156 = true then (if t119 = true then (if bt152.2 = true then (some false) else (if (bt152.1.length : Int) = 0 then ((mani_Same.f t104 t105 t108 t104 t105 t108).bind fun t157 => (some t157)) else (some false))) else (some false)) else (some false)))) = some r := by first | (rw [hy149]; with_reducible exact H) | (have H2_ := (Option.bind_some _ _).symm.trans H; rw [hy149]; with_reducible exact H2_) | (have H2_ := (Option.bind_some _ _).symm.trans H; with_reducible exact H2_) | with_reducible exact H | (rw [hy149]; exact H) | exact H
                  have Ny149 := Aside0.mk hy149
                  clear hy149
                  replace H := Option.bind_eq_some_iff.mp H
                  obtain ⟨⟨t152, t153⟩, A1510, H⟩ := H
                  replace H : ((scullerlaw12_known.f).bind fun t156 => (if t156 = true then (if t119 = true then (if t153 = true then (some false) else (if (t152.length : Int) = 0 then ((mani_Same.f t104 t105 t108 t104 t105 t108).bind fun t157 => (some t157)) else (some false))) else (some false)) else (some false))) = some r := H
                  have A151 := Aside0.mk A1510
                  clear A1510
                  replace H := Option.bind_eq_some_iff.mp H
                  obtain ⟨t156, A1520, H⟩ := H
                  replace H : (if t156 = true then (if t119 = true then (if t153 = true then (some false) else (if (t152.length : Int) = 0 then ((mani_Same.f t104 t105 t108 t104 t105 t108).bind fun t157 => (some t157)) else (some false))) else (some false)) else (some false)) = some r := H
                  have A152 := Aside0.mk A1520
                  clear A1520
                  by_cases c153 : t156 = true
                  · subst c153
                    have H1 : (if t119 = true then (if t153 = true then (some false) else (if (t152.length : Int) = 0 then ((mani_Same.f t104 t105 t108 t104 t105 t108).bind fun t157 => (some t157)) else (some false))) else (some false)) = some r := by rw [if_pos rfl] at H; exact H
                    clear H
                    have H := H1
                    clear H1
                    by_cases c154 : t119 = true
                    · subst c154
                      have H1 : (if t153 = true then (some false) else (if (t152.length : Int) = 0 then ((mani_Same.f t104 t105 t108 t104 t105 t108).bind fun t157 => (some t157)) else (some false))) = some r := by rw [if_pos rfl] at H; exact H
                      clear H
                      have H := H1
                      clear H1
                      by_cases c155 : t153 = true
                      · subst c155
                        have H1 : (some false) = some r := by rw [if_pos rfl] at H; exact H
                        clear H
                        have H := H1
                        clear H1
                        exact absurd H (by rw [hr_.out]; simp)
                      · replace c155 := Bool.eq_false_iff.mpr c155
                        subst c155
                        have H1 : (if (t152.length : Int) = 0 then ((mani_Same.f t104 t105 t108 t104 t105 t108).bind fun t157 => (some t157)) else (some false)) = some r := by rw [if_neg (show ¬ (false = true) by decide)] at H; exact H
                        clear H
                        have H := H1
                        clear H1
                        by_cases c168 : (t152.length : Int) = 0
                        · rw [if_pos c168] at H
                          have c168b0 : ((t152.length : Int) == 0) = true := beq_iff_eq.mpr c168
                          have c168b1 : ((t152.length : Int) != 0) = false := bne_eq_false_iff_eq.mpr c168
                          clear c168
                          replace H := Option.bind_eq_some_iff.mp H
                          obtain ⟨t157, A1690, H⟩ := H
                          replace H : (some t157) = some r := H
                          have A169 := Aside0.mk A1690
                          clear A1690
                          obtain rfl := Option.some.inj H
                          have hcz170_0 : wr.cell? ⟨gb110, 0, none⟩ = some (.int .u64 t104) := (blk_cell BK110.out 0).trans rfl
                          have hcz170_1 : wr.cell? ⟨gb110, 1, none⟩ = some (.slice Ao12 t105.length co12) := (blk_cell BK110.out 1).trans rfl
                          have hcz170_2 : wr.cell? ⟨gb110, 2, none⟩ = some (.int .u32 t108) := (blk_cell BK110.out 2).trans rfl
                          have hfz170_0 := blk_frozen BK110.out 0
                          have hfz170_1 := blk_frozen BK110.out 1
                          have hfz170_2 := blk_frozen BK110.out 2
                          go_wp2_with (first | ((with_reducible refine gate_callee (f := 29) rfl ?_); refine goesL_ (some 30) rfl rfl Try.func29 (by kernel_rfl) rfl #[.agg #[.int .u64 t104, .slice Ao12 t105.length co12, .int .u32 t108]] rfl (by (try simp only [List.map_toArray, List.map_cons, List.map_nil]); first | done | rfl | (simp only [List.length_drop, List.length_take]; rfl)) ?_; (with_reducible refine (mani_Pages.calls t104 _ _ t105 t108 t111 _ ?side1 ?side2 A13.out).mono ?_); (case side1 => repeat (first | exact (Kd.R_reads' HO_111001.out).2.2 | (with_reducible refine Kd.C_alloc ?_ _) | (with_reducible refine Kd.C_drewN ?_ _) | (with_reducible refine Kd.C_drew ?_))); (case side2 => exact (Kd.R_reads' HO_111001.out).2.1); rintro e w171 ⟨rfl, hb⟩; refine ⟨_, rfl, ?_⟩; have n0_ := Aside0.mk (Kd.N_below (by (with_reducible repeat (first | apply Kd.N_alloc | apply Kd.N_drewN | apply Kd.N_drew)); exact HO_12.out) hb); have n1_ := Aside0.mk (Kd.R_below (by (with_reducible repeat (first | apply Kd.R_alloc | apply Kd.R_drewN | apply Kd.R_drew)); exact HO_111001.out) hb); have n2_ := Aside0.mk (blk_below (g := gb110) (o := .cells #[.int .u64 t104, .slice Ao12 t105.length co12, .int .u32 t108] 46 (0, 0)) (by (with_reducible repeat (first | refine blk_drewN ?_ _ | refine blk_drew ?_ | refine blk_alloc ?_ _)); exact BK110.out) hb); have n3_ := Aside0.mk (below_step (by repeat (first | (with_reducible first | exact HB.out | apply below_alloc | apply pw_below_drewN | apply below_drew1 | refine below_set ?_ GE110.out) | exact HB.out)) hb); clear HO_12; clear HO_111001; clear BK110; clear HB; have HO_12 := n0_; have HO_111001 := n1_; have BK110 := n2_; have HB := n3_; clear n0_ n1_ n2_ n3_; (try clear hb); (try clear hb2); (try clear hk); (try clear hi); obtain ⟨Ao172, co172, eo172⟩ := Kd.N_slice HO_12.out; subst eo172) | ((with_reducible refine gate_callee (f := 38) rfl ?_); refine goesL_ (some 45) rfl rfl Try.func38 (by kernel_rfl) rfl #[.slice Ao172 x12_1.length co172] rfl (by (try simp only [List.map_toArray, List.map_cons, List.map_nil]); first | done | rfl | (simp only [List.length_drop, List.length_take]; rfl)) ?_; (with_reducible refine (mani_Join_c.calls _ _ x12_1 t118 true _ ?side1 ?side2 A27.out).mono ?_); (case side1 => repeat (first | exact (Kd.N_reads' HO_12.out).2.2 | (with_reducible refine Kd.C_alloc ?_ _) | (with_reducible refine Kd.C_drewN ?_ _) | (with_reducible refine Kd.C_drew ?_))); (case side2 => exact (Kd.N_reads' HO_12.out).2.1); rintro e w173 ⟨v120, rfl, ho0, hb⟩; refine ⟨_, rfl, ?_⟩; have n0_ := Aside0.mk (Kd.N_elder' (by (with_reducible repeat (first | apply Kd.N_alloc | apply Kd.N_drewN | apply Kd.N_drew)); exact HO_12.out) (Kd.R_base ho0) hb); have n1_ := Aside0.mk (Kd.R_elder' (by (with_reducible repeat (first | apply Kd.R_alloc | apply Kd.R_drewN | apply Kd.R_drew)); exact HO_111001.out) (Kd.R_base ho0) hb); have n2_ := Aside0.mk (Kd.R_lower (Kd.R_new' ho0 (Kd.R_lt (by (with_reducible repeat (first | apply Kd.R_alloc | apply Kd.R_drewN | apply Kd.R_drew)); exact HO_111001.out))) (below_size (by repeat (first | (with_reducible first | exact HB.out | apply below_alloc | apply pw_below_drewN | apply below_drew1 | refine below_set ?_ GE110.out) | exact HB.out)))); have n3_ := Aside0.mk (blk_below (g := gb110) (o := .cells #[.int .u64 t104, .slice Ao12 t105.length co12, .int .u32 t108] 46 (0, 0)) (by (with_reducible repeat (first | refine blk_drewN ?_ _ | refine blk_drew ?_ | refine blk_alloc ?_ _)); exact BK110.out) hb); have n4_ := Aside0.mk (below_step (by repeat (first | (with_reducible first | exact HB.out | apply below_alloc | apply pw_below_drewN | apply below_drew1 | refine below_set ?_ GE110.out) | exact HB.out)) hb); clear HO_12; clear HO_111001; clear BK110; clear HB; have HO_12 := n0_; have HO_111001 := n1_; have HO121 := n2_; have BK110 := n3_; have HB := n4_; clear n0_ n1_ n2_ n3_ n4_; (try clear hb); (try clear hb2); (try clear hk); (try clear hi); (try clear ho0)) | ((with_reducible refine gate_dst (N := 51) rfl ?_); (try (refine gate_guard (by rfl) ?_; dsimp only)); refine Kd.R_lit (Kd.int .i64) _ 3 ?hg (N := 51) ?hd (xs := ([1] : List Int)) (inner := [.int .i64 1]) (ok := fun _ => True) (okp := fun _ => True) ?hr ?hp (fun _ hk => hk) trivial (Below.refl _ _) (Nat.le_refl _) (by simp) ?_; (case hd => rfl); (case hg => rfl); (case hr => first | (go_simp; done) | (go_simp; rfl)); (case hp => exact (Reps.one (show Kd.M (Kd.int .i64) _ _ _ 1 [.int .i64 1] from rfl) (Reps.none _ _))); intro v144 w174 ho175 hb hg_ hnew_; clear hg_ hnew_; (first | rw [← Ny143.out] at ho175 | (simp only [Int.reduceToNat] at ho175; rw [← Ny143.out] at ho175)); have n0_ := Aside0.mk (Kd.N_elder' (by (with_reducible repeat (first | apply Kd.N_alloc | apply Kd.N_drewN | apply Kd.N_drew)); exact HO_12.out) (Kd.R_base ho175) hb); have n1_ := Aside0.mk (Kd.R_elder' (by (with_reducible repeat (first | apply Kd.R_alloc | apply Kd.R_drewN | apply Kd.R_drew)); exact HO_111001.out) (Kd.R_base ho175) hb); have n2_ := Aside0.mk (Kd.R_elder' (by (with_reducible repeat (first | apply Kd.R_alloc | apply Kd.R_drewN | apply Kd.R_drew)); exact HO121.out) (Kd.R_base ho175) hb); have n3_ := Aside0.mk (Kd.R_lower (Kd.R_new' (Kd.R_new' ho175 (Kd.R_lt (by (with_reducible repeat (first | apply Kd.R_alloc | apply Kd.R_drewN | apply Kd.R_drew)); exact HO_111001.out))) (Kd.R_lt (by (with_reducible repeat (first | apply Kd.R_alloc | apply Kd.R_drewN | apply Kd.R_drew)); exact HO121.out))) (below_size (by repeat (first | (with_reducible first | exact HB.out | apply below_alloc | apply pw_below_drewN | apply below_drew1 | refine below_set ?_ GE110.out) | exact HB.out)))); have n4_ := Aside0.mk (blk_below (g := gb110) (o := .cells #[.int .u64 t104, .slice Ao12 t105.length co12, .int .u32 t108] 46 (0, 0)) (by (with_reducible repeat (first | refine blk_drewN ?_ _ | refine blk_drew ?_ | refine blk_alloc ?_ _)); exact BK110.out) hb); have n5_ := Aside0.mk (below_step (by repeat (first | (with_reducible first | exact HB.out | apply below_alloc | apply pw_below_drewN | apply below_drew1 | refine below_set ?_ GE110.out) | exact HB.out)) hb); clear HO_12; clear HO_111001; clear HO121; clear BK110; clear HB; have HO_12 := n0_; have HO_111001 := n1_; have HO121 := n2_; have HO145 := n3_; have BK110 := n4_; have HB := n5_; clear n0_ n1_ n2_ n3_ n4_ n5_; clear hb ho175; obtain ⟨Ao177, co177, eo177⟩ := Kd.R_slice HO145.out; subst eo177) | ((with_reducible refine gate_builtin (b := .append) (xs := #[.tmp 50, .tmp 52]) rfl ?_); (try (refine gate_guard (by rfl) ?_; dsimp only)); at_builtin; refine Kd.N_append (Kd.slice 3 (Kd.int .i64)) (w0 := w) w.heap.size rfl (.tmp 50) (.tmp 52) 61 22 (.slice none 0 0) 24 rfl Try.underlying61 info22 rfl (by decide) (by omega) (.slice none 0 0) ([] : List (List Int)) y143 [.slice Ao177 y143.length co177] (fun k_ => some k_ ≠ (.slice Ao172 x12_1.length co172 : Value).ownBlock ∧ some k_ ≠ (.slice Ao12 t105.length co12 : Value).ownBlock ∧ some k_ ≠ (v120 : Value).ownBlock ∧ k_ ≠ gb110) (fun k_ => ((fun k_ => some k_ ≠ (.slice Ao172 x12_1.length co172 : Value).ownBlock ∧ some k_ ≠ (.slice Ao12 t105.length co12 : Value).ownBlock ∧ some k_ ≠ (v120 : Value).ownBlock ∧ k_ ≠ gb110)) k_ ∧ some k_ ≠ (.slice none 0 0 : Value).ownBlock) rfl rfl ?aP (fun _ hk => hk) ?aF ?aO ?aB ?aS ?aL ?_; (case aP => exact (Kd.FK_slice_mk (Kd.R_reads' (Kd.R_mono (ok' := (fun k_ => ((fun k_ => some k_ ≠ (.slice Ao172 x12_1.length co172 : Value).ownBlock ∧ some k_ ≠ (.slice Ao12 t105.length co12 : Value).ownBlock ∧ some k_ ≠ (v120 : Value).ownBlock ∧ k_ ≠ gb110)) k_ ∧ some k_ ≠ (.slice none 0 0 : Value).ownBlock)) (Kd.R_types (Kd.R_apart' (HO145.out) (Kd.N_typed HO_12.out) (by decide)) BK110.out (by decide)) (fun k_ hk => ⟨⟨hk.1.2, ⟨hk.1.1.1.2, ⟨hk.1.1.2, hk.2⟩⟩⟩, (by simp [Value.ownBlock])⟩))).2.1 (Kd.R_F (Kd.R_mono (ok' := (fun k_ => ((fun k_ => some k_ ≠ (.slice Ao172 x12_1.length co172 : Value).ownBlock ∧ some k_ ≠ (.slice Ao12 t105.length co12 : Value).ownBlock ∧ some k_ ≠ (v120 : Value).ownBlock ∧ k_ ≠ gb110)) k_ ∧ some k_ ≠ (.slice none 0 0 : Value).ownBlock)) (Kd.R_types (Kd.R_apart' (HO145.out) (Kd.N_typed HO_12.out) (by decide)) BK110.out (by decide)) (fun k_ hk => ⟨⟨hk.1.2, ⟨hk.1.1.1.2, ⟨hk.1.1.2, hk.2⟩⟩⟩, (by simp [Value.ownBlock])⟩))))); (case aB => exact (by repeat (first | (with_reducible first | exact HB.out | apply below_alloc | apply pw_below_drewN | apply below_drew1 | refine below_set ?_ GE110.out) | exact HB.out))); (case aF => exact (fun k_ hk => ⟨Kd.fresh' (Kd.N_lt (by (with_reducible repeat (first | apply Kd.N_alloc | apply Kd.N_drewN | apply Kd.N_drew)); exact HO_12.out)) k_ hk, Kd.fresh' (Kd.R_lt (by (with_reducible repeat (first | apply Kd.R_alloc | apply Kd.R_drewN | apply Kd.R_drew)); exact HO_111001.out)) k_ hk, Kd.fresh' (Kd.R_lt (by (with_reducible repeat (first | apply Kd.R_alloc | apply Kd.R_drewN | apply Kd.R_drew)); exact HO121.out)) k_ hk, Kd.freshB (g := gb110) (o := .cells #[.int .u64 t104, .slice Ao12 t105.length co12, .int .u32 t108] 46 (0, 0)) (by (with_reducible repeat (first | refine blk_drewN ?_ _ | refine blk_drew ?_ | refine blk_alloc ?_ _)); exact BK110.out) k_ hk⟩)); (case aO => exact ((Kd.N_nil _ _ _ _ (fun k_ => some k_ ≠ (.slice Ao172 x12_1.length co172 : Value).ownBlock ∧ some k_ ≠ (.slice Ao12 t105.length co12 : Value).ownBlock ∧ some k_ ≠ (v120 : Value).ownBlock ∧ k_ ≠ gb110)))); (case aS => exact (below_size (by repeat (first | (with_reducible first | exact HB.out | apply below_alloc | apply pw_below_drewN | apply below_drew1 | refine below_set ?_ GE110.out) | exact HB.out)))); (case aL => have := LMc149.out; omega); intro v147 w176 ho hb hg hat; rw [← Ny146.out] at ho; have n0_ := Aside0.mk (Kd.N_afterv (Kd.N_apart_nil (by (with_reducible repeat (first | apply Kd.N_alloc | apply Kd.N_drewN | apply Kd.N_drew)); exact HO_12.out)) hg hat); have n1_ := Aside0.mk (Kd.R_grown (by (with_reducible repeat (first | apply Kd.R_alloc | apply Kd.R_drewN | apply Kd.R_drew)); exact HO_111001.out) hg (fun _ _ => by simp [Value.ownBlock])); have n2_ := Aside0.mk (blk_grown (g := gb110) (o := .cells #[.int .u64 t104, .slice Ao12 t105.length co12, .int .u32 t108] 46 (0, 0)) (by (with_reducible repeat (first | refine blk_drewN ?_ _ | refine blk_drew ?_ | refine blk_alloc ?_ _)); exact BK110.out) hg (by simp [Value.ownBlock])); have n3_ := Aside0.mk (Kd.R_grown (by (with_reducible repeat (first | apply Kd.R_alloc | apply Kd.R_drewN | apply Kd.R_drew)); exact HO121.out) hg (fun _ _ => by simp [Value.ownBlock])); have n4_ := Aside0.mk (hb); have n5_ := Aside0.mk (ho); clear HO_12; clear HO_111001; clear BK110; clear HO121; clear HB; clear HO145; have HO_12 := n0_; have HO_111001 := n1_; have BK110 := n2_; have HO121 := n3_; have HB := n4_; have HO148 := n5_; clear n0_ n1_ n2_ n3_ n4_ n5_; clear ho hb hg hat) | ((with_reducible refine gate_builtin (b := .append) (xs := #[.tmp 54, .tmp 55]) rfl ?_); (try (refine gate_guard (by rfl) ?_; dsimp only)); at_builtin; refine Kd.N_append_rows (Kd.slice 3 (Kd.int .i64)) (w0 := w) w.heap.size rfl (.tmp 54) (.tmp 55) 61 22 (.slice none 0 0) 24 rfl Try.underlying61 info22 rfl (by decide) (by omega) v147 y146 x12_1 _ _ _ (fun k_ => some k_ ≠ (.slice Ao12 t105.length co12 : Value).ownBlock ∧ some k_ ≠ (v120 : Value).ownBlock ∧ k_ ≠ gb110) (fun k_ => ((fun k_ => some k_ ≠ (.slice Ao12 t105.length co12 : Value).ownBlock ∧ some k_ ≠ (v120 : Value).ownBlock ∧ k_ ≠ gb110)) k_ ∧ some k_ ≠ (v147 : Value).ownBlock) rfl rfl ?aO ?aR (fun _ hk => hk) ?aF ?aB ?aS ?aL ?_; (case aR => exact (by skip; exact Kd.N_F (Kd.N_mono (ok' := (fun k_ => ((fun k_ => some k_ ≠ (.slice Ao12 t105.length co12 : Value).ownBlock ∧ some k_ ≠ (v120 : Value).ownBlock ∧ k_ ≠ gb110)) k_ ∧ some k_ ≠ (v147 : Value).ownBlock)) (HO_12.out) (fun k_ hk => ⟨⟨hk.1.1.1.1, ⟨hk.1.1.2, hk.1.1.1.2⟩⟩, hk.2⟩)))); (case aB => exact (by repeat (first | (with_reducible first | exact HB.out | apply below_alloc | apply pw_below_drewN | apply below_drew1 | refine below_set ?_ GE110.out) | exact HB.out))); (case aF => exact (fun k_ hk => ⟨Kd.fresh' (Kd.R_lt (by (with_reducible repeat (first | apply Kd.R_alloc | apply Kd.R_drewN | apply Kd.R_drew)); exact HO_111001.out)) k_ hk, Kd.fresh' (Kd.R_lt (by (with_reducible repeat (first | apply Kd.R_alloc | apply Kd.R_drewN | apply Kd.R_drew)); exact HO121.out)) k_ hk, Kd.freshB (g := gb110) (o := .cells #[.int .u64 t104, .slice Ao12 t105.length co12, .int .u32 t108] 46 (0, 0)) (by (with_reducible repeat (first | refine blk_drewN ?_ _ | refine blk_drew ?_ | refine blk_alloc ?_ _)); exact BK110.out) k_ hk⟩)); (case aO => exact (by (with_reducible repeat (first | apply Kd.N_alloc | apply Kd.N_drewN | apply Kd.N_drew)); exact Kd.N_mono HO148.out (fun _ hk => ⟨hk.2.1, ⟨hk.2.2.1, hk.2.2.2⟩⟩))); (case aS => exact (below_size (by repeat (first | (with_reducible first | exact HB.out | apply below_alloc | apply pw_below_drewN | apply below_drew1 | refine below_set ?_ GE110.out) | exact HB.out)))); (case aL => have := LMc150.out; omega); intro v150 w178 ho hb hg hat; rw [← Ny149.out] at ho; have n0_ := Aside0.mk (Kd.N_afterv (ok := (fun k_ => some k_ ≠ (.slice Ao12 t105.length co12 : Value).ownBlock ∧ some k_ ≠ (v120 : Value).ownBlock ∧ k_ ≠ gb110)) (by (with_reducible repeat (first | apply Kd.N_alloc | apply Kd.N_drewN | apply Kd.N_drew)); exact Kd.N_mono HO_12.out (fun _ hk => ⟨⟨hk.1.1.1.1, ⟨hk.1.1.2, hk.1.1.1.2⟩⟩, hk.2⟩)) hg hat); have n1_ := Aside0.mk (Kd.R_over' (by (with_reducible repeat (first | apply Kd.R_alloc | apply Kd.R_drewN | apply Kd.R_drew)); exact HO_111001.out) (Kd.N_typed (by (with_reducible repeat (first | apply Kd.N_alloc | apply Kd.N_drewN | apply Kd.N_drew)); exact HO148.out)) (by decide) hg); have n2_ := Aside0.mk (blk_grown (g := gb110) (o := .cells #[.int .u64 t104, .slice Ao12 t105.length co12, .int .u32 t108] 46 (0, 0)) (by (with_reducible repeat (first | refine blk_drewN ?_ _ | refine blk_drew ?_ | refine blk_alloc ?_ _)); exact BK110.out) hg (Kd.N_ne HO148.out BK110.out (by decide))); have n3_ := Aside0.mk (Kd.R_over' (by (with_reducible repeat (first | apply Kd.R_alloc | apply Kd.R_drewN | apply Kd.R_drew)); exact HO121.out) (Kd.N_typed (by (with_reducible repeat (first | apply Kd.N_alloc | apply Kd.N_drewN | apply Kd.N_drew)); exact HO148.out)) (by decide) hg); have n4_ := Aside0.mk (hb); have n5_ := Aside0.mk (ho); clear HO_12; clear HO_111001; clear BK110; clear HO121; clear HB; clear HO148; have HO_12 := n0_; have HO_111001 := n1_; have BK110 := n2_; have HO121 := n3_; have HB := n4_; have HO151 := n5_; clear n0_ n1_ n2_ n3_ n4_ n5_; clear ho hb hg hat; obtain ⟨Ao179, co179, eo179⟩ := Kd.N_slice HO151.out; subst eo179) | ((with_reducible refine gate_callee (f := 38) rfl ?_); refine goesL_ (some 71) rfl rfl Try.func38 (by kernel_rfl) rfl #[.slice Ao179 y149.length co179] rfl (by (try simp only [List.map_toArray, List.map_cons, List.map_nil]); first | done | rfl | (simp only [List.length_drop, List.length_take]; rfl)) ?_; (with_reducible refine (mani_Join_c.calls _ _ y149 t152 false _ ?side1 ?side2 A151.out).mono ?_); (case side1 => repeat (first | exact (Kd.N_reads' HO151.out).2.2 | (with_reducible refine Kd.C_alloc ?_ _) | (with_reducible refine Kd.C_drewN ?_ _) | (with_reducible refine Kd.C_drew ?_))); (case side2 => exact (Kd.N_reads' HO151.out).2.1); rintro e w180 ⟨v154, rfl, ho0, hb⟩; refine ⟨_, rfl, ?_⟩; have n0_ := Aside0.mk (Kd.N_elder' (by (with_reducible repeat (first | apply Kd.N_alloc | apply Kd.N_drewN | apply Kd.N_drew)); exact HO_12.out) (Kd.R_base ho0) hb); have n1_ := Aside0.mk (Kd.R_elder' (by (with_reducible repeat (first | apply Kd.R_alloc | apply Kd.R_drewN | apply Kd.R_drew)); exact HO_111001.out) (Kd.R_base ho0) hb); have n2_ := Aside0.mk (Kd.R_elder' (by (with_reducible repeat (first | apply Kd.R_alloc | apply Kd.R_drewN | apply Kd.R_drew)); exact HO121.out) (Kd.R_base ho0) hb); have n3_ := Aside0.mk (Kd.N_elder' (by (with_reducible repeat (first | apply Kd.N_alloc | apply Kd.N_drewN | apply Kd.N_drew)); exact HO151.out) (Kd.R_base ho0) hb); have n4_ := Aside0.mk (Kd.R_lower (Kd.R_new' (Kd.R_new' ho0 (Kd.R_lt (by (with_reducible repeat (first | apply Kd.R_alloc | apply Kd.R_drewN | apply Kd.R_drew)); exact HO_111001.out))) (Kd.R_lt (by (with_reducible repeat (first | apply Kd.R_alloc | apply Kd.R_drewN | apply Kd.R_drew)); exact HO121.out))) (below_size (by repeat (first | (with_reducible first | exact HB.out | apply below_alloc | apply pw_below_drewN | apply below_drew1 | refine below_set ?_ GE110.out) | exact HB.out)))); have n5_ := Aside0.mk (blk_below (g := gb110) (o := .cells #[.int .u64 t104, .slice Ao12 t105.length co12, .int .u32 t108] 46 (0, 0)) (by (with_reducible repeat (first | refine blk_drewN ?_ _ | refine blk_drew ?_ | refine blk_alloc ?_ _)); exact BK110.out) hb); have n6_ := Aside0.mk (below_step (by repeat (first | (with_reducible first | exact HB.out | apply below_alloc | apply pw_below_drewN | apply below_drew1 | refine below_set ?_ GE110.out) | exact HB.out)) hb); clear HO_12; clear HO_111001; clear HO121; clear HO151; clear BK110; clear HB; have HO_12 := n0_; have HO_111001 := n1_; have HO121 := n2_; have HO151 := n3_; have HO155 := n4_; have BK110 := n5_; have HB := n6_; clear n0_ n1_ n2_ n3_ n4_ n5_ n6_; (try clear hb); (try clear hb2); (try clear hk); (try clear hi); (try clear ho0)) | ((with_reducible refine gate_callee (f := 25) rfl ?_); refine goesL_ (some 74) rfl rfl Try.func25 (by kernel_rfl) rfl #[] rfl (by (try simp only [List.map_toArray, List.map_cons, List.map_nil]); first | done | rfl | (simp only [List.length_drop, List.length_take]; rfl)) ?_; (with_reducible refine (scullerlaw12_known.calls  true _ A152.out).mono ?_); rintro e w181 ⟨rfl, hb⟩; refine ⟨_, rfl, ?_⟩; have n0_ := Aside0.mk (Kd.N_below (by (with_reducible repeat (first | apply Kd.N_alloc | apply Kd.N_drewN | apply Kd.N_drew)); exact HO_12.out) hb); have n1_ := Aside0.mk (Kd.R_below (by (with_reducible repeat (first | apply Kd.R_alloc | apply Kd.R_drewN | apply Kd.R_drew)); exact HO_111001.out) hb); have n2_ := Aside0.mk (Kd.R_below (by (with_reducible repeat (first | apply Kd.R_alloc | apply Kd.R_drewN | apply Kd.R_drew)); exact HO121.out) hb); have n3_ := Aside0.mk (Kd.N_below (by (with_reducible repeat (first | apply Kd.N_alloc | apply Kd.N_drewN | apply Kd.N_drew)); exact HO151.out) hb); have n4_ := Aside0.mk (Kd.R_below (by (with_reducible repeat (first | apply Kd.R_alloc | apply Kd.R_drewN | apply Kd.R_drew)); exact HO155.out) hb); have n5_ := Aside0.mk (blk_below (g := gb110) (o := .cells #[.int .u64 t104, .slice Ao12 t105.length co12, .int .u32 t108] 46 (0, 0)) (by (with_reducible repeat (first | refine blk_drewN ?_ _ | refine blk_drew ?_ | refine blk_alloc ?_ _)); exact BK110.out) hb); have n6_ := Aside0.mk (below_step (by repeat (first | (with_reducible first | exact HB.out | apply below_alloc | apply pw_below_drewN | apply below_drew1 | refine below_set ?_ GE110.out) | exact HB.out)) hb); clear HO_12; clear HO_111001; clear HO121; clear HO151; clear HO155; clear BK110; clear HB; have HO_12 := n0_; have HO_111001 := n1_; have HO121 := n2_; have HO151 := n3_; have HO155 := n4_; have BK110 := n5_; have HB := n6_; clear n0_ n1_ n2_ n3_ n4_ n5_ n6_; (try clear hb); (try clear hb2); (try clear hk); (try clear hi); obtain ⟨Ao182, co182, eo182⟩ := Kd.R_slice HO155.out; subst eo182; have hcz183_0 : w181.cell? ⟨gb110, 0, none⟩ = some (.int .u64 t104) := (blk_cell BK110.out 0).trans rfl; have hcz183_1 : w181.cell? ⟨gb110, 1, none⟩ = some (.slice Ao12 t105.length co12) := (blk_cell BK110.out 1).trans rfl; have hcz183_2 : w181.cell? ⟨gb110, 2, none⟩ = some (.int .u32 t108) := (blk_cell BK110.out 2).trans rfl; have hfz183_0 := blk_frozen BK110.out 0; have hfz183_1 := blk_frozen BK110.out 1; have hfz183_2 := blk_frozen BK110.out 2) | (go_at_call 26; (with_reducible refine (mani_Same.calls t104 _ _ t105 t108 t104 _ _ t105 t108 t157 _ ?side1 ?side2 ?side3 ?side4 A169.out).mono ?_); (case side1 => repeat (first | exact (Kd.R_reads' HO_111001.out).2.2 | (with_reducible refine Kd.C_alloc ?_ _) | (with_reducible refine Kd.C_drewN ?_ _) | (with_reducible refine Kd.C_drew ?_))); (case side2 => exact (Kd.R_reads' HO_111001.out).2.1); (case side3 => repeat (first | exact (Kd.R_reads' HO_111001.out).2.2 | (with_reducible refine Kd.C_alloc ?_ _) | (with_reducible refine Kd.C_drewN ?_ _) | (with_reducible refine Kd.C_drew ?_))); (case side4 => exact (Kd.R_reads' HO_111001.out).2.1); rintro e w184 ⟨rfl, hb⟩; have n0_ := Aside0.mk (Kd.N_below (by (with_reducible repeat (first | apply Kd.N_alloc | apply Kd.N_drewN | apply Kd.N_drew)); exact HO_12.out) hb); have n1_ := Aside0.mk (Kd.R_below (by (with_reducible repeat (first | apply Kd.R_alloc | apply Kd.R_drewN | apply Kd.R_drew)); exact HO_111001.out) hb); have n2_ := Aside0.mk (Kd.R_below (by (with_reducible repeat (first | apply Kd.R_alloc | apply Kd.R_drewN | apply Kd.R_drew)); exact HO121.out) hb); have n3_ := Aside0.mk (Kd.N_below (by (with_reducible repeat (first | apply Kd.N_alloc | apply Kd.N_drewN | apply Kd.N_drew)); exact HO151.out) hb); have n4_ := Aside0.mk (Kd.R_below (by (with_reducible repeat (first | apply Kd.R_alloc | apply Kd.R_drewN | apply Kd.R_drew)); exact HO155.out) hb); have n5_ := Aside0.mk (blk_below (g := gb110) (o := .cells #[.int .u64 t104, .slice Ao12 t105.length co12, .int .u32 t108] 46 (0, 0)) (by (with_reducible repeat (first | refine blk_drewN ?_ _ | refine blk_drew ?_ | refine blk_alloc ?_ _)); exact BK110.out) hb); have n6_ := Aside0.mk (below_step (by repeat (first | (with_reducible first | exact HB.out | apply below_alloc | apply pw_below_drewN | apply below_drew1 | refine below_set ?_ GE110.out) | exact HB.out)) hb); clear HO_12; clear HO_111001; clear HO121; clear HO151; clear HO155; clear BK110; clear HB; have HO_12 := n0_; have HO_111001 := n1_; have HO121 := n2_; have HO151 := n3_; have HO155 := n4_; have BK110 := n5_; have HB := n6_; clear n0_ n1_ n2_ n3_ n4_ n5_ n6_; (try clear hb); (try clear hb2); (try clear hk); (try clear hi)))
                          go_ret
                          exact ⟨by first | rfl | (simp [errW_none, errW_some] <;> rfl) | (simp [*, errW_none, errW_some] <;> rfl), by repeat (first | (with_reducible first | exact HB.out | apply below_alloc | apply pw_below_drewN | apply below_drew1 | refine below_set ?_ GE110.out) | exact HB.out)⟩
                        · rw [if_neg c168] at H
                          have c168b0 : ((t152.length : Int) == 0) = false := beq_eq_false_iff_ne.mpr c168
                          have c168b1 : ((t152.length : Int) != 0) = true := bne_iff_ne.mpr c168
                          have c168b2 : ¬ (t152 = []) := fun h_ => c168 (by rw [h_]; rfl)
                          exact absurd H (by rw [hr_.out]; simp)
                    · replace c154 := Bool.eq_false_iff.mpr c154
                      subst c154
                      have H1 : (some false) = some r := by rw [if_neg (show ¬ (false = true) by decide)] at H; exact H
                      clear H
                      have H := H1
                      clear H1
                      exact absurd H (by rw [hr_.out]; simp)
                  · replace c153 := Bool.eq_false_iff.mpr c153
                    subst c153
                    have H1 : (some false) = some r := by rw [if_neg (show ¬ (false = true) by decide)] at H; exact H
                    clear H
                    have H := H1
                    clear H1
                    exact absurd H (by rw [hr_.out]; simp)
                · rw [if_neg c150] at H
                  exact absurd H (by simp)
              · rw [if_neg c149] at H
                exact absurd H (by simp)

/-- THE ONE PURE STATEMENT of scullerlaw12_ManiOrder: yours. -/
def scullerlaw12_ManiOrder.Pure : Prop := ∀ (l0 : List Int) (a1 : Int) (a2 : Int) (a3 : Int), l0.length ≤ maxLen → l0.length * 1 ≤ 140737488351232 → (∀ x ∈ l0, (Lit.int .u8 x).wf = true) → (Lit.int .u8 a1).wf = true → (Lit.int .u8 a2).wf = true → (Lit.int .u8 a3).wf = true → ∃ k, scullerlaw12_ManiOrder.f k l0 a1 a2 a3 = some true
theorem scullerlaw12_ManiOrder.walk (P : scullerlaw12_ManiOrder.Pure) (a0 : Option Addr) (len0 cap0 : Nat) (z0 : List Int) (a1 : Int) (a2 : Int) (a3 : Int) (w : World) (w0 : (a0 = none ∧ len0 = 0 ∧ cap0 = 0 ∧ z0 = []) ∨ ∃ x, a0 = some x ∧ len0 ≤ cap0 ∧ cap0 ≤ maxLen ∧ z0.length = cap0 ∧ (∀ i, i < z0.length → w.cell? (x.add i) = some (.int .u8 (z0.getD i 0))) ∧ ∀ n ∈ z0, (Lit.int .u8 n).wf = true) (y0 : len0 * 1 ≤ 140737488351232) (w1 : (Lit.int .u8 a1).wf = true) (w2 : (Lit.int .u8 a2).wf = true) (w3 : (Lit.int .u8 a3).wf = true) :
    Calls Try.prog 9 #[.slice a0 len0 cap0, .int .u8 a1, .int .u8 a2, .int .u8 a3] w fun e w' => e = .returned (.bool true) ∧ Below w.heap.size w w' := by
  obtain ⟨l0, rfl, hr0, hm0, hw0, hc0⟩ := ReadsInt.ofRowC w0
  obtain ⟨k, h⟩ := P l0 a1 a2 a3 hm0 y0 hw0 w1 w2 w3
  refine (scullerlaw12_ManiOrder.calls k _ _ l0 a1 a2 a3 true w (Kd.C_of_reads (d := (0 : Int)) (h1 := fun _ => rfl) hr0) hc0 h ⟨rfl⟩).mono ?_
  rintro e w' ⟨rfl, hd⟩
  exact ⟨rfl, hd⟩

end Go.Proofs.Ythlhnodedofibaa.F
end

section
/- Numbers in the bounds of their kinds. -/
namespace Go.Proofs.Ythlhnodedofibaa.Pure
open Go.RowKit Go.Proofs.Ythlhnodedofibaa.H
theorem byte_wf {x : Int} (h : (Lit.int .u8 x).wf = true) : 0 ≤ x ∧ x ≤ 255 := by
  simp [Lit.wf, IntKind.min, IntKind.max, IntKind.signed, IntKind.bits] at h
  omega
theorem bytes_wf {l : List Int} (h : ∀ x ∈ l, (Lit.int .u8 x).wf = true) : bytesB l = true := bytesB_of fun x hx => byte_wf (h x hx)
end Go.Proofs.Ythlhnodedofibaa.Pure
end

section
/- Plain facts that several laws of the manifest layer need. -/
namespace Go.Proofs.Ythlhnodedofibaa.Pure
open Go.RowKit Go.Proofs.Ythlhnodedofibaa.F Go.Proofs.Ythlhnodedofibaa.H Go.Proofs.YthlhnodedofibaaW.PrintWords Go.Proofs.YthlhnodedofibaaW.PrintLast Go.Proofs.YthlhnodedofibaaW.PrintMore
theorem known12 : scullerlaw12_known.f = some true := by decide +kernel
theorem ceil8 (n : Int) (h0 : 0 ≤ n) (h1 : n ≤ 1000000) (m : Int) (hm : 1 ≤ m) (hm1 : m ≤ 100) : word_Ceil.f n m = some ((n + m - 1) / m) := by
  have hq0 : 0 ≤ (n + m - 1) / m := Int.ediv_nonneg (by omega) (by omega)
  have hq1 : (n + m - 1) / m ≤ n + m - 1 := Int.ediv_le_self m (by omega)
  rw [word_Ceil.f, if_neg (by omega), if_neg (by omega), if_neg (by omega), if_neg (by omega), if_neg (by omega), show wrap64 (n + m) = n + m from by unfold wrap64; omega, show wrap64 (n + m - 1) = n + m - 1 from by unfold wrap64; omega, Int.tdiv_eq_ediv_of_nonneg (by omega)]
  congr 1
  unfold wrap64
  omega
def chunksM (l : List Int) : Int := (wordsM l + 7) / 8
def pagesM (l : List Int) : Int := if fitsB l = true then ((l.length : Int) + 3) / 4 else 0
def sizeM (l : List Int) (i : Int) : Int := if 0 ≤ i ∧ i < chunksM l then min 64 (wordsM l * 8 - i * 64) else 0
theorem chunks_is (a : Int) (l : List Int) (b : Int) : mani_Chunks.f a l b = some (chunksM l) := by
  have h := wordsM_range l
  rw [mani_Chunks.f, mani_Words_c.f, Option.bind_some, ceil8 _ h.1 (by omega) 8 (by omega) (by omega), Option.bind_some, chunksM]
  congr 2
  omega
theorem pages_is (a : Int) (l : List Int) (b : Int) : mani_Pages.f a l b = some (pagesM l) := by
  rw [mani_Pages.f, mani_Right.f, arena_Fits_c.f, Option.bind_some, Option.bind_some, pagesM]
  split
  · rename_i h
    have h := fitsB_at h
    rw [ceil8 _ (by omega) (by omega) 4 (by omega) (by omega), Option.bind_some]
    congr 2
    omega
  · rfl
theorem size_is (a : Int) (l : List Int) (b : Int) (i : Int) : mani_Size.f a l b i = some (sizeM l i) := by
  have h := wordsM_range l
  rw [mani_Size.f, sizeM]
  by_cases h0 : i < 0
  · rw [if_pos h0, if_neg (by omega)]
  · rw [if_neg h0, chunks_is, Option.bind_some]
    by_cases h1 : i ≥ chunksM l
    · rw [if_pos h1, if_neg (by omega)]
    · have hc : chunksM l = (wordsM l + 7) / 8 := rfl
      rw [if_neg h1, if_pos (by omega), mani_Words_c.f, Option.bind_some, show wrap64 (wordsM l * 8) = wordsM l * 8 from by unfold wrap64; omega, show wrap64 (i * 64) = i * 64 from by unfold wrap64; omega, show wrap64 (wordsM l * 8 - i * 64) = wordsM l * 8 - i * 64 from by unfold wrap64; omega]
      congr 1
      unfold mn
      split <;> omega
theorem chunks_range (l : List Int) : 0 ≤ chunksM l ∧ chunksM l ≤ 512 := by
  have h := wordsM_range l
  unfold chunksM
  omega
theorem wordsM_pos {l : List Int} (hf : fitsB l = true) : 1 ≤ wordsM l := by
  have h := fitsB_at hf
  rw [wordsM, if_pos hf]
  match l with
  | [] => simp at h
  | x :: l =>
    have := sum_nonneg' (l := l) (fun y hy => h.2.2.2.1 y (by simp [hy]))
    have h3 := h.2.2.1
    simp at h3
    rw [List.sum_cons]; omega
end Go.Proofs.Ythlhnodedofibaa.Pure
end

section
namespace Go.Proofs.Ythlhnodedofibaa.F
open Go.RowKit Go.Proofs.YthlhnodedofibaaW.PrintWords Go.Proofs.YthlhnodedofibaaW.PrintLast Go.Proofs.YthlhnodedofibaaW.PrintMore
attribute [local go_sem] max2_int min2_int max_two min_two max_three min_three max_four min_four   -- for this text's walks alone
set_option linter.unusedVariables false
set_option linter.unusedSimpArgs false

/-! ### slices_Clone_byte_byte: given -/
def slices_Clone_byte_byte.f (l0 : List Int) : Option (List Int) := if l0.length < 140737488355328 then some l0 else none
set_option maxHeartbeats 8000000 in
set_option maxRecDepth 100000 in
theorem slices_Clone_byte_byte.calls (A0 : Option Addr) (c0 : Nat) (l0 : List Int) (r : List Int) (w : World) (hr0 : Kd.C (Kd.int .u8) w A0 l0.length l0) (hc0 : l0.length ≤ c0) (h : slices_Clone_byte_byte.f l0 = some r) :
    Calls Try.prog 81 #[.slice A0 l0.length c0] w fun e w' => ∃ v0_ : Value, e = .returned (v0_) ∧ Kd.R (Kd.int .u8) 5 w' w.heap.size (fun _ => True) v0_ r ∧ Below w.heap.size w w' := by
  unfold slices_Clone_byte_byte.f at h
  split at h
  case isFalse => cases h
  case isTrue hb =>
  obtain rfl := Option.some.inj h
  clear h
  have HR0 := Aside0.mk hr0
  have HC0 := Aside0.mk hc0
  clear hr0 hc0
  by_cases hA : A0 = none
  · subst hA
    have hn : ∀ (W : World) (n c : Nat), (Go.binOp .eql 23 (Value.slice none n c) (Value.slice none 0 0)).run Try.prog W = .ok (.bool true) W := fun W n c => Lib.run_eql_slice_nil W _ _ none n c 0 0 Try.underlying23
    have hl : l0 = [] := by
      have h := HR0.out
      have h2 : l0.length = 0 := Nat.eq_zero_of_not_pos fun h0 => by obtain ⟨ad, e, _⟩ := h.2.2 h0; cases e
      exact List.eq_nil_of_length_eq_zero h2
    subst hl
    go_enter Try.func81, Try.ntmps81
    go_wp2_with (first | (rw [hn]; fail))
    go_ret
    exact ⟨_, rfl, Kd.R_nil _ _ _ _ _, Below.refl _ _⟩
  · obtain ⟨a0, rfl⟩ := Option.ne_none_iff_exists'.mp hA
    have hn : ∀ (W : World) (n c : Nat), (Go.binOp .eql 23 (Value.slice (some a0) n c) (Value.slice none 0 0)).run Try.prog W = .ok (.bool false) W := fun W n c => Lib.run_eql_slice_nil W _ _ (some a0) n c 0 0 Try.underlying23
    go_enter Try.func81, Try.ntmps81
    go_wp2_with (first
      | ((with_reducible refine gate_dst (N := 5) rfl ?_); (try (refine gate_guard (by rfl) ?_; dsimp only)); refine Kd.R_lit (Kd.int .u8) (w0 := w) w.heap.size 5 ?hg (N := 5) ?hd (xs := ([] : List Int)) (inner := []) (ok := fun _ => True) (okp := fun _ => True) ?hr ?hp (fun _ hk => hk) trivial (Below.refl _ _) (Nat.le_refl _) (by simp) ?_; (case hd => rfl); (case hg => rfl); (case hr => first | (go_simp; done) | (go_simp; rfl)); (case hp => exact (Reps.none _ _)); intro v1 w1 ho1 hb1 hg1 hn1; have HO1 := Aside0.mk ho1; have HB1 := Aside0.mk hb1; clear ho1 hb1 hg1 hn1)
      | ((with_reducible refine gate_builtin (b := .append) (xs := #[.tmp 5, .tmp 6]) rfl ?_); at_builtin; refine Kd.R_append_rows (Kd.int .u8) (w0 := w) w.heap.size rfl (.tmp 5) (.tmp 6) 23 5 (.int .u8 0) 1 rfl Try.underlying23 info5 rfl (by decide) (by omega) v1 ([] : List Int) l0 _ _ _ (fun _ => True) (fun _ => False) rfl rfl ?aO ?aR (fun _ _ h => h) (fun _ h => h.elim) (fun _ _ => trivial) ?aB ?aS ?aL ?_; (case aO => exact HO1.out); (case aR => exact Kd.C_below HR0.out HB1.out); (case aB => exact HB1.out); (case aS => exact below_size HB1.out); (case aL => simp; omega); intro v2 w2 ho2 hb2 hg2 hat2; have HO2 := Aside0.mk ho2; have HB2 := Aside0.mk hb2; clear ho2 hb2 hg2 hat2))
    go_ret
    exact ⟨_, rfl, HO2.out, HB2.out⟩

end Go.Proofs.Ythlhnodedofibaa.F
end

section
namespace Go.Proofs.Ythlhnodedofibaa.F
open Go.RowKit Go.Proofs.YthlhnodedofibaaW.PrintWords Go.Proofs.YthlhnodedofibaaW.PrintLast Go.Proofs.YthlhnodedofibaaW.PrintMore
attribute [local go_sem] max2_int min2_int max_two min_two max_three min_three max_four min_four   -- for this text's walks alone
set_option linter.unusedVariables false
set_option linter.unusedSimpArgs false

open Go.Shelf Go.Proofs.Ythlhnodedofibaa.H
attribute [local go_sem] Oper.semAt_some
/-! ### mani_piece_byte: given -/
def mani_piece_byte.f (l0 : List Int) (a1 a2 : Int) : Option (List Int) := if l0.length ≤ 1000000 ∧ 1 ≤ a1 ∧ a1 ≤ 1000 then some (pieceL l0 a1 a2) else none
def mani_piece_byte.at_ (l : List Int) (m : Nat) (s : List Nat) : List Int := (l.drop (m * s.getLastD 0)).take m
theorem mani_piece_byte.read {W : World} {A : Option Addr} {l : List Int} (h : Kd.C (Kd.int .u8) W A l.length l) (ad : Addr) (hA : 0 < l.length → A = some ad) (m x : Nat) :
    Kd.C (Kd.int .u8) W (some (ad.add (m * x))) (chunkE m l.length x) ((l.drop (m * x)).take m) ∧ ((l.drop (m * x)).take m).length = chunkE m l.length x := by
  have hl : ((l.drop (m * x)).take m).length = chunkE m l.length x := by simp [chunkE]
  have hl2 := h.2.1
  have hle : chunkE m l.length x ≤ l.length - m * x := by unfold chunkE; omega
  refine ⟨⟨hl, by omega, fun h0 => ⟨_, rfl, fun j p hj => ?_⟩⟩, hl⟩
  obtain ⟨ad2, e2, hc⟩ := h.2.2 (by omega)
  have e3 := hA (by omega)
  rw [e2] at e3
  cases e3
  have hjl : j < chunkE m l.length x := by rw [← hl]; exact (List.getElem?_eq_some_iff.1 hj).1
  have hjm : j < m := by unfold chunkE at hjl; omega
  rw [List.getElem?_take, if_pos hjm, List.getElem?_drop] at hj
  obtain ⟨c, h1, h3, h4⟩ := hc _ p hj
  refine ⟨c, h1, h3, fun i u hu => ?_⟩
  have h5 := h4 i u hu
  have e5 : (ad.add (m * x)).add (j * (Kd.int .u8).sz + i) = ad.add ((m * x + j) * (Kd.int .u8).sz + i) := by
    rw [Addr.add_add]
    show ad.add (m * x + (j * 1 + i)) = ad.add ((m * x + j) * 1 + i)
    congr 1
    omega
  rw [e5]
  exact h5
set_option maxHeartbeats 4000000 in
set_option maxRecDepth 100000 in
theorem mani_piece_byte.calls (A0 : Option Addr) (c0 : Nat) (l0 : List Int) (a1 a2 : Int) (r : List Int) (w : World) (hr0 : Kd.C (Kd.int .u8) w A0 l0.length l0) (hc0 : l0.length ≤ c0) (h : mani_piece_byte.f l0 a1 a2 = some r) :
    Calls Try.prog 69 #[.slice A0 l0.length c0, .int .i64 a1, .int .i64 a2] w fun e w' => ∃ v0_ : Value, e = .returned (v0_) ∧ Kd.R (Kd.int .u8) 5 w' w.heap.size (fun _ => True) v0_ r ∧ Below w.heap.size w w' := by
  unfold mani_piece_byte.f at h
  split at h
  case isFalse => cases h
  case isTrue hb =>
  obtain rfl := Option.some.inj h
  clear h
  obtain ⟨ha, h1, h2⟩ := hb
  obtain ⟨m, rfl⟩ := Int.eq_ofNat_of_zero_le (show 0 ≤ a1 by omega)
  obtain ⟨ad, hA⟩ : ∃ ad : Addr, 0 < l0.length → A0 = some ad := by
    by_cases h0 : 0 < l0.length
    · obtain ⟨ad, e, _⟩ := hr0.2.2 h0
      exact ⟨ad, fun _ => e⟩
    · exact ⟨⟨0, 0, none⟩, fun h => absurd h h0⟩
  refine (callsIn_wide (n := 10)).1 ?_
  refine callsIn_of_wp_marks Try.func69 rfl trivial ?_ rfl
  simp only [Try.ntmps69, List.size_toArray, List.length_cons, List.length_nil, Nat.reduceAdd, Nat.reduceSub, Array.replicate_succ, Array.replicate_zero, List.push_toArray, List.append_toArray, List.nil_append, List.cons_append]
  gi_wp2_with (refine ⟨trivial, ?_⟩; gi_at_call 80; refine (chunkB_in _ _ _ m (by omega) _).mono ?_; rintro e w' ⟨rfl, rfl⟩)
  have b0 := Boxed.new w 3 (.int .i64 a2)
  have b1 := Boxed.new (w.alloc (.cells #[.int .i64 a2] 3)) 23 (.slice none 0 0)
  have b2 := Boxed.new ((w.alloc (.cells #[.int .i64 a2] 3)).alloc (.cells #[.slice none 0 0] 23)) 3 (.int .i64 0)
  have b3 := Boxed.new (((w.alloc (.cells #[.int .i64 a2] 3)).alloc (.cells #[.slice none 0 0] 23)).alloc (.cells #[.int .i64 0] 3)) 23 (.slice A0 l0.length c0)
  have b4 := Boxed.new ((((w.alloc (.cells #[.int .i64 a2] 3)).alloc (.cells #[.slice none 0 0] 23)).alloc (.cells #[.int .i64 0] 3)).alloc (.cells #[.slice A0 l0.length c0] 23)) 3 (.int .i64 m)
  have hB5 : Below w.heap.size w (((((w.alloc (.cells #[.int .i64 a2] 3)).alloc (.cells #[.slice none 0 0] 23)).alloc (.cells #[.int .i64 0] 3)).alloc (.cells #[.slice A0 l0.length c0] 23)).alloc (.cells #[.int .i64 m] 3)) :=
    (((((Below.refl _ w).alloc (Nat.le_refl _) _).alloc (by simp) _).alloc (by simp; omega) _).alloc (by simp; omega) _).alloc (by simp; omega) _
  replace b3 := b3.alloc (.cells #[.int .i64 m] 3)
  replace b2 := (b2.alloc (.cells #[.slice A0 l0.length c0] 23)).alloc (.cells #[.int .i64 m] 3)
  replace b1 := ((b1.alloc (.cells #[.int .i64 0] 3)).alloc (.cells #[.slice A0 l0.length c0] 23)).alloc (.cells #[.int .i64 m] 3)
  replace b0 := (((b0.alloc (.cells #[.slice none 0 0] 23)).alloc (.cells #[.int .i64 0] 3)).alloc (.cells #[.slice A0 l0.length c0] 23)).alloc (.cells #[.int .i64 m] 3)
  have hs5 : (((((w.alloc (.cells #[.int .i64 a2] 3)).alloc (.cells #[.slice none 0 0] 23)).alloc (.cells #[.int .i64 0] 3)).alloc (.cells #[.slice A0 l0.length c0] 23)).alloc (.cells #[.int .i64 m] 3)).heap.size = w.heap.size + 5 := by simp
  simp only [World.size_alloc] at b0 b1 b2 b3 b4
  obtain ⟨B, hB⟩ : ∃ B, w.heap.size = B := ⟨_, rfl⟩
  obtain ⟨w5, hw5⟩ : ∃ w5, (((((w.alloc (.cells #[.int .i64 a2] 3)).alloc (.cells #[.slice none 0 0] 23)).alloc (.cells #[.int .i64 0] 3)).alloc (.cells #[.slice A0 l0.length c0] 23)).alloc (.cells #[.int .i64 m] 3)) = w5 := ⟨_, rfl⟩
  rw [hw5] at hB5 b0 b1 b2 b3 b4 hs5 ⊢
  rw [hB] at hB5 b0 b1 b2 b3 b4 hs5 ⊢
  refine wpIn_rangeFunc_ownG (F := Fence.wide) (n := 10) rfl (by omega) (gf := 85) (lb := #[.pointer (some ⟨B + 1 + 1 + 1, 0, none⟩), .pointer (some ⟨B + 1 + 1 + 1 + 1, 0, none⟩)]) rfl trivial (enters_of Try.func85 (by kernel_rfl) rfl)
    (encs := fun x : Nat => #[chunkV ad m l0.length x]) (Kp := Kset (B + 5) (fun k => k = B + 1 ∨ k = B + 1 + 1)) (S := fun ys => ys = List.range (chunkN m l0.length)) (Sp := fun ys => ∃ k, k ≤ chunkN m l0.length ∧ ys = List.range k) (N := chunkN m l0.length)
    (w0 := w5) ?seq ksetK_t (ksetK_b (by omega)) (Below.refl _ _) (fun _ => rfl)
    (fun pre W => Boxed W B 3 (.int .i64 a2) ∧ Boxed W (B + 1) 23 (.slice none 0 0) ∧ Boxed W (B + 1 + 1) 3 (.int .i64 (pre.length : Nat)) ∧ (∀ k : Nat, k < pre.length → (k : Int) ≠ a2) ∧ Kset (B + 5) (fun k => k = B + 1 ∨ k = B + 1 + 1) w5 W)
    (fun c xs W => (∃ v, Boxed W (B + 1) 23 v ∧ W.ownsRow (B + 5) 5 1 v (mani_piece_byte.at_ l0 m xs).length (nums .u8 (mani_piece_byte.at_ l0 m xs)) ∧ True) ∧ (c = .ret ∧ 0 ≤ a2 ∧ (xs.length : Int) = a2 + 1) ∧ Kset (B + 5) (fun k => k = B + 1 ∨ k = B + 1 + 1) w5 W) ?own ?ownx ?start
    (fun x => { tmps := #[.slice A0 l0.length c0, .int .i64 m, .int .i64 a2, undef, undef, .pointer (some ⟨B, 0, none⟩), .pointer (some ⟨B + 1, 0, none⟩), .pointer (some ⟨B + 1 + 1, 0, none⟩), chunkV ad m l0.length x, .slice A0 l0.length c0, .int .i64 m, .func (.func 85) #[] #[.pointer (some ⟨B + 1 + 1 + 1, 0, none⟩), .pointer (some ⟨B + 1 + 1 + 1 + 1, 0, none⟩)], chunkV ad m l0.length x, undef, undef, undef, undef, undef, undef, undef], defers := [] }) ?assign ?body ?done ?stop
  case seq =>
    intro l J Jx W hW hJ hJx hY h0
    refine (chunkB1_in l (B + 1 + 1 + 1) (B + 1 + 1 + 1 + 1) (B + 5) (fun k => k = B + 1 ∨ k = B + 1 + 1) A0 ad c0 l0.length m hA (by omega) (by omega) ha hc0 J Jx (fun ys X n hx => hJ ys X _ none hx ⟨rfl, rfl, rfl, Nat.le_refl _, fun _ _ _ => rfl⟩ (fun r e => by cases e)) hY W
      ((hW.cell (p := ⟨B + 1 + 1 + 1, 0, none⟩) (by simp; omega)).trans b3.cell) ((hW.cell (p := ⟨B + 1 + 1 + 1 + 1, 0, none⟩) (by simp; omega)).trans b4.cell) (by omega) (by omega) (by omega) (by omega) h0).mono ?_
    rintro e W' ⟨he, ⟨ys, rfl, hj⟩ | ⟨pre, hp, hj⟩⟩
    · exact ⟨he, .inl ⟨_, rfl, hj⟩⟩
    · exact ⟨he, .inr ⟨_, hp, hj⟩⟩
  case own => exact OwnFrom.and (Own.from (boxed_own _ _ _) _) (OwnFrom.and (Own.from (boxed_own _ _ _) _) (OwnFrom.and (Own.from (boxed_own _ _ _) _) (OwnFrom.and (fun _ _ _ _ hs _ _ => hs) (ownFrom_kset (by omega) (by omega)))))
  case ownx => exact fun c => OwnFrom.and (Own.from (holdsRow_own _ _ _ _ _ _ _ _) _) (OwnFrom.and (fun _ _ _ _ hs _ _ => hs) (ownFrom_kset (by omega) (by omega)))
  case start => exact ⟨b0, b1, b2, by simp, Kset.refl _ _ _⟩
  case assign =>
    intro l x W K hK
    gi_wp2
    exact hK
  case body =>
    rintro l pre x W ⟨h0, h1', h2', hne, hk⟩ hlen
    have hc0' := h0.cell
    have hc1' := h1'.cell
    have hc2' := h2'.cell
    have hf1' := h1'.frozen
    have hf2' := h2'.frozen
    have hV : chunkV ad m l0.length x = .slice (some (ad.add (m * x))) (chunkE m l0.length x) (chunkE m l0.length x) := rfl
    rw [hV]
    obtain ⟨hCp, hlp⟩ := mani_piece_byte.read hr0 ad hA m x
    obtain ⟨p, hp⟩ : ∃ p, (l0.drop (m * x)).take m = p := ⟨_, rfl⟩
    obtain ⟨e, he⟩ : ∃ e, chunkE m l0.length x = e := ⟨_, rfl⟩
    rw [hp] at hCp hlp
    rw [he] at hCp hlp ⊢
    subst hlp
    obtain ⟨j, hj⟩ : ∃ j, pre.length = j := ⟨_, rfl⟩
    rw [hj] at h2' hc2' hne hlen
    have HJ : Hid _ := hj
    have HP : Hid _ := hp
    clear hj hp he
    have hjb : j ≤ 1000000 := by
      have : m * j < l0.length := (chunkN_lt (by omega)).1 hlen
      have : j ≤ m * j := Nat.le_mul_of_pos_left _ (by omega)
      omega
    have hpl : p.length < 140737488355328 := by have := hCp.2.1; rw [← HP.out, List.length_take, List.length_drop]; omega
    by_cases hja : (j : Int) = a2
    · have hjb2 : ((j : Int) == a2) = true := by simpa using hja
      have hclone : slices_Clone_byte_byte.f p = some p := if_pos hpl
      gi_wp2
      refine ⟨trivial, CallsIn.inRound l (CallsIn.mono (callsIn_wide.2 (slices_Clone_byte_byte.calls _ _ p p _ (C_kset hCp (hB ▸ hB5) hk (by omega) (by omega)) (Nat.le_refl _) hclone)) ?_)⟩
      rintro e2 W2 ⟨v2, rfl, ho2, hb2⟩
      have h1b : Boxed W2 (B + 1) 23 (.slice none 0 0) := (hb2.block _ h1'.lt).trans h1'
      have hc1b := h1b.cell
      have hf1b := h1b.frozen
      have hsz : B + 5 ≤ W.heap.size := by have := hk.size; omega
      have hk2 : Kset (B + 5) (fun k => k = B + 1 ∨ k = B + 1 + 1) W W2 := Kset.of_below (hb2.mono hsz)
      obtain ⟨A3, c3, e3⟩ := Kd.R_slice ho2
      have ho3 := Aside0.mk (Kd.own_of_R (Kd.R_lower ho2 hsz))
      have HB2 := Aside0.mk hb2
      have HH1 := Aside0.mk h1b
      subst e3
      clear ho2 hb2 h1b
      gi_wp2
      refine ⟨((keepsOthers_below HB2.out).trans (KeepsOthers.setCell _ _ _)).from _, ⟨_, HH1.out.set _, ?_, trivial⟩, ⟨rfl, by omega, ?_⟩, (hk.trans hk2).setCell (p := ⟨B + 1, 0, none⟩) (.inl (.inl rfl)) _⟩
      · have e4 : mani_piece_byte.at_ l0 m (pre ++ [x]) = p := by rw [← HP.out]; simp [mani_piece_byte.at_]
        rw [e4]
        exact ho3.out.kept (grownBy_setCell' _ _ _) (.inr (HH1.out.not_row (by decide) ho3.out).symm)
      · rw [List.length_append, HJ.out, List.length_singleton]; omega
    · have hjb2 : ((j : Int) == a2) = false := by simpa using hja
      have hj1 : (j : Int) + 1 = ((j + 1 : Nat) : Int) := by omega
      obtain ⟨j1, hj1'⟩ : ∃ j1, j + 1 = j1 := ⟨_, rfl⟩
      rw [hj1'] at hj1
      gi_wp2
      refine ⟨(KeepsOthers.setCell _ _ _).from _, Kset.setCell (Kset.refl _ _ _) (p := ⟨B + 1 + 1, 0, none⟩) (.inl (.inr rfl)) _, h0.other (by omega) _, h1'.other (by omega) _, ?_, ?_, hk.setCell (p := ⟨B + 1 + 1, 0, none⟩) (.inl (.inr rfl)) _⟩
      · rw [List.length_append, HJ.out, List.length_singleton, hj1']; exact h2'.set _
      · intro k hk2
        rw [List.length_append, HJ.out, List.length_singleton] at hk2
        by_cases e4 : k = j
        · subst e4; exact hja
        · exact hne k (by omega)
  case done =>
    rintro D ys W hD rfl ⟨h0, h1', h2', hne, hk⟩ hK
    have hc1' := h1'.cell
    have hf1' := h1'.frozen
    have hres : pieceL l0 m a2 = [] := by
      unfold pieceL
      rw [if_neg]
      rintro ⟨h3, h4⟩
      obtain ⟨q, rfl⟩ := Int.eq_ofNat_of_zero_le h3
      refine hne q ?_ rfl
      rw [List.length_range]
      refine (chunkN_lt (by omega)).2 ?_
      have : ((m * q : Nat) : Int) = (m : Int) * (q : Int) := by simp
      omega
    have HRES := Aside0.mk hres
    clear hres
    gi_wp2
    have hK2 : (W.setCell ⟨B + 1, 0, none⟩ (.slice none 0 0)).heap[D]? = some (.deferred (some [])) := (Below.heap_setCell W ⟨B + 1, 0, none⟩ _ D (by show D ≠ B + 1; omega)).trans hK
    refine ⟨by simp, .inl ⟨_, _, rfl, run_takeDeferred hK2, ?_⟩⟩
    have hb9 := (h1'.set (.slice none 0 0)).kept (grownBy_putObj' _ D (.deferred none)) (by simp; omega)
    refine ⟨_, results_cell1 rfl _ _ (B + 1) _ rfl hb9.cell Try.underlying23, _, rfl, ?_, ?_⟩
    · rw [HRES.out]; exact Kd.R_nil _ _ _ _ _
    · have hks := hk.setCell (p := ⟨B + 1, 0, none⟩) (.inl (.inl rfl)) (.slice none 0 0)
      rw [hB]
      exact (hB5.trans (hks.below (by omega) (fun k e => by omega))).trans (belowK_b (w := w) (Nat.le_of_eq hB.symm) _ D _ _ (by omega) hK2 rfl rfl)
  case stop =>
    rintro D c pre W hD ⟨k, hkc, rfl⟩ ⟨⟨v, h1', ho, -⟩, ⟨rfl, ha20, hlen⟩, hk⟩ hK
    rw [List.length_range] at hlen
    obtain ⟨q, rfl⟩ : ∃ q : Nat, a2 = q := ⟨k - 1, by omega⟩
    obtain rfl : k = q + 1 := by omega
    have hres : pieceL l0 m q = mani_piece_byte.at_ l0 m (List.range (q + 1)) := by
      have hlt := (chunkN_lt (m := m) (L := l0.length) (k := q) (by omega)).1 (by omega)
      have e1 : ((m * q : Nat) : Int) = (m : Int) * (q : Int) := by simp
      unfold pieceL mani_piece_byte.at_
      rw [if_pos ⟨by omega, by omega⟩, ← e1, Int.toNat_natCast, Int.toNat_natCast, List.range_succ]
      simp
    have HRES := Aside0.mk hres
    clear hres
    gi_wp2
    refine ⟨by simp, .inl ⟨_, _, rfl, run_takeDeferred hK, ?_⟩⟩
    have hb9 := h1'.kept (grownBy_putObj' _ D (.deferred none)) (by simp; omega)
    refine ⟨_, results_cell1 rfl _ _ (B + 1) _ rfl hb9.cell Try.underlying23, _, rfl, ?_, ?_⟩
    · rw [HRES.out]
      have ho' := ownsRow_putObj ho (.deferred none) hK rfl
      exact Kd.R_lower (Kd.R_of_own (enc := Value.int .u8) (by simpa [nums, encs] using ho') (fun _ _ => trivial)) (by omega)
    · rw [hB]
      exact (hB5.trans (hk.below (by omega) (fun k e => by omega))).trans (belowK_b (w := w) (Nat.le_of_eq hB.symm) _ D _ _ (by omega) hK rfl rfl)

end Go.Proofs.Ythlhnodedofibaa.F
end

section
namespace Go.Proofs.Ythlhnodedofibaa.F
open Go.RowKit Go.Proofs.YthlhnodedofibaaW.PrintWords Go.Proofs.YthlhnodedofibaaW.PrintLast Go.Proofs.YthlhnodedofibaaW.PrintMore
attribute [local go_sem] max2_int min2_int max_two min_two max_three min_three max_four min_four   -- for this text's walks alone
set_option linter.unusedVariables false
set_option linter.unusedSimpArgs false

/-! ### mani_Chunk: function 45 -/
def mani_Chunk.f (l0 : List (List Int)) (a1 : Int) : Option (List Int) := (arena_Right_c.f l0).bind fun t101 => (if t101 = true then ((arena_Bytes.f l0).bind fun t102 => ((mani_piece_byte.f t102 64 a1).bind fun t105 => (some t105))) else (some ([] : List Int)))
set_option maxHeartbeats 8000000 in
set_option maxRecDepth 100000 in
theorem mani_Chunk.calls (A0 : Option Addr) (c0 : Nat) (l0 : List (List Int)) (a1 : Int) (r : List Int) (w : World) (hr0 : Kd.C (Kd.slice 42 (Kd.int .u64)) w A0 l0.length l0) (hc0 : l0.length ≤ c0) (h : mani_Chunk.f l0 a1 = some r) :
    Calls Try.prog 45 #[.slice A0 l0.length c0, .int .i64 a1] w fun e w' => ∃ v0_ : Value, e = .returned (v0_) ∧ Kd.R (Kd.int .u8) 5 w' w.heap.size (fun _ => True) v0_ r ∧ Below w.heap.size w w' := by
  have HR0 := Aside0.mk hr0
  have HC0 := Aside0.mk hc0
  clear hr0 hc0
  have HB := Aside0.mk (Below.refl w.heap.size w)
  have H : ((arena_Right_c.f l0).bind fun t101 => (if t101 = true then ((arena_Bytes.f l0).bind fun t102 => ((mani_piece_byte.f t102 64 a1).bind fun t105 => (some t105))) else (some ([] : List Int)))) = some r := h
  clear h
  replace H := Option.bind_eq_some_iff.mp H
  obtain ⟨t101, A30, H⟩ := H
  replace H : (if t101 = true then ((arena_Bytes.f l0).bind fun t102 => ((mani_piece_byte.f t102 64 a1).bind fun t105 => (some t105))) else (some ([] : List Int))) = some r := H
  have A3 := Aside0.mk A30
  clear A30
  by_cases c4 : t101 = true
  · subst c4
    have H1 : ((arena_Bytes.f l0).bind fun t102 => ((mani_piece_byte.f t102 64 a1).bind fun t105 => (some t105))) = some r := by rw [if_pos rfl] at H; exact H
    clear H
    have H := H1
    clear H1
    replace H := Option.bind_eq_some_iff.mp H
    obtain ⟨t102, A50, H⟩ := H
    replace H : ((mani_piece_byte.f t102 64 a1).bind fun t105 => (some t105)) = some r := H
    have A5 := Aside0.mk A50
    clear A50
    replace H := Option.bind_eq_some_iff.mp H
    obtain ⟨t105, A60, H⟩ := H
    replace H : (some t105) = some r := H
    have A6 := Aside0.mk A60
    clear A60
    obtain rfl := Option.some.inj H
    go_enter Try.func45, Try.ntmps45
    go_wp2_with (first | ((with_reducible refine gate_callee (f := 21) rfl ?_); refine goesL_ (some 6) rfl rfl Try.func21 (by kernel_rfl) rfl #[.slice A0 l0.length c0] rfl (by (try simp only [List.map_toArray, List.map_cons, List.map_nil]); first | done | rfl | (simp only [List.length_drop, List.length_take]; rfl)) ?_; (with_reducible refine (arena_Right_c.calls _ _ l0 true _ ?side1 ?side2 A3.out).mono ?_); (case side1 => repeat (first | exact HR0.out | (with_reducible refine Kd.C_alloc ?_ _) | (with_reducible refine Kd.C_drewN ?_ _) | (with_reducible refine Kd.C_drew ?_))); (case side2 => exact HC0.out); rintro e w7 ⟨rfl, hb⟩; refine ⟨_, rfl, ?_⟩; have n0_ := Aside0.mk (below_step (by repeat (first | (with_reducible first | exact HB.out | apply below_alloc | apply pw_below_drewN | apply below_drew1) | exact HB.out)) hb); clear HB; have HB := n0_; clear n0_; (try clear hb); (try clear hb2); (try clear hk); (try clear hi)) | ((with_reducible refine gate_callee (f := 17) rfl ?_); refine goesL_ (some 9) rfl rfl Try.func17 (by kernel_rfl) rfl #[.slice A0 l0.length c0] rfl (by (try simp only [List.map_toArray, List.map_cons, List.map_nil]); first | done | rfl | (simp only [List.length_drop, List.length_take]; rfl)) ?_; (with_reducible refine (arena_Bytes.calls _ _ l0 t102 _ ?side1 ?side2 A5.out).mono ?_); (case side1 => repeat (first | exact (Kd.C_below HR0.out HB.out) | (with_reducible refine Kd.C_alloc ?_ _) | (with_reducible refine Kd.C_drewN ?_ _) | (with_reducible refine Kd.C_drew ?_))); (case side2 => exact HC0.out); rintro e w8 ⟨v103, rfl, ho0, hb⟩; refine ⟨_, rfl, ?_⟩; have n0_ := Aside0.mk (Kd.R_lower ho0 (below_size (by repeat (first | (with_reducible first | exact HB.out | apply below_alloc | apply pw_below_drewN | apply below_drew1) | exact HB.out)))); have n1_ := Aside0.mk (below_step (by repeat (first | (with_reducible first | exact HB.out | apply below_alloc | apply pw_below_drewN | apply below_drew1) | exact HB.out)) hb); clear HB; have HO104 := n0_; have HB := n1_; clear n0_ n1_; (try clear hb); (try clear hb2); (try clear hk); (try clear hi); (try clear ho0); obtain ⟨Ao9, co9, eo9⟩ := Kd.R_slice HO104.out; subst eo9) | ((with_reducible refine gate_callee (f := 69) rfl ?_); refine goesL_ (some 11) rfl rfl Try.func69 (by kernel_rfl) rfl #[.slice Ao9 t102.length co9, .int .i64 64, .int .i64 a1] rfl (by (try simp only [List.map_toArray, List.map_cons, List.map_nil]); first | done | rfl | (simp only [List.length_drop, List.length_take]; rfl)) ?_; (with_reducible refine (mani_piece_byte.calls _ _ t102 64 a1 t105 _ ?side1 ?side2 A6.out).mono ?_); (case side1 => repeat (first | exact (Kd.R_reads' HO104.out).2.2 | (with_reducible refine Kd.C_alloc ?_ _) | (with_reducible refine Kd.C_drewN ?_ _) | (with_reducible refine Kd.C_drew ?_))); (case side2 => exact (Kd.R_reads' HO104.out).2.1); rintro e w10 ⟨v106, rfl, ho0, hb⟩; refine ⟨_, rfl, ?_⟩; have n0_ := Aside0.mk (Kd.R_elder' (by (with_reducible repeat (first | apply Kd.R_alloc | apply Kd.R_drewN | apply Kd.R_drew)); exact HO104.out) (Kd.R_base ho0) hb); have n1_ := Aside0.mk (Kd.R_lower (Kd.R_new' ho0 (Kd.R_lt (by (with_reducible repeat (first | apply Kd.R_alloc | apply Kd.R_drewN | apply Kd.R_drew)); exact HO104.out))) (below_size (by repeat (first | (with_reducible first | exact HB.out | apply below_alloc | apply pw_below_drewN | apply below_drew1) | exact HB.out)))); have n2_ := Aside0.mk (below_step (by repeat (first | (with_reducible first | exact HB.out | apply below_alloc | apply pw_below_drewN | apply below_drew1) | exact HB.out)) hb); clear HO104; clear HB; have HO104 := n0_; have HO107 := n1_; have HB := n2_; clear n0_ n1_ n2_; (try clear hb); (try clear hb2); (try clear hk); (try clear hi); (try clear ho0)))
    go_ret
    exact ⟨_, by first | rfl | (simp [errW_none, errW_some] <;> rfl) | (simp [*, errW_none, errW_some] <;> rfl), by (with_reducible repeat (first | apply Kd.R_alloc | apply Kd.R_drewN | apply Kd.R_drew)); exact Kd.R_mono HO107.out (fun _ hk => trivial), by repeat (first | (with_reducible first | exact HB.out | apply below_alloc | apply pw_below_drewN | apply below_drew1) | exact HB.out)⟩
  · replace c4 := Bool.eq_false_iff.mpr c4
    subst c4
    have H1 : (some ([] : List Int)) = some r := by rw [if_neg (show ¬ (false = true) by decide)] at H; exact H
    clear H
    have H := H1
    clear H1
    obtain rfl := Option.some.inj H
    go_enter Try.func45, Try.ntmps45
    go_wp2_with (first | ((with_reducible refine gate_callee (f := 21) rfl ?_); refine goesL_ (some 6) rfl rfl Try.func21 (by kernel_rfl) rfl #[.slice A0 l0.length c0] rfl (by (try simp only [List.map_toArray, List.map_cons, List.map_nil]); first | done | rfl | (simp only [List.length_drop, List.length_take]; rfl)) ?_; (with_reducible refine (arena_Right_c.calls _ _ l0 false _ ?side1 ?side2 A3.out).mono ?_); (case side1 => repeat (first | exact HR0.out | (with_reducible refine Kd.C_alloc ?_ _) | (with_reducible refine Kd.C_drewN ?_ _) | (with_reducible refine Kd.C_drew ?_))); (case side2 => exact HC0.out); rintro e w11 ⟨rfl, hb⟩; refine ⟨_, rfl, ?_⟩; have n0_ := Aside0.mk (below_step (by repeat (first | (with_reducible first | exact HB.out | apply below_alloc | apply pw_below_drewN | apply below_drew1) | exact HB.out)) hb); clear HB; have HB := n0_; clear n0_; (try clear hb); (try clear hb2); (try clear hk); (try clear hi)))
    go_ret
    exact ⟨_, by first | rfl | (simp [errW_none, errW_some] <;> rfl) | (simp [*, errW_none, errW_some] <;> rfl), by first | exact Kd.R_nil _ _ _ _ _ | exact Kd.N_nil _ _ _ _ _ | exact Kd.V_nil _ _ _ _ _ | exact Kd.Q_nil _ _ _ _ _ | exact Kd.S_nil _ _ _ _ _, by repeat (first | (with_reducible first | exact HB.out | apply below_alloc | apply pw_below_drewN | apply below_drew1) | exact HB.out)⟩

end Go.Proofs.Ythlhnodedofibaa.F
end

section
/- Pages of sizes, and chunks of bytes: joined they are what they were cut from. -/
namespace Go.Proofs.Ythlhnodedofibaa.Pure
set_option linter.unusedVariables false
open Go.RowKit Go.Proofs.Ythlhnodedofibaa.F Go.Proofs.Ythlhnodedofibaa.H Go.Proofs.YthlhnodedofibaaW.PrintWords Go.Proofs.YthlhnodedofibaaW.PrintLast Go.Proofs.YthlhnodedofibaaW.PrintMore
/-- The first k pieces of n. -/
def piecesL (l : List Int) (n : Nat) (k : Nat) : List (List Int) := (List.range k).map fun i => (l.drop (n * i)).take n
theorem piecesL_succ (l : List Int) (n k : Nat) : piecesL l n (k + 1) = piecesL l n k ++ [(l.drop (n * k)).take n] := by simp [piecesL, List.range_succ]
theorem piecesL_length (l : List Int) (n k : Nat) : (piecesL l n k).length = k := by simp [piecesL]
theorem piecesL_flat (l : List Int) (n : Nat) : ∀ k, (piecesL l n k).flatten = l.take (n * k)
  | 0 => by simp [piecesL]
  | k + 1 => by
    rw [piecesL_succ, List.flatten_append, piecesL_flat l n k, Nat.mul_succ, List.take_add]
    simp
theorem pieceL_in (l : List Int) (n k : Nat) (h : n * k < l.length) : pieceL l n k = (l.drop (n * k)).take n := by
  have e : ((n * k : Nat) : Int) = (n : Int) * (k : Int) := by simp
  unfold pieceL
  rw [if_pos ⟨by omega, by omega⟩, ← e, Int.toNat_natCast, Int.toNat_natCast]
theorem pieceL_out (l : List Int) (n : Nat) (i : Int) (h : ¬ (0 ≤ i ∧ (n : Int) * i < l.length)) : pieceL l n i = [] := if_neg h
theorem page_is (a : Int) (l : List Int) (b i : Int) : mani_Page.f a l b i = some (if fitsB l = true then pieceL l 4 i else []) := by
  rw [mani_Page.f, mani_Right.f, arena_Fits_c.f, Option.bind_some, Option.bind_some]
  split
  · rename_i h
    have h := fitsB_at h
    rw [mani_piece_int.f, if_pos ⟨by omega, by omega, by omega⟩, Option.bind_some]
  · rfl
theorem chunk_is (a : List (List Int)) (hok : a.length ≤ 1000000) (hf : rightB a = true) (i : Int) : mani_Chunk.f a i = some (pieceL (bytesL a) 64 i) := by
  have hfit := fitsB_at (l := sizesL a) hf
  have hs := sizesL_sum a
  have hb := bytesL_length a
  rw [mani_Chunk.f, arena_Right_c.f, if_pos hok, Option.bind_some, if_pos hf, arena_Bytes.f, if_pos ⟨hok, by omega⟩, Option.bind_some, mani_piece_byte.f, if_pos ⟨by omega, by omega, by omega⟩, Option.bind_some]
/-- Pages may be joined. -/
theorem pages_whole (l : List Int) : ∀ (m k : Nat), m = (l.length + 3) / 4 - k → k ≤ (l.length + 3) / 4 → wholeB ((piecesL l 4 ((l.length + 3) / 4)).drop k) = true
  | 0, k, hm, hk => by
    rw [List.drop_of_length_le (by rw [piecesL_length]; omega)]
    rfl
  | m + 1, k, hm, hk => by
    have hlt : k < (piecesL l 4 ((l.length + 3) / 4)).length := by rw [piecesL_length]; omega
    have hx : (piecesL l 4 ((l.length + 3) / 4))[k] = (l.drop (4 * k)).take 4 := by simp [piecesL]
    have hle : ((l.drop (4 * k)).take 4).length = min 4 (l.length - 4 * k) := by simp
    rw [drop_at _ k hlt, hx, wholeB, pages_whole l m (k + 1) (by omega) (by omega), hle]
    rw [decide_eq_true (show 1 ≤ min 4 (l.length - 4 * k) by omega), decide_eq_true (show min 4 (l.length - 4 * k) ≤ 4 by omega)]
    by_cases h : k + 1 < (l.length + 3) / 4
    · rw [decide_eq_true (show 4 ≤ min 4 (l.length - 4 * k) by omega)]
      simp
    · rw [List.drop_of_length_le (by rw [piecesL_length]; omega)]
      rfl
theorem pages_joined {l : List Int} (hf : fitsB l = true) : joinL (piecesL l 4 ((l.length + 3) / 4)) = (l, true) := by
  have h := pages_whole l _ 0 rfl (by omega)
  rw [List.drop_zero] at h
  have e : (piecesL l 4 ((l.length + 3) / 4)).flatten = l := by rw [piecesL_flat, List.take_of_length_le (by omega)]
  unfold joinL
  rw [e, if_pos ⟨h, hf⟩]
theorem of_is {c : List Int} (hc : bytesB c = true) {n m : Int} (h0 : 0 ≤ n) (h1 : n ≤ 255) (hm : 0 ≤ m) {s : Int} (hs : u64B s = true) :
    mani_Of.f s (arena12L c n m) = some (s, sizesL (arena12L c n m), moreL 0 (ofBytes s (arena12L c n m) (arena12L c n m).length ++ bytesL (arena12L c n m)), 0) := by
  have hl := arena12L_length c h0 hm
  have hf : rightB (arena12L c n m) = true := arena12L_fits c h0 hm
  rw [mani_Of.f, if_pos ⟨by omega, hs⟩, ofL, if_pos hf]
end Go.Proofs.Ythlhnodedofibaa.Pure
end

section
/- Pages that are not whole, or are none, are joined to nothing. -/
namespace Go.Proofs.Ythlhnodedofibaa.Pure
open Go.RowKit Go.Proofs.Ythlhnodedofibaa.F Go.Proofs.Ythlhnodedofibaa.H Go.Proofs.YthlhnodedofibaaW.PrintWords Go.Proofs.YthlhnodedofibaaW.PrintLast Go.Proofs.YthlhnodedofibaaW.PrintMore
theorem wholeB_snoc_bad (x : List Int) (hx : ¬ (1 ≤ x.length ∧ x.length ≤ 4)) : ∀ p : List (List Int), wholeB (p ++ [x]) = false
  | [] => by
    show wholeB (x :: []) = false
    rw [wholeB]
    by_cases h : 1 ≤ x.length
    · rw [decide_eq_false (show ¬ x.length ≤ 4 by omega)]; simp
    · rw [decide_eq_false h]; simp
  | y :: p => by
    rw [List.cons_append, wholeB, wholeB_snoc_bad x hx p, Bool.and_false]
theorem wholeB_one (p : List (List Int)) (hp : p ≠ []) : wholeB ([1] :: p) = false := by
  match p, hp with
  | y :: p, _ => rw [wholeB]; simp
theorem joinL_bad {p : List (List Int)} (h : wholeB p = false) : joinL p = ([], false) := by
  unfold joinL
  rw [h, if_neg (by simp)]
theorem maniorder_end (w : Int) (s : Int) (l : List Int) (hf : fitsB l = true) (t : Int) : scullerlaw12_ManiOrder.l0 1 w (piecesL l 4 ((l.length + 3) / 4)) ((((l.length + 3) / 4 : Nat)) : Int) s l t = some true := by
  have hfit := fitsB_at hf
  have hpg : pagesM l = ((l.length : Int) + 3) / 4 := if_pos hf
  have hj := pages_joined hf
  have hpl := piecesL_length l 4 ((l.length + 3) / 4)
  have hfl := piecesL_flat l 4 ((l.length + 3) / 4)
  have hsame : mani_Same.f s l t s l t = some true := by
    rw [mani_Same.f, if_pos rfl, if_pos rfl, slices_Equal_int_int_c.f, if_pos (by omega), Option.bind_some]
    simp
  have hflen : (piecesL l 4 ((l.length + 3) / 4)).flatten.length ≤ 16 := by rw [hfl, List.length_take]; omega
  obtain ⟨p, hp⟩ : ∃ p, piecesL l 4 ((l.length + 3) / 4) = p := ⟨_, rfl⟩
  rw [hp] at hj hpl hfl hflen ⊢
  have hne : p ≠ [] := by rintro rfl; simp at hpl; omega
  have j1 : joinL (p ++ [[]]) = ([], false) := joinL_bad (wholeB_snoc_bad [] (by simp) p)
  have j2 : joinL (p ++ [[1, 1, 1, 1, 1]]) = ([], false) := joinL_bad (wholeB_snoc_bad [1, 1, 1, 1, 1] (by simp) p)
  have j3 : joinL ([] ++ [[1]] ++ p) = ([], false) := joinL_bad (wholeB_one p hne)
  have l1 : ([[]] : List (List Int)).length = 1 := rfl
  have l2 : ([[1, 1, 1, 1, 1]] : List (List Int)).length = 1 := rfl
  rw [scullerlaw12_ManiOrder.l0, pages_is, Option.bind_some, if_neg (by omega), if_neg (by omega), mani_Join_c.f, if_pos ⟨by omega, by omega⟩, Option.bind_some, hj]
  have f0 : ∀ (p : List (List Int)) (x : List Int), (p ++ [x]).flatten.length = p.flatten.length + x.length := fun p x => by rw [List.flatten_append, List.length_append]; simp
  have f1 : ([] ++ [[(1 : Int)]] ++ p).flatten.length = p.flatten.length + 1 := by rw [List.flatten_append, List.length_append]; simp; omega
  split
  · rw [if_pos (by omega), mani_Join_c.f, if_pos ⟨by rw [List.length_append]; omega, by rw [f0, List.length_nil]; omega⟩, Option.bind_some, j1, known12, Option.bind_some, if_pos rfl, if_pos rfl, if_neg (by simp), if_pos (by simp), hsame, Option.bind_some]
  · split
    · rw [if_pos (by omega), mani_Join_c.f, if_pos ⟨by rw [List.length_append]; omega, by rw [f0]; exact Nat.le_trans (Nat.add_le_add_right hflen 5) (by omega)⟩, Option.bind_some, j2, known12, Option.bind_some, if_pos rfl, if_pos rfl, if_neg (by simp), if_pos (by simp), hsame, Option.bind_some]
    · rw [if_pos (by simp), Option.bind_some, if_pos (by simp; omega), mani_Join_c.f, if_pos ⟨by simp; omega, by rw [f1]; omega⟩, Option.bind_some, j3, known12, Option.bind_some, if_pos rfl, if_pos rfl, if_neg (by simp), if_pos (by simp), hsame, Option.bind_some]
theorem maniorder_l0 (w : Int) (s : Int) (l : List Int) (hf : fitsB l = true) (t : Int) : ∀ (d i : Nat), (l.length + 3) / 4 - i = d → i ≤ (l.length + 3) / 4 → ∃ k, scullerlaw12_ManiOrder.l0 k w (piecesL l 4 i) (i : Int) s l t = some true
  | 0, i, hd, hi => by
    obtain rfl : i = (l.length + 3) / 4 := by omega
    exact ⟨1, maniorder_end w s l hf t⟩
  | d + 1, i, hd, hi => by
    have hfit := fitsB_at hf
    have hpg : pagesM l = ((l.length : Int) + 3) / 4 := if_pos hf
    obtain ⟨k, hk⟩ := maniorder_l0 w s l hf t d (i + 1) (by omega) (by omega)
    refine ⟨k + 1, ?_⟩
    rw [piecesL_succ] at hk
    have hpc : pieceL l 4 (i : Int) = (l.drop (4 * i)).take 4 := pieceL_in l 4 i (by omega)
    rw [scullerlaw12_ManiOrder.l0, pages_is, Option.bind_some, if_pos (by omega), page_is, Option.bind_some, if_pos hf, hpc, if_pos (by rw [piecesL_length]; omega), show wrap64 ((i : Int) + 1) = ((i + 1 : Nat) : Int) from by unfold wrap64; omega]
    exact hk
theorem ManiOrder : scullerlaw12_ManiOrder.Pure := by
  intro l0 a1 a2 a3 h1 h2 h3 h4 h5 h6
  have hb := bytes_wf h3
  have hn := byte_wf h4
  have hm := byte_wf h5
  obtain ⟨k, hk⟩ := maniorder_l0 a3 1 (sizesL (arena12L l0 a1 a2)) (arena12L_fits l0 hn.1 hm.1) (moreL 0 (ofBytes 1 (arena12L l0 a1 a2) (arena12L l0 a1 a2).length ++ bytesL (arena12L l0 a1 a2))) _ 0 rfl (by omega)
  refine ⟨k, ?_⟩
  rw [scullerlaw12_ManiOrder.f, scullerlaw12_Arena_c.f, if_pos ⟨hb, by omega, hn.1, hn.2, hm.1, hm.2⟩, Option.bind_some, of_is hb hn.1 hn.2 hm.1 rfl, Option.bind_some]
  exact hk
end Go.Proofs.Ythlhnodedofibaa.Pure
end
