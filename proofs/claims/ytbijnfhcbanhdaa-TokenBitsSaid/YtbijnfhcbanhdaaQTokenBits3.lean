/- Proved: at every input in bounds the statement TokenBits of the token layer answers yes: a token with bits of more, or fewer, chunks than there are is none.
Text 3 of 5; functions told as plain ones, with the contracts of their calls. -/
import Derived.Test.YtbijnfhcbanhdaaQTokenBits1
import Derived.Test.YtbijnfhcbanhdaaQTokenBits2
import Derived.Laws.BitsAllLaws
section
namespace Go.Proofs.Ytbijnfhcbanhdaa.F
open Go.RowKit Go.Proofs.YtbijnfhcbanhdaaW.PrintWords Go.Proofs.YtbijnfhcbanhdaaW.PrintLast Go.Proofs.YtbijnfhcbanhdaaW.PrintMore
attribute [local go_sem] max2_int min2_int max_two min_two max_three min_three max_four min_four   -- for this text's walks alone
set_option linter.unusedVariables false
set_option linter.unusedSimpArgs false

/-- A state of type 29 at block g of W; what its slices lead to came in by w0. -/
def IsS29 (w0 W : World) (g : Nat) (f0 : Int) (f1 : List Int) (f2 : Int) (f3 : List Int) : Prop := ∃ A1 c1, ∃ A3 c3, W.heap[g]? = some (.cells #[.int .u64 f0, .slice A1 f1.length c1, .int .u32 f2, .slice A3 f3.length c3] 29 (0, 0)) ∧ w0.heap.size ≤ g ∧ Kd.C (Kd.int .i64) w0 A1 f1.length f1 ∧ Kd.C (Kd.int .u8) w0 A3 f3.length f3
theorem IsS29.grown {w0 W : World} {g : Nat} {f0 : Int} {f1 : List Int} {f2 : Int} {f3 : List Int} {W1 : World} {row : Option Nat} (h : IsS29 w0 W g f0 f1 f2 f3) (hw : W.grownBy W1 row) (hne : some g ≠ row) : IsS29 w0 W1 g f0 f1 f2 f3 := by
 obtain ⟨A1, c1, A3, c3, hb, hg, hr1, hr3⟩ := h
 exact ⟨A1, c1, A3, c3, blk_grown hb hw hne, hg, hr1, hr3⟩
theorem IsS29.below {w0 W : World} {g : Nat} {f0 : Int} {f1 : List Int} {f2 : Int} {f3 : List Int} {W1 : World} (h : IsS29 w0 W g f0 f1 f2 f3) (hw : Below W.heap.size W W1) : IsS29 w0 W1 g f0 f1 f2 f3 := h.grown (grown_of_below hw none) (by simp)
theorem IsS29.alloc {w0 W : World} {g : Nat} {f0 : Int} {f1 : List Int} {f2 : Int} {f3 : List Int} (h : IsS29 w0 W g f0 f1 f2 f3) (o : Obj) : IsS29 w0 (W.alloc o) g f0 f1 f2 f3 := h.below (below_alloc (Below.refl _ _) o)
theorem IsS29.drewN {w0 W : World} {g : Nat} {f0 : Int} {f1 : List Int} {f2 : Int} {f3 : List Int} (h : IsS29 w0 W g f0 f1 f2 f3) (m : Nat) : IsS29 w0 (W.drewN m) g f0 f1 f2 f3 := h
theorem IsS29.drew {w0 W : World} {g : Nat} {f0 : Int} {f1 : List Int} {f2 : Int} {f3 : List Int} (h : IsS29 w0 W g f0 f1 f2 f3) : IsS29 w0 W.drew g f0 f1 f2 f3 := h
theorem IsS29.at_ {w0 W : World} {g : Nat} {f0 : Int} {f1 : List Int} {f2 : Int} {f3 : List Int} {w' : World} {m : Nat} (hq : W.drewN m = w') (h : IsS29 w0 W g f0 f1 f2 f3) : IsS29 w0 w' g f0 f1 f2 f3 := by subst hq; exact IsS29.drewN h m
theorem IsS29.apart {w0 W : World} {g : Nat} {f0 : Int} {f1 : List Int} {f2 : Int} {f3 : List Int} {α : Type} {d : Kd α} {e : Nat} {base : Nat} {ok : Nat → Prop} {v : Value} {xs : List α} (h : IsS29 w0 W g f0 f1 f2 f3) (ho : d.R e W base ok v xs) (ht : ∀ q, q ∈ e :: d.E → q ≠ 29) : d.R e W base (fun k => ok k ∧ k ≠ g) v xs := by
 obtain ⟨A1, c1, A3, c3, hb, hg, hr1, hr3⟩ := h
 exact Kd.R_types ho hb ht
theorem IsS29.new (w0 W : World) (A1 : Option Addr) (c1 : Nat) (A3 : Option Addr) (c3 : Nat) (f0 : Int) (f1 : List Int) (f2 : Int) (f3 : List Int) (hB : Below w0.heap.size w0 W) (hr1 : Kd.C (Kd.int .i64) w0 A1 f1.length f1) (hr3 : Kd.C (Kd.int .u8) w0 A3 f3.length f3) : IsS29 w0 (W.alloc (.cells #[.int .u64 f0, .slice A1 f1.length c1, .int .u32 f2, .slice A3 f3.length c3] 29)) W.heap.size f0 f1 f2 f3 := ⟨A1, c1, A3, c3, by simpa using heap_alloc_new W _, hB.size, hr1, hr3⟩

/-! ### scullerlaw14_known: function 11 -/
def scullerlaw14_known.f  : Option (Bool) := (some (([1] : List Int) : List Int)).bind fun y101 => ((some (([0] : List Int) : List Int)).bind fun y104 => ((token_Encode_c.f 0 y101 0 y104).bind fun bt108 => ((token_Decode.f bt108.1).bind fun bt112 => (if bt108.2 = 0 then (if (bt108.1.length : Int) = 20 then (if bt112.2.2.2.2 = 0 then ((token_Same.f 0 y101 0 y104 bt112.1 bt112.2.1 bt112.2.2.1 bt112.2.2.2.1).bind fun t122 => (if t122 = true then ((token_Right.f 0 ([] : List Int) 0 ([] : List Int)).bind fun t123 => (some (!t123))) else (some false))) else (some false)) else (some false)) else (some false)))))
set_option maxHeartbeats 8000000 in
set_option maxRecDepth 100000 in
theorem scullerlaw14_known.calls  (r : Bool) (w : World) (h : scullerlaw14_known.f  = some r) (hr_ : Aside0 (r = true)) :
 Calls Try.prog 11 #[] w fun e w' => e = .returned (.bool r) ∧ Below w.heap.size w w' := by
 have hu26 := Try.underlying26
 have hu29 := Try.underlying29
 have HB := Aside0.mk (Below.refl w.heap.size w)
 have H : ((some (([1] : List Int) : List Int)).bind fun y101 => ((some (([0] : List Int) : List Int)).bind fun y104 => ((token_Encode_c.f 0 y101 0 y104).bind fun bt108 => ((token_Decode.f bt108.1).bind fun bt112 => (if bt108.2 = 0 then (if (bt108.1.length : Int) = 20 then (if bt112.2.2.2.2 = 0 then ((token_Same.f 0 y101 0 y104 bt112.1 bt112.2.1 bt112.2.2.1 bt112.2.2.2.1).bind fun t122 => (if t122 = true then ((token_Right.f 0 ([] : List Int) 0 ([] : List Int)).bind fun t123 => (some (!t123))) else (some false))) else (some false)) else (some false)) else (some false)))))) = some r := h
 clear h
 obtain ⟨y101, hy101⟩ : ∃ y_ : List Int, y_ = (([1] : List Int)) := ⟨_, rfl⟩
 replace H : ((some (([0] : List Int) : List Int)).bind fun y104 => ((token_Encode_c.f 0 y101 0 y104).bind fun bt108 => ((token_Decode.f bt108.1).bind fun bt112 => (if bt108.2 = 0 then (if (bt108.1.length : Int) = 20 then (if bt112.2.2.2.2 = 0 then ((token_Same.f 0 y101 0 y104 bt112.1 bt112.2.1 bt112.2.2.1 bt112.2.2.2.1).bind fun t122 => (if t122 = true then ((token_Right.f 0 ([] : List Int) 0 ([] : List Int)).bind fun t123 => (some (!t123))) else (some false))) else (some false)) else (some false)) else (some false))))) = some r := by first | (rw [hy101]; with_reducible exact H) | (have H2_ := (Option.bind_some _ _).symm.trans H; rw [hy101]; with_reducible exact H2_) | (have H2_ := (Option.bind_some _ _).symm.trans H; with_reducible exact H2_) | with_reducible exact H | (rw [hy101]; exact H) | exact H
 have Ny101 := Aside0.mk hy101
 clear hy101
 obtain ⟨y104, hy104⟩ : ∃ y_ : List Int, y_ = (([0] : List Int)) := ⟨_, rfl⟩
 replace H : ((token_Encode_c.f 0 y101 0 y104).bind fun bt108 => ((token_Decode.f bt108.1).bind fun bt112 => (if bt108.2 = 0 then (if (bt108.1.length : Int) = 20 then (if bt112.2.2.2.2 = 0 then ((token_Same.f 0 y101 0 y104 bt112.1 bt112.2.1 bt112.2.2.1 bt112.2.2.2.1).bind fun t122 => (if t122 = true then ((token_Right.f 0 ([] : List Int) 0 ([] : List Int)).bind fun t123 => (some (!t123))) else (some false))) else (some false)) else (some false)) else (some false)))) = some r := by first | (rw [hy104]; with_reducible exact H) | (have H2_ := (Option.bind_some _ _).symm.trans H; rw [hy104]; with_reducible exact H2_) | (have H2_ := (Option.bind_some _ _).symm.trans H; with_reducible exact H2_) | with_reducible exact H | (rw [hy104]; exact H) | exact H
 have Ny104 := Aside0.mk hy104
 clear hy104
 replace H := Option.bind_eq_some_iff.mp H
 obtain ⟨⟨t108, t111⟩, A10, H⟩ := H
 replace H : ((token_Decode.f t108).bind fun bt112 => (if t111 = 0 then (if (t108.length : Int) = 20 then (if bt112.2.2.2.2 = 0 then ((token_Same.f 0 y101 0 y104 bt112.1 bt112.2.1 bt112.2.2.1 bt112.2.2.2.1).bind fun t122 => (if t122 = true then ((token_Right.f 0 ([] : List Int) 0 ([] : List Int)).bind fun t123 => (some (!t123))) else (some false))) else (some false)) else (some false)) else (some false))) = some r := H
 have A1 := Aside0.mk A10
 clear A10
 replace H := Option.bind_eq_some_iff.mp H
 obtain ⟨⟨t112, t113, t116, t117, t120⟩, A20, H⟩ := H
 replace H : (if t111 = 0 then (if (t108.length : Int) = 20 then (if t120 = 0 then ((token_Same.f 0 y101 0 y104 t112 t113 t116 t117).bind fun t122 => (if t122 = true then ((token_Right.f 0 ([] : List Int) 0 ([] : List Int)).bind fun t123 => (some (!t123))) else (some false))) else (some false)) else (some false)) else (some false)) = some r := H
 have A2 := Aside0.mk A20
 clear A20
 by_cases c3 : t111 = 0
 · rw [if_pos c3] at H
   have c3b0 : (t111 == 0) = true := beq_iff_eq.mpr c3
   have c3b1 : (t111 != 0) = false := bne_eq_false_iff_eq.mpr c3
   clear c3
   by_cases c4 : (t108.length : Int) = 20
   · rw [if_pos c4] at H
     have c4b0 : ((t108.length : Int) == 20) = true := beq_iff_eq.mpr c4
     have c4b1 : ((t108.length : Int) != 20) = false := bne_eq_false_iff_eq.mpr c4
     clear c4
     by_cases c5 : t120 = 0
     · rw [if_pos c5] at H
       have c5b0 : (t120 == 0) = true := beq_iff_eq.mpr c5
       have c5b1 : (t120 != 0) = false := bne_eq_false_iff_eq.mpr c5
       clear c5
       replace H := Option.bind_eq_some_iff.mp H
       obtain ⟨t122, A60, H⟩ := H
       replace H : (if t122 = true then ((token_Right.f 0 ([] : List Int) 0 ([] : List Int)).bind fun t123 => (some (!t123))) else (some false)) = some r := H
       have A6 := Aside0.mk A60
       clear A60
       by_cases c7 : t122 = true
       · subst c7
         have H1 : ((token_Right.f 0 ([] : List Int) 0 ([] : List Int)).bind fun t123 => (some (!t123))) = some r := by rw [if_pos rfl] at H; exact H
         clear H
         have H := H1
         clear H1
         replace H := Option.bind_eq_some_iff.mp H
         obtain ⟨t123, A80, H⟩ := H
         replace H : (some (!t123)) = some r := H
         have A8 := Aside0.mk A80
         clear A80
         obtain rfl := Option.some.inj H
         go_enter Try.func11, Try.ntmps11
         go_wp2_with (first | ((with_reducible refine gate_dst (N := 6) rfl ?_); (try (refine gate_guard (by rfl) ?_; dsimp only)); refine Kd.R_lit (Kd.int .i64) _ 3 ?hg (N := 6) ?hd (xs := ([1] : List Int)) (inner := [.int .i64 1]) (ok := fun _ => True) (okp := fun _ => True) ?hr ?hp (fun _ hk => hk) trivial (Below.refl _ _) (Nat.le_refl _) (by simp) ?_; (case hd => rfl); (case hg => rfl); (case hr => first | (go_simp; done) | (go_simp; rfl)); (case hp => exact (Reps.one (show Kd.M (Kd.int .i64) _ _ _ 1 [.int .i64 1] from rfl) (Reps.none _ _))); intro v102 w9 ho10 hb hg_ hnew_; clear hg_ hnew_; (first | rw [← Ny101.out] at ho10 | (simp only [Int.reduceToNat] at ho10; rw [← Ny101.out] at ho10)); have n0_ := Aside0.mk (Kd.R_lower ho10 (below_size (by repeat (first | (with_reducible first | exact HB.out | apply below_alloc | apply pw_below_drewN | apply below_drew1) | exact HB.out)))); have n1_ := Aside0.mk (below_step (by repeat (first | (with_reducible first | exact HB.out | apply below_alloc | apply pw_below_drewN | apply below_drew1) | exact HB.out)) hb); clear HB; have HO103 := n0_; have HB := n1_; clear n0_ n1_; clear hb ho10; obtain ⟨Ao11, co11, eo11⟩ := Kd.R_slice HO103.out; subst eo11) | ((with_reducible refine gate_dst (N := 8) rfl ?_); (try (refine gate_guard (by rfl) ?_; dsimp only)); refine Kd.R_lit (Kd.int .u8) _ 5 ?hg (N := 8) ?hd (xs := ([0] : List Int)) (inner := [.int .u8 0]) (ok := fun _ => True) (okp := fun _ => True) ?hr ?hp (fun _ hk => hk) trivial (Below.refl _ _) (Nat.le_refl _) (by simp) ?_; (case hd => rfl); (case hg => rfl); (case hr => first | (go_simp; done) | (go_simp; rfl)); (case hp => exact (Reps.one (show Kd.M (Kd.int .u8) _ _ _ 0 [.int .u8 0] from rfl) (Reps.none _ _))); intro v105 w12 ho13 hb hg_ hnew_; clear hg_ hnew_; (first | rw [← Ny104.out] at ho13 | (simp only [Int.reduceToNat] at ho13; rw [← Ny104.out] at ho13)); have n0_ := Aside0.mk (Kd.R_below (by (with_reducible repeat (first | apply Kd.R_alloc | apply Kd.R_drewN | apply Kd.R_drew)); exact HO103.out) hb); have n1_ := Aside0.mk (Kd.R_lower ho13 (below_size (by repeat (first | (with_reducible first | exact HB.out | apply below_alloc | apply pw_below_drewN | apply below_drew1) | exact HB.out)))); have n2_ := Aside0.mk (below_step (by repeat (first | (with_reducible first | exact HB.out | apply below_alloc | apply pw_below_drewN | apply below_drew1) | exact HB.out)) hb); clear HO103; clear HB; have HO103 := n0_; have HO106 := n1_; have HB := n2_; clear n0_ n1_ n2_; clear hb ho13; obtain ⟨Ao14, co14, eo14⟩ := Kd.R_slice HO106.out; subst eo14) | ((with_reducible refine gate_dst (N := 1) rfl ?_); (try (refine gate_guard (by rfl) ?_; dsimp only)); refine box_event ?hg (N := 1) ?hd (cs := #[.int .u64 0, .slice none 0 0, .int .u32 0, .slice none 0 0]) (t := 29) ?hr ?_; (case hd => rfl); (case hg => rfl); (case hr => first | (go_simp; done) | (go_simp; rfl)); intro gb107 hg w15 hbox hb; have n0_ := Aside0.mk (Kd.R_below (by (with_reducible repeat (first | apply Kd.R_alloc | apply Kd.R_drewN | apply Kd.R_drew)); exact HO103.out) hb); have n1_ := Aside0.mk (Kd.R_below (by (with_reducible repeat (first | apply Kd.R_alloc | apply Kd.R_drewN | apply Kd.R_drew)); exact HO106.out) hb); have n2_ := Aside0.mk (below_step (by repeat (first | (with_reducible first | exact HB.out | apply below_alloc | apply pw_below_drewN | apply below_drew1) | exact HB.out)) hb); have n3_ := Aside0.mk (hbox); have n4_ := Aside0.mk ((by rw [hg]; exact (below_size (by repeat (first | (with_reducible first | exact HB.out | apply below_alloc | apply pw_below_drewN | apply below_drew1) | exact HB.out))) : w.heap.size ≤ gb107)); have n5_ := Aside0.mk ((by rw [hg]; exact (below_size (by repeat (first | (with_reducible first | exact HB.out | apply below_alloc | apply pw_below_drewN | apply below_drew1) | exact HB.out))) : w.heap.size ≤ gb107)); clear HO103; clear HO106; clear HB; have HO103 := n0_; have HO106 := n1_; have HB := n2_; have BK107 := n3_; have GW107 := n4_; have GE107 := n5_; clear n0_ n1_ n2_ n3_ n4_ n5_; clear hb hbox hg; have hcz16_0 : w15.cell? ⟨gb107, 0, none⟩ = some (.int .u64 0) := (blk_cell BK107.out 0).trans rfl; have hcz16_1 : w15.cell? ⟨gb107, 1, none⟩ = some (.slice none 0 0) := (blk_cell BK107.out 1).trans rfl; have hcz16_2 : w15.cell? ⟨gb107, 2, none⟩ = some (.int .u32 0) := (blk_cell BK107.out 2).trans rfl; have hcz16_3 : w15.cell? ⟨gb107, 3, none⟩ = some (.slice none 0 0) := (blk_cell BK107.out 3).trans rfl; have hfz16_0 := blk_frozen BK107.out 0; have hfz16_1 := blk_frozen BK107.out 1; have hfz16_2 := blk_frozen BK107.out 2; have hfz16_3 := blk_frozen BK107.out 3) | ((with_reducible refine gate_callee (f := 19) rfl ?_); refine goesL_ (some 12) rfl rfl Try.func19 (by kernel_rfl) rfl #[.agg #[.int .u64 0, .slice Ao11 y101.length co11, .int .u32 0, .slice Ao14 y104.length co14]] rfl (by (try simp only [List.map_toArray, List.map_cons, List.map_nil]); first | done | rfl | (simp only [List.length_drop, List.length_take]; rfl)) ?_; (with_reducible refine (token_Encode_c.calls 0 _ _ y101 0 _ _ y104 t108 t111 _ ?side1 ?side2 ?side3 ?side4 A1.out).mono ?_); (case side1 => refine (Kd.R_reads' (e := 3) (base := w.heap.size) (ok := fun k_ => True) (n := y101.length) (c := co11) ?_).2.2; exact (by (with_reducible repeat (first | apply Kd.R_alloc | apply Kd.R_drewN | apply Kd.R_drew)); exact (Kd.R_mono (Kd.R_far (p := ⟨gb107, 3, none⟩) (Kd.R_far (p := ⟨gb107, 2, none⟩) (Kd.R_far (p := ⟨gb107, 1, none⟩) (Kd.R_far (p := ⟨gb107, 0, none⟩) (Kd.R_types HO103.out BK107.out (by decide)) (fun _ hk => hk.2) (.int .u64 0)) (fun _ hk => hk.2) (.slice Ao11 y101.length co11)) (fun _ hk => hk.2) (.int .u32 0)) (fun _ hk => hk.2) (.slice Ao14 y104.length co14)) (fun _ h_ => h_.1)))); (case side2 => exact (Kd.R_reads' HO103.out).2.1); (case side3 => refine (Kd.R_reads' (e := 5) (base := w.heap.size) (ok := fun k_ => True) (n := y104.length) (c := co14) ?_).2.2; exact (by (with_reducible repeat (first | apply Kd.R_alloc | apply Kd.R_drewN | apply Kd.R_drew)); exact (Kd.R_mono (Kd.R_far (p := ⟨gb107, 3, none⟩) (Kd.R_far (p := ⟨gb107, 2, none⟩) (Kd.R_far (p := ⟨gb107, 1, none⟩) (Kd.R_far (p := ⟨gb107, 0, none⟩) (Kd.R_types HO106.out BK107.out (by decide)) (fun _ hk => hk.2) (.int .u64 0)) (fun _ hk => hk.2) (.slice Ao11 y101.length co11)) (fun _ hk => hk.2) (.int .u32 0)) (fun _ hk => hk.2) (.slice Ao14 y104.length co14)) (fun _ h_ => h_.1)))); (case side4 => exact (Kd.R_reads' HO106.out).2.1); rintro e w17 ⟨v109, rfl, ho0, hb⟩; refine ⟨_, rfl, ?_⟩; have n0_ := Aside0.mk (Kd.R_below (by (with_reducible repeat (first | apply Kd.R_alloc | apply Kd.R_drewN | apply Kd.R_drew)); exact (Kd.R_mono (Kd.R_far (p := ⟨gb107, 3, none⟩) (Kd.R_far (p := ⟨gb107, 2, none⟩) (Kd.R_far (p := ⟨gb107, 1, none⟩) (Kd.R_far (p := ⟨gb107, 0, none⟩) (Kd.R_types HO103.out BK107.out (by decide)) (fun _ hk => hk.2) (.int .u64 0)) (fun _ hk => hk.2) (.slice Ao11 y101.length co11)) (fun _ hk => hk.2) (.int .u32 0)) (fun _ hk => hk.2) (.slice Ao14 y104.length co14)) (fun _ h_ => h_.1))) hb); have n1_ := Aside0.mk (Kd.R_elder' (by (with_reducible repeat (first | apply Kd.R_alloc | apply Kd.R_drewN | apply Kd.R_drew)); exact (Kd.R_mono (Kd.R_far (p := ⟨gb107, 3, none⟩) (Kd.R_far (p := ⟨gb107, 2, none⟩) (Kd.R_far (p := ⟨gb107, 1, none⟩) (Kd.R_far (p := ⟨gb107, 0, none⟩) (Kd.R_types HO106.out BK107.out (by decide)) (fun _ hk => hk.2) (.int .u64 0)) (fun _ hk => hk.2) (.slice Ao11 y101.length co11)) (fun _ hk => hk.2) (.int .u32 0)) (fun _ hk => hk.2) (.slice Ao14 y104.length co14)) (fun _ h_ => h_.1))) (Kd.R_base ho0) hb); have n2_ := Aside0.mk (Kd.R_lower (Kd.R_new' ho0 (Kd.R_lt (by (with_reducible repeat (first | apply Kd.R_alloc | apply Kd.R_drewN | apply Kd.R_drew)); exact (Kd.R_mono (Kd.R_far (p := ⟨gb107, 3, none⟩) (Kd.R_far (p := ⟨gb107, 2, none⟩) (Kd.R_far (p := ⟨gb107, 1, none⟩) (Kd.R_far (p := ⟨gb107, 0, none⟩) (Kd.R_types HO106.out BK107.out (by decide)) (fun _ hk => hk.2) (.int .u64 0)) (fun _ hk => hk.2) (.slice Ao11 y101.length co11)) (fun _ hk => hk.2) (.int .u32 0)) (fun _ hk => hk.2) (.slice Ao14 y104.length co14)) (fun _ h_ => h_.1))))) (below_size (by repeat (first | (with_reducible first | exact HB.out | apply below_alloc | apply pw_below_drewN | apply below_drew1 | refine below_set ?_ GE107.out) | exact HB.out)))); have n3_ := Aside0.mk (blk_below (g := gb107) (o := .cells #[.int .u64 0, .slice Ao11 y101.length co11, .int .u32 0, .slice Ao14 y104.length co14] 29 (0, 0)) (by (with_reducible repeat (first | refine blk_drewN ?_ _ | refine blk_drew ?_ | refine blk_alloc ?_ _)); refine blk_put (cs := #[.int .u64 0, .slice Ao11 y101.length co11, .int .u32 0, .slice none 0 0]) ?_ 3 _ rfl; (with_reducible repeat (first | refine blk_drewN ?_ _ | refine blk_drew ?_ | refine blk_alloc ?_ _)); refine blk_put (cs := #[.int .u64 0, .slice Ao11 y101.length co11, .int .u32 0, .slice none 0 0]) ?_ 2 _ rfl; (with_reducible repeat (first | refine blk_drewN ?_ _ | refine blk_drew ?_ | refine blk_alloc ?_ _)); refine blk_put (cs := #[.int .u64 0, .slice none 0 0, .int .u32 0, .slice none 0 0]) ?_ 1 _ rfl; (with_reducible repeat (first | refine blk_drewN ?_ _ | refine blk_drew ?_ | refine blk_alloc ?_ _)); refine blk_put (cs := #[.int .u64 0, .slice none 0 0, .int .u32 0, .slice none 0 0]) ?_ 0 _ rfl; (with_reducible repeat (first | refine blk_drewN ?_ _ | refine blk_drew ?_ | refine blk_alloc ?_ _)); exact BK107.out) hb); have n4_ := Aside0.mk (below_step (by repeat (first | (with_reducible first | exact HB.out | apply below_alloc | apply pw_below_drewN | apply below_drew1 | refine below_set ?_ GE107.out) | exact HB.out)) hb); clear HO103; clear HO106; clear BK107; clear HB; have HO103 := n0_; have HO106 := n1_; have HO110 := n2_; have BK107 := n3_; have HB := n4_; clear n0_ n1_ n2_ n3_ n4_; (try clear hb); (try clear hb2); (try clear hk); (try clear hi); (try clear ho0); obtain ⟨Ao18, co18, eo18⟩ := Kd.R_slice HO110.out; subst eo18) | ((with_reducible refine gate_callee (f := 20) rfl ?_); refine goesL_ (some 17) rfl rfl Try.func20 (by kernel_rfl) rfl #[.slice Ao18 t108.length co18] rfl (by (try simp only [List.map_toArray, List.map_cons, List.map_nil]); first | done | rfl | (simp only [List.length_drop, List.length_take]; rfl)) ?_; (with_reducible refine (token_Decode.calls _ _ t108 t112 t113 t116 t117 t120 _ ?side1 ?side2 A2.out).mono ?_); (case side1 => repeat (first | exact (Kd.R_reads' HO110.out).2.2 | (with_reducible refine Kd.C_alloc ?_ _) | (with_reducible refine Kd.C_drewN ?_ _) | (with_reducible refine Kd.C_drew ?_))); (case side2 => exact (Kd.R_reads' HO110.out).2.1); rintro e w19 ⟨v114, v118, rfl, ho0, ho1, hb⟩; refine ⟨_, rfl, ?_⟩; have n0_ := Aside0.mk (Kd.R_elder' (by (with_reducible repeat (first | apply Kd.R_alloc | apply Kd.R_drewN | apply Kd.R_drew)); exact HO103.out) (Kd.R_base ho0) hb); have n1_ := Aside0.mk (Kd.R_elder' (by (with_reducible repeat (first | apply Kd.R_alloc | apply Kd.R_drewN | apply Kd.R_drew)); exact HO106.out) (Kd.R_base ho1) hb); have n2_ := Aside0.mk (Kd.R_elder' (by (with_reducible repeat (first | apply Kd.R_alloc | apply Kd.R_drewN | apply Kd.R_drew)); exact HO110.out) (Kd.R_base ho1) hb); have n3_ := Aside0.mk (Kd.R_lower (Kd.R_new' ho0 (Kd.R_lt (by (with_reducible repeat (first | apply Kd.R_alloc | apply Kd.R_drewN | apply Kd.R_drew)); exact HO103.out))) (below_size (by repeat (first | (with_reducible first | exact HB.out | apply below_alloc | apply pw_below_drewN | apply below_drew1 | refine below_set ?_ GE107.out) | exact HB.out)))); have n4_ := Aside0.mk (Kd.R_lower (Kd.R_new' (Kd.R_new' ho1 (Kd.R_lt (by (with_reducible repeat (first | apply Kd.R_alloc | apply Kd.R_drewN | apply Kd.R_drew)); exact HO106.out))) (Kd.R_lt (by (with_reducible repeat (first | apply Kd.R_alloc | apply Kd.R_drewN | apply Kd.R_drew)); exact HO110.out))) (below_size (by repeat (first | (with_reducible first | exact HB.out | apply below_alloc | apply pw_below_drewN | apply below_drew1 | refine below_set ?_ GE107.out) | exact HB.out)))); have n5_ := Aside0.mk (blk_below (g := gb107) (o := .cells #[.int .u64 0, .slice Ao11 y101.length co11, .int .u32 0, .slice Ao14 y104.length co14] 29 (0, 0)) (by (with_reducible repeat (first | refine blk_drewN ?_ _ | refine blk_drew ?_ | refine blk_alloc ?_ _)); exact BK107.out) hb); have n6_ := Aside0.mk (below_step (by repeat (first | (with_reducible first | exact HB.out | apply below_alloc | apply pw_below_drewN | apply below_drew1 | refine below_set ?_ GE107.out) | exact HB.out)) hb); clear HO103; clear HO106; clear HO110; clear BK107; clear HB; have HO103 := n0_; have HO106 := n1_; have HO110 := n2_; have HO115 := n3_; have HO119 := n4_; have BK107 := n5_; have HB := n6_; clear n0_ n1_ n2_ n3_ n4_ n5_ n6_; (try clear hb); (try clear hb2); (try clear hk); (try clear hi); (try clear ho0); (try clear ho1)) | ((with_reducible refine gate_dst (N := 4) rfl ?_); (try (refine gate_guard (by rfl) ?_; dsimp only)); refine box_event ?hg (N := 4) ?hd (cs := #[.int .u64 0, .slice none 0 0, .int .u32 0, .slice none 0 0]) (t := 29) ?hr ?_; (case hd => rfl); (case hg => rfl); (case hr => first | (go_simp; done) | (go_simp; rfl)); intro gb121 hg w20 hbox hb; have n0_ := Aside0.mk (Kd.R_below (by (with_reducible repeat (first | apply Kd.R_alloc | apply Kd.R_drewN | apply Kd.R_drew)); exact HO103.out) hb); have n1_ := Aside0.mk (Kd.R_below (by (with_reducible repeat (first | apply Kd.R_alloc | apply Kd.R_drewN | apply Kd.R_drew)); exact HO106.out) hb); have n2_ := Aside0.mk (Kd.R_below (by (with_reducible repeat (first | apply Kd.R_alloc | apply Kd.R_drewN | apply Kd.R_drew)); exact HO110.out) hb); have n3_ := Aside0.mk (Kd.R_below (by (with_reducible repeat (first | apply Kd.R_alloc | apply Kd.R_drewN | apply Kd.R_drew)); exact HO115.out) hb); have n4_ := Aside0.mk (Kd.R_below (by (with_reducible repeat (first | apply Kd.R_alloc | apply Kd.R_drewN | apply Kd.R_drew)); exact HO119.out) hb); have n5_ := Aside0.mk (blk_below (g := gb107) (o := .cells #[.int .u64 0, .slice Ao11 y101.length co11, .int .u32 0, .slice Ao14 y104.length co14] 29 (0, 0)) (by (with_reducible repeat (first | refine blk_drewN ?_ _ | refine blk_drew ?_ | refine blk_alloc ?_ _)); exact BK107.out) hb); have n6_ := Aside0.mk (below_step (by repeat (first | (with_reducible first | exact HB.out | apply below_alloc | apply pw_below_drewN | apply below_drew1 | refine below_set ?_ GE107.out) | exact HB.out)) hb); have n7_ := Aside0.mk (hbox); have n8_ := Aside0.mk ((by rw [hg]; exact (below_size (by repeat (first | (with_reducible first | exact HB.out | apply below_alloc | apply pw_below_drewN | apply below_drew1 | refine below_set ?_ GE107.out) | exact HB.out))) : w.heap.size ≤ gb121)); have n9_ := Aside0.mk ((by rw [hg]; exact (below_size (by repeat (first | (with_reducible first | exact HB.out | apply below_alloc | apply pw_below_drewN | apply below_drew1 | refine below_set ?_ GE107.out) | exact HB.out))) : w.heap.size ≤ gb121)); have n10_ := Aside0.mk ((by rw [hg]; exact Nat.ne_of_lt (blk_lt (g := gb107) (o := .cells #[.int .u64 0, .slice Ao11 y101.length co11, .int .u32 0, .slice Ao14 y104.length co14] 29 (0, 0)) (by (with_reducible repeat (first | refine blk_drewN ?_ _ | refine blk_drew ?_ | refine blk_alloc ?_ _)); exact BK107.out)) : gb107 ≠ gb121)); have n11_ := Aside0.mk ((by rw [hg]; exact Nat.ne_of_gt (blk_lt (g := gb107) (o := .cells #[.int .u64 0, .slice Ao11 y101.length co11, .int .u32 0, .slice Ao14 y104.length co14] 29 (0, 0)) (by (with_reducible repeat (first | refine blk_drewN ?_ _ | refine blk_drew ?_ | refine blk_alloc ?_ _)); exact BK107.out)) : gb121 ≠ gb107)); clear HO103; clear HO106; clear HO110; clear HO115; clear HO119; clear BK107; clear HB; have HO103 := n0_; have HO106 := n1_; have HO110 := n2_; have HO115 := n3_; have HO119 := n4_; have BK107 := n5_; have HB := n6_; have BK121 := n7_; have GW121 := n8_; have GE121 := n9_; have NB107_121 := n10_; have NB121_107 := n11_; clear n0_ n1_ n2_ n3_ n4_ n5_ n6_ n7_ n8_ n9_ n10_ n11_; clear hb hbox hg; have hnb21 := NB121_107.out; have hnc21 := NB107_121.out; have hcz22_0 : w20.cell? ⟨gb121, 0, none⟩ = some (.int .u64 0) := (blk_cell BK121.out 0).trans rfl; have hcz22_1 : w20.cell? ⟨gb121, 1, none⟩ = some (.slice none 0 0) := (blk_cell BK121.out 1).trans rfl; have hcz22_2 : w20.cell? ⟨gb121, 2, none⟩ = some (.int .u32 0) := (blk_cell BK121.out 2).trans rfl; have hcz22_3 : w20.cell? ⟨gb121, 3, none⟩ = some (.slice none 0 0) := (blk_cell BK121.out 3).trans rfl; have hfz22_0 := blk_frozen BK121.out 0; have hfz22_1 := blk_frozen BK121.out 1; have hfz22_2 := blk_frozen BK121.out 2; have hfz22_3 := blk_frozen BK121.out 3; obtain ⟨Ao23, co23, eo23⟩ := Kd.R_slice HO115.out; subst eo23; obtain ⟨Ao24, co24, eo24⟩ := Kd.R_slice HO119.out; subst eo24; have hcz25_0 : w20.cell? ⟨gb107, 0, none⟩ = some (.int .u64 0) := (blk_cell BK107.out 0).trans rfl; have hcz25_1 : w20.cell? ⟨gb107, 1, none⟩ = some (.slice Ao11 y101.length co11) := (blk_cell BK107.out 1).trans rfl; have hcz25_2 : w20.cell? ⟨gb107, 2, none⟩ = some (.int .u32 0) := (blk_cell BK107.out 2).trans rfl; have hcz25_3 : w20.cell? ⟨gb107, 3, none⟩ = some (.slice Ao14 y104.length co14) := (blk_cell BK107.out 3).trans rfl; have hfz25_0 := blk_frozen BK107.out 0; have hfz25_1 := blk_frozen BK107.out 1; have hfz25_2 := blk_frozen BK107.out 2; have hfz25_3 := blk_frozen BK107.out 3) | (go_at_call 17; (with_reducible refine (token_Same.calls 0 _ _ y101 0 _ _ y104 t112 _ _ t113 t116 _ _ t117 true _ ?side1 ?side2 ?side3 ?side4 ?side5 ?side6 ?side7 ?side8 A6.out).mono ?_); (case side1 => refine (Kd.R_reads' (e := 3) (base := w.heap.size) (ok := fun k_ => (True ∧ some k_ ≠ (.slice Ao23 t113.length co23 : Value).ownBlock)) (n := y101.length) (c := co11) ?_).2.2; exact (by (with_reducible repeat (first | apply Kd.R_alloc | apply Kd.R_drewN | apply Kd.R_drew)); exact (Kd.R_mono (Kd.R_far (p := ⟨gb121, 3, none⟩) (Kd.R_far (p := ⟨gb121, 2, none⟩) (Kd.R_far (p := ⟨gb121, 1, none⟩) (Kd.R_far (p := ⟨gb121, 0, none⟩) (Kd.R_types HO103.out BK121.out (by decide)) (fun _ hk => hk.2) (.int .u64 t112)) (fun _ hk => hk.2) (.slice Ao23 t113.length co23)) (fun _ hk => hk.2) (.int .u32 t116)) (fun _ hk => hk.2) (.slice Ao24 t117.length co24)) (fun _ h_ => h_.1)))); (case side2 => exact (Kd.R_reads' HO103.out).2.1); (case side3 => refine (Kd.R_reads' (e := 5) (base := w.heap.size) (ok := fun k_ => ((True ∧ some k_ ≠ (.slice Ao18 t108.length co18 : Value).ownBlock) ∧ some k_ ≠ (.slice Ao24 t117.length co24 : Value).ownBlock)) (n := y104.length) (c := co14) ?_).2.2; exact (by (with_reducible repeat (first | apply Kd.R_alloc | apply Kd.R_drewN | apply Kd.R_drew)); exact (Kd.R_mono (Kd.R_far (p := ⟨gb121, 3, none⟩) (Kd.R_far (p := ⟨gb121, 2, none⟩) (Kd.R_far (p := ⟨gb121, 1, none⟩) (Kd.R_far (p := ⟨gb121, 0, none⟩) (Kd.R_types HO106.out BK121.out (by decide)) (fun _ hk => hk.2) (.int .u64 t112)) (fun _ hk => hk.2) (.slice Ao23 t113.length co23)) (fun _ hk => hk.2) (.int .u32 t116)) (fun _ hk => hk.2) (.slice Ao24 t117.length co24)) (fun _ h_ => h_.1)))); (case side4 => exact (Kd.R_reads' HO106.out).2.1); (case side5 => refine (Kd.R_reads' (e := 3) (base := w.heap.size) (ok := fun k_ => (True ∧ some k_ ≠ (.slice Ao11 y101.length co11 : Value).ownBlock)) (n := t113.length) (c := co23) ?_).2.2; exact (by (with_reducible repeat (first | apply Kd.R_alloc | apply Kd.R_drewN | apply Kd.R_drew)); exact (Kd.R_mono (Kd.R_far (p := ⟨gb121, 3, none⟩) (Kd.R_far (p := ⟨gb121, 2, none⟩) (Kd.R_far (p := ⟨gb121, 1, none⟩) (Kd.R_far (p := ⟨gb121, 0, none⟩) (Kd.R_types HO115.out BK121.out (by decide)) (fun _ hk => hk.2) (.int .u64 t112)) (fun _ hk => hk.2) (.slice Ao23 t113.length co23)) (fun _ hk => hk.2) (.int .u32 t116)) (fun _ hk => hk.2) (.slice Ao24 t117.length co24)) (fun _ h_ => h_.1)))); (case side6 => exact (Kd.R_reads' HO115.out).2.1); (case side7 => refine (Kd.R_reads' (e := 5) (base := w.heap.size) (ok := fun k_ => ((True ∧ some k_ ≠ (.slice Ao14 y104.length co14 : Value).ownBlock) ∧ some k_ ≠ (.slice Ao18 t108.length co18 : Value).ownBlock)) (n := t117.length) (c := co24) ?_).2.2; exact (by (with_reducible repeat (first | apply Kd.R_alloc | apply Kd.R_drewN | apply Kd.R_drew)); exact (Kd.R_mono (Kd.R_far (p := ⟨gb121, 3, none⟩) (Kd.R_far (p := ⟨gb121, 2, none⟩) (Kd.R_far (p := ⟨gb121, 1, none⟩) (Kd.R_far (p := ⟨gb121, 0, none⟩) (Kd.R_types HO119.out BK121.out (by decide)) (fun _ hk => hk.2) (.int .u64 t112)) (fun _ hk => hk.2) (.slice Ao23 t113.length co23)) (fun _ hk => hk.2) (.int .u32 t116)) (fun _ hk => hk.2) (.slice Ao24 t117.length co24)) (fun _ h_ => h_.1)))); (case side8 => exact (Kd.R_reads' HO119.out).2.1); rintro e w26 ⟨rfl, hb⟩; have n0_ := Aside0.mk (Kd.R_below (by (with_reducible repeat (first | apply Kd.R_alloc | apply Kd.R_drewN | apply Kd.R_drew)); exact (Kd.R_mono (Kd.R_far (p := ⟨gb121, 3, none⟩) (Kd.R_far (p := ⟨gb121, 2, none⟩) (Kd.R_far (p := ⟨gb121, 1, none⟩) (Kd.R_far (p := ⟨gb121, 0, none⟩) (Kd.R_types HO103.out BK121.out (by decide)) (fun _ hk => hk.2) (.int .u64 t112)) (fun _ hk => hk.2) (.slice Ao23 t113.length co23)) (fun _ hk => hk.2) (.int .u32 t116)) (fun _ hk => hk.2) (.slice Ao24 t117.length co24)) (fun _ h_ => h_.1))) hb); have n1_ := Aside0.mk (Kd.R_below (by (with_reducible repeat (first | apply Kd.R_alloc | apply Kd.R_drewN | apply Kd.R_drew)); exact (Kd.R_mono (Kd.R_far (p := ⟨gb121, 3, none⟩) (Kd.R_far (p := ⟨gb121, 2, none⟩) (Kd.R_far (p := ⟨gb121, 1, none⟩) (Kd.R_far (p := ⟨gb121, 0, none⟩) (Kd.R_types HO106.out BK121.out (by decide)) (fun _ hk => hk.2) (.int .u64 t112)) (fun _ hk => hk.2) (.slice Ao23 t113.length co23)) (fun _ hk => hk.2) (.int .u32 t116)) (fun _ hk => hk.2) (.slice Ao24 t117.length co24)) (fun _ h_ => h_.1))) hb); have n2_ := Aside0.mk (Kd.R_below (by (with_reducible repeat (first | apply Kd.R_alloc | apply Kd.R_drewN | apply Kd.R_drew)); exact (Kd.R_mono (Kd.R_far (p := ⟨gb121, 3, none⟩) (Kd.R_far (p := ⟨gb121, 2, none⟩) (Kd.R_far (p := ⟨gb121, 1, none⟩) (Kd.R_far (p := ⟨gb121, 0, none⟩) (Kd.R_types HO110.out BK121.out (by decide)) (fun _ hk => hk.2) (.int .u64 t112)) (fun _ hk => hk.2) (.slice Ao23 t113.length co23)) (fun _ hk => hk.2) (.int .u32 t116)) (fun _ hk => hk.2) (.slice Ao24 t117.length co24)) (fun _ h_ => h_.1))) hb); have n3_ := Aside0.mk (Kd.R_below (by (with_reducible repeat (first | apply Kd.R_alloc | apply Kd.R_drewN | apply Kd.R_drew)); exact (Kd.R_mono (Kd.R_far (p := ⟨gb121, 3, none⟩) (Kd.R_far (p := ⟨gb121, 2, none⟩) (Kd.R_far (p := ⟨gb121, 1, none⟩) (Kd.R_far (p := ⟨gb121, 0, none⟩) (Kd.R_types HO115.out BK121.out (by decide)) (fun _ hk => hk.2) (.int .u64 t112)) (fun _ hk => hk.2) (.slice Ao23 t113.length co23)) (fun _ hk => hk.2) (.int .u32 t116)) (fun _ hk => hk.2) (.slice Ao24 t117.length co24)) (fun _ h_ => h_.1))) hb); have n4_ := Aside0.mk (Kd.R_below (by (with_reducible repeat (first | apply Kd.R_alloc | apply Kd.R_drewN | apply Kd.R_drew)); exact (Kd.R_mono (Kd.R_far (p := ⟨gb121, 3, none⟩) (Kd.R_far (p := ⟨gb121, 2, none⟩) (Kd.R_far (p := ⟨gb121, 1, none⟩) (Kd.R_far (p := ⟨gb121, 0, none⟩) (Kd.R_types HO119.out BK121.out (by decide)) (fun _ hk => hk.2) (.int .u64 t112)) (fun _ hk => hk.2) (.slice Ao23 t113.length co23)) (fun _ hk => hk.2) (.int .u32 t116)) (fun _ hk => hk.2) (.slice Ao24 t117.length co24)) (fun _ h_ => h_.1))) hb); have n5_ := Aside0.mk (blk_below (g := gb107) (o := .cells #[.int .u64 0, .slice Ao11 y101.length co11, .int .u32 0, .slice Ao14 y104.length co14] 29 (0, 0)) (by (with_reducible repeat (first | refine blk_drewN ?_ _ | refine blk_drew ?_ | refine blk_alloc ?_ _)); refine blk_far ?_ NB107_121.out _; (with_reducible repeat (first | refine blk_drewN ?_ _ | refine blk_drew ?_ | refine blk_alloc ?_ _)); refine blk_far ?_ NB107_121.out _; (with_reducible repeat (first | refine blk_drewN ?_ _ | refine blk_drew ?_ | refine blk_alloc ?_ _)); refine blk_far ?_ NB107_121.out _; (with_reducible repeat (first | refine blk_drewN ?_ _ | refine blk_drew ?_ | refine blk_alloc ?_ _)); refine blk_far ?_ NB107_121.out _; (with_reducible repeat (first | refine blk_drewN ?_ _ | refine blk_drew ?_ | refine blk_alloc ?_ _)); exact BK107.out) hb); have n6_ := Aside0.mk (blk_below (g := gb121) (o := .cells #[.int .u64 t112, .slice Ao23 t113.length co23, .int .u32 t116, .slice Ao24 t117.length co24] 29 (0, 0)) (by (with_reducible repeat (first | refine blk_drewN ?_ _ | refine blk_drew ?_ | refine blk_alloc ?_ _)); refine blk_put (cs := #[.int .u64 t112, .slice Ao23 t113.length co23, .int .u32 t116, .slice none 0 0]) ?_ 3 _ rfl; (with_reducible repeat (first | refine blk_drewN ?_ _ | refine blk_drew ?_ | refine blk_alloc ?_ _)); refine blk_put (cs := #[.int .u64 t112, .slice Ao23 t113.length co23, .int .u32 0, .slice none 0 0]) ?_ 2 _ rfl; (with_reducible repeat (first | refine blk_drewN ?_ _ | refine blk_drew ?_ | refine blk_alloc ?_ _)); refine blk_put (cs := #[.int .u64 t112, .slice none 0 0, .int .u32 0, .slice none 0 0]) ?_ 1 _ rfl; (with_reducible repeat (first | refine blk_drewN ?_ _ | refine blk_drew ?_ | refine blk_alloc ?_ _)); refine blk_put (cs := #[.int .u64 0, .slice none 0 0, .int .u32 0, .slice none 0 0]) ?_ 0 _ rfl; (with_reducible repeat (first | refine blk_drewN ?_ _ | refine blk_drew ?_ | refine blk_alloc ?_ _)); exact BK121.out) hb); have n7_ := Aside0.mk (below_step (by repeat (first | (with_reducible first | exact HB.out | apply below_alloc | apply pw_below_drewN | apply below_drew1 | refine below_set ?_ GE107.out | refine below_set ?_ GE121.out) | exact HB.out)) hb); clear HO103; clear HO106; clear HO110; clear HO115; clear HO119; clear BK107; clear BK121; clear HB; have HO103 := n0_; have HO106 := n1_; have HO110 := n2_; have HO115 := n3_; have HO119 := n4_; have BK107 := n5_; have BK121 := n6_; have HB := n7_; clear n0_ n1_ n2_ n3_ n4_ n5_ n6_ n7_; (try clear hb); (try clear hb2); (try clear hk); (try clear hi)) | (go_at_call 24; (refine (token_Right.calls 0 _ _ ([] : List Int) 0 _ _ ([] : List Int) t123 _ ?side1 ?side2 ?side3 ?side4 A8.out).mono ?_); (case side1 => exact Kd.C_nil _ _); (case side2 => exact Nat.le_refl _); (case side3 => exact Kd.C_nil _ _); (case side4 => exact Nat.le_refl _); rintro e w27 ⟨rfl, hb⟩; have n0_ := Aside0.mk (Kd.R_below (by (with_reducible repeat (first | apply Kd.R_alloc | apply Kd.R_drewN | apply Kd.R_drew)); exact HO103.out) hb); have n1_ := Aside0.mk (Kd.R_below (by (with_reducible repeat (first | apply Kd.R_alloc | apply Kd.R_drewN | apply Kd.R_drew)); exact HO106.out) hb); have n2_ := Aside0.mk (Kd.R_below (by (with_reducible repeat (first | apply Kd.R_alloc | apply Kd.R_drewN | apply Kd.R_drew)); exact HO110.out) hb); have n3_ := Aside0.mk (Kd.R_below (by (with_reducible repeat (first | apply Kd.R_alloc | apply Kd.R_drewN | apply Kd.R_drew)); exact HO115.out) hb); have n4_ := Aside0.mk (Kd.R_below (by (with_reducible repeat (first | apply Kd.R_alloc | apply Kd.R_drewN | apply Kd.R_drew)); exact HO119.out) hb); have n5_ := Aside0.mk (blk_below (g := gb107) (o := .cells #[.int .u64 0, .slice Ao11 y101.length co11, .int .u32 0, .slice Ao14 y104.length co14] 29 (0, 0)) (by (with_reducible repeat (first | refine blk_drewN ?_ _ | refine blk_drew ?_ | refine blk_alloc ?_ _)); exact BK107.out) hb); have n6_ := Aside0.mk (blk_below (g := gb121) (o := .cells #[.int .u64 t112, .slice Ao23 t113.length co23, .int .u32 t116, .slice Ao24 t117.length co24] 29 (0, 0)) (by (with_reducible repeat (first | refine blk_drewN ?_ _ | refine blk_drew ?_ | refine blk_alloc ?_ _)); exact BK121.out) hb); have n7_ := Aside0.mk (below_step (by repeat (first | (with_reducible first | exact HB.out | apply below_alloc | apply pw_below_drewN | apply below_drew1 | refine below_set ?_ GE107.out | refine below_set ?_ GE121.out) | exact HB.out)) hb); clear HO103; clear HO106; clear HO110; clear HO115; clear HO119; clear BK107; clear BK121; clear HB; have HO103 := n0_; have HO106 := n1_; have HO110 := n2_; have HO115 := n3_; have HO119 := n4_; have BK107 := n5_; have BK121 := n6_; have HB := n7_; clear n0_ n1_ n2_ n3_ n4_ n5_ n6_ n7_; (try clear hb); (try clear hb2); (try clear hk); (try clear hi)))
         go_ret
         exact ⟨by first | rfl | (simp [errW_none, errW_some] <;> rfl) | (simp [*, errW_none, errW_some] <;> rfl), by repeat (first | (with_reducible first | exact HB.out | apply below_alloc | apply pw_below_drewN | apply below_drew1 | refine below_set ?_ GE107.out | refine below_set ?_ GE121.out) | exact HB.out)⟩
       · replace c7 := Bool.eq_false_iff.mpr c7
         subst c7
         have H1 : (some false) = some r := by rw [if_neg (show ¬ (false = true) by decide)] at H; exact H
         clear H
         have H := H1
         clear H1
         exact absurd H (by rw [hr_.out]; simp)
     · rw [if_neg c5] at H
       have c5b0 : (t120 == 0) = false := beq_eq_false_iff_ne.mpr c5
       have c5b1 : (t120 != 0) = true := bne_iff_ne.mpr c5
       exact absurd H (by rw [hr_.out]; simp)
   · rw [if_neg c4] at H
     have c4b0 : ((t108.length : Int) == 20) = false := beq_eq_false_iff_ne.mpr c4
     have c4b1 : ((t108.length : Int) != 20) = true := bne_iff_ne.mpr c4
     exact absurd H (by rw [hr_.out]; simp)
 · rw [if_neg c3] at H
   have c3b0 : (t111 == 0) = false := beq_eq_false_iff_ne.mpr c3
   have c3b1 : (t111 != 0) = true := bne_iff_ne.mpr c3
   exact absurd H (by rw [hr_.out]; simp)

end Go.Proofs.Ytbijnfhcbanhdaa.F
end

section
namespace Go.Proofs.Ytbijnfhcbanhdaa.F
open Go.RowKit Go.Proofs.YtbijnfhcbanhdaaW.PrintWords Go.Proofs.YtbijnfhcbanhdaaW.PrintLast Go.Proofs.YtbijnfhcbanhdaaW.PrintMore
attribute [local go_sem] max2_int min2_int max_two min_two max_three min_three max_four min_four   -- for this text's walks alone
set_option linter.unusedVariables false
set_option linter.unusedSimpArgs false

def scullerlaw14_known_c.f : Option Bool := some true
theorem scullerlaw14_known_c.to {r : Bool} (h : scullerlaw14_known_c.f = some r) : scullerlaw14_known.f = some r := by
 obtain rfl := Option.some.inj h
 decide +kernel

theorem scullerlaw14_known_c.calls (r : Bool) (w : World) (h : scullerlaw14_known_c.f  = some r) :
 Calls Try.prog 11 #[] w fun e w' => e = .returned (.bool r) ∧ Below w.heap.size w w' := by
 exact scullerlaw14_known.calls r w (scullerlaw14_known_c.to h) ⟨(Option.some.inj h).symm⟩

end Go.Proofs.Ytbijnfhcbanhdaa.F
end

section
namespace Go.Proofs.Ytbijnfhcbanhdaa.F
open Go.RowKit Go.Proofs.YtbijnfhcbanhdaaW.PrintWords Go.Proofs.YtbijnfhcbanhdaaW.PrintLast Go.Proofs.YtbijnfhcbanhdaaW.PrintMore
attribute [local go_sem] max2_int min2_int max_two min_two max_three min_three max_four min_four   -- for this text's walks alone
set_option linter.unusedVariables false
set_option linter.unusedSimpArgs false

/-! ### scullerref03_Get: function 53 -/
mutual
def scullerref03_Get.j0 : Nat → List Int → Int → Bool → Option (Bool)
 | 0, _, _, _ => none
 | k + 1, x0, x1, x15 => if x15 = true then (some false) else (if 0 ≤ (wrap64 (Int.tdiv x1 8)) then (if (wrap64 (Int.tdiv x1 8)) < (x0.length : Int) then (scullerref03_Get.l0 k x1 (wrap64 (rd x0 (wrap64 (Int.tdiv x1 8)))) 0) else (none)) else (none))
def scullerref03_Get.l0 : Nat → Int → Int → Int → Option (Bool)
 | 0, _, _, _ => none
 | k + 1, x1, x5, x6 => if x6 < (Int.tmod x1 8) then (scullerref03_Get.l0 k x1 (wrap64 (Int.tdiv x5 2)) (wrap64 (x6 + 1))) else (some ((Int.tmod x5 2) == 1))
end
def scullerref03_Get.f (k : Nat) (l0 : List Int) (a1 : Int) : Option (Bool) := if a1 < 0 then (scullerref03_Get.j0 k l0 a1 true) else (scullerref03_Get.j0 k l0 a1 (decide ((wrap64 (Int.tdiv a1 8)) ≥ (l0.length : Int))))
theorem scullerref03_Get.mono_l : ∀ k, (∀ y0 y1 y2, LeO (scullerref03_Get.j0 k y0 y1 y2) (scullerref03_Get.j0 (k + 1) y0 y1 y2)) ∧ (∀ y0 y1 y2, LeO (scullerref03_Get.l0 k y0 y1 y2) (scullerref03_Get.l0 (k + 1) y0 y1 y2))
 | 0 => ⟨fun _ _ _ r h => by simp [scullerref03_Get.j0] at h, fun _ _ _ r h => by simp [scullerref03_Get.l0] at h⟩
 | k + 1 => by
   obtain ⟨ih0, ih1⟩ := scullerref03_Get.mono_l k
   refine ⟨?_, ?_⟩
   · intro y0 y1 y2
     unfold scullerref03_Get.j0
     repeat' first
     | (with_reducible exact ih0 _ _ _)
     | (with_reducible exact ih1 _ _ _)
     | (with_reducible exact LeO.refl _)
     | (with_reducible exact LeO.none _)
     | (with_reducible refine LeO.ite ?_ ?_)
     | (with_reducible refine LeO.bind ?_ (fun _ => ?_))
     | exact ih0 _ _ _
     | exact ih1 _ _ _
     | exact LeO.none _
     | refine LeO.ite ?_ ?_
     | refine LeO.bind ?_ (fun _ => ?_)
   · intro y0 y1 y2
     unfold scullerref03_Get.l0
     repeat' first
     | (with_reducible exact ih0 _ _ _)
     | (with_reducible exact ih1 _ _ _)
     | (with_reducible exact LeO.refl _)
     | (with_reducible exact LeO.none _)
     | (with_reducible refine LeO.ite ?_ ?_)
     | (with_reducible refine LeO.bind ?_ (fun _ => ?_))
     | exact ih0 _ _ _
     | exact ih1 _ _ _
     | exact LeO.none _
     | refine LeO.ite ?_ ?_
     | refine LeO.bind ?_ (fun _ => ?_)
theorem scullerref03_Get.mono : ∀ a0 a1 k, LeO (scullerref03_Get.f k a0 a1) (scullerref03_Get.f (k + 1) a0 a1) := by
 intro a0 a1 k
 obtain ⟨ih0, ih1⟩ := scullerref03_Get.mono_l k
 unfold scullerref03_Get.f
 repeat' first
  | (with_reducible exact ih0 _ _ _)
  | (with_reducible exact ih1 _ _ _)
  | (with_reducible exact LeO.refl _)
  | (with_reducible exact LeO.none _)
  | (with_reducible refine LeO.ite ?_ ?_)
  | (with_reducible refine LeO.bind ?_ (fun _ => ?_))
  | exact ih0 _ _ _
  | exact ih1 _ _ _
  | exact LeO.none _
  | refine LeO.ite ?_ ?_
  | refine LeO.bind ?_ (fun _ => ?_)
set_option maxHeartbeats 8000000 in
set_option maxRecDepth 100000 in
theorem scullerref03_Get.calls (k : Nat) (A0 : Option Addr) (c0 : Nat) (l0 : List Int) (a1 : Int) (r : Bool) (w : World) (hr0 : Kd.C (Kd.int .u8) w A0 l0.length l0) (hc0 : l0.length ≤ c0) (h : scullerref03_Get.f k l0 a1 = some r) :
 Calls Try.prog 53 #[.slice A0 l0.length c0, .int .i64 a1] w fun e w' => e = .returned (.bool r) ∧ Drawn0 w w' := by
 have HR0 := Aside0.mk hr0
 have HC0 := Aside0.mk hc0
 clear hr0 hc0
 have H : (if a1 < 0 then (scullerref03_Get.j0 k l0 a1 true) else (scullerref03_Get.j0 k l0 a1 (decide ((wrap64 (Int.tdiv a1 8)) ≥ (l0.length : Int))))) = some r := h
 clear h
 have HC3 := Aside0.mk H
 clear H
 go_enter Try.func53, Try.ntmps53
 go_upto_region 1 with (fail)
 go_cut [15] (fun v15 wc => ∃ (kq : Nat) (x15_2 : Bool), v15 = .bool x15_2 ∧ Aside0 (scullerref03_Get.j0 kq l0 a1 x15_2 = some r) ∧ Aside0 (kq ≤ k) ∧ Drawn0 w wc)
 case first =>
  have H := HC3.out
  clear HC3
  by_cases c4 : a1 < 0
  · rw [if_pos c4] at H
    have c4b0 : decide (a1 < 0) = true := decide_eq_true c4
    clear c4
    (first | rw [c4b0] | (simp only [i64_w, i32_w]; rw [c4b0]) | skip)
    have H' := Aside0.mk H
    clear H
    go_wp2
    go_meet
    case rel => exact ⟨_, (true), (by first | rfl | (simp; done) | (simp [*]; done)), H', ⟨by first | omega | exact Nat.le_refl _⟩, by repeat (first | exact Drawn0.refl _ | apply Drawn0.step)⟩
  · rw [if_neg c4] at H
    have c4b0 : decide (a1 < 0) = false := decide_eq_false c4
    clear c4
    (first | rw [c4b0] | (simp only [i64_w, i32_w]; rw [c4b0]) | skip)
    have H' := Aside0.mk H
    clear H
    go_wp2
    go_meet
    case rel => exact ⟨_, (decide ((wrap64 (Int.tdiv a1 8)) ≥ (l0.length : Int))), (by first | rfl | (simp; done) | (simp [*]; done)), H', ⟨by first | omega | exact Nat.le_refl _⟩, by repeat (first | exact Drawn0.refl _ | apply Drawn0.step)⟩
 case rest =>
  clear HC3
  try clear p2
  try clear c4
  try clear c4b0
  obtain ⟨kq, x15_2, rfl, HA, HJ2, ⟨mc2, rfl⟩⟩ := hcut
  cases kq with
  | zero => exact absurd HA.out (by simp [scullerref03_Get.j0])
  | succ kj2 =>
    have H := HA.out
    clear HA
    simp only [scullerref03_Get.j0] at H
    by_cases c5 : x15_2 = true
    · subst c5
      have H1 : (some false) = some r := by rw [if_pos rfl] at H; exact H
      clear H
      have H := H1
      clear H1
      obtain rfl := Option.some.inj H
      go_wp2
      go_ret
      exact ⟨by first | rfl | (simp; done) | (simp [*]; done), by repeat (first | exact Drawn0.refl _ | apply Drawn0.step)⟩
    · replace c5 := Bool.eq_false_iff.mpr c5
      subst c5
      have H1 : (if 0 ≤ (wrap64 (Int.tdiv a1 8)) then (if (wrap64 (Int.tdiv a1 8)) < (l0.length : Int) then (scullerref03_Get.l0 kj2 a1 (wrap64 (rd l0 (wrap64 (Int.tdiv a1 8)))) 0) else (none)) else (none)) = some r := by rw [if_neg (show ¬ (false = true) by decide)] at H; exact H
      clear H
      have H := H1
      clear H1
      obtain ⟨ji6, hji6⟩ : ∃ j_ : Int, (wrap64 (Int.tdiv a1 8)) = j_ := ⟨_, rfl⟩
      replace H : (if 0 ≤ (ji6) then (if (ji6) < (l0.length : Int) then (scullerref03_Get.l0 kj2 a1 (wrap64 (rd l0 (ji6))) 0) else (none)) else (none)) = some r := by first | (rw [hji6] at H; exact H) | (simp only [hji6] at H ⊢; exact H)
      have hji6w : (IntKind.i64.wrap (Int.tdiv a1 8)) = ji6 := (i64_w _).trans hji6
      by_cases c7 : 0 ≤ (ji6)
      · rw [if_pos c7] at H
        have c7b0 : decide (0 ≤ (ji6)) = true := decide_eq_true c7
        clear c7
        by_cases c8 : (ji6) < (l0.length : Int)
        · rw [if_pos c8] at H
          have c8b0 : decide ((ji6) < (l0.length : Int)) = true := decide_eq_true c8
          clear c8
          have H' := Aside0.mk H
          clear H
          have p101 : 0 ≤ ((ji6) : Int) := of_decide_eq_true (by first | (with_reducible assumption) | assumption)
          have q101 : (ji6) < (l0.length : Int) := of_decide_eq_true (by first | (with_reducible assumption) | assumption)
          obtain ⟨ad101, e101, hx101_0⟩ := Kd.at_int HR0.out (ji6) p101 q101
          cases e101
          replace p101 := eq_true p101
          replace q101 := eq_true q101
          go_wp2
          go_loopg [5, 6] kj2 (fun kq v5 v6 w' => ∃ (x5_2 : Int) (x6_2 : Int), v5 = .int .i64 x5_2 ∧ v6 = .int .i64 x6_2 ∧ Aside0 (scullerref03_Get.l0 kq a1 x5_2 x6_2 = some r) ∧ Aside0 (kq ≤ kj2) ∧ Drawn0 w w')
          case atStart => exact ⟨(wrap64 (rd l0 (ji6))), (0), (by first | rfl | (simp; done) | (simp only [← hji6] <;> (first | rfl | simp)) | (simp [*]; done)), (by first | rfl | (simp; done) | (simp [*]; done)), H', ⟨Nat.le_refl _⟩, by repeat (first | exact Drawn0.refl _ | apply Drawn0.step)⟩
          case round =>
           clear H'
           try clear p1
           try clear q1
           try clear hx1
           try clear c2
           try clear p2
           try clear c4
           try clear c4b0
           try clear c5
           try clear p6
           try clear c7
           try clear c7b0
           try clear c8
           try clear c8b0
           try clear hx101_0
           try clear p101
           try clear p2
           try clear q101
           obtain ⟨x5_2, x6_2, rfl, rfl, HA, HK2, ⟨m2, rfl⟩⟩ := hrel
           cases gk with
           | zero => exact absurd HA.out (by simp [scullerref03_Get.l0])
           | succ k2 =>
             have H := HA.out
             clear HA
             simp only [scullerref03_Get.l0] at H
             by_cases c9 : x6_2 < (Int.tmod a1 8)
             · rw [if_pos c9] at H
               have c9b0 : decide (x6_2 < (Int.tmod a1 8)) = true := decide_eq_true c9
               clear c9
               have H' := Aside0.mk H
               clear H
               go_wp2
               go_roundg k2
               case measure => have := HJ2.out; have := HK2.out; omega
               case rel => exact ⟨(wrap64 (Int.tdiv x5_2 2)), (wrap64 (x6_2 + 1)), (by first | rfl | (simp; done) | (simp [*]; done)), (by first | rfl | (simp; done) | (simp [*]; done)), H', ⟨by have := HJ2.out; have := HK2.out; omega⟩, by repeat (first | exact Drawn0.refl _ | apply Drawn0.step)⟩
             · rw [if_neg c9] at H
               have c9b0 : decide (x6_2 < (Int.tmod a1 8)) = false := decide_eq_false c9
               clear c9
               obtain rfl := Option.some.inj H
               go_wp2
               go_ret
               exact ⟨by first | rfl | (simp; done) | (simp only [← hji6] <;> (first | rfl | simp)) | (simp [*]; done), by repeat (first | exact Drawn0.refl _ | apply Drawn0.step)⟩
        · rw [if_neg c8] at H
          exact absurd H (by simp)
      · rw [if_neg c7] at H
        exact absurd H (by simp)

end Go.Proofs.Ytbijnfhcbanhdaa.F
end

section
/- One byte another one: the checksum is another one. No program in sight. -/
namespace Go.Proofs.Ytbijnfhcbanhdaa.H
set_option linter.unusedVariables false
theorem sealL_length (l : List Int) : (sealL l).length = l.length + 4 := by rw [sealL, List.length_append, putL_length]
theorem bytesB_set {l : List Int} (hb : bytesB l = true) (i : Nat) (v : Int) (hv : 0 ≤ v ∧ v ≤ 255) : bytesB (l.set i v) = true := bytesB_of fun c hc => by
 rcases List.mem_or_eq_of_mem_set hc with h | rfl
 · exact bytesB_at hb c h
 · exact hv
end Go.Proofs.Ytbijnfhcbanhdaa.H
end

section
/- The statements' own arenas: they fit, and what is cut from their bytes is they again. No program in sight. -/
namespace Go.Proofs.Ytbijnfhcbanhdaa.H
set_option linter.unusedVariables false
set_option linter.unusedSimpArgs false
theorem sizesL_sum (a : List (List Int)) : (sizesL a).sum = (wordsL a : Int) := by
 induction a with
 | nil => rfl
 | cons s a ih => rw [sizesL_cons, List.sum_cons, ih, wordsL_cons]; omega
theorem sizesL_nonneg (a : List (List Int)) : ∀ x ∈ sizesL a, 0 ≤ x := by
 intro x hx
 simp only [sizesL, List.mem_map] at hx
 obtain ⟨s, _, rfl⟩ := hx
 omega
theorem fitsB_of {l : List Int} (h1 : 1 ≤ l.length) (h2 : l.length ≤ 16) (h3 : 1 ≤ l.getD 0 0) (h4 : ∀ x ∈ l, 0 ≤ x) (h5 : l.sum ≤ 4096) : fitsB l = true := by
 have : l.all (fun x => decide (0 ≤ x)) = true := List.all_eq_true.2 fun x hx => by simpa using h4 x hx
 simp only [fitsB, restB, Bool.and_eq_true, decide_eq_true_eq]
 exact ⟨⟨⟨h1, h2⟩, h3⟩, this, by omega⟩
theorem arenaC_length (c : List Int) : ∀ m i k, (arenaC c m i k).length = m
 | 0, _, _ => rfl
 | m + 1, i, k => by simp [arenaC, arenaC_length c m]
theorem arenaC_words (c : List Int) : ∀ m i k, wordsL (arenaC c m i k) ≤ 12 * m
 | 0, _, _ => by simp [arenaC, wordsL]
 | m + 1, i, k => by
   have := arenaC_words c m (i + 1) (k + sizeC c i)
   have := sizeC_le c i
   rw [arenaC, wordsL_cons, segC_length]; omega
theorem wordC_u64 {c : List Int} (hc : bytesB c = true) (k : Nat) (hk : k ≤ 1000000000) : u64B (wordC c k) = true := by
 have h : 0 ≤ c.getD (k % c.length) 0 ∧ c.getD (k % c.length) 0 ≤ 255 := by
  by_cases hl : k % c.length < c.length
  · rw [List.getD_eq_getElem?_getD, List.getElem?_eq_getElem hl]; exact bytesB_at hc _ (List.getElem_mem hl)
  · rw [List.getD_eq_getElem?_getD, List.getElem?_eq_none (by omega)]; simp
 have e : u64B (wordC c k) = (decide (0 ≤ wordC c k) && decide (wordC c k < 18446744073709551616)) := rfl
 rw [e, wordC, decide_eq_true (by omega), decide_eq_true (by omega)]
 rfl
theorem arenaC_u64 {c : List Int} (hc : bytesB c = true) : ∀ m i k, k + 12 * m ≤ 1000000000 → ∀ s ∈ arenaC c m i k, ∀ x ∈ s, u64B x = true
 | 0, _, _, _ => by simp [arenaC]
 | m + 1, i, k, hk => by
   have hz := sizeC_le c i
   have := arenaC_u64 hc m (i + 1) (k + sizeC c i) (by omega)
   intro s hs
   rw [arenaC, List.mem_cons] at hs
   rcases hs with rfl | hs
   · intro x hx
     simp only [segC, List.mem_map, List.mem_range] at hx
     obtain ⟨j, hj, rfl⟩ := hx
     exact wordC_u64 hc _ (by omega)
   · exact this s hs
theorem arenaL_length (c : List Int) {n : Int} (h0 : 0 ≤ n) : 1 ≤ (arenaL c n).length ∧ (arenaL c n).length ≤ 5 := by
 unfold arenaL; rw [arenaC_length]; omega
theorem arenaL_words (c : List Int) {n : Int} (h0 : 0 ≤ n) : wordsL (arenaL c n) ≤ 60 := by
 have := arenaC_words c (1 + (n % 5)).toNat 0 0
 unfold arenaL; omega
theorem arenaL_u64 {c : List Int} (hc : bytesB c = true) {n : Int} (h0 : 0 ≤ n) : ∀ s ∈ arenaL c n, ∀ x ∈ s, u64B x = true :=
 arenaC_u64 hc _ _ _ (by omega)
theorem arenaL_first (c : List Int) {n : Int} (h0 : 0 ≤ n) : 1 ≤ (sizesL (arenaL c n)).getD 0 0 := by
 unfold arenaL
 rw [show (1 + (n % 5)).toNat = (n % 5).toNat + 1 from by omega, arenaC, sizesL_cons, segC_length]
 have := sizeC_pos c
 simp; omega
theorem okA_of {a : List (List Int)} (h1 : a.length ≤ 1000000) (h2 : wordsL a ≤ 1000000) (h3 : ∀ s ∈ a, ∀ x ∈ s, u64B x = true) : okA a = true := by
 simp only [okA, Bool.and_eq_true, decide_eq_true_eq, List.all_eq_true]
 exact ⟨⟨h1, h2⟩, h3⟩
end Go.Proofs.Ytbijnfhcbanhdaa.H
end

section
/- The statements' own arenas of chapter 12: they fit. No program in sight. -/
namespace Go.Proofs.Ytbijnfhcbanhdaa.H
set_option linter.unusedVariables false
set_option linter.unusedSimpArgs false
def addC (n : Int) (k : Nat) : List Int := (List.range k).map fun (i : Nat) => (i : Int) * n
def zerosC (k : Nat) : List (List Int) := (List.range k).map fun i => List.replicate i (0 : Int)
def arena12L (c : List Int) (n m : Int) : List (List Int) :=
 (arenaL c n).dropLast ++ [(arenaL c n).getLastD [] ++ addC n (m % 40).toNat] ++ zerosC (m % 7).toNat
theorem addC_succ (n : Int) (k : Nat) : addC n (k + 1) = addC n k ++ [(k : Int) * n] := by simp [addC, List.range_succ]
theorem addC_length (n : Int) (k : Nat) : (addC n k).length = k := by simp [addC]
theorem zerosC_succ (k : Nat) : zerosC (k + 1) = zerosC k ++ [List.replicate k 0] := by simp [zerosC, List.range_succ]
theorem zerosC_length (k : Nat) : (zerosC k).length = k := by simp [zerosC]
theorem wordsL_append (a b : List (List Int)) : wordsL (a ++ b) = wordsL a + wordsL b := by simp [wordsL]
theorem wordsL_one (s : List Int) : wordsL [s] = s.length := by simp [wordsL]
theorem wordsL_zeros : ∀ k, k ≤ 7 → wordsL (zerosC k) ≤ 6 * k
 | 0, _ => by simp [zerosC, wordsL]
 | k + 1, h => by
   have := wordsL_zeros k (by omega)
   rw [zerosC_succ, wordsL_append, wordsL_one, List.length_replicate]; omega
theorem arenaL_last (c : List Int) {n : Int} (h0 : 0 ≤ n) : (arenaL c n).dropLast ++ [(arenaL c n).getLastD []] = arenaL c n := by
 have h := arenaL_length c h0
 generalize arenaL c n = a at *
 have hne : a ≠ [] := by rintro rfl; simp at h
 rw [List.getLastD_eq_getLast?, List.getLast?_eq_some_getLast hne]
 simpa using List.dropLast_concat_getLast hne
theorem arena12L_length (c : List Int) {n m : Int} (h0 : 0 ≤ n) (hm : 0 ≤ m) : 1 ≤ (arena12L c n m).length ∧ (arena12L c n m).length ≤ 11 := by
 have h := arenaL_length c h0
 unfold arena12L
 simp only [List.length_append, List.length_dropLast, List.length_singleton, zerosC_length]
 omega
theorem arena12L_words (c : List Int) {n m : Int} (h0 : 0 ≤ n) (hm : 0 ≤ m) : wordsL (arena12L c n m) ≤ 141 := by
 have h := arenaL_words c h0
 have hz := wordsL_zeros (m % 7).toNat (by omega)
 rw [← arenaL_last c h0, wordsL_append, wordsL_one] at h
 unfold arena12L
 rw [wordsL_append, wordsL_append, wordsL_one, List.length_append, addC_length]
 omega
theorem u64B_mk {x : Int} (h0 : 0 ≤ x) (h1 : x < 18446744073709551616) : u64B x = true := by
 have e : u64B x = (decide (0 ≤ x) && decide (x < 18446744073709551616)) := rfl
 rw [e, decide_eq_true h0, decide_eq_true h1]
 rfl
theorem arena12L_u64 {c : List Int} (hc : bytesB c = true) {n m : Int} (h0 : 0 ≤ n) (h1 : n ≤ 255) (hm : 0 ≤ m) : ∀ s ∈ arena12L c n m, ∀ x ∈ s, u64B x = true := by
 have hu := arenaL_u64 hc h0
 rw [← arenaL_last c h0] at hu
 intro s hs x hx
 simp only [arena12L, List.mem_append, List.mem_singleton] at hs
 rcases hs with (hs | rfl) | hs
 · exact hu s (by simp [hs]) x hx
 · rcases List.mem_append.1 hx with hx | hx
   · exact hu _ (by simp) x hx
   · simp only [addC, List.mem_map, List.mem_range] at hx
     obtain ⟨i, hi, rfl⟩ := hx
     have h2 : (i : Int) * n ≤ 40 * 255 := Int.mul_le_mul (by omega) (by omega) (by omega) (by omega)
     have h3 : 0 ≤ (i : Int) * n := Int.mul_nonneg (by omega) (by omega)
     exact u64B_mk h3 (by omega)
 · simp only [zerosC, List.mem_map, List.mem_range] at hs
   obtain ⟨i, hi, rfl⟩ := hs
   rw [(List.mem_replicate.1 hx).2]
   rfl
theorem arena12L_first (c : List Int) {n m : Int} (h0 : 0 ≤ n) (hm : 0 ≤ m) : 1 ≤ (sizesL (arena12L c n m)).getD 0 0 := by
 have h := arenaL_first c h0
 have hlen := arenaL_length c h0
 rw [← arenaL_last c h0] at h
 unfold arena12L
 generalize (arenaL c n).dropLast = d at *
 generalize (arenaL c n).getLastD [] = e at *
 match d with
 | [] => simp [sizesL] at h ⊢; omega
 | s :: d => simpa [sizesL] using h
theorem arena12L_fits (c : List Int) {n m : Int} (h0 : 0 ≤ n) (hm : 0 ≤ m) : fitsB (sizesL (arena12L c n m)) = true := by
 have h1 := arena12L_length c h0 hm
 have h2 := arena12L_words c h0 hm
 exact fitsB_of (by rw [sizesL_length]; omega) (by rw [sizesL_length]; omega) (arena12L_first c h0 hm) (sizesL_nonneg _) (by rw [sizesL_sum]; omega)
theorem arena12L_ok {c : List Int} (hc : bytesB c = true) {n m : Int} (h0 : 0 ≤ n) (h1 : n ≤ 255) (hm : 0 ≤ m) : okA (arena12L c n m) = true :=
 okA_of (by have := arena12L_length c h0 hm; omega) (by have := arena12L_words c h0 hm; omega) (arena12L_u64 hc h0 h1 hm)
end Go.Proofs.Ytbijnfhcbanhdaa.H
end

section
/- What tells manifests apart. No program in sight. -/
namespace Go.Proofs.Ytbijnfhcbanhdaa.H
set_option linter.unusedVariables false
end Go.Proofs.Ytbijnfhcbanhdaa.H
end

section
/- Bits as plain lists of bytes; a statement's own token. No program in sight. -/
namespace Go.Proofs.Ytbijnfhcbanhdaa.H
set_option linter.unusedVariables false
def getB (l : List Int) (i : Nat) : Bool := decide (l.getD (i / 8) 0 / 2 ^ (i % 8) % 2 = 1)
def setB (l : List Int) (i : Int) : List Int := if 0 ≤ i ∧ i / 8 < l.length ∧ getB l i.toNat = false then l.set (i.toNat / 8) (l.getD (i.toNat / 8) 0 + 2 ^ (i.toNat % 8)) else l
theorem setB_length (l : List Int) (i : Int) : (setB l i).length = l.length := by unfold setB; split <;> simp
theorem byte_set : ∀ b : Fin 256, ∀ j : Fin 8, (b.val / 2 ^ j.val) % 2 = 0 → b.val + 2 ^ j.val < 256 := by decide +kernel
theorem byte_top : ∀ m : Fin 8, ∀ b : Fin 256, ∀ j : Fin 8, j.val < m.val → b.val / 2 ^ m.val = 0 → (b.val / 2 ^ j.val) % 2 = 0 → (b.val + 2 ^ j.val) / 2 ^ m.val = 0 := by decide +kernel
theorem getB_nat {b : Nat} {j : Nat} : ((b : Int) / 2 ^ j % 2 = 1) ↔ (b / 2 ^ j % 2 = 1) := by
 have e : (b : Int) / 2 ^ j % 2 = ((b / 2 ^ j % 2 : Nat) : Int) := by simp
 rw [e]; omega
theorem getD_byte {l : List Int} (h : bytesB l = true) (i : Nat) : ∃ b : Nat, b < 256 ∧ l.getD i 0 = b := by
 rcases Nat.lt_or_ge i l.length with hi | hi
 · rw [List.getD_eq_getElem?_getD, List.getElem?_eq_getElem hi, Option.getD_some]
   have := bytesB_at h _ (List.getElem_mem hi)
   exact ⟨(l[i]).toNat, by omega, by omega⟩
 · rw [List.getD_eq_getElem?_getD, List.getElem?_eq_none hi]
   exact ⟨0, by omega, rfl⟩
theorem setB_byte {l : List Int} (h : bytesB l = true) (i : Int) : bytesB (setB l i) = true := by
 unfold setB
 split
 · rename_i hc
   obtain ⟨b, hb, e⟩ := getD_byte h (i.toNat / 8)
   have hg := hc.2.2
   simp only [getB, decide_eq_false_iff_not] at hg
   rw [e, getB_nat] at hg
   have h0 : b / 2 ^ (i.toNat % 8) % 2 = 0 := by omega
   have h1 := byte_set ⟨b, hb⟩ ⟨i.toNat % 8, by omega⟩ h0
   simp only at h1
   rw [e]
   have e2 : (b : Int) + 2 ^ (i.toNat % 8) = ((b + 2 ^ (i.toNat % 8) : Nat) : Int) := by simp
   refine bytesB_set h _ _ ?_
   rw [e2]
   obtain ⟨q, hq⟩ : ∃ q, b + 2 ^ (i.toNat % 8) = q := ⟨_, rfl⟩
   rw [hq] at h1 ⊢
   omega
 · exact h
/-- A bit below n set: still n bits. -/
theorem rightBits_set {l : List Int} (hb : bytesB l = true) {n : Int} (hn : 0 ≤ n) (h : rightBits l n = true) {i : Int} (h0 : 0 ≤ i) (hi : i < n) : rightBits (setB l i) n = true := by
 simp only [rightBits, Bool.and_eq_true, Bool.or_eq_true, decide_eq_true_eq] at h ⊢
 rw [setB_length]
 refine ⟨h.1, ?_⟩
 rcases h.2 with h2 | h2
 · exact .inl h2
 · by_cases hz : n % 8 = 0
   · exact .inl hz
   refine .inr ?_
   unfold setB
   split
   · rename_i hc
     have hl : (l.length : Int) = (n + 7) / 8 := h.1
     rcases Nat.lt_or_ge (i.toNat / 8) (l.length - 1) with hlt | hge
     · rw [List.getD_eq_getElem?_getD, List.getElem?_set_ne (by omega), ← List.getD_eq_getElem?_getD]
       exact h2
     · have e8 : i.toNat / 8 = l.length - 1 := by have := hc.2.1; omega
       rw [e8, List.getD_eq_getElem?_getD, List.getElem?_set_self (by omega), Option.getD_some]
       obtain ⟨b, hb8, e⟩ := getD_byte hb (l.length - 1)
       have hg := hc.2.2
       simp only [getB, decide_eq_false_iff_not, e8] at hg
       rw [e] at hg h2 ⊢
       rw [getB_nat] at hg
       have hm : i.toNat % 8 < (n % 8).toNat := by omega
       have h3 : b / 2 ^ (n % 8).toNat = 0 := by
        have e3 : (b : Int) / 2 ^ (n % 8).toNat = ((b / 2 ^ (n % 8).toNat : Nat) : Int) := by simp
        rw [e3] at h2
        omega
       have h4 := byte_top ⟨(n % 8).toNat, by omega⟩ ⟨b, hb8⟩ ⟨i.toNat % 8, by omega⟩ hm h3 (by simp only; omega)
       simp only at h4
       have e2 : ((b : Int) + 2 ^ (i.toNat % 8)) / 2 ^ (n % 8).toNat = (((b + 2 ^ (i.toNat % 8)) / 2 ^ (n % 8).toNat : Nat) : Int) := by simp
       rw [e2, h4]
       rfl
   · exact h2
def zerosB (n : Int) : List Int := List.replicate ((n + 7) / 8).toNat 0
theorem zerosB_right {n : Int} (hn : 0 ≤ n) : rightBits (zerosB n) n = true := by
 have hl : ((zerosB n).length : Int) = (n + 7) / 8 := by
  unfold zerosB
  rw [List.length_replicate]
  have : 0 ≤ (n + 7) / 8 := by omega
  omega
 have hz : (zerosB n).getD ((zerosB n).length - 1) 0 = 0 := by
  unfold zerosB
  rw [List.getD_eq_getElem?_getD, List.getElem?_replicate]
  split <;> rfl
 unfold rightBits
 rw [hl, hz, decide_eq_true rfl]
 simp
theorem zerosB_byte (n : Int) : bytesB (zerosB n) = true := bytesB_of fun c hc => by rw [(List.mem_replicate.1 hc).2]; omega
/-- The bits that choices set. -/
def knownL (c : List Int) (n : Int) : List Int := c.foldl (fun k x => if x < n then setB k x else k) (zerosB n)
theorem foldl_known {n : Int} (hn : 0 ≤ n) : ∀ (c k : List Int), bytesB c = true → bytesB k = true → rightBits k n = true → bytesB (c.foldl (fun k x => if x < n then setB k x else k) k) = true ∧ rightBits (c.foldl (fun k x => if x < n then setB k x else k) k) n = true
 | [], k, _, hk, hr => ⟨hk, hr⟩
 | x :: c, k, hc, hk, hr => by
   have hx := bytesB_at hc x (by simp)
   have hc2 : bytesB c = true := bytesB_of fun y hy => bytesB_at hc y (by simp [hy])
   rw [List.foldl_cons]
   split
   · rename_i hlt
     exact foldl_known hn c _ hc2 (setB_byte hk x) (rightBits_set hk hn hr hx.1 hlt)
   · exact foldl_known hn c _ hc2 hk hr
theorem knownL_right {c : List Int} (hc : bytesB c = true) {n : Int} (hn : 0 ≤ n) : bytesB (knownL c n) = true ∧ rightBits (knownL c n) n = true := foldl_known hn c _ hc (zerosB_byte n) (zerosB_right hn)
def sumA (s : Int) (a : List (List Int)) : Int := moreL 0 (ofBytes s a a.length ++ bytesL a)
def chunksL (a : List (List Int)) : Int := (wordsM (sizesL a) + 7) / 8
/-- The statements' token. -/
def tokenC (s : Int) (c : List Int) (n m : Int) : Int × List Int × Int × List Int := (s, sizesL (arena12L c n m), sumA s (arena12L c n m), knownL c (chunksL (arena12L c n m)))
theorem chunksL_range (a : List (List Int)) : 0 ≤ chunksL a ∧ chunksL a ≤ 512 := by
 have h := wordsM_range (sizesL a)
 unfold chunksL
 omega
theorem tokenC_right {c : List Int} (hc : bytesB c = true) {n m : Int} (hn : 0 ≤ n) (hm : 0 ≤ m) : rightT (sizesL (arena12L c n m)) (knownL c (chunksL (arena12L c n m))) = true := by
 unfold rightT
 rw [arena12L_fits c hn hm]
 have h := (knownL_right hc (chunksL_range (arena12L c n m)).1).2
 unfold chunksL at h
 rw [show knownL c (chunksL (arena12L c n m)) = knownL c ((wordsM (sizesL (arena12L c n m)) + 7) / 8) from rfl, h]
 rfl
theorem rightBits_length {l : List Int} {n : Int} (h : rightBits l n = true) : (l.length : Int) = (n + 7) / 8 := by
 simp only [rightBits, Bool.and_eq_true, decide_eq_true_eq] at h
 exact h.1
end Go.Proofs.Ytbijnfhcbanhdaa.H
end

section
namespace Go.Proofs.Ytbijnfhcbanhdaa.F
open Go.RowKit Go.Proofs.YtbijnfhcbanhdaaW.PrintWords Go.Proofs.YtbijnfhcbanhdaaW.PrintLast Go.Proofs.YtbijnfhcbanhdaaW.PrintMore
attribute [local go_sem] max2_int min2_int max_two min_two max_three min_three max_four min_four   -- for this text's walks alone
set_option linter.unusedVariables false
set_option linter.unusedSimpArgs false

open Go.Proofs.Ytbijnfhcbanhdaa.H
def scullerref03_Get_c.f (l0 : List Int) (a1 : Int) : Option Bool := if bytesB l0 = true ∧ l0.length ≤ 140737488355328 ∧ a1 ≤ 9223372036854775807 then some (decide (0 ≤ a1) && getB l0 a1.toNat) else none
theorem beq_dec_ (a b : Int) : (a == b) = decide (a = b) := by
 by_cases h : a = b <;> simp [h]
theorem scullerref03_Get.l0_to (a c : Nat) (ha : a ≤ 9223372036854775807) (hc : c < 256) : ∀ (d i : Nat), a % 8 - i = d → i ≤ a % 8 → ∃ k, scullerref03_Get.l0 k (a : Int) ((c / 2 ^ i : Nat) : Int) (i : Int) = some (decide ((c : Int) / 2 ^ (a % 8) % 2 = 1))
 | 0, i, hd, hi => ⟨1, by
   obtain rfl : i = a % 8 := by omega
   have e : (c : Int) / 2 ^ (a % 8) % 2 = ((c / 2 ^ (a % 8) % 2 : Nat) : Int) := by simp
   rw [scullerref03_Get.l0, Int.tmod_eq_emod_of_nonneg (Int.natCast_nonneg a), if_neg (by omega), Int.tmod_eq_emod_of_nonneg (Int.natCast_nonneg (c / 2 ^ (a % 8))), e]
   exact congrArg some (beq_dec_ _ _)⟩
 | d + 1, i, hd, hi => by
   obtain ⟨k, hk⟩ := scullerref03_Get.l0_to a c ha hc d (i + 1) (by omega) (by omega)
   refine ⟨k + 1, ?_⟩
   have h1 : c / 2 ^ i ≤ c := Nat.div_le_self _ _
   have e : c / 2 ^ (i + 1) = c / 2 ^ i / 2 := by rw [Nat.pow_succ, Nat.div_div_eq_div_mul]
   rw [e] at hk
   obtain ⟨q, hq⟩ : ∃ q, c / 2 ^ i = q := ⟨_, rfl⟩
   rw [hq] at hk h1 ⊢
   rw [scullerref03_Get.l0, Int.tmod_eq_emod_of_nonneg (by omega), if_pos (by omega), Int.tdiv_eq_ediv_of_nonneg (by omega), show wrap64 ((q : Int) / 2) = ((q / 2 : Nat) : Int) from by unfold wrap64; omega, show wrap64 ((i : Int) + 1) = ((i + 1 : Nat) : Int) from by unfold wrap64; omega]
   exact hk
theorem scullerref03_Get_c.to {l0 : List Int} {a1 : Int} {r : Bool} (h : scullerref03_Get_c.f l0 a1 = some r) : ∃ k, scullerref03_Get.f k l0 a1 = some r := by
 unfold scullerref03_Get_c.f at h
 split at h
 case isFalse => cases h
 case isTrue hb =>
 obtain rfl := Option.some.inj h
 obtain ⟨hb, hl, ha⟩ := hb
 by_cases h0 : a1 < 0
 · refine ⟨1, ?_⟩
   rw [scullerref03_Get.f, if_pos h0, scullerref03_Get.j0, if_pos rfl, decide_eq_false (by omega)]
   rfl
 · obtain ⟨a, rfl⟩ := Int.eq_ofNat_of_zero_le (by omega : 0 ≤ a1)
   have ew : wrap64 (Int.tdiv (a : Int) 8) = ((a / 8 : Nat) : Int) := by rw [Int.tdiv_eq_ediv_of_nonneg (by omega)]; unfold wrap64; omega
   obtain ⟨b, hb8, e⟩ := getD_byte hb (a / 8)
   by_cases hlt : a / 8 < l0.length
   · obtain ⟨k, hk⟩ := scullerref03_Get.l0_to a b (by omega) hb8 (a % 8) 0 (by omega) (by omega)
     refine ⟨k + 1, ?_⟩
     have er : rd l0 ((a / 8 : Nat) : Int) = b := by unfold rd; rw [Int.toNat_natCast]; exact e
     rw [Nat.pow_zero, Nat.div_one] at hk
     rw [scullerref03_Get.f, if_neg h0, ew, decide_eq_false (by omega), scullerref03_Get.j0, if_neg (by decide), ew, if_pos (by omega), if_pos (by omega), er, show wrap64 (b : Int) = b from by unfold wrap64; omega]
     rw [show ((0 : Nat) : Int) = 0 from rfl] at hk
     rw [hk, decide_eq_true (by omega : (0 : Int) ≤ (a : Int)), Bool.true_and, Int.toNat_natCast, getB, e]
   · refine ⟨1, ?_⟩
     rw [scullerref03_Get.f, if_neg h0, ew, decide_eq_true (by omega), scullerref03_Get.j0, if_pos rfl, Int.toNat_natCast, getB]
     have e0 : l0.getD (a / 8) 0 = 0 := by rw [List.getD_eq_getElem?_getD, List.getElem?_eq_none (by omega)]; rfl
     rw [e0]
     simp

theorem scullerref03_Get_c.calls (A0 : Option Addr) (c0 : Nat) (l0 : List Int) (a1 : Int) (r : Bool) (w : World) (hr0 : Kd.C (Kd.int .u8) w A0 l0.length l0) (hc0 : l0.length ≤ c0) (h : scullerref03_Get_c.f l0 a1 = some r) :
 Calls Try.prog 53 #[.slice A0 l0.length c0, .int .i64 a1] w fun e w' => e = .returned (.bool r) ∧ Drawn0 w w' := by
 obtain ⟨k_, hk_⟩ := scullerref03_Get_c.to h
 exact scullerref03_Get.calls k_ A0 c0 l0 a1 r w hr0 hc0 hk_

end Go.Proofs.Ytbijnfhcbanhdaa.F
end

section
namespace Go.Proofs.Ytbijnfhcbanhdaa.F
open Go.RowKit Go.Proofs.YtbijnfhcbanhdaaW.PrintWords Go.Proofs.YtbijnfhcbanhdaaW.PrintLast Go.Proofs.YtbijnfhcbanhdaaW.PrintMore
attribute [local go_sem] max2_int min2_int max_two min_two max_three min_three max_four min_four   -- for this text's walks alone
set_option linter.unusedVariables false
set_option linter.unusedSimpArgs false

/-! ### scullerref03_Set: function 23 -/
def scullerref03_Set.f (l0 : List Int) (a1 : Int) : Option (List Int) := if ([] : List Int).length + l0.length < 140737488355328 then ((some (([] : List Int) ++ l0 : List Int)).bind fun y101 => (if a1 ≥ 0 then (if (wrap64 (Int.tdiv a1 8)) < (l0.length : Int) then ((scullerref03_Get_c.f l0 a1).bind fun t104 => (if t104 = true then (some y101) else (if 0 ≤ (wrap64 (Int.tdiv a1 8)) then (if (wrap64 (Int.tdiv a1 8)) < (y101.length : Int) then (if 0 ≤ (IntKind.u64.wrap (Int.tmod a1 8)) then (some (y101.set ((wrap64 (Int.tdiv a1 8)) : Int).toNat (((rd y101 (wrap64 (Int.tdiv a1 8))) + (shl .u8 1 (IntKind.u64.wrap (Int.tmod a1 8)))) % 256))) else (none)) else (none)) else (none)))) else (some y101)) else (some y101))) else (none)
set_option maxHeartbeats 8000000 in
set_option maxRecDepth 100000 in
theorem scullerref03_Set.calls (A0 : Option Addr) (c0 : Nat) (l0 : List Int) (a1 : Int) (r : List Int) (w : World) (hr0 : Kd.C (Kd.int .u8) w A0 l0.length l0) (hc0 : l0.length ≤ c0) (h : scullerref03_Set.f l0 a1 = some r) :
 Calls Try.prog 23 #[.slice A0 l0.length c0, .int .i64 a1] w fun e w' => ∃ v0_ : Value, e = .returned (v0_) ∧ Kd.R (Kd.int .u8) 5 w' w.heap.size (fun _ => True) v0_ r ∧ Below w.heap.size w w' := by
 have HR0 := Aside0.mk hr0
 have HC0 := Aside0.mk hc0
 clear hr0 hc0
 have HB := Aside0.mk (Below.refl w.heap.size w)
 have H : (if ([] : List Int).length + l0.length < 140737488355328 then ((some (([] : List Int) ++ l0 : List Int)).bind fun y101 => (if a1 ≥ 0 then (if (wrap64 (Int.tdiv a1 8)) < (l0.length : Int) then ((scullerref03_Get_c.f l0 a1).bind fun t104 => (if t104 = true then (some y101) else (if 0 ≤ (wrap64 (Int.tdiv a1 8)) then (if (wrap64 (Int.tdiv a1 8)) < (y101.length : Int) then (if 0 ≤ (IntKind.u64.wrap (Int.tmod a1 8)) then (some (y101.set ((wrap64 (Int.tdiv a1 8)) : Int).toNat (((rd y101 (wrap64 (Int.tdiv a1 8))) + (shl .u8 1 (IntKind.u64.wrap (Int.tmod a1 8)))) % 256))) else (none)) else (none)) else (none)))) else (some y101)) else (some y101))) else (none)) = some r := h
 clear h
 by_cases c3 : ([] : List Int).length + l0.length < 140737488355328
 · rw [if_pos c3] at H
   have LMc3 := Aside0.mk c3
   clear c3
   obtain ⟨y101, hy101⟩ : ∃ y_ : List Int, y_ = (([] : List Int) ++ l0) := ⟨_, rfl⟩
   replace H : (if a1 ≥ 0 then (if (wrap64 (Int.tdiv a1 8)) < (l0.length : Int) then ((scullerref03_Get_c.f l0 a1).bind fun t104 => (if t104 = true then (some y101) else (if 0 ≤ (wrap64 (Int.tdiv a1 8)) then (if (wrap64 (Int.tdiv a1 8)) < (y101.length : Int) then (if 0 ≤ (IntKind.u64.wrap (Int.tmod a1 8)) then (some (y101.set ((wrap64 (Int.tdiv a1 8)) : Int).toNat (((rd y101 (wrap64 (Int.tdiv a1 8))) + (shl .u8 1 (IntKind.u64.wrap (Int.tmod a1 8)))) % 256))) else (none)) else (none)) else (none)))) else (some y101)) else (some y101)) = some r := by first | (rw [hy101]; with_reducible exact H) | (have H2_ := (Option.bind_some _ _).symm.trans H; rw [hy101]; with_reducible exact H2_) | (have H2_ := (Option.bind_some _ _).symm.trans H; with_reducible exact H2_) | with_reducible exact H | (rw [hy101]; exact H) | exact H
   have Ny101 := Aside0.mk hy101
   clear hy101
   by_cases c4 : a1 ≥ 0
   · rw [if_pos c4] at H
     have c4b0 : decide (0 ≤ a1) = true := decide_eq_true c4
     clear c4
     by_cases c5 : (wrap64 (Int.tdiv a1 8)) < (l0.length : Int)
     · rw [if_pos c5] at H
       have c5b0 : decide ((wrap64 (Int.tdiv a1 8)) < (l0.length : Int)) = true := decide_eq_true c5
       clear c5
       replace H := Option.bind_eq_some_iff.mp H
       obtain ⟨t104, A60, H⟩ := H
       replace H : (if t104 = true then (some y101) else (if 0 ≤ (wrap64 (Int.tdiv a1 8)) then (if (wrap64 (Int.tdiv a1 8)) < (y101.length : Int) then (if 0 ≤ (IntKind.u64.wrap (Int.tmod a1 8)) then (some (y101.set ((wrap64 (Int.tdiv a1 8)) : Int).toNat (((rd y101 (wrap64 (Int.tdiv a1 8))) + (shl .u8 1 (IntKind.u64.wrap (Int.tmod a1 8)))) % 256))) else (none)) else (none)) else (none))) = some r := H
       have A6 := Aside0.mk A60
       clear A60
       by_cases c7 : t104 = true
       · subst c7
         have H1 : (some y101) = some r := by rw [if_pos rfl] at H; exact H
         clear H
         have H := H1
         clear H1
         obtain rfl := Option.some.inj H
         go_enter Try.func23, Try.ntmps23
         go_wp2_with (first | ((with_reducible refine gate_builtin (b := .append) (xs := #[.tmp 6, .tmp 7]) rfl ?_); (try (refine gate_guard (by rfl) ?_; dsimp only)); at_builtin; refine Kd.R_append_rows (Kd.int .u8) (w0 := w) w.heap.size rfl (.tmp 6) (.tmp 7) 27 5 (.int .u8 0) 1 rfl Try.underlying27 info5 rfl (by decide) (by omega) (.slice none 0 0) ([] : List Int) l0 _ _ _ (fun _ => True) (fun _ => False) rfl rfl ?aO ?aR (fun _ _ h => h) (fun _ h => h.elim) ?aF ?aB ?aS ?aL ?_; (case aR => repeat (first | exact HR0.out | (with_reducible refine Kd.C_alloc ?_ _) | (with_reducible refine Kd.C_drewN ?_ _) | (with_reducible refine Kd.C_drew ?_))); (case aB => exact (by repeat (first | (with_reducible first | exact HB.out | apply below_alloc | apply pw_below_drewN | apply below_drew1) | exact HB.out))); (case aF => exact (fun _ _ => trivial)); (case aO => exact ((Kd.R_nil _ _ _ _ (fun _ => True)))); (case aS => exact (below_size (by repeat (first | (with_reducible first | exact HB.out | apply below_alloc | apply pw_below_drewN | apply below_drew1) | exact HB.out)))); (case aL => have := LMc3.out; omega); intro v102 w8 ho hb hg hat; rw [← Ny101.out] at ho; have n0_ := Aside0.mk (hb); have n1_ := Aside0.mk (ho); clear HB; have HB := n0_; have HO103 := n1_; clear n0_ n1_; clear ho hb hg hat) | (go_at_call 53; (with_reducible refine (scullerref03_Get_c.calls _ _ l0 a1 true _ ?side1 ?side2 A6.out).mono ?_); (case side1 => repeat (first | exact (Kd.C_below HR0.out HB.out) | (with_reducible refine Kd.C_alloc ?_ _) | (with_reducible refine Kd.C_drewN ?_ _) | (with_reducible refine Kd.C_drew ?_))); (case side2 => exact HC0.out); rintro e w' ⟨rfl, ⟨nd, rfl⟩⟩))
         go_ret
         exact ⟨_, by first | rfl | (simp [errW_none, errW_some] <;> rfl) | (simp [*, errW_none, errW_some] <;> rfl), by (with_reducible repeat (first | apply Kd.R_alloc | apply Kd.R_drewN | apply Kd.R_drew)); exact HO103.out, by repeat (first | (with_reducible first | exact HB.out | apply below_alloc | apply pw_below_drewN | apply below_drew1) | exact HB.out)⟩
       · replace c7 := Bool.eq_false_iff.mpr c7
         subst c7
         have H1 : (if 0 ≤ (wrap64 (Int.tdiv a1 8)) then (if (wrap64 (Int.tdiv a1 8)) < (y101.length : Int) then (if 0 ≤ (IntKind.u64.wrap (Int.tmod a1 8)) then (some (y101.set ((wrap64 (Int.tdiv a1 8)) : Int).toNat (((rd y101 (wrap64 (Int.tdiv a1 8))) + (shl .u8 1 (IntKind.u64.wrap (Int.tmod a1 8)))) % 256))) else (none)) else (none)) else (none)) = some r := by rw [if_neg (show ¬ (false = true) by decide)] at H; exact H
         clear H
         have H := H1
         clear H1
         obtain ⟨ji9, hji9⟩ : ∃ j_ : Int, (wrap64 (Int.tdiv a1 8)) = j_ := ⟨_, rfl⟩
         replace H : (if 0 ≤ (ji9) then (if (ji9) < (y101.length : Int) then (if 0 ≤ (IntKind.u64.wrap (Int.tmod a1 8)) then (some (y101.set ((ji9) : Int).toNat (((rd y101 (ji9)) + (shl .u8 1 (IntKind.u64.wrap (Int.tmod a1 8)))) % 256))) else (none)) else (none)) else (none)) = some r := by first | (rw [hji9] at H; exact H) | (simp only [hji9] at H ⊢; exact H)
         (try rw [hji9] at c5b0)
         (try rw [hji9] at A6)
         have hji9w : (IntKind.i64.wrap (Int.tdiv a1 8)) = ji9 := (i64_w _).trans hji9
         by_cases c10 : 0 ≤ (ji9)
         · rw [if_pos c10] at H
           have c10b0 : decide (0 ≤ (ji9)) = true := decide_eq_true c10
           clear c10
           by_cases c11 : (ji9) < (y101.length : Int)
           · rw [if_pos c11] at H
             have c11b0 : decide ((ji9) < (y101.length : Int)) = true := decide_eq_true c11
             clear c11
             obtain ⟨ji12, hji12⟩ : ∃ j_ : Int, (IntKind.u64.wrap (Int.tmod a1 8)) = j_ := ⟨_, rfl⟩
             replace H : (if 0 ≤ (ji12) then (some (y101.set ((ji9) : Int).toNat (((rd y101 (ji9)) + (shl .u8 1 (ji12))) % 256))) else (none)) = some r := by first | (rw [hji12] at H; exact H) | (simp only [hji12] at H ⊢; exact H)
             (try rw [hji12] at A6)
             by_cases c13 : 0 ≤ (ji12)
             · rw [if_pos c13] at H
               have c13b0 := eq_true c13
               have c13b1 : decide (0 ≤ (ji12)) = true := decide_eq_true c13
               clear c13
               obtain ⟨ji14, hji14⟩ : ∃ j_ : Int, (shl .u8 1 (ji12)) = j_ := ⟨_, rfl⟩
               replace H : (some (y101.set ((ji9) : Int).toNat (((rd y101 (ji9)) + (ji14)) % 256))) = some r := by first | (rw [hji14] at H; exact H) | (simp only [hji14] at H ⊢; exact H)
               (try rw [hji14] at A6)
               have hji14_ : (IntKind.u8.wrap (1 * 2 ^ min (ji12).toNat 8)) = ji14 := hji14
               have hji14z : (ji12) ≤ 8 → (IntKind.u8.wrap (1 * 2 ^ (ji12).toNat)) = ji14 := shl_small hji14
               have hji14u : (IntKind.u8.wrap (2 ^ min (ji12).toNat 8)) = ji14 := by have h_ := hji14_; rw [Int.one_mul] at h_; exact h_
               have hji14v : (ji12) ≤ 8 → (IntKind.u8.wrap (2 ^ (ji12).toNat)) = ji14 := fun hle_ => by have h_ := hji14z hle_; rw [Int.one_mul] at h_; exact h_
               obtain ⟨y106, hy106⟩ : ∃ y_ : List Int, y_ = (y101.set ((ji9) : Int).toNat (((rd y101 (ji9)) + (ji14)) % 256)) := ⟨_, rfl⟩
               replace H : (some y106) = some r := by first | (rw [hy106]; with_reducible exact H) | (have H2_ := (Option.bind_some _ _).symm.trans H; rw [hy106]; with_reducible exact H2_) | (have H2_ := (Option.bind_some _ _).symm.trans H; with_reducible exact H2_) | with_reducible exact H | (rw [hy106]; exact H) | exact H
               have Ny106 := Aside0.mk hy106
               clear hy106
               obtain rfl := Option.some.inj H
               go_enter Try.func23, Try.ntmps23
               go_wp2_with (first | ((with_reducible refine gate_builtin (b := .append) (xs := #[.tmp 6, .tmp 7]) rfl ?_); (try (refine gate_guard (by rfl) ?_; dsimp only)); at_builtin; refine Kd.R_append_rows (Kd.int .u8) (w0 := w) w.heap.size rfl (.tmp 6) (.tmp 7) 27 5 (.int .u8 0) 1 rfl Try.underlying27 info5 rfl (by decide) (by omega) (.slice none 0 0) ([] : List Int) l0 _ _ _ (fun _ => True) (fun _ => False) rfl rfl ?aO ?aR (fun _ _ h => h) (fun _ h => h.elim) ?aF ?aB ?aS ?aL ?_; (case aR => repeat (first | exact HR0.out | (with_reducible refine Kd.C_alloc ?_ _) | (with_reducible refine Kd.C_drewN ?_ _) | (with_reducible refine Kd.C_drew ?_))); (case aB => exact (by repeat (first | (with_reducible first | exact HB.out | apply below_alloc | apply pw_below_drewN | apply below_drew1) | exact HB.out))); (case aF => exact (fun _ _ => trivial)); (case aO => exact ((Kd.R_nil _ _ _ _ (fun _ => True)))); (case aS => exact (below_size (by repeat (first | (with_reducible first | exact HB.out | apply below_alloc | apply pw_below_drewN | apply below_drew1) | exact HB.out)))); (case aL => have := LMc3.out; omega); intro v102 w16 ho hb hg hat; rw [← Ny101.out] at ho; have n0_ := Aside0.mk (hb); have n1_ := Aside0.mk (ho); clear HB; have HB := n0_; have HO103 := n1_; clear n0_ n1_; clear ho hb hg hat) | (go_at_call 53; (with_reducible refine (scullerref03_Get_c.calls _ _ l0 a1 false _ ?side1 ?side2 A6.out).mono ?_); (case side1 => repeat (first | exact (Kd.C_below HR0.out HB.out) | (with_reducible refine Kd.C_alloc ?_ _) | (with_reducible refine Kd.C_drewN ?_ _) | (with_reducible refine Kd.C_drew ?_))); (case side2 => exact HC0.out); rintro e w' ⟨rfl, ⟨nd, rfl⟩⟩; (try (rw [drewN_self w16]; generalize hq_ : World.drewN w16 _ = w16; have n0_ : Aside0 (Kd.R (Kd.int .u8) 5 w16 w.heap.size (fun _ => True) v102 y101) := ⟨by rw [← hq_]; exact (by (with_reducible repeat (first | apply Kd.R_alloc | apply Kd.R_drewN | apply Kd.R_drew)); exact HO103.out)⟩; have n1_ : Aside0 (Below w.heap.size w w16) := ⟨by rw [← hq_]; exact (by repeat (first | (with_reducible first | exact HB.out | apply below_alloc | apply pw_below_drewN | apply below_drew1) | exact HB.out))⟩; clear HO103 HB hq_; have HO103 := n0_; have HB := n1_; clear n0_ n1_)); obtain ⟨Ao17, co17, eo17⟩ := Kd.R_slice HO103.out; subst eo17; have p105 : 0 ≤ ((ji9) : Int) := of_decide_eq_true (by first | (with_reducible assumption) | assumption); have q105 : (ji9) < (y101.length : Int) := of_decide_eq_true (by first | (with_reducible assumption) | assumption); obtain ⟨ad105, e105, hx105_0⟩ := Kd.at_int (Kd.R_reads' HO103.out).2.2 (ji9) p105 q105; cases e105; replace p105 := eq_true p105; replace q105 := eq_true q105; have p15 : 0 ≤ ((ji9) : Int) := of_decide_eq_true (by first | (with_reducible assumption) | assumption); have q15 : ((ji9) : Int) < ((y101.length : Int) : Int) := of_decide_eq_true (by first | (with_reducible assumption) | assumption); obtain ⟨go15, co15, eo15, gb15, gl15, cl15, HG15⟩ := Kd.R_form HO103.out (by omega); (first | cases eo15 | (injection eo15 with ea_ en_ ec_; (first | subst ea_ | (injection ea_ with ea_; subst ea_)); subst ec_; clear en_)); have GB15 := Aside0.mk gb15; have GG15 := Aside0.mk HG15; clear gb15 gl15 HG15; (first | simp only [add_plain] at hx105_0 | skip); obtain ⟨hx15_0, hf15_0⟩ := Kd.R_celln 0 HO103.out ((ji9) : Int) p15 q15; replace p15 := eq_true p15; replace q15 := eq_true q15; obtain ⟨hy18_, hz18_⟩ := Kd.R_celln 0 HO103.out ((ji9) : Int) (of_decide_eq_true (by first | (with_reducible assumption) | assumption)) (of_decide_eq_true (by first | (with_reducible assumption) | assumption)); have HP18 := Kd.R_putg HO103.out ((ji9) : Int) (((rd y101 (ji9)) + (ji14)) % 256)) | ((with_reducible refine gate_store (t := 5) (p := 34) rfl ?_); refine store_event (t := 5) (p := 34) (v := ?vo_w19) (w1 := (w16.setCell ⟨go15, ((ji9) : Int).toNat, none⟩ (.int .u8 (((rd y101 (ji9)) + (ji14)) % 256)))) ?hg ?ho ?hn ?hr ?_; (case ho => rfl); (case hg => rfl); (case hn => rfl); (case hr => first | (go_simp; done) | (go_simp; rfl)); intro w19 hw; have hg : w16.grownBy w19 (some go15) := (by rw [hw]; exact HP18.2); have hp_ : Kd.R (Kd.int .u8) 5 w19 w.heap.size (fun _ => True) (.slice (some ⟨go15, 0, none⟩) y101.length co17) y106 := (by rw [hw, Ny106.out]; exact HP18.1); clear HP18; have n0_ := Aside0.mk (hp_); have n1_ := Aside0.mk ((by rw [hw]; exact below_set (HB.out) GB15.out : Below w.heap.size w w19)); clear HO103; clear HB; have HO103 := n0_; have HB := n1_; clear n0_ n1_; clear hg hw hp_))
               go_ret
               exact ⟨_, by first | rfl | (simp [errW_none, errW_some] <;> rfl) | (simp only [← hji9, ← hji12, ← hji14]; first | rfl | (simp [errW_none, errW_some] <;> rfl)) | (simp [*, errW_none, errW_some] <;> rfl), by (with_reducible repeat (first | apply Kd.R_alloc | apply Kd.R_drewN | apply Kd.R_drew)); exact HO103.out, by repeat (first | (with_reducible first | exact HB.out | apply below_alloc | apply pw_below_drewN | apply below_drew1) | exact HB.out)⟩
             · rw [if_neg c13] at H
               exact absurd H (by simp)
           · rw [if_neg c11] at H
             exact absurd H (by simp)
         · rw [if_neg c10] at H
           exact absurd H (by simp)
     · rw [if_neg c5] at H
       have c5b0 : decide ((wrap64 (Int.tdiv a1 8)) < (l0.length : Int)) = false := decide_eq_false c5
       clear c5
       obtain rfl := Option.some.inj H
       go_enter Try.func23, Try.ntmps23
       go_wp2_with (first | ((with_reducible refine gate_builtin (b := .append) (xs := #[.tmp 6, .tmp 7]) rfl ?_); (try (refine gate_guard (by rfl) ?_; dsimp only)); at_builtin; refine Kd.R_append_rows (Kd.int .u8) (w0 := w) w.heap.size rfl (.tmp 6) (.tmp 7) 27 5 (.int .u8 0) 1 rfl Try.underlying27 info5 rfl (by decide) (by omega) (.slice none 0 0) ([] : List Int) l0 _ _ _ (fun _ => True) (fun _ => False) rfl rfl ?aO ?aR (fun _ _ h => h) (fun _ h => h.elim) ?aF ?aB ?aS ?aL ?_; (case aR => repeat (first | exact HR0.out | (with_reducible refine Kd.C_alloc ?_ _) | (with_reducible refine Kd.C_drewN ?_ _) | (with_reducible refine Kd.C_drew ?_))); (case aB => exact (by repeat (first | (with_reducible first | exact HB.out | apply below_alloc | apply pw_below_drewN | apply below_drew1) | exact HB.out))); (case aF => exact (fun _ _ => trivial)); (case aO => exact ((Kd.R_nil _ _ _ _ (fun _ => True)))); (case aS => exact (below_size (by repeat (first | (with_reducible first | exact HB.out | apply below_alloc | apply pw_below_drewN | apply below_drew1) | exact HB.out)))); (case aL => have := LMc3.out; omega); intro v102 w20 ho hb hg hat; rw [← Ny101.out] at ho; have n0_ := Aside0.mk (hb); have n1_ := Aside0.mk (ho); clear HB; have HB := n0_; have HO103 := n1_; clear n0_ n1_; clear ho hb hg hat))
       go_ret
       exact ⟨_, by first | rfl | (simp [errW_none, errW_some] <;> rfl) | (simp [*, errW_none, errW_some] <;> rfl), by (with_reducible repeat (first | apply Kd.R_alloc | apply Kd.R_drewN | apply Kd.R_drew)); exact HO103.out, by repeat (first | (with_reducible first | exact HB.out | apply below_alloc | apply pw_below_drewN | apply below_drew1) | exact HB.out)⟩
   · rw [if_neg c4] at H
     have c4b0 : decide (0 ≤ a1) = false := decide_eq_false c4
     clear c4
     obtain rfl := Option.some.inj H
     go_enter Try.func23, Try.ntmps23
     go_wp2_with (first | ((with_reducible refine gate_builtin (b := .append) (xs := #[.tmp 6, .tmp 7]) rfl ?_); (try (refine gate_guard (by rfl) ?_; dsimp only)); at_builtin; refine Kd.R_append_rows (Kd.int .u8) (w0 := w) w.heap.size rfl (.tmp 6) (.tmp 7) 27 5 (.int .u8 0) 1 rfl Try.underlying27 info5 rfl (by decide) (by omega) (.slice none 0 0) ([] : List Int) l0 _ _ _ (fun _ => True) (fun _ => False) rfl rfl ?aO ?aR (fun _ _ h => h) (fun _ h => h.elim) ?aF ?aB ?aS ?aL ?_; (case aR => repeat (first | exact HR0.out | (with_reducible refine Kd.C_alloc ?_ _) | (with_reducible refine Kd.C_drewN ?_ _) | (with_reducible refine Kd.C_drew ?_))); (case aB => exact (by repeat (first | (with_reducible first | exact HB.out | apply below_alloc | apply pw_below_drewN | apply below_drew1) | exact HB.out))); (case aF => exact (fun _ _ => trivial)); (case aO => exact ((Kd.R_nil _ _ _ _ (fun _ => True)))); (case aS => exact (below_size (by repeat (first | (with_reducible first | exact HB.out | apply below_alloc | apply pw_below_drewN | apply below_drew1) | exact HB.out)))); (case aL => have := LMc3.out; omega); intro v102 w21 ho hb hg hat; rw [← Ny101.out] at ho; have n0_ := Aside0.mk (hb); have n1_ := Aside0.mk (ho); clear HB; have HB := n0_; have HO103 := n1_; clear n0_ n1_; clear ho hb hg hat))
     go_ret
     exact ⟨_, by first | rfl | (simp [errW_none, errW_some] <;> rfl) | (simp [*, errW_none, errW_some] <;> rfl), by (with_reducible repeat (first | apply Kd.R_alloc | apply Kd.R_drewN | apply Kd.R_drew)); exact HO103.out, by repeat (first | (with_reducible first | exact HB.out | apply below_alloc | apply pw_below_drewN | apply below_drew1) | exact HB.out)⟩
 · rw [if_neg c3] at H
   exact absurd H (by simp)

end Go.Proofs.Ytbijnfhcbanhdaa.F
end

section
namespace Go.Proofs.Ytbijnfhcbanhdaa.F
open Go.RowKit Go.Proofs.YtbijnfhcbanhdaaW.PrintWords Go.Proofs.YtbijnfhcbanhdaaW.PrintLast Go.Proofs.YtbijnfhcbanhdaaW.PrintMore
attribute [local go_sem] max2_int min2_int max_two min_two max_three min_three max_four min_four   -- for this text's walks alone
set_option linter.unusedVariables false
set_option linter.unusedSimpArgs false

open Go.Proofs.Ytbijnfhcbanhdaa.H
def scullerref03_Set_c.f (l0 : List Int) (a1 : Int) : Option (List Int) := if bytesB l0 = true ∧ l0.length < 140737488355328 ∧ a1 ≤ 9223372036854775807 then some (setB l0 a1) else none
theorem scullerref03_Set_c.to {l0 : List Int} {a1 : Int} {r : List Int} (h : scullerref03_Set_c.f l0 a1 = some r) : scullerref03_Set.f l0 a1 = some r := by
 unfold scullerref03_Set_c.f at h
 split at h
 case isFalse => cases h
 case isTrue hb =>
 obtain rfl := Option.some.inj h
 obtain ⟨hb, hl, ha⟩ := hb
 rw [scullerref03_Set.f, if_pos (by simpa using hl), List.nil_append, Option.bind_some]
 by_cases h0 : a1 ≥ 0
 · obtain ⟨a, rfl⟩ := Int.eq_ofNat_of_zero_le h0
   have ew : wrap64 (Int.tdiv (a : Int) 8) = ((a / 8 : Nat) : Int) := by rw [Int.tdiv_eq_ediv_of_nonneg (by omega)]; unfold wrap64; omega
   have em : IntKind.u64.wrap (Int.tmod (a : Int) 8) = ((a % 8 : Nat) : Int) := by
    rw [Int.tmod_eq_emod_of_nonneg (by omega)]
    simp only [IntKind.wrap, IntKind.signed, IntKind.bits]; simp; omega
   obtain ⟨b, hb8, e⟩ := getD_byte hb (a / 8)
   rw [if_pos h0, ew]
   by_cases hlt : a / 8 < l0.length
   · rw [if_pos (by omega), scullerref03_Get_c.f, if_pos ⟨hb, by omega, by omega⟩, Option.bind_some, decide_eq_true (by omega : (0 : Int) ≤ (a : Int)), Bool.true_and, Int.toNat_natCast]
     by_cases hg : getB l0 a = true
     · rw [if_pos hg]
       unfold setB
       rw [if_neg (by rw [Int.toNat_natCast]; intro h; rw [hg] at h; exact absurd h.2.2 (by decide))]
     · rw [if_neg hg, if_pos (by omega), if_pos (by omega), em, if_pos (by omega)]
       have hgf : getB l0 a = false := by simpa using hg
       unfold setB
       rw [if_pos ⟨by omega, by omega, by rw [Int.toNat_natCast]; exact hgf⟩, Int.toNat_natCast, Int.toNat_natCast]
       have er : rd l0 ((a / 8 : Nat) : Int) = l0.getD (a / 8) 0 := by unfold rd; rw [Int.toNat_natCast]
       have hg2 := hgf
       simp only [getB, decide_eq_false_iff_not] at hg2
       rw [e, getB_nat] at hg2
       have h1 := byte_set ⟨b, hb8⟩ ⟨a % 8, by omega⟩ (by simp only; omega)
       simp only at h1
       have e2 : (b : Int) + 2 ^ (a % 8) = ((b + 2 ^ (a % 8) : Nat) : Int) := by simp
       have es : shl .u8 1 ((a % 8 : Nat) : Int) = (2 : Int) ^ (a % 8) := by
        have h8 : a % 8 < 8 := by omega
        unfold shl
        rw [Int.toNat_natCast, Nat.min_eq_left (by simp [IntKind.bits]; omega)]
        have : ∀ j : Fin 8, IntKind.u8.wrap (1 * 2 ^ j.val) = 2 ^ j.val := by decide
        exact this ⟨a % 8, h8⟩
       obtain ⟨q, hq⟩ : ∃ q, b + 2 ^ (a % 8) = q := ⟨_, rfl⟩
       rw [er, es, e, e2, hq]
       rw [hq] at h1
       congr 2
       omega
   · rw [if_neg (by omega)]
     unfold setB
     rw [if_neg (by omega)]
 · rw [if_neg h0]
   unfold setB
   rw [if_neg (by omega)]

theorem scullerref03_Set_c.calls (A0 : Option Addr) (c0 : Nat) (l0 : List Int) (a1 : Int) (r : List Int) (w : World) (hr0 : Kd.C (Kd.int .u8) w A0 l0.length l0) (hc0 : l0.length ≤ c0) (h : scullerref03_Set_c.f l0 a1 = some r) :
 Calls Try.prog 23 #[.slice A0 l0.length c0, .int .i64 a1] w fun e w' => ∃ v0_ : Value, e = .returned (v0_) ∧ Kd.R (Kd.int .u8) 5 w' w.heap.size (fun _ => True) v0_ r ∧ Below w.heap.size w w' := by
 exact scullerref03_Set.calls A0 c0 l0 a1 r w hr0 hc0 (scullerref03_Set_c.to h)

end Go.Proofs.Ytbijnfhcbanhdaa.F
end

section
namespace Go.Proofs.Ytbijnfhcbanhdaa.F
open Go.RowKit Go.Proofs.YtbijnfhcbanhdaaW.PrintWords Go.Proofs.YtbijnfhcbanhdaaW.PrintLast Go.Proofs.YtbijnfhcbanhdaaW.PrintMore
attribute [local go_sem] max2_int min2_int max_two min_two max_three min_three max_four min_four   -- for this text's walks alone
set_option linter.unusedVariables false
set_option linter.unusedSimpArgs false

/-! ### scullerref02_Step: function 93 -/
def scullerref02_Step.f (a0 : Int) : Option (Int) := if (Int.tmod a0 2) = 1 then (some (Go.bits .xor .u32 ((Int.tdiv a0 2) % 4294967296) 2197175160)) else (some ((Int.tdiv a0 2) % 4294967296))
set_option maxHeartbeats 8000000 in
set_option maxRecDepth 100000 in
theorem scullerref02_Step.calls (a0 : Int) (r : Int) (w : World) (h : scullerref02_Step.f a0 = some r) :
 Calls Try.prog 93 #[.int .u32 a0] w fun e w' => e = .returned (.int .u32 r) ∧ Drawn0 w w' := by
 have H : (if (Int.tmod a0 2) = 1 then (some (Go.bits .xor .u32 ((Int.tdiv a0 2) % 4294967296) 2197175160)) else (some ((Int.tdiv a0 2) % 4294967296))) = some r := h
 clear h
 by_cases c2 : (Int.tmod a0 2) = 1
 · rw [if_pos c2] at H
   have c2b0 : ((Int.tmod a0 2) == 1) = true := beq_iff_eq.mpr c2
   have c2b1 : ((Int.tmod a0 2) != 1) = false := bne_eq_false_iff_eq.mpr c2
   clear c2
   obtain rfl := Option.some.inj H
   go_enter Try.func93, Try.ntmps93
   go_wp2
   go_ret
   exact ⟨by first | rfl | (simp; done) | (simp [*]; done), by repeat (first | exact Drawn0.refl _ | apply Drawn0.step)⟩
 · rw [if_neg c2] at H
   have c2b0 : ((Int.tmod a0 2) == 1) = false := beq_eq_false_iff_ne.mpr c2
   have c2b1 : ((Int.tmod a0 2) != 1) = true := bne_iff_ne.mpr c2
   obtain rfl := Option.some.inj H
   go_enter Try.func93, Try.ntmps93
   go_wp2
   go_ret
   exact ⟨by first | rfl | (simp; done) | (simp [*]; done), by repeat (first | exact Drawn0.refl _ | apply Drawn0.step)⟩

end Go.Proofs.Ytbijnfhcbanhdaa.F
end

section
namespace Go.Proofs.Ytbijnfhcbanhdaa.F
open Go.RowKit Go.Proofs.YtbijnfhcbanhdaaW.PrintWords Go.Proofs.YtbijnfhcbanhdaaW.PrintLast Go.Proofs.YtbijnfhcbanhdaaW.PrintMore
attribute [local go_sem] max2_int min2_int max_two min_two max_three min_three max_four min_four   -- for this text's walks alone
set_option linter.unusedVariables false
set_option linter.unusedSimpArgs false

/-! ### scullerref02_More: function 79 -/
mutual
def scullerref02_More.l0 : Nat → Int → List Int → Int → Option (Int)
 | 0, _, _, _ => none
 | k + 1, x0, x1, x5 => if x5 < (x1.length : Int) then (if 0 ≤ x5 then (scullerref02_More.l1 k (Go.bits .xor .u32 x0 ((rd x1 x5) % 4294967296)) x1 x5 0) else (none)) else (some (Go.bits .xor .u32 x0 4294967295))
def scullerref02_More.l1 : Nat → Int → List Int → Int → Int → Option (Int)
 | 0, _, _, _, _ => none
 | k + 1, x0, x1, x5, x6 => if x6 < 8 then ((scullerref02_Step.f x0).bind fun t102 => (scullerref02_More.l1 k t102 x1 x5 (wrap64 (x6 + 1)))) else (scullerref02_More.l0 k x0 x1 (wrap64 (x5 + 1)))
end
def scullerref02_More.f (k : Nat) (a0 : Int) (l1 : List Int) : Option (Int) := scullerref02_More.l0 k (Go.bits .xor .u32 a0 4294967295) l1 0
theorem scullerref02_More.mono_l : ∀ k, (∀ y0 y1 y2, LeO (scullerref02_More.l0 k y0 y1 y2) (scullerref02_More.l0 (k + 1) y0 y1 y2)) ∧ (∀ y0 y1 y2 y3, LeO (scullerref02_More.l1 k y0 y1 y2 y3) (scullerref02_More.l1 (k + 1) y0 y1 y2 y3))
 | 0 => ⟨fun _ _ _ r h => by simp [scullerref02_More.l0] at h, fun _ _ _ _ r h => by simp [scullerref02_More.l1] at h⟩
 | k + 1 => by
   obtain ⟨ih0, ih1⟩ := scullerref02_More.mono_l k
   refine ⟨?_, ?_⟩
   · intro y0 y1 y2
     unfold scullerref02_More.l0
     repeat' first
     | (with_reducible exact ih0 _ _ _)
     | (with_reducible exact ih1 _ _ _ _)
     | (with_reducible exact LeO.refl _)
     | (with_reducible exact LeO.none _)
     | (with_reducible refine LeO.ite ?_ ?_)
     | (with_reducible refine LeO.bind ?_ (fun _ => ?_))
     | exact ih0 _ _ _
     | exact ih1 _ _ _ _
     | exact LeO.none _
     | refine LeO.ite ?_ ?_
     | refine LeO.bind ?_ (fun _ => ?_)
   · intro y0 y1 y2 y3
     unfold scullerref02_More.l1
     repeat' first
     | (with_reducible exact ih0 _ _ _)
     | (with_reducible exact ih1 _ _ _ _)
     | (with_reducible exact LeO.refl _)
     | (with_reducible exact LeO.none _)
     | (with_reducible refine LeO.ite ?_ ?_)
     | (with_reducible refine LeO.bind ?_ (fun _ => ?_))
     | exact ih0 _ _ _
     | exact ih1 _ _ _ _
     | exact LeO.none _
     | refine LeO.ite ?_ ?_
     | refine LeO.bind ?_ (fun _ => ?_)
theorem scullerref02_More.mono : ∀ a0 a1 k, LeO (scullerref02_More.f k a0 a1) (scullerref02_More.f (k + 1) a0 a1) := by
 intro a0 a1 k
 obtain ⟨ih0, ih1⟩ := scullerref02_More.mono_l k
 unfold scullerref02_More.f
 repeat' first
  | (with_reducible exact ih0 _ _ _)
  | (with_reducible exact ih1 _ _ _ _)
  | (with_reducible exact LeO.refl _)
  | (with_reducible exact LeO.none _)
  | (with_reducible refine LeO.ite ?_ ?_)
  | (with_reducible refine LeO.bind ?_ (fun _ => ?_))
  | exact ih0 _ _ _
  | exact ih1 _ _ _ _
  | exact LeO.none _
  | refine LeO.ite ?_ ?_
  | refine LeO.bind ?_ (fun _ => ?_)
set_option maxHeartbeats 8000000 in
set_option maxRecDepth 100000 in
theorem scullerref02_More.calls (k : Nat) (a0 : Int) (A1 : Option Addr) (c1 : Nat) (l1 : List Int) (r : Int) (w : World) (hr1 : Kd.C (Kd.int .u8) w A1 l1.length l1) (hc1 : l1.length ≤ c1) (h : scullerref02_More.f k a0 l1 = some r) :
 Calls Try.prog 79 #[.int .u32 a0, .slice A1 l1.length c1] w fun e w' => e = .returned (.int .u32 r) ∧ Drawn0 w w' := by
 have HR1 := Aside0.mk hr1
 have HC1 := Aside0.mk hc1
 clear hr1 hc1
 have H : (scullerref02_More.l0 k (Go.bits .xor .u32 a0 4294967295) l1 0) = some r := h
 clear h
 have H' := Aside0.mk H
 clear H
 go_enter Try.func79, Try.ntmps79
 go_wp2
 go_loopg [0, 5] k (fun kq v0 v5 w' => ∃ (x0_1 : Int) (x5_1 : Int), v0 = .int .u32 x0_1 ∧ v5 = .int .i64 x5_1 ∧ Aside0 (scullerref02_More.l0 kq x0_1 l1 x5_1 = some r) ∧ Aside0 (kq ≤ k) ∧ Drawn0 w w')
 case atStart => exact ⟨(Go.bits .xor .u32 a0 4294967295), (0), (by first | rfl | (simp; done) | (simp [*]; done)), (by first | rfl | (simp; done) | (simp [*]; done)), H', ⟨Nat.le_refl _⟩, by repeat (first | exact Drawn0.refl _ | apply Drawn0.step)⟩
 case round =>
  clear H'
  try clear c1
  try clear p2
  obtain ⟨x0_1, x5_1, rfl, rfl, HA, HK1, ⟨m1, rfl⟩⟩ := hrel
  cases gk with
  | zero => exact absurd HA.out (by simp [scullerref02_More.l0])
  | succ k1 =>
    have H := HA.out
    clear HA
    simp only [scullerref02_More.l0] at H
    by_cases c3 : x5_1 < (l1.length : Int)
    · rw [if_pos c3] at H
      have c3b0 : decide (x5_1 < (l1.length : Int)) = true := decide_eq_true c3
      clear c3
      by_cases c4 : 0 ≤ x5_1
      · rw [if_pos c4] at H
        have c4b0 : decide (0 ≤ x5_1) = true := decide_eq_true c4
        clear c4
        have H' := Aside0.mk H
        clear H
        have p101 : 0 ≤ (x5_1 : Int) := of_decide_eq_true (by first | (with_reducible assumption) | assumption)
        have q101 : x5_1 < (l1.length : Int) := of_decide_eq_true (by first | (with_reducible assumption) | assumption)
        obtain ⟨ad101, e101, hx101_0⟩ := Kd.at_int HR1.out x5_1 p101 q101
        cases e101
        replace p101 := eq_true p101
        replace q101 := eq_true q101
        go_wp2
        go_loopg [0, 6] k1 (fun kq v0 v6 w' => ∃ (x0_2 : Int) (x6_2 : Int), v0 = .int .u32 x0_2 ∧ v6 = .int .i64 x6_2 ∧ Aside0 (scullerref02_More.l1 kq x0_2 l1 x5_1 x6_2 = some r) ∧ Aside0 (kq ≤ k1) ∧ Drawn0 w w')
        case atStart => exact ⟨(Go.bits .xor .u32 x0_1 ((rd l1 x5_1) % 4294967296)), (0), (by first | rfl | (simp; done) | (simp [*]; done)), (by first | rfl | (simp; done) | (simp [*]; done)), H', ⟨Nat.le_refl _⟩, by repeat (first | exact Drawn0.refl _ | apply Drawn0.step)⟩
        case round =>
         clear H'
         try clear c1
         try clear p1
         try clear q1
         try clear hx1
         try clear p2
         try clear c3
         try clear c3b0
         try clear c4
         try clear c4b0
         try clear hx101_0
         try clear p101
         try clear p2
         try clear q101
         obtain ⟨x0_2, x6_2, rfl, rfl, HA, HK2, ⟨m2, rfl⟩⟩ := hrel
         cases gk with
         | zero => exact absurd HA.out (by simp [scullerref02_More.l1])
         | succ k2 =>
           have H := HA.out
           clear HA
           simp only [scullerref02_More.l1] at H
           by_cases c5 : x6_2 < 8
           · rw [if_pos c5] at H
             have c5b0 : decide (x6_2 < 8) = true := decide_eq_true c5
             clear c5
             replace H := Option.bind_eq_some_iff.mp H
             obtain ⟨t102, A60, H⟩ := H
             replace H : (scullerref02_More.l1 k2 t102 l1 x5_1 (wrap64 (x6_2 + 1))) = some r := H
             have A6 := Aside0.mk A60
             clear A60
             have H' := Aside0.mk H
             clear H
             go_wp2_with (first | ((with_reducible refine gate_callee (f := 93) rfl ?_); refine goesL_ (some 27) rfl rfl Try.func93 (by kernel_rfl) rfl #[.int .u32 x0_2] rfl (by (try simp only [List.map_toArray, List.map_cons, List.map_nil]); first | done | rfl | (simp only [List.length_drop, List.length_take]; rfl)) ?_; (with_reducible refine (scullerref02_Step.calls x0_2 t102 _ A6.out).mono ?_); rintro e w' ⟨rfl, ⟨nd, rfl⟩⟩; refine ⟨_, rfl, ?_⟩))
             go_roundg k2
             case measure => have := HK1.out; have := HK2.out; omega
             case rel => exact ⟨(t102), (wrap64 (x6_2 + 1)), (by first | rfl | (simp; done) | (simp [*]; done)), (by first | rfl | (simp; done) | (simp [*]; done)), H', ⟨by have := HK1.out; have := HK2.out; omega⟩, by repeat (first | exact Drawn0.refl _ | apply Drawn0.step)⟩
           · rw [if_neg c5] at H
             have c5b0 : decide (x6_2 < 8) = false := decide_eq_false c5
             clear c5
             have H' := Aside0.mk H
             clear H
             go_wp2
             go_roundg k2
             case measure => have := HK1.out; have := HK2.out; omega
             case rel => exact ⟨(x0_2), (wrap64 (x5_1 + 1)), (by first | rfl | (simp; done) | (simp [*]; done)), (by first | rfl | (simp; done) | (simp [*]; done)), H', ⟨by have := HK1.out; have := HK2.out; omega⟩, by repeat (first | exact Drawn0.refl _ | apply Drawn0.step)⟩
      · rw [if_neg c4] at H
        exact absurd H (by simp)
    · rw [if_neg c3] at H
      have c3b0 : decide (x5_1 < (l1.length : Int)) = false := decide_eq_false c3
      clear c3
      obtain rfl := Option.some.inj H
      go_wp2
      go_ret
      exact ⟨by first | rfl | (simp; done) | (simp [*]; done), by repeat (first | exact Drawn0.refl _ | apply Drawn0.step)⟩

end Go.Proofs.Ytbijnfhcbanhdaa.F
end

section
namespace Go.Proofs.Ytbijnfhcbanhdaa.F
open Go.RowKit Go.Proofs.YtbijnfhcbanhdaaW.PrintWords Go.Proofs.YtbijnfhcbanhdaaW.PrintLast Go.Proofs.YtbijnfhcbanhdaaW.PrintMore
attribute [local go_sem] max2_int min2_int max_two min_two max_three min_three max_four min_four   -- for this text's walks alone
set_option linter.unusedVariables false
set_option linter.unusedSimpArgs false

open Go.Proofs.Ytbijnfhcbanhdaa.H
def scullerref02_More_c.f (a0 : Int) (l1 : List Int) : Option Int := if 0 ≤ a0 ∧ a0 < 4294967296 ∧ bytesB l1 = true ∧ l1.length ≤ 140737488355328 then some (moreL a0 l1) else none
theorem scullerref02_Step.is (n : Nat) (h : n < 4294967296) : scullerref02_Step.f (n : Int) = some ((stepN n : Nat) : Int) := by
 unfold scullerref02_Step.f stepN
 have h2 : (Int.tdiv (n : Int) 2) % 4294967296 = ((n / 2 : Nat) : Int) := by rw [Int.tdiv_eq_ediv_of_nonneg (by omega)]; omega
 have h1 : Int.tmod (n : Int) 2 = ((n % 2 : Nat) : Int) := by rw [Int.tmod_eq_emod_of_nonneg (by omega)]; omega
 rw [h1, h2]
 rcases Nat.mod_two_eq_zero_or_one n with e | e <;> rw [e]
 · rw [if_neg (by decide), if_neg (by decide), Nat.xor_zero]
 · rw [if_pos (by decide), if_pos rfl]
   have := Go.u32_xor_nat (n / 2) 2197175160 (by omega) (by omega)
   rw [show ((2197175160 : Nat) : Int) = 2197175160 from rfl] at this
   rw [this]
theorem scullerref02_More.l1_to (l : List Int) (i : Nat) (R : Option Int) : ∀ (d : Nat) (n : Nat), n < 4294967296 → d ≤ 8 → (∃ k, scullerref02_More.l0 k ((stepsN d n : Nat) : Int) l (wrap64 ((i : Int) + 1)) = R) → ∃ k, scullerref02_More.l1 k (n : Int) l (i : Int) ((8 - d : Nat) : Int) = R
 | 0, n, _, _, ⟨k, hk⟩ => ⟨k + 1, by rw [scullerref02_More.l1, if_neg (by omega)]; exact hk⟩
 | d + 1, n, h, hd, hK => by
   obtain ⟨k, hk⟩ := scullerref02_More.l1_to l i R d (stepN n) (stepN_lt h) (by omega) hK
   refine ⟨k + 1, ?_⟩
   rw [scullerref02_More.l1, if_pos (by omega), scullerref02_Step.is n h, Option.bind_some, show wrap64 (((8 - (d + 1) : Nat) : Int) + 1) = ((8 - d : Nat) : Int) from by unfold wrap64; omega]
   exact hk
theorem scullerref02_More.l0_to (l : List Int) (hl : l.length ≤ 140737488355328) (hb : bytesB l = true) : ∀ (d i n : Nat), l.length - i = d → i ≤ l.length → n < 4294967296 → ∃ k, scullerref02_More.l0 k (n : Int) l (i : Int) = some ((crcN n (l.drop i) ^^^ 4294967295 : Nat) : Int)
 | 0, i, n, hd, hi, hn => by
   refine ⟨1, ?_⟩
   have := Go.u32_xor_nat n 4294967295 hn (by omega)
   rw [show ((4294967295 : Nat) : Int) = 4294967295 from rfl] at this
   rw [scullerref02_More.l0, if_neg (by omega), List.drop_of_length_le (by omega), crcN, this]
 | d + 1, i, n, hd, hi, hn => by
   have hlt : i < l.length := by omega
   have hx := bytesB_at hb _ (List.getElem_mem hlt)
   have hr : rd l (i : Int) = l[i] := getD_toNat l 0 i hlt
   have hd2 := drop_at l i hlt
   obtain ⟨x, ex⟩ := Int.eq_ofNat_of_zero_le hx.1
   rw [ex] at hr hd2 hx
   have hxn : n ^^^ x < 2 ^ 32 := Nat.xor_lt_two_pow (by omega) (by omega)
   obtain ⟨k, hk⟩ := scullerref02_More.l0_to l hl hb d (i + 1) (stepsN 8 (n ^^^ x)) (by omega) (by omega) (stepsN_lt 8 (by omega))
   rw [show ((i + 1 : Nat) : Int) = wrap64 ((i : Int) + 1) from by unfold wrap64; omega] at hk
   obtain ⟨k2, hk2⟩ := scullerref02_More.l1_to l i _ 8 (n ^^^ x) (by omega) (by omega) ⟨k, hk⟩
   refine ⟨k2 + 1, ?_⟩
   rw [scullerref02_More.l0, if_pos (by omega), if_pos (by omega), hr, show (x : Int) % 4294967296 = (x : Int) from by omega, Go.u32_xor_nat n x hn (by omega), hd2, crcN, Int.toNat_natCast]
   exact hk2
theorem scullerref02_More_c.to {a0 : Int} {l1 : List Int} {r : Int} (h : scullerref02_More_c.f a0 l1 = some r) : ∃ k, scullerref02_More.f k a0 l1 = some r := by
 unfold scullerref02_More_c.f at h
 split at h
 case isFalse => cases h
 case isTrue hb =>
 obtain rfl := Option.some.inj h
 obtain ⟨h0, h1, h2, h3⟩ := hb
 obtain ⟨n, rfl⟩ := Int.eq_ofNat_of_zero_le h0
 have hx := Go.u32_xor_nat n 4294967295 (by omega) (by omega)
 rw [show ((4294967295 : Nat) : Int) = 4294967295 from rfl] at hx
 have hxn : n ^^^ 4294967295 < 2 ^ 32 := Nat.xor_lt_two_pow (by omega) (by omega)
 obtain ⟨k, hk⟩ := scullerref02_More.l0_to l1 h3 h2 l1.length 0 (n ^^^ 4294967295) (by omega) (by omega) (by omega)
 refine ⟨k, ?_⟩
 rw [scullerref02_More.f, hx]
 exact hk

theorem scullerref02_More_c.calls (a0 : Int) (A1 : Option Addr) (c1 : Nat) (l1 : List Int) (r : Int) (w : World) (hr1 : Kd.C (Kd.int .u8) w A1 l1.length l1) (hc1 : l1.length ≤ c1) (h : scullerref02_More_c.f a0 l1 = some r) :
 Calls Try.prog 79 #[.int .u32 a0, .slice A1 l1.length c1] w fun e w' => e = .returned (.int .u32 r) ∧ Drawn0 w w' := by
 obtain ⟨k_, hk_⟩ := scullerref02_More_c.to h
 exact scullerref02_More.calls k_ a0 A1 c1 l1 r w hr1 hc1 hk_

end Go.Proofs.Ytbijnfhcbanhdaa.F
end

section
namespace Go.Proofs.Ytbijnfhcbanhdaa.F
open Go.RowKit Go.Proofs.YtbijnfhcbanhdaaW.PrintWords Go.Proofs.YtbijnfhcbanhdaaW.PrintLast Go.Proofs.YtbijnfhcbanhdaaW.PrintMore
attribute [local go_sem] max2_int min2_int max_two min_two max_three min_three max_four min_four   -- for this text's walks alone
set_option linter.unusedVariables false
set_option linter.unusedSimpArgs false

/-! ### scullerref02_Sum: function 42 -/
def scullerref02_Sum.f (l0 : List Int) : Option (Int) := (scullerref02_More_c.f 0 l0).bind fun t101 => (some t101)
set_option maxHeartbeats 8000000 in
set_option maxRecDepth 100000 in
theorem scullerref02_Sum.calls (A0 : Option Addr) (c0 : Nat) (l0 : List Int) (r : Int) (w : World) (hr0 : Kd.C (Kd.int .u8) w A0 l0.length l0) (hc0 : l0.length ≤ c0) (h : scullerref02_Sum.f l0 = some r) :
 Calls Try.prog 42 #[.slice A0 l0.length c0] w fun e w' => e = .returned (.int .u32 r) ∧ Drawn0 w w' := by
 have HR0 := Aside0.mk hr0
 have HC0 := Aside0.mk hc0
 clear hr0 hc0
 have H : ((scullerref02_More_c.f 0 l0).bind fun t101 => (some t101)) = some r := h
 clear h
 replace H := Option.bind_eq_some_iff.mp H
 obtain ⟨t101, A20, H⟩ := H
 replace H : (some t101) = some r := H
 have A2 := Aside0.mk A20
 clear A20
 obtain rfl := Option.some.inj H
 go_enter Try.func42, Try.ntmps42
 go_wp2_with (first | ((with_reducible refine gate_callee (f := 79) rfl ?_); refine goesL_ (some 4) rfl rfl Try.func79 (by kernel_rfl) rfl #[.int .u32 0, .slice A0 l0.length c0] rfl (by (try simp only [List.map_toArray, List.map_cons, List.map_nil]); first | done | rfl | (simp only [List.length_drop, List.length_take]; rfl)) ?_; (with_reducible refine (scullerref02_More_c.calls 0 _ _ l0 t101 _ ?side1 ?side2 A2.out).mono ?_); (case side1 => repeat (first | exact HR0.out | (with_reducible refine Kd.C_alloc ?_ _) | (with_reducible refine Kd.C_drewN ?_ _) | (with_reducible refine Kd.C_drew ?_))); (case side2 => exact HC0.out); rintro e w' ⟨rfl, ⟨nd, rfl⟩⟩; refine ⟨_, rfl, ?_⟩))
 go_ret
 exact ⟨by first | rfl | (simp; done) | (simp [*]; done), by repeat (first | exact Drawn0.refl _ | apply Drawn0.step)⟩

end Go.Proofs.Ytbijnfhcbanhdaa.F
end

section
namespace Go.Proofs.Ytbijnfhcbanhdaa.F
open Go.RowKit Go.Proofs.YtbijnfhcbanhdaaW.PrintWords Go.Proofs.YtbijnfhcbanhdaaW.PrintLast Go.Proofs.YtbijnfhcbanhdaaW.PrintMore
attribute [local go_sem] max2_int min2_int max_two min_two max_three min_three max_four min_four   -- for this text's walks alone
set_option linter.unusedVariables false
set_option linter.unusedSimpArgs false

/-! ### scullerref01_Put: function 41 -/
def scullerref01_Put.l0 : Nat → Int → Int → List Int → Int → Option (List Int)
 | 0, _, _, _, _ => none
 | k + 1, x0, x1, x5, x6 => if x6 < x1 then (if x6 < 8 then (if x5.length < 140737488355328 then (scullerref01_Put.l0 k (IntKind.u64.wrap (Int.tdiv x0 256)) x1 (x5 ++ [(Int.tmod x0 256) % 256]) (wrap64 (x6 + 1))) else (none)) else (some x5)) else (some x5)
def scullerref01_Put.f (k : Nat) (a0 : Int) (a1 : Int) : Option (List Int) := scullerref01_Put.l0 k a0 a1 ([] : List Int) 0
theorem scullerref01_Put.mono_l : ∀ k, (∀ y0 y1 y2 y3, LeO (scullerref01_Put.l0 k y0 y1 y2 y3) (scullerref01_Put.l0 (k + 1) y0 y1 y2 y3))
 | 0 => fun _ _ _ _ r h => by simp [scullerref01_Put.l0] at h
 | k + 1 => by
   have ih0 := scullerref01_Put.mono_l k
   · intro y0 y1 y2 y3
     unfold scullerref01_Put.l0
     repeat' first
     | (with_reducible exact ih0 _ _ _ _)
     | (with_reducible exact LeO.refl _)
     | (with_reducible exact LeO.none _)
     | (with_reducible refine LeO.ite ?_ ?_)
     | (with_reducible refine LeO.bind ?_ (fun _ => ?_))
     | exact ih0 _ _ _ _
     | exact LeO.none _
     | refine LeO.ite ?_ ?_
     | refine LeO.bind ?_ (fun _ => ?_)
theorem scullerref01_Put.mono : ∀ a0 a1 k, LeO (scullerref01_Put.f k a0 a1) (scullerref01_Put.f (k + 1) a0 a1) := by
 intro a0 a1 k
 have ih0 := scullerref01_Put.mono_l k
 unfold scullerref01_Put.f
 repeat' first
  | (with_reducible exact ih0 _ _ _ _)
  | (with_reducible exact LeO.refl _)
  | (with_reducible exact LeO.none _)
  | (with_reducible refine LeO.ite ?_ ?_)
  | (with_reducible refine LeO.bind ?_ (fun _ => ?_))
  | exact ih0 _ _ _ _
  | exact LeO.none _
  | refine LeO.ite ?_ ?_
  | refine LeO.bind ?_ (fun _ => ?_)
set_option maxHeartbeats 8000000 in
set_option maxRecDepth 100000 in
theorem scullerref01_Put.calls (k : Nat) (a0 : Int) (a1 : Int) (r : List Int) (w : World) (h : scullerref01_Put.f k a0 a1 = some r) :
 Calls Try.prog 41 #[.int .u64 a0, .int .i64 a1] w fun e w' => ∃ v0_ : Value, e = .returned (v0_) ∧ Kd.R (Kd.int .u8) 5 w' w.heap.size (fun _ => True) v0_ r ∧ Below w.heap.size w w' := by
 have HB := Aside0.mk (Below.refl w.heap.size w)
 have H : (scullerref01_Put.l0 k a0 a1 ([] : List Int) 0) = some r := h
 clear h
 have H' := Aside0.mk H
 clear H
 go_enter Try.func41, Try.ntmps41
 go_wp2
 go_loopg [0, 5, 6] k (fun kq v0 v5 v6 w' => ∃ (x0_1 : Int) (x5_1 : List Int) (x6_1 : Int), v0 = .int .u64 x0_1 ∧ v6 = .int .i64 x6_1 ∧ Aside0 (scullerref01_Put.l0 kq x0_1 a1 x5_1 x6_1 = some r) ∧ Aside0 (kq ≤ k) ∧ Aside0 (Kd.R (Kd.int .u8) 5 w' w.heap.size (fun _ => True) v5 x5_1) ∧ Aside0 (Below w.heap.size w w'))
 case atStart => exact ⟨(a0), (([] : List Int)), (0), (by first | rfl | (simp; done) | (simp [*]; done)), (by first | rfl | (simp; done) | (simp [*]; done)), H', ⟨Nat.le_refl _⟩, ⟨by first | exact Kd.R_nil _ _ _ _ _ | exact Kd.N_nil _ _ _ _ _ | exact Kd.V_nil _ _ _ _ _ | exact Kd.Q_nil _ _ _ _ _ | exact Kd.S_nil _ _ _ _ _⟩, ⟨by repeat (first | (with_reducible first | exact HB.out | apply below_alloc | apply pw_below_drewN | apply below_drew1) | exact HB.out)⟩⟩
 case round =>
  clear H'
  try clear p2
  obtain ⟨x0_1, x5_1, x6_1, rfl, rfl, HA, HK1, HO_5, HB⟩ := hrel
  cases gk with
  | zero => exact absurd HA.out (by simp [scullerref01_Put.l0])
  | succ k1 =>
    have H := HA.out
    clear HA
    simp only [scullerref01_Put.l0] at H
    by_cases c3 : x6_1 < a1
    · rw [if_pos c3] at H
      have c3b0 : decide (x6_1 < a1) = true := decide_eq_true c3
      clear c3
      by_cases c4 : x6_1 < 8
      · rw [if_pos c4] at H
        have c4b0 : decide (x6_1 < 8) = true := decide_eq_true c4
        clear c4
        by_cases c5 : x5_1.length < 140737488355328
        · rw [if_pos c5] at H
          have LMc5 := Aside0.mk c5
          clear c5
          obtain ⟨y101, hy101⟩ : ∃ y_ : List Int, y_ = (x5_1 ++ [(Int.tmod x0_1 256) % 256]) := ⟨_, rfl⟩
          replace H : (scullerref01_Put.l0 k1 (IntKind.u64.wrap (Int.tdiv x0_1 256)) a1 y101 (wrap64 (x6_1 + 1))) = some r := by first | (rw [hy101]; with_reducible exact H) | (have H2_ := (Option.bind_some _ _).symm.trans H; rw [hy101]; with_reducible exact H2_) | (have H2_ := (Option.bind_some _ _).symm.trans H; with_reducible exact H2_) | with_reducible exact H | (rw [hy101]; exact H) | exact H
          have Ny101 := Aside0.mk hy101
          clear hy101
          have H' := Aside0.mk H
          clear H
          go_wp2_with (first | ((with_reducible refine gate_builtin (b := .append) (xs := #[.tmp 16, .tmp 20]) rfl ?_); at_builtin; refine Kd.R_append (Kd.int .u8) (w0 := w) w.heap.size rfl (.tmp 16) (.tmp 20) 27 5 (.int .u8 0) 1 rfl Try.underlying27 info5 rfl (by decide) (by omega) u5 x5_1 ((Int.tmod x0_1 256) % 256) [.int .u8 ((Int.tmod x0_1 256) % 256)] (fun _ => True) (fun _ => False) rfl rfl ?aP (fun _ hk => hk.elim) ?aF ?aO ?aB ?aS ?aL ?_; (case aP => exact rfl); (case aB => exact (by repeat (first | (with_reducible first | exact HB.out | apply below_alloc | apply pw_below_drewN | apply below_drew1) | exact HB.out))); (case aF => exact (fun _ _ => trivial)); (case aO => exact (by (with_reducible repeat (first | apply Kd.R_alloc | apply Kd.R_drewN | apply Kd.R_drew)); exact HO_5.out)); (case aS => exact (below_size (by repeat (first | (with_reducible first | exact HB.out | apply below_alloc | apply pw_below_drewN | apply below_drew1) | exact HB.out)))); (case aL => have := LMc5.out; omega); intro v102 w6 ho hb hg hat; rw [← Ny101.out] at ho; have n0_ := Aside0.mk (hb); have n1_ := Aside0.mk (ho); clear HB; clear HO_5; have HB := n0_; have HO103 := n1_; clear n0_ n1_; clear ho hb hg hat))
          go_roundg k1
          case measure => have := HK1.out; omega
          case rel => exact ⟨(IntKind.u64.wrap (Int.tdiv x0_1 256)), (y101), (wrap64 (x6_1 + 1)), (by first | rfl | (simp; done) | (simp [*]; done)), (by first | rfl | (simp; done) | (simp [*]; done)), H', ⟨by have := HK1.out; omega⟩, ⟨by (with_reducible repeat (first | apply Kd.R_alloc | apply Kd.R_drewN | apply Kd.R_drew)); exact HO103.out⟩, ⟨by repeat (first | (with_reducible first | exact HB.out | apply below_alloc | apply pw_below_drewN | apply below_drew1) | exact HB.out)⟩⟩
        · rw [if_neg c5] at H
          exact absurd H (by simp)
      · rw [if_neg c4] at H
        have c4b0 : decide (x6_1 < 8) = false := decide_eq_false c4
        clear c4
        obtain rfl := Option.some.inj H
        go_wp2
        go_ret
        exact ⟨_, by first | rfl | (simp [errW_none, errW_some] <;> rfl) | (simp [*, errW_none, errW_some] <;> rfl), by (with_reducible repeat (first | apply Kd.R_alloc | apply Kd.R_drewN | apply Kd.R_drew)); exact HO_5.out, by repeat (first | (with_reducible first | exact HB.out | apply below_alloc | apply pw_below_drewN | apply below_drew1) | exact HB.out)⟩
    · rw [if_neg c3] at H
      have c3b0 : decide (x6_1 < a1) = false := decide_eq_false c3
      clear c3
      obtain rfl := Option.some.inj H
      go_wp2
      go_ret
      exact ⟨_, by first | rfl | (simp [errW_none, errW_some] <;> rfl) | (simp [*, errW_none, errW_some] <;> rfl), by (with_reducible repeat (first | apply Kd.R_alloc | apply Kd.R_drewN | apply Kd.R_drew)); exact HO_5.out, by repeat (first | (with_reducible first | exact HB.out | apply below_alloc | apply pw_below_drewN | apply below_drew1) | exact HB.out)⟩

end Go.Proofs.Ytbijnfhcbanhdaa.F
end

section
namespace Go.Proofs.Ytbijnfhcbanhdaa.F
open Go.RowKit Go.Proofs.YtbijnfhcbanhdaaW.PrintWords Go.Proofs.YtbijnfhcbanhdaaW.PrintLast Go.Proofs.YtbijnfhcbanhdaaW.PrintMore
attribute [local go_sem] max2_int min2_int max_two min_two max_three min_three max_four min_four   -- for this text's walks alone
set_option linter.unusedVariables false
set_option linter.unusedSimpArgs false

open Go.Proofs.Ytbijnfhcbanhdaa.H
def scullerref01_Put_c.f (a0 a1 : Int) : Option (List Int) := if u64B a0 = true then some (putL a0 (putN a1)) else none
theorem scullerref01_Put.l0_to (a1 : Int) : ∀ (d i : Nat) (n : Int) (acc : List Int), putN a1 - i = d → i ≤ putN a1 → acc.length = i → 0 ≤ n → n < 18446744073709551616 → ∃ k, scullerref01_Put.l0 k n a1 acc (i : Int) = some (acc ++ putL n d)
 | 0, i, n, acc, hd, hi, ha, h0, h1 => ⟨1, by
   simp only [scullerref01_Put.l0, putL_zero, List.append_nil]
   by_cases e : (i : Int) < a1
   · rw [if_pos e, if_neg (by unfold putN at *; omega)]
   · rw [if_neg e]⟩
 | d + 1, i, n, acc, hd, hi, ha, h0, h1 => by
   have hp := putN_le a1
   have e1 : Int.tmod n 256 % 256 = n % 256 := by rw [Int.tmod_eq_emod_of_nonneg h0]; omega
   have e2 : IntKind.u64.wrap (Int.tdiv n 256) = n / 256 := by
    rw [Int.tdiv_eq_ediv_of_nonneg h0]
    simp [IntKind.wrap, IntKind.signed, IntKind.bits]
    omega
   obtain ⟨k, hk⟩ := scullerref01_Put.l0_to a1 d (i + 1) (n / 256) (acc ++ [n % 256]) (by omega) (by omega) (by simp [ha]) (by omega) (by omega)
   refine ⟨k + 1, ?_⟩
   simp only [scullerref01_Put.l0]
   rw [if_pos (by unfold putN at *; omega), if_pos (by omega), if_pos (by omega), e1, e2, show wrap64 ((i : Int) + 1) = ((i + 1 : Nat) : Int) from by unfold wrap64; omega, hk, putL_succ]
   simp
theorem scullerref01_Put_c.to {a0 a1 : Int} {r : List Int} (h : scullerref01_Put_c.f a0 a1 = some r) : ∃ k, scullerref01_Put.f k a0 a1 = some r := by
 unfold scullerref01_Put_c.f at h
 split at h
 case isFalse => cases h
 case isTrue hl =>
 obtain rfl := Option.some.inj h
 simp only [u64B, Bool.and_eq_true, decide_eq_true_eq] at hl
 obtain ⟨k, hk⟩ := scullerref01_Put.l0_to a1 (putN a1) 0 a0 [] (by omega) (by omega) rfl hl.1 hl.2
 exact ⟨k, by unfold scullerref01_Put.f; simpa using hk⟩

theorem scullerref01_Put_c.calls (a0 : Int) (a1 : Int) (r : List Int) (w : World) (h : scullerref01_Put_c.f a0 a1 = some r) :
 Calls Try.prog 41 #[.int .u64 a0, .int .i64 a1] w fun e w' => ∃ v0_ : Value, e = .returned (v0_) ∧ Kd.R (Kd.int .u8) 5 w' w.heap.size (fun _ => True) v0_ r ∧ Below w.heap.size w w' := by
 obtain ⟨k_, hk_⟩ := scullerref01_Put_c.to h
 exact scullerref01_Put.calls k_ a0 a1 r w hk_

end Go.Proofs.Ytbijnfhcbanhdaa.F
end

section
namespace Go.Proofs.Ytbijnfhcbanhdaa.F
open Go.RowKit Go.Proofs.YtbijnfhcbanhdaaW.PrintWords Go.Proofs.YtbijnfhcbanhdaaW.PrintLast Go.Proofs.YtbijnfhcbanhdaaW.PrintMore
attribute [local go_sem] max2_int min2_int max_two min_two max_three min_three max_four min_four   -- for this text's walks alone
set_option linter.unusedVariables false
set_option linter.unusedSimpArgs false

/-! ### scullerref07_Sizes: function 72 -/
def scullerref07_Sizes.l0 : Nat → List (List Int) → List Int → Int → Option (List Int)
 | 0, _, _, _ => none
 | k + 1, x0, x3, x4 => if x4 < (x0.length : Int) then (if 0 ≤ x4 then (if x3.length < 17592186044416 then (scullerref07_Sizes.l0 k x0 (x3 ++ [((rd_L8 x0 x4).length : Int)]) (wrap64 (x4 + 1))) else (none)) else (none)) else (some x3)
def scullerref07_Sizes.f (k : Nat) (l0 : List (List Int)) : Option (List Int) := scullerref07_Sizes.l0 k l0 ([] : List Int) 0
theorem scullerref07_Sizes.mono_l : ∀ k, (∀ y0 y1 y2, LeO (scullerref07_Sizes.l0 k y0 y1 y2) (scullerref07_Sizes.l0 (k + 1) y0 y1 y2))
 | 0 => fun _ _ _ r h => by simp [scullerref07_Sizes.l0] at h
 | k + 1 => by
   have ih0 := scullerref07_Sizes.mono_l k
   · intro y0 y1 y2
     unfold scullerref07_Sizes.l0
     repeat' first
     | (with_reducible exact ih0 _ _ _)
     | (with_reducible exact LeO.refl _)
     | (with_reducible exact LeO.none _)
     | (with_reducible refine LeO.ite ?_ ?_)
     | (with_reducible refine LeO.bind ?_ (fun _ => ?_))
     | exact ih0 _ _ _
     | exact LeO.none _
     | refine LeO.ite ?_ ?_
     | refine LeO.bind ?_ (fun _ => ?_)
theorem scullerref07_Sizes.mono : ∀ a0 k, LeO (scullerref07_Sizes.f k a0) (scullerref07_Sizes.f (k + 1) a0) := by
 intro a0 k
 have ih0 := scullerref07_Sizes.mono_l k
 unfold scullerref07_Sizes.f
 repeat' first
  | (with_reducible exact ih0 _ _ _)
  | (with_reducible exact LeO.refl _)
  | (with_reducible exact LeO.none _)
  | (with_reducible refine LeO.ite ?_ ?_)
  | (with_reducible refine LeO.bind ?_ (fun _ => ?_))
  | exact ih0 _ _ _
  | exact LeO.none _
  | refine LeO.ite ?_ ?_
  | refine LeO.bind ?_ (fun _ => ?_)
set_option maxHeartbeats 8000000 in
set_option maxRecDepth 100000 in
theorem scullerref07_Sizes.calls (k : Nat) (A0 : Option Addr) (c0 : Nat) (l0 : List (List Int)) (r : List Int) (w : World) (hr0 : Kd.C (Kd.slice 22 (Kd.int .u64)) w A0 l0.length l0) (hc0 : l0.length ≤ c0) (h : scullerref07_Sizes.f k l0 = some r) :
 Calls Try.prog 72 #[.slice A0 l0.length c0] w fun e w' => ∃ v0_ : Value, e = .returned (v0_) ∧ Kd.R (Kd.int .i64) 3 w' w.heap.size (fun _ => True) v0_ r ∧ Below w.heap.size w w' := by
 have HR0 := Aside0.mk hr0
 have HC0 := Aside0.mk hc0
 clear hr0 hc0
 have HB := Aside0.mk (Below.refl w.heap.size w)
 have H : (scullerref07_Sizes.l0 k l0 ([] : List Int) 0) = some r := h
 clear h
 have H' := Aside0.mk H
 clear H
 go_enter Try.func72, Try.ntmps72
 go_wp2
 go_loopg [3, 4] k (fun kq v3 v4 w' => ∃ (x3_1 : List Int) (x4_1 : Int), v4 = .int .i64 x4_1 ∧ Aside0 (scullerref07_Sizes.l0 kq l0 x3_1 x4_1 = some r) ∧ Aside0 (kq ≤ k) ∧ Aside0 (Kd.R (Kd.int .i64) 3 w' w.heap.size (fun _ => True) v3 x3_1) ∧ Aside0 (Below w.heap.size w w'))
 case atStart => exact ⟨(([] : List Int)), (0), (by first | rfl | (simp; done) | (simp [*]; done)), H', ⟨Nat.le_refl _⟩, ⟨by first | exact Kd.R_nil _ _ _ _ _ | exact Kd.N_nil _ _ _ _ _ | exact Kd.V_nil _ _ _ _ _ | exact Kd.Q_nil _ _ _ _ _ | exact Kd.S_nil _ _ _ _ _⟩, ⟨by repeat (first | (with_reducible first | exact HB.out | apply below_alloc | apply pw_below_drewN | apply below_drew1) | exact HB.out)⟩⟩
 case round =>
  clear H'
  obtain ⟨x3_1, x4_1, rfl, HA, HK1, HO_3, HB⟩ := hrel
  cases gk with
  | zero => exact absurd HA.out (by simp [scullerref07_Sizes.l0])
  | succ k1 =>
    have H := HA.out
    clear HA
    simp only [scullerref07_Sizes.l0] at H
    by_cases c2 : x4_1 < (l0.length : Int)
    · rw [if_pos c2] at H
      have c2b0 : decide (x4_1 < (l0.length : Int)) = true := decide_eq_true c2
      clear c2
      by_cases c3 : 0 ≤ x4_1
      · rw [if_pos c3] at H
        have c3b0 : decide (0 ≤ x4_1) = true := decide_eq_true c3
        clear c3
        by_cases c4 : x3_1.length < 17592186044416
        · rw [if_pos c4] at H
          have LMc4 := Aside0.mk c4
          clear c4
          obtain ⟨y102, hy102⟩ : ∃ y_ : List Int, y_ = (x3_1 ++ [((rd_L8 l0 x4_1).length : Int)]) := ⟨_, rfl⟩
          replace H : (scullerref07_Sizes.l0 k1 l0 y102 (wrap64 (x4_1 + 1))) = some r := by first | (rw [hy102]; with_reducible exact H) | (have H2_ := (Option.bind_some _ _).symm.trans H; rw [hy102]; with_reducible exact H2_) | (have H2_ := (Option.bind_some _ _).symm.trans H; with_reducible exact H2_) | with_reducible exact H | (rw [hy102]; exact H) | exact H
          have Ny102 := Aside0.mk hy102
          clear hy102
          have H' := Aside0.mk H
          clear H
          have p101 : 0 ≤ (x4_1 : Int) := of_decide_eq_true (by first | (with_reducible assumption) | assumption)
          have q101 : x4_1 < (l0.length : Int) := of_decide_eq_true (by first | (with_reducible assumption) | assumption)
          obtain ⟨ad101, A101_0, c101_0, e101, hx101_0, hl101_0, hi101_0⟩ := at_L8 HR0.out x4_1 p101 q101
          cases e101
          replace hx101_0 := (HB.out.cell (World.block_lt_of_cell? w _ hx101_0)).trans hx101_0
          have HR101_0 := Aside0.mk hi101_0
          have HC101_0 := Aside0.mk hl101_0
          clear hi101_0 hl101_0
          replace p101 := eq_true p101
          replace q101 := eq_true q101
          go_wp2_with (first | ((with_reducible refine gate_builtin (b := .append) (xs := #[.tmp 11, .tmp 17]) rfl ?_); at_builtin; refine Kd.R_append (Kd.int .i64) (w0 := w) w.heap.size rfl (.tmp 11) (.tmp 17) 23 3 (.int .i64 0) 8 rfl Try.underlying23 info3 rfl (by decide) (by omega) u3 x3_1 ((rd_L8 l0 x4_1).length : Int) [.int .i64 ((rd_L8 l0 x4_1).length : Int)] (fun _ => True) (fun _ => False) rfl rfl ?aP (fun _ hk => hk.elim) ?aF ?aO ?aB ?aS ?aL ?_; (case aP => exact rfl); (case aB => exact (by repeat (first | (with_reducible first | exact HB.out | apply below_alloc | apply pw_below_drewN | apply below_drew1) | exact HB.out))); (case aF => exact (fun _ _ => trivial)); (case aO => exact (by (with_reducible repeat (first | apply Kd.R_alloc | apply Kd.R_drewN | apply Kd.R_drew)); exact HO_3.out)); (case aS => exact (below_size (by repeat (first | (with_reducible first | exact HB.out | apply below_alloc | apply pw_below_drewN | apply below_drew1) | exact HB.out)))); (case aL => have := LMc4.out; omega); intro v103 w5 ho hb hg hat; rw [← Ny102.out] at ho; have n0_ := Aside0.mk (hb); have n1_ := Aside0.mk (ho); clear HB; clear HO_3; have HB := n0_; have HO104 := n1_; clear n0_ n1_; clear ho hb hg hat))
          go_roundg k1
          case measure => have := HK1.out; omega
          case rel => exact ⟨(y102), (wrap64 (x4_1 + 1)), (by first | rfl | (simp; done) | (simp [*]; done)), H', ⟨by have := HK1.out; omega⟩, ⟨by (with_reducible repeat (first | apply Kd.R_alloc | apply Kd.R_drewN | apply Kd.R_drew)); exact HO104.out⟩, ⟨by repeat (first | (with_reducible first | exact HB.out | apply below_alloc | apply pw_below_drewN | apply below_drew1) | exact HB.out)⟩⟩
        · rw [if_neg c4] at H
          exact absurd H (by simp)
      · rw [if_neg c3] at H
        exact absurd H (by simp)
    · rw [if_neg c2] at H
      have c2b0 : decide (x4_1 < (l0.length : Int)) = false := decide_eq_false c2
      clear c2
      obtain rfl := Option.some.inj H
      go_wp2
      go_ret
      exact ⟨_, by first | rfl | (simp [errW_none, errW_some] <;> rfl) | (simp [*, errW_none, errW_some] <;> rfl), by (with_reducible repeat (first | apply Kd.R_alloc | apply Kd.R_drewN | apply Kd.R_drew)); exact HO_3.out, by repeat (first | (with_reducible first | exact HB.out | apply below_alloc | apply pw_below_drewN | apply below_drew1) | exact HB.out)⟩

end Go.Proofs.Ytbijnfhcbanhdaa.F
end

section
namespace Go.Proofs.Ytbijnfhcbanhdaa.F
open Go.RowKit Go.Proofs.YtbijnfhcbanhdaaW.PrintWords Go.Proofs.YtbijnfhcbanhdaaW.PrintLast Go.Proofs.YtbijnfhcbanhdaaW.PrintMore
attribute [local go_sem] max2_int min2_int max_two min_two max_three min_three max_four min_four   -- for this text's walks alone
set_option linter.unusedVariables false
set_option linter.unusedSimpArgs false

open Go.Proofs.Ytbijnfhcbanhdaa.H
def scullerref07_Sizes_c.f (l0 : List (List Int)) : Option (List Int) := if l0.length ≤ 1000000 then some (sizesL l0) else none
theorem scullerref07_Sizes.l0_to (l : List (List Int)) (hl : l.length ≤ 1000000) : ∀ (d i : Nat) (acc : List Int), l.length - i = d → i ≤ l.length → acc.length = i → ∃ k, scullerref07_Sizes.l0 k l acc (i : Int) = some (acc ++ sizesL (l.drop i))
 | 0, i, acc, hd, hi, ha => ⟨1, by simp only [scullerref07_Sizes.l0]; rw [if_neg (by omega)]; rw [List.drop_of_length_le (by omega)]; simp [sizesL]⟩
 | d + 1, i, acc, hd, hi, ha => by
   obtain ⟨k, hk⟩ := scullerref07_Sizes.l0_to l hl d (i + 1) (acc ++ [((rd_L8 l i).length : Int)]) (by omega) (by omega) (by simp [ha])
   refine ⟨k + 1, ?_⟩
   simp only [scullerref07_Sizes.l0]
   rw [if_pos (by omega), if_pos (by omega), if_pos (by omega), show wrap64 ((i : Int) + 1) = ((i + 1 : Nat) : Int) from by unfold wrap64; omega, hk]
   rw [drop_at l i (by omega), sizesL_cons]
   simp only [rd_L8, getD_toNat l _ i (show i < l.length by omega), List.append_assoc, List.cons_append, List.nil_append]
theorem scullerref07_Sizes_c.to {l0 : List (List Int)} {r : List Int} (h : scullerref07_Sizes_c.f l0 = some r) : ∃ k, scullerref07_Sizes.f k l0 = some r := by
 unfold scullerref07_Sizes_c.f at h
 split at h
 case isFalse => cases h
 case isTrue hl =>
 obtain rfl := Option.some.inj h
 obtain ⟨k, hk⟩ := scullerref07_Sizes.l0_to l0 hl l0.length 0 [] (by omega) (by omega) rfl
 exact ⟨k, by unfold scullerref07_Sizes.f; simpa using hk⟩

theorem scullerref07_Sizes_c.calls (A0 : Option Addr) (c0 : Nat) (l0 : List (List Int)) (r : List Int) (w : World) (hr0 : Kd.C (Kd.slice 22 (Kd.int .u64)) w A0 l0.length l0) (hc0 : l0.length ≤ c0) (h : scullerref07_Sizes_c.f l0 = some r) :
 Calls Try.prog 72 #[.slice A0 l0.length c0] w fun e w' => ∃ v0_ : Value, e = .returned (v0_) ∧ Kd.R (Kd.int .i64) 3 w' w.heap.size (fun _ => True) v0_ r ∧ Below w.heap.size w w' := by
 obtain ⟨k_, hk_⟩ := scullerref07_Sizes_c.to h
 exact scullerref07_Sizes.calls k_ A0 c0 l0 r w hr0 hc0 hk_

end Go.Proofs.Ytbijnfhcbanhdaa.F
end

section
namespace Go.Proofs.Ytbijnfhcbanhdaa.F
open Go.RowKit Go.Proofs.YtbijnfhcbanhdaaW.PrintWords Go.Proofs.YtbijnfhcbanhdaaW.PrintLast Go.Proofs.YtbijnfhcbanhdaaW.PrintMore
attribute [local go_sem] max2_int min2_int max_two min_two max_three min_three max_four min_four   -- for this text's walks alone
set_option linter.unusedVariables false
set_option linter.unusedSimpArgs false

/-! ### scullerref07_Right: function 71 -/
def scullerref07_Right.f (l0 : List (List Int)) : Option (Bool) := (scullerref07_Sizes_c.f l0).bind fun t101 => ((scullerref07_Fits_c.f t101).bind fun t104 => (some t104))
set_option maxHeartbeats 8000000 in
set_option maxRecDepth 100000 in
theorem scullerref07_Right.calls (A0 : Option Addr) (c0 : Nat) (l0 : List (List Int)) (r : Bool) (w : World) (hr0 : Kd.C (Kd.slice 22 (Kd.int .u64)) w A0 l0.length l0) (hc0 : l0.length ≤ c0) (h : scullerref07_Right.f l0 = some r) :
 Calls Try.prog 71 #[.slice A0 l0.length c0] w fun e w' => e = .returned (.bool r) ∧ Below w.heap.size w w' := by
 have HR0 := Aside0.mk hr0
 have HC0 := Aside0.mk hc0
 clear hr0 hc0
 have HB := Aside0.mk (Below.refl w.heap.size w)
 have H : ((scullerref07_Sizes_c.f l0).bind fun t101 => ((scullerref07_Fits_c.f t101).bind fun t104 => (some t104))) = some r := h
 clear h
 replace H := Option.bind_eq_some_iff.mp H
 obtain ⟨t101, A20, H⟩ := H
 replace H : ((scullerref07_Fits_c.f t101).bind fun t104 => (some t104)) = some r := H
 have A2 := Aside0.mk A20
 clear A20
 replace H := Option.bind_eq_some_iff.mp H
 obtain ⟨t104, A30, H⟩ := H
 replace H : (some t104) = some r := H
 have A3 := Aside0.mk A30
 clear A30
 obtain rfl := Option.some.inj H
 go_enter Try.func71, Try.ntmps71
 go_wp2_with (first | ((with_reducible refine gate_callee (f := 72) rfl ?_); refine goesL_ (some 4) rfl rfl Try.func72 (by kernel_rfl) rfl #[.slice A0 l0.length c0] rfl (by (try simp only [List.map_toArray, List.map_cons, List.map_nil]); first | done | rfl | (simp only [List.length_drop, List.length_take]; rfl)) ?_; (with_reducible refine (scullerref07_Sizes_c.calls _ _ l0 t101 _ ?side1 ?side2 A2.out).mono ?_); (case side1 => repeat (first | exact HR0.out | (with_reducible refine Kd.C_alloc ?_ _) | (with_reducible refine Kd.C_drewN ?_ _) | (with_reducible refine Kd.C_drew ?_))); (case side2 => exact HC0.out); rintro e w4 ⟨v102, rfl, ho0, hb⟩; refine ⟨_, rfl, ?_⟩; have n0_ := Aside0.mk (Kd.R_lower ho0 (below_size (by repeat (first | (with_reducible first | exact HB.out | apply below_alloc | apply pw_below_drewN | apply below_drew1) | exact HB.out)))); have n1_ := Aside0.mk (below_step (by repeat (first | (with_reducible first | exact HB.out | apply below_alloc | apply pw_below_drewN | apply below_drew1) | exact HB.out)) hb); clear HB; have HO103 := n0_; have HB := n1_; clear n0_ n1_; (try clear hb); (try clear hb2); (try clear hk); (try clear hi); (try clear ho0); obtain ⟨Ao5, co5, eo5⟩ := Kd.R_slice HO103.out; subst eo5) | ((with_reducible refine gate_callee (f := 92) rfl ?_); refine goesL_ (some 5) rfl rfl Try.func92 (by kernel_rfl) rfl #[.slice Ao5 t101.length co5] rfl (by (try simp only [List.map_toArray, List.map_cons, List.map_nil]); first | done | rfl | (simp only [List.length_drop, List.length_take]; rfl)) ?_; (with_reducible refine (scullerref07_Fits_c.calls _ _ t101 t104 _ ?side1 ?side2 A3.out).mono ?_); (case side1 => repeat (first | exact (Kd.R_reads' HO103.out).2.2 | (with_reducible refine Kd.C_alloc ?_ _) | (with_reducible refine Kd.C_drewN ?_ _) | (with_reducible refine Kd.C_drew ?_))); (case side2 => exact (Kd.R_reads' HO103.out).2.1); rintro e w' ⟨rfl, ⟨nd, rfl⟩⟩; refine ⟨_, rfl, ?_⟩))
 go_ret
 exact ⟨by first | rfl | (simp [errW_none, errW_some] <;> rfl) | (simp [*, errW_none, errW_some] <;> rfl), by repeat (first | (with_reducible first | exact HB.out | apply below_alloc | apply pw_below_drewN | apply below_drew1) | exact HB.out)⟩

end Go.Proofs.Ytbijnfhcbanhdaa.F
end

section
namespace Go.Proofs.Ytbijnfhcbanhdaa.F
open Go.RowKit Go.Proofs.YtbijnfhcbanhdaaW.PrintWords Go.Proofs.YtbijnfhcbanhdaaW.PrintLast Go.Proofs.YtbijnfhcbanhdaaW.PrintMore
attribute [local go_sem] max2_int min2_int max_two min_two max_three min_three max_four min_four   -- for this text's walks alone
set_option linter.unusedVariables false
set_option linter.unusedSimpArgs false

open Go.Proofs.Ytbijnfhcbanhdaa.H
def scullerref07_Right_c.f (l0 : List (List Int)) : Option Bool := if l0.length ≤ 1000000 then some (rightB l0) else none
theorem scullerref07_Right_c.to {l0 : List (List Int)} {r : Bool} (h : scullerref07_Right_c.f l0 = some r) : scullerref07_Right.f l0 = some r := by
 unfold scullerref07_Right_c.f at h
 split at h
 case isFalse => cases h
 case isTrue hl =>
 obtain rfl := Option.some.inj h
 unfold scullerref07_Right.f scullerref07_Sizes_c.f scullerref07_Fits_c.f
 rw [if_pos hl]
 rfl

theorem scullerref07_Right_c.calls (A0 : Option Addr) (c0 : Nat) (l0 : List (List Int)) (r : Bool) (w : World) (hr0 : Kd.C (Kd.slice 22 (Kd.int .u64)) w A0 l0.length l0) (hc0 : l0.length ≤ c0) (h : scullerref07_Right_c.f l0 = some r) :
 Calls Try.prog 71 #[.slice A0 l0.length c0] w fun e w' => e = .returned (.bool r) ∧ Below w.heap.size w w' := by
 exact scullerref07_Right.calls A0 c0 l0 r w hr0 hc0 (scullerref07_Right_c.to h)

end Go.Proofs.Ytbijnfhcbanhdaa.F
end

section
namespace Go.Proofs.Ytbijnfhcbanhdaa.F
open Go.RowKit Go.Proofs.YtbijnfhcbanhdaaW.PrintWords Go.Proofs.YtbijnfhcbanhdaaW.PrintLast Go.Proofs.YtbijnfhcbanhdaaW.PrintMore
attribute [local go_sem] max2_int min2_int max_two min_two max_three min_three max_four min_four   -- for this text's walks alone
set_option linter.unusedVariables false
set_option linter.unusedSimpArgs false

/-! ### scullerref07_Bytes: function 73 -/
mutual
def scullerref07_Bytes.l0 : Nat → List (List Int) → List Int → Int → Option (List Int)
 | 0, _, _, _ => none
 | k + 1, x0, x3, x4 => if x4 < (x0.length : Int) then (scullerref07_Bytes.l1 k x0 x3 x4 0) else (some x3)
def scullerref07_Bytes.l1 : Nat → List (List Int) → List Int → Int → Int → Option (List Int)
 | 0, _, _, _, _ => none
 | k + 1, x0, x3, x4, x5 => if 0 ≤ x4 then (if x4 < (x0.length : Int) then (if x5 < ((rd_L8 x0 x4).length : Int) then (if 0 ≤ x5 then ((scullerref01_Put_c.f (rd (rd_L8 x0 x4) x5) 8).bind fun t104 => (if x3.length + t104.length < 140737488355328 then (scullerref07_Bytes.l1 k x0 (x3 ++ t104) x4 (wrap64 (x5 + 1))) else (none))) else (none)) else (scullerref07_Bytes.l0 k x0 x3 (wrap64 (x4 + 1)))) else (none)) else (none)
end
def scullerref07_Bytes.f (k : Nat) (l0 : List (List Int)) : Option (List Int) := scullerref07_Bytes.l0 k l0 ([] : List Int) 0
theorem scullerref07_Bytes.mono_l : ∀ k, (∀ y0 y1 y2, LeO (scullerref07_Bytes.l0 k y0 y1 y2) (scullerref07_Bytes.l0 (k + 1) y0 y1 y2)) ∧ (∀ y0 y1 y2 y3, LeO (scullerref07_Bytes.l1 k y0 y1 y2 y3) (scullerref07_Bytes.l1 (k + 1) y0 y1 y2 y3))
 | 0 => ⟨fun _ _ _ r h => by simp [scullerref07_Bytes.l0] at h, fun _ _ _ _ r h => by simp [scullerref07_Bytes.l1] at h⟩
 | k + 1 => by
   obtain ⟨ih0, ih1⟩ := scullerref07_Bytes.mono_l k
   refine ⟨?_, ?_⟩
   · intro y0 y1 y2
     unfold scullerref07_Bytes.l0
     repeat' first
     | (with_reducible exact ih0 _ _ _)
     | (with_reducible exact ih1 _ _ _ _)
     | (with_reducible exact LeO.refl _)
     | (with_reducible exact LeO.none _)
     | (with_reducible refine LeO.ite ?_ ?_)
     | (with_reducible refine LeO.bind ?_ (fun _ => ?_))
     | exact ih0 _ _ _
     | exact ih1 _ _ _ _
     | exact LeO.none _
     | refine LeO.ite ?_ ?_
     | refine LeO.bind ?_ (fun _ => ?_)
   · intro y0 y1 y2 y3
     unfold scullerref07_Bytes.l1
     repeat' first
     | (with_reducible exact ih0 _ _ _)
     | (with_reducible exact ih1 _ _ _ _)
     | (with_reducible exact LeO.refl _)
     | (with_reducible exact LeO.none _)
     | (with_reducible refine LeO.ite ?_ ?_)
     | (with_reducible refine LeO.bind ?_ (fun _ => ?_))
     | exact ih0 _ _ _
     | exact ih1 _ _ _ _
     | exact LeO.none _
     | refine LeO.ite ?_ ?_
     | refine LeO.bind ?_ (fun _ => ?_)
theorem scullerref07_Bytes.mono : ∀ a0 k, LeO (scullerref07_Bytes.f k a0) (scullerref07_Bytes.f (k + 1) a0) := by
 intro a0 k
 obtain ⟨ih0, ih1⟩ := scullerref07_Bytes.mono_l k
 unfold scullerref07_Bytes.f
 repeat' first
  | (with_reducible exact ih0 _ _ _)
  | (with_reducible exact ih1 _ _ _ _)
  | (with_reducible exact LeO.refl _)
  | (with_reducible exact LeO.none _)
  | (with_reducible refine LeO.ite ?_ ?_)
  | (with_reducible refine LeO.bind ?_ (fun _ => ?_))
  | exact ih0 _ _ _
  | exact ih1 _ _ _ _
  | exact LeO.none _
  | refine LeO.ite ?_ ?_
  | refine LeO.bind ?_ (fun _ => ?_)
set_option maxHeartbeats 8000000 in
set_option maxRecDepth 100000 in
theorem scullerref07_Bytes.calls (k : Nat) (A0 : Option Addr) (c0 : Nat) (l0 : List (List Int)) (r : List Int) (w : World) (hr0 : Kd.C (Kd.slice 22 (Kd.int .u64)) w A0 l0.length l0) (hc0 : l0.length ≤ c0) (h : scullerref07_Bytes.f k l0 = some r) :
 Calls Try.prog 73 #[.slice A0 l0.length c0] w fun e w' => ∃ v0_ : Value, e = .returned (v0_) ∧ Kd.R (Kd.int .u8) 5 w' w.heap.size (fun _ => True) v0_ r ∧ Below w.heap.size w w' := by
 have HR0 := Aside0.mk hr0
 have HC0 := Aside0.mk hc0
 clear hr0 hc0
 have HB := Aside0.mk (Below.refl w.heap.size w)
 have H : (scullerref07_Bytes.l0 k l0 ([] : List Int) 0) = some r := h
 clear h
 have H' := Aside0.mk H
 clear H
 go_enter Try.func73, Try.ntmps73
 go_wp2
 go_loopg [3, 4] k (fun kq v3 v4 w' => ∃ (x3_1 : List Int) (x4_1 : Int), v4 = .int .i64 x4_1 ∧ Aside0 (scullerref07_Bytes.l0 kq l0 x3_1 x4_1 = some r) ∧ Aside0 (kq ≤ k) ∧ Aside0 (Kd.R (Kd.int .u8) 5 w' w.heap.size (fun _ => True) v3 x3_1) ∧ Aside0 (Below w.heap.size w w'))
 case atStart => exact ⟨(([] : List Int)), (0), (by first | rfl | (simp; done) | (simp [*]; done)), H', ⟨Nat.le_refl _⟩, ⟨by first | exact Kd.R_nil _ _ _ _ _ | exact Kd.N_nil _ _ _ _ _ | exact Kd.V_nil _ _ _ _ _ | exact Kd.Q_nil _ _ _ _ _ | exact Kd.S_nil _ _ _ _ _⟩, ⟨by repeat (first | (with_reducible first | exact HB.out | apply below_alloc | apply pw_below_drewN | apply below_drew1) | exact HB.out)⟩⟩
 case round =>
  clear H'
  obtain ⟨x3_1, x4_1, rfl, HA, HK1, HO_3, HB⟩ := hrel
  cases gk with
  | zero => exact absurd HA.out (by simp [scullerref07_Bytes.l0])
  | succ k1 =>
    have H := HA.out
    clear HA
    simp only [scullerref07_Bytes.l0] at H
    by_cases c2 : x4_1 < (l0.length : Int)
    · rw [if_pos c2] at H
      have c2b0 : decide (x4_1 < (l0.length : Int)) = true := decide_eq_true c2
      clear c2
      have H' := Aside0.mk H
      clear H
      go_wp2
      go_loopg [3, 5] k1 (fun kq v3 v5 w' => ∃ (x3_2 : List Int) (x5_2 : Int), v5 = .int .i64 x5_2 ∧ Aside0 (scullerref07_Bytes.l1 kq l0 x3_2 x4_1 x5_2 = some r) ∧ Aside0 (kq ≤ k1) ∧ Aside0 (Kd.R (Kd.int .u8) 5 w' w.heap.size (fun _ => True) v3 x3_2) ∧ Aside0 (Below w.heap.size w w'))
      case atStart => exact ⟨(x3_1), (0), (by first | rfl | (simp; done) | (simp [*]; done)), H', ⟨Nat.le_refl _⟩, ⟨by (with_reducible repeat (first | apply Kd.R_alloc | apply Kd.R_drewN | apply Kd.R_drew)); exact HO_3.out⟩, ⟨by repeat (first | (with_reducible first | exact HB.out | apply below_alloc | apply pw_below_drewN | apply below_drew1) | exact HB.out)⟩⟩
      case round =>
       clear H'
       try clear c2
       try clear c2b0
       try clear p2
       obtain ⟨x3_2, x5_2, rfl, HA, HK2, HO_3, HB⟩ := hrel
       cases gk with
       | zero => exact absurd HA.out (by simp [scullerref07_Bytes.l1])
       | succ k2 =>
         have H := HA.out
         clear HA
         simp only [scullerref07_Bytes.l1] at H
         by_cases c3 : 0 ≤ x4_1
         · rw [if_pos c3] at H
           have c3b0 : decide (0 ≤ x4_1) = true := decide_eq_true c3
           clear c3
           by_cases c4 : x4_1 < (l0.length : Int)
           · rw [if_pos c4] at H
             have c4b0 : decide (x4_1 < (l0.length : Int)) = true := decide_eq_true c4
             clear c4
             by_cases c5 : x5_2 < ((rd_L8 l0 x4_1).length : Int)
             · rw [if_pos c5] at H
               have c5b0 : decide (x5_2 < ((rd_L8 l0 x4_1).length : Int)) = true := decide_eq_true c5
               clear c5
               by_cases c6 : 0 ≤ x5_2
               · rw [if_pos c6] at H
                 have c6b0 : decide (0 ≤ x5_2) = true := decide_eq_true c6
                 clear c6
                 replace H := Option.bind_eq_some_iff.mp H
                 obtain ⟨t104, A70, H⟩ := H
                 replace H : (if x3_2.length + t104.length < 140737488355328 then (scullerref07_Bytes.l1 k2 l0 (x3_2 ++ t104) x4_1 (wrap64 (x5_2 + 1))) else (none)) = some r := H
                 have A7 := Aside0.mk A70
                 clear A70
                 by_cases c8 : x3_2.length + t104.length < 140737488355328
                 · rw [if_pos c8] at H
                   have LMc8 := Aside0.mk c8
                   clear c8
                   obtain ⟨y107, hy107⟩ : ∃ y_ : List Int, y_ = (x3_2 ++ t104) := ⟨_, rfl⟩
                   replace H : (scullerref07_Bytes.l1 k2 l0 y107 x4_1 (wrap64 (x5_2 + 1))) = some r := by first | (rw [hy107]; with_reducible exact H) | (have H2_ := (Option.bind_some _ _).symm.trans H; rw [hy107]; with_reducible exact H2_) | (have H2_ := (Option.bind_some _ _).symm.trans H; with_reducible exact H2_) | with_reducible exact H | (rw [hy107]; exact H) | exact H
                   have Ny107 := Aside0.mk hy107
                   clear hy107
                   have H' := Aside0.mk H
                   clear H
                   have p101 : 0 ≤ (x4_1 : Int) := of_decide_eq_true (by first | (with_reducible assumption) | assumption)
                   have q101 : x4_1 < (l0.length : Int) := of_decide_eq_true (by first | (with_reducible assumption) | assumption)
                   obtain ⟨ad101, A101_0, c101_0, e101, hx101_0, hl101_0, hi101_0⟩ := at_L8 HR0.out x4_1 p101 q101
                   cases e101
                   replace hx101_0 := (HB.out.cell (World.block_lt_of_cell? w _ hx101_0)).trans hx101_0
                   have HR101_0 := Aside0.mk hi101_0
                   have HC101_0 := Aside0.mk hl101_0
                   clear hi101_0 hl101_0
                   replace p101 := eq_true p101
                   replace q101 := eq_true q101
                   have p102 : 0 ≤ (x4_1 : Int) := of_decide_eq_true (by first | (with_reducible assumption) | assumption)
                   have q102 : x4_1 < (l0.length : Int) := of_decide_eq_true (by first | (with_reducible assumption) | assumption)
                   obtain ⟨ad102, A102_0, c102_0, e102, hx102_0, hl102_0, hi102_0⟩ := at_L8 HR0.out x4_1 p102 q102
                   obtain rfl : ad101 = ad102 := (by injection e102)
                   replace hx102_0 := (HB.out.cell (World.block_lt_of_cell? w _ hx102_0)).trans hx102_0
                   have HR102_0 := Aside0.mk hi102_0
                   have HC102_0 := Aside0.mk hl102_0
                   clear hi102_0 hl102_0
                   replace p102 := eq_true p102
                   replace q102 := eq_true q102
                   have ea_ := Option.some.inj (hx101_0.symm.trans hx102_0)
                   injection ea_ with ea_ en_ ec_
                   subst ea_
                   subst ec_
                   clear en_
                   have p103 : 0 ≤ (x5_2 : Int) := of_decide_eq_true (by first | (with_reducible assumption) | assumption)
                   have q103 : x5_2 < ((rd_L8 l0 x4_1).length : Int) := of_decide_eq_true (by first | (with_reducible assumption) | assumption)
                   obtain ⟨ad103, e103, hx103_0⟩ := Kd.at_int HR102_0.out x5_2 p103 q103
                   cases e103
                   replace hx103_0 := (HB.out.cell (World.block_lt_of_cell? w _ hx103_0)).trans hx103_0
                   replace p103 := eq_true p103
                   replace q103 := eq_true q103
                   go_wp2_with (first | ((with_reducible refine gate_callee (f := 41) rfl ?_); refine goesL_ (some 29) rfl rfl Try.func41 (by kernel_rfl) rfl #[.int .u64 (rd (rd_L8 l0 x4_1) x5_2), .int .i64 8] rfl (by (try simp only [List.map_toArray, List.map_cons, List.map_nil]); first | done | rfl | (simp only [List.length_drop, List.length_take]; rfl)) ?_; (with_reducible refine (scullerref01_Put_c.calls (rd (rd_L8 l0 x4_1) x5_2) 8 t104 _ A7.out).mono ?_); rintro e w9 ⟨v105, rfl, ho0, hb⟩; refine ⟨_, rfl, ?_⟩; have n0_ := Aside0.mk (Kd.R_elder' (by (with_reducible repeat (first | apply Kd.R_alloc | apply Kd.R_drewN | apply Kd.R_drew)); exact HO_3.out) (Kd.R_base ho0) hb); have n1_ := Aside0.mk (Kd.R_lower (Kd.R_new' ho0 (Kd.R_lt (by (with_reducible repeat (first | apply Kd.R_alloc | apply Kd.R_drewN | apply Kd.R_drew)); exact HO_3.out))) (below_size (by repeat (first | (with_reducible first | exact HB.out | apply below_alloc | apply pw_below_drewN | apply below_drew1) | exact HB.out)))); have n2_ := Aside0.mk (below_step (by repeat (first | (with_reducible first | exact HB.out | apply below_alloc | apply pw_below_drewN | apply below_drew1) | exact HB.out)) hb); clear HO_3; clear HB; have HO_3 := n0_; have HO106 := n1_; have HB := n2_; clear n0_ n1_ n2_; (try clear hb); (try clear hb2); (try clear hk); (try clear hi); (try clear ho0); obtain ⟨Ao11, co11, eo11⟩ := Kd.R_slice HO106.out; subst eo11) | ((with_reducible refine gate_builtin (b := .append) (xs := #[.tmp 30, .tmp 31]) rfl ?_); at_builtin; refine Kd.R_append_rows (Kd.int .u8) (w0 := w) w.heap.size rfl (.tmp 30) (.tmp 31) 27 5 (.int .u8 0) 1 rfl Try.underlying27 info5 rfl (by decide) (by omega) u3 x3_2 t104 _ _ _ (fun k_ => some k_ ≠ (.slice Ao11 t104.length co11 : Value).ownBlock) (fun _ => False) rfl rfl ?aO ?aR (fun _ _ h => h) (fun _ h => h.elim) ?aF ?aB ?aS ?aL ?_; (case aR => repeat (first | exact (Kd.R_reads' HO106.out).2.2 | (with_reducible refine Kd.C_alloc ?_ _) | (with_reducible refine Kd.C_drewN ?_ _) | (with_reducible refine Kd.C_drew ?_))); (case aB => exact (by repeat (first | (with_reducible first | exact HB.out | apply below_alloc | apply pw_below_drewN | apply below_drew1) | exact HB.out))); (case aF => exact (fun k_ hk => Kd.fresh' (Kd.R_lt (by (with_reducible repeat (first | apply Kd.R_alloc | apply Kd.R_drewN | apply Kd.R_drew)); exact HO106.out)) k_ hk)); (case aO => exact (by (with_reducible repeat (first | apply Kd.R_alloc | apply Kd.R_drewN | apply Kd.R_drew)); exact Kd.R_mono HO_3.out (fun _ hk => hk.2))); (case aS => exact (below_size (by repeat (first | (with_reducible first | exact HB.out | apply below_alloc | apply pw_below_drewN | apply below_drew1) | exact HB.out)))); (case aL => have := LMc8.out; omega); intro v108 w10 ho hb hg hat; rw [← Ny107.out] at ho; have n0_ := Aside0.mk (Kd.R_after (ok := (fun _ => True)) (by (with_reducible repeat (first | apply Kd.R_alloc | apply Kd.R_drewN | apply Kd.R_drew)); exact HO106.out) hg hat); have n1_ := Aside0.mk (hb); have n2_ := Aside0.mk (ho); clear HO106; clear HB; clear HO_3; have HO106 := n0_; have HB := n1_; have HO109 := n2_; clear n0_ n1_ n2_; clear ho hb hg hat))
                   go_roundg k2
                   case measure => have := HK1.out; have := HK2.out; omega
                   case rel => exact ⟨(y107), (wrap64 (x5_2 + 1)), (by first | rfl | (simp; done) | (simp [*]; done)), H', ⟨by have := HK1.out; have := HK2.out; omega⟩, ⟨by (with_reducible repeat (first | apply Kd.R_alloc | apply Kd.R_drewN | apply Kd.R_drew)); exact Kd.R_mono HO109.out (fun _ hk => trivial)⟩, ⟨by repeat (first | (with_reducible first | exact HB.out | apply below_alloc | apply pw_below_drewN | apply below_drew1) | exact HB.out)⟩⟩
                 · rw [if_neg c8] at H
                   exact absurd H (by simp)
               · rw [if_neg c6] at H
                 exact absurd H (by simp)
             · rw [if_neg c5] at H
               have c5b0 : decide (x5_2 < ((rd_L8 l0 x4_1).length : Int)) = false := decide_eq_false c5
               clear c5
               have H' := Aside0.mk H
               clear H
               have p101 : 0 ≤ (x4_1 : Int) := of_decide_eq_true (by first | (with_reducible assumption) | assumption)
               have q101 : x4_1 < (l0.length : Int) := of_decide_eq_true (by first | (with_reducible assumption) | assumption)
               obtain ⟨ad101, A101_0, c101_0, e101, hx101_0, hl101_0, hi101_0⟩ := at_L8 HR0.out x4_1 p101 q101
               cases e101
               replace hx101_0 := (HB.out.cell (World.block_lt_of_cell? w _ hx101_0)).trans hx101_0
               have HR101_0 := Aside0.mk hi101_0
               have HC101_0 := Aside0.mk hl101_0
               clear hi101_0 hl101_0
               replace p101 := eq_true p101
               replace q101 := eq_true q101
               go_wp2
               go_roundg k2
               case measure => have := HK1.out; have := HK2.out; omega
               case rel => exact ⟨(x3_2), (wrap64 (x4_1 + 1)), (by first | rfl | (simp; done) | (simp [*]; done)), H', ⟨by have := HK1.out; have := HK2.out; omega⟩, ⟨by (with_reducible repeat (first | apply Kd.R_alloc | apply Kd.R_drewN | apply Kd.R_drew)); exact HO_3.out⟩, ⟨by repeat (first | (with_reducible first | exact HB.out | apply below_alloc | apply pw_below_drewN | apply below_drew1) | exact HB.out)⟩⟩
           · rw [if_neg c4] at H
             exact absurd H (by simp)
         · rw [if_neg c3] at H
           exact absurd H (by simp)
    · rw [if_neg c2] at H
      have c2b0 : decide (x4_1 < (l0.length : Int)) = false := decide_eq_false c2
      clear c2
      obtain rfl := Option.some.inj H
      go_wp2
      go_ret
      exact ⟨_, by first | rfl | (simp [errW_none, errW_some] <;> rfl) | (simp [*, errW_none, errW_some] <;> rfl), by (with_reducible repeat (first | apply Kd.R_alloc | apply Kd.R_drewN | apply Kd.R_drew)); exact HO_3.out, by repeat (first | (with_reducible first | exact HB.out | apply below_alloc | apply pw_below_drewN | apply below_drew1) | exact HB.out)⟩

end Go.Proofs.Ytbijnfhcbanhdaa.F
end

section
namespace Go.Proofs.Ytbijnfhcbanhdaa.F
open Go.RowKit Go.Proofs.YtbijnfhcbanhdaaW.PrintWords Go.Proofs.YtbijnfhcbanhdaaW.PrintLast Go.Proofs.YtbijnfhcbanhdaaW.PrintMore
attribute [local go_sem] max2_int min2_int max_two min_two max_three min_three max_four min_four   -- for this text's walks alone
set_option linter.unusedVariables false
set_option linter.unusedSimpArgs false

open Go.Proofs.Ytbijnfhcbanhdaa.H
def scullerref07_Bytes_c.f (l0 : List (List Int)) : Option (List Int) := if okA l0 = true then some (bytesL l0) else none
theorem scullerref07_Bytes.l1_to (a : List (List Int)) (ha : a.length ≤ 1000000) (i : Nat) (hi : i < a.length) (hs : (a[i]).all u64B = true) (hs2 : (a[i]).length ≤ 1000000) (r : List Int) (K : ∀ acc : List Int, acc = r → ∃ k, scullerref07_Bytes.l0 k a acc ((i + 1 : Nat) : Int) = some (r ++ bytesL (a.drop (i + 1)))) :
 ∀ (d j : Nat) (acc : List Int), (a[i]).length - j = d → j ≤ (a[i]).length → acc.length + 8 * d ≤ 10000000 → acc ++ ((a[i]).drop j).flatMap (fun w => putL w 8) = r → ∃ k, scullerref07_Bytes.l1 k a acc (i : Int) (j : Int) = some (r ++ bytesL (a.drop (i + 1)))
 | 0, j, acc, hd, hj, hl, hr => by
   rw [List.drop_of_length_le (by omega)] at hr
   obtain ⟨k, hk⟩ := K acc (by simpa using hr)
   refine ⟨k + 1, ?_⟩
   have e : rd_L8 a i = a[i] := getD_toNat a [] i hi
   simp only [scullerref07_Bytes.l1]
   rw [if_pos (by omega), if_pos (by omega), e, if_neg (by omega), show wrap64 ((i : Int) + 1) = ((i + 1 : Nat) : Int) from by unfold wrap64; omega, hk]
 | d + 1, j, acc, hd, hj, hl, hr => by
   have hlt : j < (a[i]).length := by omega
   have e : rd_L8 a i = a[i] := getD_toNat a [] i hi
   have e2 : rd (a[i]) j = (a[i])[j] := getD_toNat (a[i]) 0 j hlt
   rw [drop_at _ j hlt, List.flatMap_cons, ← List.append_assoc] at hr
   obtain ⟨k, hk⟩ := scullerref07_Bytes.l1_to a ha i hi hs hs2 r K d (j + 1) (acc ++ putL ((a[i])[j]) 8) (by omega) (by omega) (by rw [List.length_append, putL_length]; omega) hr
   have hu : u64B ((a[i])[j]) = true := List.all_eq_true.1 hs _ (List.getElem_mem hlt)
   refine ⟨k + 1, ?_⟩
   simp only [scullerref07_Bytes.l1]
   rw [if_pos (by omega), if_pos (by omega), e, if_pos (by omega), if_pos (by omega), e2]
   unfold scullerref01_Put_c.f
   rw [if_pos hu]
   simp only [Option.bind_some]
   rw [if_pos (by rw [putL_length]; have : putN 8 = 8 := rfl; omega), show wrap64 ((j : Int) + 1) = ((j + 1 : Nat) : Int) from by unfold wrap64; omega]
   exact hk
theorem scullerref07_Bytes.l0_to (a : List (List Int)) (ha : a.length ≤ 1000000) (hs : ∀ s ∈ a, s.all u64B = true) : ∀ (d i : Nat) (acc : List Int), a.length - i = d → i ≤ a.length → acc.length + 8 * wordsL (a.drop i) ≤ 8000000 → ∃ k, scullerref07_Bytes.l0 k a acc (i : Int) = some (acc ++ bytesL (a.drop i))
 | 0, i, acc, hd, hi, hw => ⟨1, by simp only [scullerref07_Bytes.l0]; rw [if_neg (by omega), List.drop_of_length_le (by omega)]; simp [bytesL]⟩
 | d + 1, i, acc, hd, hi, hw => by
   have hlt : i < a.length := by omega
   rw [drop_at a i hlt] at hw ⊢
   have hw2 : wordsL (a[i] :: a.drop (i + 1)) = (a[i]).length + wordsL (a.drop (i + 1)) := wordsL_cons _ _
   rw [bytesL_cons, ← List.append_assoc]
   have hlen : (acc ++ (a[i]).flatMap fun w => putL w 8).length = acc.length + 8 * (a[i]).length := by rw [List.length_append, flat8_length]
   obtain ⟨k, hk⟩ := scullerref07_Bytes.l1_to a ha i hlt (hs _ (List.getElem_mem hlt)) (by omega) (acc ++ (a[i]).flatMap fun w => putL w 8)
    (fun acc' e => by subst e; exact scullerref07_Bytes.l0_to a ha hs d (i + 1) _ (by omega) (by omega) (by omega)) (a[i]).length 0 acc (by omega) (by omega) (by omega) (by simp)
   exact ⟨k + 1, by simp only [scullerref07_Bytes.l0]; rw [if_pos (by omega)]; simpa using hk⟩
theorem okA_at {a : List (List Int)} (h : okA a = true) : a.length ≤ 1000000 ∧ wordsL a ≤ 1000000 ∧ ∀ s ∈ a, s.all u64B = true := by
 simp only [okA, Bool.and_eq_true, decide_eq_true_eq] at h
 exact ⟨h.1.1, h.1.2, fun s hs => List.all_eq_true.1 h.2 s hs⟩
theorem scullerref07_Bytes_c.to {l0 : List (List Int)} {r : List Int} (h : scullerref07_Bytes_c.f l0 = some r) : ∃ k, scullerref07_Bytes.f k l0 = some r := by
 unfold scullerref07_Bytes_c.f at h
 split at h
 case isFalse => cases h
 case isTrue hl =>
 obtain rfl := Option.some.inj h
 obtain ⟨h1, h2, h3⟩ := okA_at hl
 obtain ⟨k, hk⟩ := scullerref07_Bytes.l0_to l0 h1 h3 l0.length 0 [] (by omega) (by omega) (by simp; omega)
 exact ⟨k, by unfold scullerref07_Bytes.f; simpa using hk⟩

theorem scullerref07_Bytes_c.calls (A0 : Option Addr) (c0 : Nat) (l0 : List (List Int)) (r : List Int) (w : World) (hr0 : Kd.C (Kd.slice 22 (Kd.int .u64)) w A0 l0.length l0) (hc0 : l0.length ≤ c0) (h : scullerref07_Bytes_c.f l0 = some r) :
 Calls Try.prog 73 #[.slice A0 l0.length c0] w fun e w' => ∃ v0_ : Value, e = .returned (v0_) ∧ Kd.R (Kd.int .u8) 5 w' w.heap.size (fun _ => True) v0_ r ∧ Below w.heap.size w w' := by
 obtain ⟨k_, hk_⟩ := scullerref07_Bytes_c.to h
 exact scullerref07_Bytes.calls k_ A0 c0 l0 r w hr0 hc0 hk_

end Go.Proofs.Ytbijnfhcbanhdaa.F
end

section
namespace Go.Proofs.Ytbijnfhcbanhdaa.F
open Go.RowKit Go.Proofs.YtbijnfhcbanhdaaW.PrintWords Go.Proofs.YtbijnfhcbanhdaaW.PrintLast Go.Proofs.YtbijnfhcbanhdaaW.PrintMore
attribute [local go_sem] max2_int min2_int max_two min_two max_three min_three max_four min_four   -- for this text's walks alone
set_option linter.unusedVariables false
set_option linter.unusedSimpArgs false

/-! ### scullerref12_Of: function 36 -/
def scullerref12_Of.l0 : Nat → List (List Int) → List Int → Int → Int → List Int → Int → Option (Int × List Int × Int × Int)
 | 0, _, _, _, _, _, _ => none
 | k + 1, x1, x7, x8, x107000, x107001, x107002 => if x8 < (x107001.length : Int) then (if 0 ≤ x8 then ((scullerref01_Put_c.f (IntKind.u64.wrap (rd x107001 x8)) 2).bind fun t111 => (if x7.length + t111.length < 140737488355328 then (scullerref12_Of.l0 k x1 (x7 ++ t111) (wrap64 (x8 + 1)) x107000 x107001 x107002) else (none))) else (none)) else ((scullerref07_Bytes_c.f x1).bind fun t117 => (if x7.length + t117.length < 140737488355328 then ((scullerref02_Sum.f (x7 ++ t117)).bind fun t123 => (some (x107000, x107001, t123, 0))) else (none)))
def scullerref12_Of.f (k : Nat) (a0 : Int) (l1 : List (List Int)) : Option (Int × List Int × Int × Int) := (scullerref07_Right_c.f l1).bind fun t102 => (if t102 = true then ((scullerref07_Sizes_c.f l1).bind fun t103 => ((scullerref01_Put_c.f a0 8).bind fun t107 => (scullerref12_Of.l0 k l1 t107 0 a0 t103 0))) else (some (0, ([] : List Int), 0, 1)))
theorem scullerref12_Of.mono_l : ∀ k, (∀ y0 y1 y2 y3 y4 y5, LeO (scullerref12_Of.l0 k y0 y1 y2 y3 y4 y5) (scullerref12_Of.l0 (k + 1) y0 y1 y2 y3 y4 y5))
 | 0 => fun _ _ _ _ _ _ r h => by simp [scullerref12_Of.l0] at h
 | k + 1 => by
   have ih0 := scullerref12_Of.mono_l k
   · intro y0 y1 y2 y3 y4 y5
     unfold scullerref12_Of.l0
     repeat' first
     | (with_reducible exact ih0 _ _ _ _ _ _)
     | (with_reducible exact LeO.refl _)
     | (with_reducible exact LeO.none _)
     | (with_reducible refine LeO.ite ?_ ?_)
     | (with_reducible refine LeO.bind ?_ (fun _ => ?_))
     | exact ih0 _ _ _ _ _ _
     | exact LeO.none _
     | refine LeO.ite ?_ ?_
     | refine LeO.bind ?_ (fun _ => ?_)
theorem scullerref12_Of.mono : ∀ a0 a1 k, LeO (scullerref12_Of.f k a0 a1) (scullerref12_Of.f (k + 1) a0 a1) := by
 intro a0 a1 k
 have ih0 := scullerref12_Of.mono_l k
 unfold scullerref12_Of.f
 repeat' first
  | (with_reducible exact ih0 _ _ _ _ _ _)
  | (with_reducible exact LeO.refl _)
  | (with_reducible exact LeO.none _)
  | (with_reducible refine LeO.ite ?_ ?_)
  | (with_reducible refine LeO.bind ?_ (fun _ => ?_))
  | exact ih0 _ _ _ _ _ _
  | exact LeO.none _
  | refine LeO.ite ?_ ?_
  | refine LeO.bind ?_ (fun _ => ?_)
set_option maxHeartbeats 8000000 in
set_option maxRecDepth 100000 in
theorem scullerref12_Of.calls (k : Nat) (a0 : Int) (A1 : Option Addr) (c1 : Nat) (l1 : List (List Int)) (r1 : Int) (r2 : List Int) (r3 : Int) (r4 : Int) (w : World) (hr1 : Kd.C (Kd.slice 22 (Kd.int .u64)) w A1 l1.length l1) (hc1 : l1.length ≤ c1) (h : scullerref12_Of.f k a0 l1 = some (r1, r2, r3, r4)) :
 Calls Try.prog 36 #[.int .u64 a0, .slice A1 l1.length c1] w fun e w' => ∃ v1_ : Value, e = .returned (.tuple #[.agg #[.int .u64 r1, v1_, .int .u32 r3], .int .i64 r4]) ∧ Kd.R (Kd.int .i64) 3 w' w.heap.size (fun _ => True) v1_ r2 ∧ Below w.heap.size w w' := by
 have hu26 := Try.underlying26
 have HR1 := Aside0.mk hr1
 have HC1 := Aside0.mk hc1
 clear hr1 hc1
 have HB := Aside0.mk (Below.refl w.heap.size w)
 have H : ((scullerref07_Right_c.f l1).bind fun t102 => (if t102 = true then ((scullerref07_Sizes_c.f l1).bind fun t103 => ((scullerref01_Put_c.f a0 8).bind fun t107 => (scullerref12_Of.l0 k l1 t107 0 a0 t103 0))) else (some (0, ([] : List Int), 0, 1)))) = some (r1, r2, r3, r4) := h
 clear h
 replace H := Option.bind_eq_some_iff.mp H
 obtain ⟨t102, A30, H⟩ := H
 replace H : (if t102 = true then ((scullerref07_Sizes_c.f l1).bind fun t103 => ((scullerref01_Put_c.f a0 8).bind fun t107 => (scullerref12_Of.l0 k l1 t107 0 a0 t103 0))) else (some (0, ([] : List Int), 0, 1))) = some (r1, r2, r3, r4) := H
 have A3 := Aside0.mk A30
 clear A30
 by_cases c4 : t102 = true
 · subst c4
   have H1 : ((scullerref07_Sizes_c.f l1).bind fun t103 => ((scullerref01_Put_c.f a0 8).bind fun t107 => (scullerref12_Of.l0 k l1 t107 0 a0 t103 0))) = some (r1, r2, r3, r4) := by rw [if_pos rfl] at H; exact H
   clear H
   have H := H1
   clear H1
   replace H := Option.bind_eq_some_iff.mp H
   obtain ⟨t103, A50, H⟩ := H
   replace H : ((scullerref01_Put_c.f a0 8).bind fun t107 => (scullerref12_Of.l0 k l1 t107 0 a0 t103 0)) = some (r1, r2, r3, r4) := H
   have A5 := Aside0.mk A50
   clear A50
   replace H := Option.bind_eq_some_iff.mp H
   obtain ⟨t107, A60, H⟩ := H
   replace H : (scullerref12_Of.l0 k l1 t107 0 a0 t103 0) = some (r1, r2, r3, r4) := H
   have A6 := Aside0.mk A60
   clear A60
   have H' := Aside0.mk H
   clear H
   go_enter Try.func36, Try.ntmps36
   go_wp2_with (first | ((with_reducible refine gate_dst (N := 4) rfl ?_); refine box_event ?hg (N := 4) ?hd (cs := #[.int .u64 0, .slice none 0 0, .int .u32 0]) (t := 26) ?hr ?_; (case hd => rfl); (case hg => rfl); (case hr => first | (go_simp; done) | (go_simp; rfl)); intro gb101 hg w7 hbox hb; have n0_ := Aside0.mk (below_step (by repeat (first | (with_reducible first | exact HB.out | apply below_alloc | apply pw_below_drewN | apply below_drew1) | exact HB.out)) hb); have n1_ := Aside0.mk (hbox); have n2_ := Aside0.mk ((by rw [hg]; exact (below_size (by repeat (first | (with_reducible first | exact HB.out | apply below_alloc | apply pw_below_drewN | apply below_drew1) | exact HB.out))) : w.heap.size ≤ gb101)); have n3_ := Aside0.mk ((by rw [hg]; exact (below_size (by repeat (first | (with_reducible first | exact HB.out | apply below_alloc | apply pw_below_drewN | apply below_drew1) | exact HB.out))) : w.heap.size ≤ gb101)); clear HB; have HB := n0_; have BK101 := n1_; have GW101 := n2_; have GE101 := n3_; clear n0_ n1_ n2_ n3_; clear hb hbox hg) | ((with_reducible refine gate_callee (f := 71) rfl ?_); refine goesL_ (some 12) rfl rfl Try.func71 (by kernel_rfl) rfl #[.slice A1 l1.length c1] rfl (by (try simp only [List.map_toArray, List.map_cons, List.map_nil]); first | done | rfl | (simp only [List.length_drop, List.length_take]; rfl)) ?_; (with_reducible refine (scullerref07_Right_c.calls _ _ l1 true _ ?side1 ?side2 A3.out).mono ?_); (case side1 => repeat (first | exact (Kd.C_below HR1.out HB.out) | (with_reducible refine Kd.C_alloc ?_ _) | (with_reducible refine Kd.C_drewN ?_ _) | (with_reducible refine Kd.C_drew ?_))); (case side2 => exact HC1.out); rintro e w8 ⟨rfl, hb⟩; refine ⟨_, rfl, ?_⟩; have n0_ := Aside0.mk (blk_below (g := gb101) (o := .cells #[.int .u64 0, .slice none 0 0, .int .u32 0] 26 (0, 0)) (by (with_reducible repeat (first | refine blk_drewN ?_ _ | refine blk_drew ?_ | refine blk_alloc ?_ _)); exact BK101.out) hb); have n1_ := Aside0.mk (below_step (by repeat (first | (with_reducible first | exact HB.out | apply below_alloc | apply pw_below_drewN | apply below_drew1 | refine below_set ?_ GE101.out) | exact HB.out)) hb); clear BK101; clear HB; have BK101 := n0_; have HB := n1_; clear n0_ n1_; (try clear hb); (try clear hb2); (try clear hk); (try clear hi)) | ((with_reducible refine gate_callee (f := 72) rfl ?_); refine goesL_ (some 17) rfl rfl Try.func72 (by kernel_rfl) rfl #[.slice A1 l1.length c1] rfl (by (try simp only [List.map_toArray, List.map_cons, List.map_nil]); first | done | rfl | (simp only [List.length_drop, List.length_take]; rfl)) ?_; (with_reducible refine (scullerref07_Sizes_c.calls _ _ l1 t103 _ ?side1 ?side2 A5.out).mono ?_); (case side1 => repeat (first | exact (Kd.C_below HR1.out HB.out) | (with_reducible refine Kd.C_alloc ?_ _) | (with_reducible refine Kd.C_drewN ?_ _) | (with_reducible refine Kd.C_drew ?_))); (case side2 => exact HC1.out); rintro e w9 ⟨v104, rfl, ho0, hb⟩; refine ⟨_, rfl, ?_⟩; have n0_ := Aside0.mk (Kd.R_lower ho0 (below_size (by repeat (first | (with_reducible first | exact HB.out | apply below_alloc | apply pw_below_drewN | apply below_drew1 | refine below_set ?_ GE101.out) | exact HB.out)))); have n1_ := Aside0.mk (blk_below (g := gb101) (o := .cells #[.int .u64 0, .slice none 0 0, .int .u32 0] 26 (0, 0)) (by (with_reducible repeat (first | refine blk_drewN ?_ _ | refine blk_drew ?_ | refine blk_alloc ?_ _)); exact BK101.out) hb); have n2_ := Aside0.mk (below_step (by repeat (first | (with_reducible first | exact HB.out | apply below_alloc | apply pw_below_drewN | apply below_drew1 | refine below_set ?_ GE101.out) | exact HB.out)) hb); clear BK101; clear HB; have HO105 := n0_; have BK101 := n1_; have HB := n2_; clear n0_ n1_ n2_; (try clear hb); (try clear hb2); (try clear hk); (try clear hi); (try clear ho0); obtain ⟨Ao10, co10, eo10⟩ := Kd.R_slice HO105.out; subst eo10) | ((with_reducible refine gate_dst (N := 6) rfl ?_); refine box_event ?hg (N := 6) ?hd (cs := #[.int .u64 0, .slice none 0 0, .int .u32 0]) (t := 26) ?hr ?_; (case hd => rfl); (case hg => rfl); (case hr => first | (go_simp; done) | (go_simp; rfl)); intro gb106 hg w11 hbox hb; have n0_ := Aside0.mk (Kd.R_below (by (with_reducible repeat (first | apply Kd.R_alloc | apply Kd.R_drewN | apply Kd.R_drew)); exact HO105.out) hb); have n1_ := Aside0.mk (blk_below (g := gb101) (o := .cells #[.int .u64 0, .slice none 0 0, .int .u32 0] 26 (0, 0)) (by (with_reducible repeat (first | refine blk_drewN ?_ _ | refine blk_drew ?_ | refine blk_alloc ?_ _)); exact BK101.out) hb); have n2_ := Aside0.mk (below_step (by repeat (first | (with_reducible first | exact HB.out | apply below_alloc | apply pw_below_drewN | apply below_drew1 | refine below_set ?_ GE101.out) | exact HB.out)) hb); have n3_ := Aside0.mk (hbox); have n4_ := Aside0.mk ((by rw [hg]; exact (below_size (by repeat (first | (with_reducible first | exact HB.out | apply below_alloc | apply pw_below_drewN | apply below_drew1 | refine below_set ?_ GE101.out) | exact HB.out))) : w.heap.size ≤ gb106)); have n5_ := Aside0.mk ((by rw [hg]; exact (below_size (by repeat (first | (with_reducible first | exact HB.out | apply below_alloc | apply pw_below_drewN | apply below_drew1 | refine below_set ?_ GE101.out) | exact HB.out))) : w.heap.size ≤ gb106)); have n6_ := Aside0.mk ((by rw [hg]; exact Nat.ne_of_lt (blk_lt (g := gb101) (o := .cells #[.int .u64 0, .slice none 0 0, .int .u32 0] 26 (0, 0)) (by (with_reducible repeat (first | refine blk_drewN ?_ _ | refine blk_drew ?_ | refine blk_alloc ?_ _)); exact BK101.out)) : gb101 ≠ gb106)); have n7_ := Aside0.mk ((by rw [hg]; exact Nat.ne_of_gt (blk_lt (g := gb101) (o := .cells #[.int .u64 0, .slice none 0 0, .int .u32 0] 26 (0, 0)) (by (with_reducible repeat (first | refine blk_drewN ?_ _ | refine blk_drew ?_ | refine blk_alloc ?_ _)); exact BK101.out)) : gb106 ≠ gb101)); clear HO105; clear BK101; clear HB; have HO105 := n0_; have BK101 := n1_; have HB := n2_; have BK106 := n3_; have GW106 := n4_; have GE106 := n5_; have NB101_106 := n6_; have NB106_101 := n7_; clear n0_ n1_ n2_ n3_ n4_ n5_ n6_ n7_; clear hb hbox hg; have hnb12 := NB106_101.out; have hnc12 := NB101_106.out; have hcz13_0 : w11.cell? ⟨gb106, 0, none⟩ = some (.int .u64 0) := (blk_cell BK106.out 0).trans rfl; have hcz13_1 : w11.cell? ⟨gb106, 1, none⟩ = some (.slice none 0 0) := (blk_cell BK106.out 1).trans rfl; have hcz13_2 : w11.cell? ⟨gb106, 2, none⟩ = some (.int .u32 0) := (blk_cell BK106.out 2).trans rfl; have hfz13_0 := blk_frozen BK106.out 0; have hfz13_1 := blk_frozen BK106.out 1; have hfz13_2 := blk_frozen BK106.out 2) | ((with_reducible refine gate_callee (f := 41) rfl ?_); refine goesL_ (some 20) rfl rfl Try.func41 (by kernel_rfl) rfl #[.int .u64 a0, .int .i64 8] rfl (by (try simp only [List.map_toArray, List.map_cons, List.map_nil]); first | done | rfl | (simp only [List.length_drop, List.length_take]; rfl)) ?_; (with_reducible refine (scullerref01_Put_c.calls a0 8 t107 _ A6.out).mono ?_); rintro e w14 ⟨v108, rfl, ho0, hb⟩; refine ⟨_, rfl, ?_⟩; have n0_ := Aside0.mk (Kd.R_below (by (with_reducible repeat (first | apply Kd.R_alloc | apply Kd.R_drewN | apply Kd.R_drew)); exact (Kd.R_mono (Kd.R_far (p := ⟨gb106, 2, none⟩) (Kd.R_far (p := ⟨gb106, 1, none⟩) (Kd.R_far (p := ⟨gb106, 0, none⟩) (Kd.R_types HO105.out BK106.out (by decide)) (fun _ hk => hk.2) (.int .u64 a0)) (fun _ hk => hk.2) (.slice Ao10 t103.length co10)) (fun _ hk => hk.2) (.int .u32 0)) (fun _ h_ => h_.1))) hb); have n1_ := Aside0.mk (Kd.R_lower ho0 (below_size (by repeat (first | (with_reducible first | exact HB.out | apply below_alloc | apply pw_below_drewN | apply below_drew1 | refine below_set ?_ GE101.out | refine below_set ?_ GE106.out) | exact HB.out)))); have n2_ := Aside0.mk (blk_below (g := gb101) (o := .cells #[.int .u64 0, .slice none 0 0, .int .u32 0] 26 (0, 0)) (by (with_reducible repeat (first | refine blk_drewN ?_ _ | refine blk_drew ?_ | refine blk_alloc ?_ _)); refine blk_far ?_ NB101_106.out _; (with_reducible repeat (first | refine blk_drewN ?_ _ | refine blk_drew ?_ | refine blk_alloc ?_ _)); refine blk_far ?_ NB101_106.out _; (with_reducible repeat (first | refine blk_drewN ?_ _ | refine blk_drew ?_ | refine blk_alloc ?_ _)); refine blk_far ?_ NB101_106.out _; (with_reducible repeat (first | refine blk_drewN ?_ _ | refine blk_drew ?_ | refine blk_alloc ?_ _)); exact BK101.out) hb); have n3_ := Aside0.mk (blk_below (g := gb106) (o := .cells #[.int .u64 a0, .slice Ao10 t103.length co10, .int .u32 0] 26 (0, 0)) (by (with_reducible repeat (first | refine blk_drewN ?_ _ | refine blk_drew ?_ | refine blk_alloc ?_ _)); refine blk_put (cs := #[.int .u64 a0, .slice Ao10 t103.length co10, .int .u32 0]) ?_ 2 _ rfl; (with_reducible repeat (first | refine blk_drewN ?_ _ | refine blk_drew ?_ | refine blk_alloc ?_ _)); refine blk_put (cs := #[.int .u64 a0, .slice none 0 0, .int .u32 0]) ?_ 1 _ rfl; (with_reducible repeat (first | refine blk_drewN ?_ _ | refine blk_drew ?_ | refine blk_alloc ?_ _)); refine blk_put (cs := #[.int .u64 0, .slice none 0 0, .int .u32 0]) ?_ 0 _ rfl; (with_reducible repeat (first | refine blk_drewN ?_ _ | refine blk_drew ?_ | refine blk_alloc ?_ _)); exact BK106.out) hb); have n4_ := Aside0.mk (below_step (by repeat (first | (with_reducible first | exact HB.out | apply below_alloc | apply pw_below_drewN | apply below_drew1 | refine below_set ?_ GE101.out | refine below_set ?_ GE106.out) | exact HB.out)) hb); clear HO105; clear BK101; clear BK106; clear HB; have HO105 := n0_; have HO109 := n1_; have BK101 := n2_; have BK106 := n3_; have HB := n4_; clear n0_ n1_ n2_ n3_ n4_; (try clear hb); (try clear hb2); (try clear hk); (try clear hi); (try clear ho0)))
   go_loopg [7, 8] k (fun kq v7 v8 w' => ∃ (x7_1 : List Int) (x8_1 : Int), v8 = .int .i64 x8_1 ∧ Aside0 (scullerref12_Of.l0 kq l1 x7_1 x8_1 a0 t103 0 = some (r1, r2, r3, r4)) ∧ Aside0 (kq ≤ k) ∧ Aside0 (Kd.R (Kd.int .u8) 5 w' w.heap.size (fun _ => True) v7 x7_1) ∧ Aside0 (Kd.R (Kd.int .i64) 3 w' w.heap.size (fun _ => True) (.slice Ao10 t103.length co10) t103) ∧ Aside0 (w'.heap[gb101]? = some (.cells #[.int .u64 0, (.slice none 0 0), .int .u32 0] 26 (0, 0))) ∧ Aside0 (w'.heap[gb106]? = some (.cells #[.int .u64 a0, (.slice Ao10 t103.length co10), .int .u32 0] 26 (0, 0))) ∧ Aside0 (Below w.heap.size w w'))
   case atStart => exact ⟨(t107), (0), (by first | rfl | (simp; done) | (simp [*]; done)), H', ⟨Nat.le_refl _⟩, ⟨by (with_reducible repeat (first | apply Kd.R_alloc | apply Kd.R_drewN | apply Kd.R_drew)); exact HO109.out⟩, ⟨by (with_reducible repeat (first | apply Kd.R_alloc | apply Kd.R_drewN | apply Kd.R_drew)); exact HO105.out⟩, ⟨by (with_reducible repeat (first | refine blk_drewN ?_ _ | refine blk_drew ?_ | refine blk_alloc ?_ _)); exact BK101.out⟩, ⟨by (with_reducible repeat (first | refine blk_drewN ?_ _ | refine blk_drew ?_ | refine blk_alloc ?_ _)); exact BK106.out⟩, ⟨by repeat (first | (with_reducible first | exact HB.out | apply below_alloc | apply pw_below_drewN | apply below_drew1 | refine below_set ?_ GE101.out | refine below_set ?_ GE106.out) | exact HB.out)⟩⟩
   case round =>
    clear H'
    try clear c1
    try clear p2
    try clear c3
    try clear c4
    try clear c7
    try clear c12
    try clear hcz13_0
    try clear hcz13_1
    try clear hcz13_2
    try clear hfz13_0
    try clear hfz13_1
    try clear hfz13_2
    obtain ⟨x7_1, x8_1, rfl, HA, HK1, HO_7, HO_107001, BK101, BK106, HB⟩ := hrel
    cases gk with
    | zero => exact absurd HA.out (by simp [scullerref12_Of.l0])
    | succ k1 =>
      have H := HA.out
      clear HA
      simp only [scullerref12_Of.l0] at H
      by_cases c15 : x8_1 < (t103.length : Int)
      · rw [if_pos c15] at H
        have c15b0 : decide (x8_1 < (t103.length : Int)) = true := decide_eq_true c15
        clear c15
        by_cases c16 : 0 ≤ x8_1
        · rw [if_pos c16] at H
          have c16b0 : decide (0 ≤ x8_1) = true := decide_eq_true c16
          clear c16
          replace H := Option.bind_eq_some_iff.mp H
          obtain ⟨t111, A170, H⟩ := H
          replace H : (if x7_1.length + t111.length < 140737488355328 then (scullerref12_Of.l0 k1 l1 (x7_1 ++ t111) (wrap64 (x8_1 + 1)) a0 t103 0) else (none)) = some (r1, r2, r3, r4) := H
          have A17 := Aside0.mk A170
          clear A170
          by_cases c18 : x7_1.length + t111.length < 140737488355328
          · rw [if_pos c18] at H
            have LMc18 := Aside0.mk c18
            clear c18
            obtain ⟨y114, hy114⟩ : ∃ y_ : List Int, y_ = (x7_1 ++ t111) := ⟨_, rfl⟩
            replace H : (scullerref12_Of.l0 k1 l1 y114 (wrap64 (x8_1 + 1)) a0 t103 0) = some (r1, r2, r3, r4) := by first | (rw [hy114]; with_reducible exact H) | (have H2_ := (Option.bind_some _ _).symm.trans H; rw [hy114]; with_reducible exact H2_) | (have H2_ := (Option.bind_some _ _).symm.trans H; with_reducible exact H2_) | with_reducible exact H | (rw [hy114]; exact H) | exact H
            have Ny114 := Aside0.mk hy114
            clear hy114
            have H' := Aside0.mk H
            clear H
            have hnb19 := NB106_101.out
            have hnc19 := NB101_106.out
            have hcz20_0 : wr.cell? ⟨gb106, 0, none⟩ = some (.int .u64 a0) := (blk_cell BK106.out 0).trans rfl
            have hcz20_1 : wr.cell? ⟨gb106, 1, none⟩ = some (.slice Ao10 t103.length co10) := (blk_cell BK106.out 1).trans rfl
            have hcz20_2 : wr.cell? ⟨gb106, 2, none⟩ = some (.int .u32 0) := (blk_cell BK106.out 2).trans rfl
            have hfz20_0 := blk_frozen BK106.out 0
            have hfz20_1 := blk_frozen BK106.out 1
            have hfz20_2 := blk_frozen BK106.out 2
            have p110 : 0 ≤ (x8_1 : Int) := of_decide_eq_true (by first | (with_reducible assumption) | assumption)
            have q110 : x8_1 < (t103.length : Int) := of_decide_eq_true (by first | (with_reducible assumption) | assumption)
            (try (obtain ⟨Az110, cz110, ez110⟩ := Kd.R_slice HO_107001.out; subst ez110))
            obtain ⟨ad110, e110, hx110_0⟩ := Kd.at_int (Kd.R_reads' HO_107001.out).2.2 x8_1 p110 q110
            cases e110
            replace p110 := eq_true p110
            replace q110 := eq_true q110
            go_wp2_with (first | ((with_reducible refine gate_callee (f := 41) rfl ?_); refine goesL_ (some 34) rfl rfl Try.func41 (by kernel_rfl) rfl #[.int .u64 (IntKind.u64.wrap (rd t103 x8_1)), .int .i64 2] rfl (by (try simp only [List.map_toArray, List.map_cons, List.map_nil]); first | done | rfl | (simp only [List.length_drop, List.length_take]; rfl)) ?_; (with_reducible refine (scullerref01_Put_c.calls (IntKind.u64.wrap (rd t103 x8_1)) 2 t111 _ A17.out).mono ?_); rintro e w21 ⟨v112, rfl, ho0, hb⟩; refine ⟨_, rfl, ?_⟩; have n0_ := Aside0.mk (Kd.R_elder' (by (with_reducible repeat (first | apply Kd.R_alloc | apply Kd.R_drewN | apply Kd.R_drew)); exact HO_7.out) (Kd.R_base ho0) hb); have n1_ := Aside0.mk (Kd.R_below (by (with_reducible repeat (first | apply Kd.R_alloc | apply Kd.R_drewN | apply Kd.R_drew)); exact HO_107001.out) hb); have n2_ := Aside0.mk (Kd.R_lower (Kd.R_new' ho0 (Kd.R_lt (by (with_reducible repeat (first | apply Kd.R_alloc | apply Kd.R_drewN | apply Kd.R_drew)); exact HO_7.out))) (below_size (by repeat (first | (with_reducible first | exact HB.out | apply below_alloc | apply pw_below_drewN | apply below_drew1 | refine below_set ?_ GE101.out | refine below_set ?_ GE106.out) | exact HB.out)))); have n3_ := Aside0.mk (blk_below (g := gb101) (o := .cells #[.int .u64 0, .slice none 0 0, .int .u32 0] 26 (0, 0)) (by (with_reducible repeat (first | refine blk_drewN ?_ _ | refine blk_drew ?_ | refine blk_alloc ?_ _)); exact BK101.out) hb); have n4_ := Aside0.mk (blk_below (g := gb106) (o := .cells #[.int .u64 a0, .slice (some ad110) t103.length co10, .int .u32 0] 26 (0, 0)) (by (with_reducible repeat (first | refine blk_drewN ?_ _ | refine blk_drew ?_ | refine blk_alloc ?_ _)); exact BK106.out) hb); have n5_ := Aside0.mk (below_step (by repeat (first | (with_reducible first | exact HB.out | apply below_alloc | apply pw_below_drewN | apply below_drew1 | refine below_set ?_ GE101.out | refine below_set ?_ GE106.out) | exact HB.out)) hb); clear HO_7; clear HO_107001; clear BK101; clear BK106; clear HB; have HO_7 := n0_; have HO_107001 := n1_; have HO113 := n2_; have BK101 := n3_; have BK106 := n4_; have HB := n5_; clear n0_ n1_ n2_ n3_ n4_ n5_; (try clear hb); (try clear hb2); (try clear hk); (try clear hi); (try clear ho0); obtain ⟨Ao23, co23, eo23⟩ := Kd.R_slice HO113.out; subst eo23) | ((with_reducible refine gate_builtin (b := .append) (xs := #[.tmp 35, .tmp 36]) rfl ?_); at_builtin; refine Kd.R_append_rows (Kd.int .u8) (w0 := w) w.heap.size rfl (.tmp 35) (.tmp 36) 27 5 (.int .u8 0) 1 rfl Try.underlying27 info5 rfl (by decide) (by omega) u7 x7_1 t111 _ _ _ (fun k_ => some k_ ≠ (.slice Ao23 t111.length co23 : Value).ownBlock) (fun _ => False) rfl rfl ?aO ?aR (fun _ _ h => h) (fun _ h => h.elim) ?aF ?aB ?aS ?aL ?_; (case aR => repeat (first | exact (Kd.R_reads' HO113.out).2.2 | (with_reducible refine Kd.C_alloc ?_ _) | (with_reducible refine Kd.C_drewN ?_ _) | (with_reducible refine Kd.C_drew ?_))); (case aB => exact (by repeat (first | (with_reducible first | exact HB.out | apply below_alloc | apply pw_below_drewN | apply below_drew1 | refine below_set ?_ GE101.out | refine below_set ?_ GE106.out) | exact HB.out))); (case aF => exact (fun k_ hk => Kd.fresh' (Kd.R_lt (by (with_reducible repeat (first | apply Kd.R_alloc | apply Kd.R_drewN | apply Kd.R_drew)); exact HO113.out)) k_ hk)); (case aO => exact (by (with_reducible repeat (first | apply Kd.R_alloc | apply Kd.R_drewN | apply Kd.R_drew)); exact Kd.R_mono HO_7.out (fun _ hk => hk.2))); (case aS => exact (below_size (by repeat (first | (with_reducible first | exact HB.out | apply below_alloc | apply pw_below_drewN | apply below_drew1 | refine below_set ?_ GE101.out | refine below_set ?_ GE106.out) | exact HB.out)))); (case aL => have := LMc18.out; omega); intro v115 w22 ho hb hg hat; rw [← Ny114.out] at ho; have n0_ := Aside0.mk (Kd.R_over' (by (with_reducible repeat (first | apply Kd.R_alloc | apply Kd.R_drewN | apply Kd.R_drew)); exact HO_107001.out) (Kd.R_typed (by (with_reducible repeat (first | apply Kd.R_alloc | apply Kd.R_drewN | apply Kd.R_drew)); exact HO_7.out)) (by decide) hg); have n1_ := Aside0.mk (blk_grown (g := gb101) (o := .cells #[.int .u64 0, .slice none 0 0, .int .u32 0] 26 (0, 0)) (by (with_reducible repeat (first | refine blk_drewN ?_ _ | refine blk_drew ?_ | refine blk_alloc ?_ _)); exact BK101.out) hg (Kd.R_ne HO_7.out BK101.out (by decide))); have n2_ := Aside0.mk (blk_grown (g := gb106) (o := .cells #[.int .u64 a0, .slice (some ad110) t103.length co10, .int .u32 0] 26 (0, 0)) (by (with_reducible repeat (first | refine blk_drewN ?_ _ | refine blk_drew ?_ | refine blk_alloc ?_ _)); exact BK106.out) hg (Kd.R_ne HO_7.out BK106.out (by decide))); have n3_ := Aside0.mk (Kd.R_after (ok := (fun _ => True)) (by (with_reducible repeat (first | apply Kd.R_alloc | apply Kd.R_drewN | apply Kd.R_drew)); exact HO113.out) hg hat); have n4_ := Aside0.mk (hb); have n5_ := Aside0.mk (ho); clear HO_107001; clear BK101; clear BK106; clear HO113; clear HB; clear HO_7; have HO_107001 := n0_; have BK101 := n1_; have BK106 := n2_; have HO113 := n3_; have HB := n4_; have HO116 := n5_; clear n0_ n1_ n2_ n3_ n4_ n5_; clear ho hb hg hat))
            go_roundg k1
            case measure => have := HK1.out; omega
            case rel => exact ⟨(y114), (wrap64 (x8_1 + 1)), (by first | rfl | (simp; done) | (simp [*]; done)), H', ⟨by have := HK1.out; omega⟩, ⟨by (with_reducible repeat (first | apply Kd.R_alloc | apply Kd.R_drewN | apply Kd.R_drew)); exact Kd.R_mono HO116.out (fun _ hk => trivial)⟩, ⟨by (with_reducible repeat (first | apply Kd.R_alloc | apply Kd.R_drewN | apply Kd.R_drew)); exact HO_107001.out⟩, ⟨by (with_reducible repeat (first | refine blk_drewN ?_ _ | refine blk_drew ?_ | refine blk_alloc ?_ _)); exact BK101.out⟩, ⟨by (with_reducible repeat (first | refine blk_drewN ?_ _ | refine blk_drew ?_ | refine blk_alloc ?_ _)); exact BK106.out⟩, ⟨by repeat (first | (with_reducible first | exact HB.out | apply below_alloc | apply pw_below_drewN | apply below_drew1 | refine below_set ?_ GE101.out | refine below_set ?_ GE106.out) | exact HB.out)⟩⟩
          · rw [if_neg c18] at H
            exact absurd H (by simp)
        · rw [if_neg c16] at H
          exact absurd H (by simp)
      · rw [if_neg c15] at H
        have c15b0 : decide (x8_1 < (t103.length : Int)) = false := decide_eq_false c15
        clear c15
        replace H := Option.bind_eq_some_iff.mp H
        obtain ⟨t117, A240, H⟩ := H
        replace H : (if x7_1.length + t117.length < 140737488355328 then ((scullerref02_Sum.f (x7_1 ++ t117)).bind fun t123 => (some (a0, t103, t123, 0))) else (none)) = some (r1, r2, r3, r4) := H
        have A24 := Aside0.mk A240
        clear A240
        by_cases c25 : x7_1.length + t117.length < 140737488355328
        · rw [if_pos c25] at H
          have LMc25 := Aside0.mk c25
          clear c25
          obtain ⟨y120, hy120⟩ : ∃ y_ : List Int, y_ = (x7_1 ++ t117) := ⟨_, rfl⟩
          replace H : ((scullerref02_Sum.f y120).bind fun t123 => (some (a0, t103, t123, 0))) = some (r1, r2, r3, r4) := by first | (rw [hy120]; with_reducible exact H) | (have H2_ := (Option.bind_some _ _).symm.trans H; rw [hy120]; with_reducible exact H2_) | (have H2_ := (Option.bind_some _ _).symm.trans H; with_reducible exact H2_) | with_reducible exact H | (rw [hy120]; exact H) | exact H
          have Ny120 := Aside0.mk hy120
          clear hy120
          replace H := Option.bind_eq_some_iff.mp H
          obtain ⟨t123, A260, H⟩ := H
          replace H : (some (a0, t103, t123, 0)) = some (r1, r2, r3, r4) := H
          have A26 := Aside0.mk A260
          clear A260
          simp only [Option.some.injEq, Prod.mk.injEq] at H
          obtain ⟨rfl, rfl, rfl, rfl⟩ := H
          have hnb27 := NB106_101.out
          have hnc27 := NB101_106.out
          have hcz28_0 : wr.cell? ⟨gb106, 0, none⟩ = some (.int .u64 a0) := (blk_cell BK106.out 0).trans rfl
          have hcz28_1 : wr.cell? ⟨gb106, 1, none⟩ = some (.slice Ao10 t103.length co10) := (blk_cell BK106.out 1).trans rfl
          have hcz28_2 : wr.cell? ⟨gb106, 2, none⟩ = some (.int .u32 0) := (blk_cell BK106.out 2).trans rfl
          have hfz28_0 := blk_frozen BK106.out 0
          have hfz28_1 := blk_frozen BK106.out 1
          have hfz28_2 := blk_frozen BK106.out 2
          go_wp2_with (first | ((with_reducible refine gate_callee (f := 73) rfl ?_); refine goesL_ (some 39) rfl rfl Try.func73 (by kernel_rfl) rfl #[.slice A1 l1.length c1] rfl (by (try simp only [List.map_toArray, List.map_cons, List.map_nil]); first | done | rfl | (simp only [List.length_drop, List.length_take]; rfl)) ?_; (with_reducible refine (scullerref07_Bytes_c.calls _ _ l1 t117 _ ?side1 ?side2 A24.out).mono ?_); (case side1 => repeat (first | exact (Kd.C_below HR1.out HB.out) | (with_reducible refine Kd.C_alloc ?_ _) | (with_reducible refine Kd.C_drewN ?_ _) | (with_reducible refine Kd.C_drew ?_))); (case side2 => exact HC1.out); rintro e w29 ⟨v118, rfl, ho0, hb⟩; refine ⟨_, rfl, ?_⟩; have n0_ := Aside0.mk (Kd.R_elder' (by (with_reducible repeat (first | apply Kd.R_alloc | apply Kd.R_drewN | apply Kd.R_drew)); exact HO_7.out) (Kd.R_base ho0) hb); have n1_ := Aside0.mk (Kd.R_below (by (with_reducible repeat (first | apply Kd.R_alloc | apply Kd.R_drewN | apply Kd.R_drew)); exact HO_107001.out) hb); have n2_ := Aside0.mk (Kd.R_lower (Kd.R_new' ho0 (Kd.R_lt (by (with_reducible repeat (first | apply Kd.R_alloc | apply Kd.R_drewN | apply Kd.R_drew)); exact HO_7.out))) (below_size (by repeat (first | (with_reducible first | exact HB.out | apply below_alloc | apply pw_below_drewN | apply below_drew1 | refine below_set ?_ GE101.out | refine below_set ?_ GE106.out) | exact HB.out)))); have n3_ := Aside0.mk (blk_below (g := gb101) (o := .cells #[.int .u64 0, .slice none 0 0, .int .u32 0] 26 (0, 0)) (by (with_reducible repeat (first | refine blk_drewN ?_ _ | refine blk_drew ?_ | refine blk_alloc ?_ _)); exact BK101.out) hb); have n4_ := Aside0.mk (blk_below (g := gb106) (o := .cells #[.int .u64 a0, .slice Ao10 t103.length co10, .int .u32 0] 26 (0, 0)) (by (with_reducible repeat (first | refine blk_drewN ?_ _ | refine blk_drew ?_ | refine blk_alloc ?_ _)); exact BK106.out) hb); have n5_ := Aside0.mk (below_step (by repeat (first | (with_reducible first | exact HB.out | apply below_alloc | apply pw_below_drewN | apply below_drew1 | refine below_set ?_ GE101.out | refine below_set ?_ GE106.out) | exact HB.out)) hb); clear HO_7; clear HO_107001; clear BK101; clear BK106; clear HB; have HO_7 := n0_; have HO_107001 := n1_; have HO119 := n2_; have BK101 := n3_; have BK106 := n4_; have HB := n5_; clear n0_ n1_ n2_ n3_ n4_ n5_; (try clear hb); (try clear hb2); (try clear hk); (try clear hi); (try clear ho0); obtain ⟨Ao31, co31, eo31⟩ := Kd.R_slice HO119.out; subst eo31) | ((with_reducible refine gate_builtin (b := .append) (xs := #[.tmp 40, .tmp 41]) rfl ?_); at_builtin; refine Kd.R_append_rows (Kd.int .u8) (w0 := w) w.heap.size rfl (.tmp 40) (.tmp 41) 27 5 (.int .u8 0) 1 rfl Try.underlying27 info5 rfl (by decide) (by omega) u7 x7_1 t117 _ _ _ (fun k_ => some k_ ≠ (.slice Ao31 t117.length co31 : Value).ownBlock) (fun _ => False) rfl rfl ?aO ?aR (fun _ _ h => h) (fun _ h => h.elim) ?aF ?aB ?aS ?aL ?_; (case aR => repeat (first | exact (Kd.R_reads' HO119.out).2.2 | (with_reducible refine Kd.C_alloc ?_ _) | (with_reducible refine Kd.C_drewN ?_ _) | (with_reducible refine Kd.C_drew ?_))); (case aB => exact (by repeat (first | (with_reducible first | exact HB.out | apply below_alloc | apply pw_below_drewN | apply below_drew1 | refine below_set ?_ GE101.out | refine below_set ?_ GE106.out) | exact HB.out))); (case aF => exact (fun k_ hk => Kd.fresh' (Kd.R_lt (by (with_reducible repeat (first | apply Kd.R_alloc | apply Kd.R_drewN | apply Kd.R_drew)); exact HO119.out)) k_ hk)); (case aO => exact (by (with_reducible repeat (first | apply Kd.R_alloc | apply Kd.R_drewN | apply Kd.R_drew)); exact Kd.R_mono HO_7.out (fun _ hk => hk.2))); (case aS => exact (below_size (by repeat (first | (with_reducible first | exact HB.out | apply below_alloc | apply pw_below_drewN | apply below_drew1 | refine below_set ?_ GE101.out | refine below_set ?_ GE106.out) | exact HB.out)))); (case aL => have := LMc25.out; omega); intro v121 w30 ho hb hg hat; rw [← Ny120.out] at ho; have n0_ := Aside0.mk (Kd.R_over' (by (with_reducible repeat (first | apply Kd.R_alloc | apply Kd.R_drewN | apply Kd.R_drew)); exact HO_107001.out) (Kd.R_typed (by (with_reducible repeat (first | apply Kd.R_alloc | apply Kd.R_drewN | apply Kd.R_drew)); exact HO_7.out)) (by decide) hg); have n1_ := Aside0.mk (blk_grown (g := gb101) (o := .cells #[.int .u64 0, .slice none 0 0, .int .u32 0] 26 (0, 0)) (by (with_reducible repeat (first | refine blk_drewN ?_ _ | refine blk_drew ?_ | refine blk_alloc ?_ _)); exact BK101.out) hg (Kd.R_ne HO_7.out BK101.out (by decide))); have n2_ := Aside0.mk (blk_grown (g := gb106) (o := .cells #[.int .u64 a0, .slice Ao10 t103.length co10, .int .u32 0] 26 (0, 0)) (by (with_reducible repeat (first | refine blk_drewN ?_ _ | refine blk_drew ?_ | refine blk_alloc ?_ _)); exact BK106.out) hg (Kd.R_ne HO_7.out BK106.out (by decide))); have n3_ := Aside0.mk (Kd.R_after (ok := (fun _ => True)) (by (with_reducible repeat (first | apply Kd.R_alloc | apply Kd.R_drewN | apply Kd.R_drew)); exact HO119.out) hg hat); have n4_ := Aside0.mk (hb); have n5_ := Aside0.mk (ho); clear HO_107001; clear BK101; clear BK106; clear HO119; clear HB; clear HO_7; have HO_107001 := n0_; have BK101 := n1_; have BK106 := n2_; have HO119 := n3_; have HB := n4_; have HO122 := n5_; clear n0_ n1_ n2_ n3_ n4_ n5_; clear ho hb hg hat; obtain ⟨Ao32, co32, eo32⟩ := Kd.R_slice HO122.out; subst eo32) | ((with_reducible refine gate_callee (f := 42) rfl ?_); refine goesL_ (some 44) rfl rfl Try.func42 (by kernel_rfl) rfl #[.slice Ao32 y120.length co32] rfl (by (try simp only [List.map_toArray, List.map_cons, List.map_nil]); first | done | rfl | (simp only [List.length_drop, List.length_take]; rfl)) ?_; (with_reducible refine (scullerref02_Sum.calls _ _ y120 t123 _ ?side1 ?side2 A26.out).mono ?_); (case side1 => repeat (first | exact (Kd.R_reads' HO122.out).2.2 | (with_reducible refine Kd.C_alloc ?_ _) | (with_reducible refine Kd.C_drewN ?_ _) | (with_reducible refine Kd.C_drew ?_))); (case side2 => exact (Kd.R_reads' HO122.out).2.1); rintro e w' ⟨rfl, ⟨nd, rfl⟩⟩; refine ⟨_, rfl, ?_⟩; (try (rw [drewN_self w30]; generalize hq_ : World.drewN w30 _ = w30; have n0_ : Aside0 (Kd.R (Kd.int .u8) 5 w30 w.heap.size (fun k_ => some k_ ≠ (.slice Ao32 y120.length co32 : Value).ownBlock) (.slice Ao31 t117.length co31) t117) := ⟨by rw [← hq_]; exact (by (with_reducible repeat (first | apply Kd.R_alloc | apply Kd.R_drewN | apply Kd.R_drew)); exact Kd.R_mono HO119.out (fun _ hk => hk.2))⟩; have n1_ : Aside0 (Kd.R (Kd.int .u8) 5 w30 w.heap.size (fun k_ => some k_ ≠ (.slice Ao31 t117.length co31 : Value).ownBlock) (.slice Ao32 y120.length co32) y120) := ⟨by rw [← hq_]; exact (by (with_reducible repeat (first | apply Kd.R_alloc | apply Kd.R_drewN | apply Kd.R_drew)); exact HO122.out)⟩; have n2_ : Aside0 (Kd.R (Kd.int .i64) 3 w30 w.heap.size (fun _ => True) (.slice Ao10 t103.length co10) t103) := ⟨by rw [← hq_]; exact (by (with_reducible repeat (first | apply Kd.R_alloc | apply Kd.R_drewN | apply Kd.R_drew)); exact HO_107001.out)⟩; have n3_ : Aside0 (w30.heap[gb101]? = some (.cells #[.int .u64 0, .slice none 0 0, .int .u32 0] 26 (0, 0))) := ⟨by rw [← hq_]; exact (by (with_reducible repeat (first | refine blk_drewN ?_ _ | refine blk_drew ?_ | refine blk_alloc ?_ _)); exact BK101.out)⟩; have n4_ : Aside0 (w30.heap[gb106]? = some (.cells #[.int .u64 a0, .slice Ao10 t103.length co10, .int .u32 0] 26 (0, 0))) := ⟨by rw [← hq_]; exact (by (with_reducible repeat (first | refine blk_drewN ?_ _ | refine blk_drew ?_ | refine blk_alloc ?_ _)); exact BK106.out)⟩; have n5_ : Aside0 (Below w.heap.size w w30) := ⟨by rw [← hq_]; exact (by repeat (first | (with_reducible first | exact HB.out | apply below_alloc | apply pw_below_drewN | apply below_drew1 | refine below_set ?_ GE101.out | refine below_set ?_ GE106.out) | exact HB.out))⟩; clear HO119 HO122 HO_107001 BK101 BK106 HB hq_; have HO119 := n0_; have HO122 := n1_; have HO_107001 := n2_; have BK101 := n3_; have BK106 := n4_; have HB := n5_; clear n0_ n1_ n2_ n3_ n4_ n5_)); have hcz33_0 : w30.cell? ⟨gb106, 0, none⟩ = some (.int .u64 a0) := (blk_cell BK106.out 0).trans rfl; have hcz33_1 : w30.cell? ⟨gb106, 1, none⟩ = some (.slice Ao10 t103.length co10) := (blk_cell BK106.out 1).trans rfl; have hcz33_2 : w30.cell? ⟨gb106, 2, none⟩ = some (.int .u32 0) := (blk_cell BK106.out 2).trans rfl; have hfz33_0 := blk_frozen BK106.out 0; have hfz33_1 := blk_frozen BK106.out 1; have hfz33_2 := blk_frozen BK106.out 2; have hcz34_0 : w30.cell? ⟨gb101, 0, none⟩ = some (.int .u64 0) := (blk_cell BK101.out 0).trans rfl; have hcz34_1 : w30.cell? ⟨gb101, 1, none⟩ = some (.slice none 0 0) := (blk_cell BK101.out 1).trans rfl; have hcz34_2 : w30.cell? ⟨gb101, 2, none⟩ = some (.int .u32 0) := (blk_cell BK101.out 2).trans rfl; have hfz34_0 := blk_frozen BK101.out 0; have hfz34_1 := blk_frozen BK101.out 1; have hfz34_2 := blk_frozen BK101.out 2))
          refine bodyPost_ret (results_ct rfl _ _ gb101 26 #[.int .u64 a0, .slice Ao10 t103.length co10, .int .u32 t123] (0, 0) _ rfl (by (with_reducible repeat (first | refine blk_drewN ?_ _ | refine blk_drew ?_ | refine blk_alloc ?_ _)); refine blk_put (cs := #[.int .u64 a0, .slice Ao10 t103.length co10, .int .u32 0]) ?_ 2 _ rfl; (with_reducible repeat (first | refine blk_drewN ?_ _ | refine blk_drew ?_ | refine blk_alloc ?_ _)); refine blk_put (cs := #[.int .u64 a0, .slice none 0 0, .int .u32 0]) ?_ 1 _ rfl; (with_reducible repeat (first | refine blk_drewN ?_ _ | refine blk_drew ?_ | refine blk_alloc ?_ _)); refine blk_put (cs := #[.int .u64 0, .slice none 0 0, .int .u32 0]) ?_ 0 _ rfl; (with_reducible repeat (first | refine blk_drewN ?_ _ | refine blk_drew ?_ | refine blk_alloc ?_ _)); refine blk_far ?_ NB101_106.out _; (with_reducible repeat (first | refine blk_drewN ?_ _ | refine blk_drew ?_ | refine blk_alloc ?_ _)); exact BK101.out) Try.underlying26 rfl (by kernel_rfl)) rfl ?_
          exact ⟨_, by first | rfl | (simp [errW_none, errW_some] <;> rfl) | (simp [*, errW_none, errW_some] <;> rfl), by (with_reducible repeat (first | apply Kd.R_alloc | apply Kd.R_drewN | apply Kd.R_drew)); exact Kd.R_mono (Kd.R_far (p := ⟨gb101, 2, none⟩) (Kd.R_far (p := ⟨gb101, 1, none⟩) (Kd.R_far (p := ⟨gb101, 0, none⟩) (Kd.R_far (p := ⟨gb106, 2, none⟩) (Kd.R_types (Kd.R_types HO_107001.out BK106.out (by decide)) BK101.out (by decide)) (fun _ hk => hk.1.2) (.int .u32 t123)) (fun _ hk => hk.2) (.int .u64 a0)) (fun _ hk => hk.2) (.slice Ao10 t103.length co10)) (fun _ hk => hk.2) (.int .u32 t123)) (fun _ hk => trivial), by repeat (first | (with_reducible first | exact HB.out | apply below_alloc | apply pw_below_drewN | apply below_drew1 | refine below_set ?_ GE101.out | refine below_set ?_ GE106.out) | exact HB.out)⟩
        · rw [if_neg c25] at H
          exact absurd H (by simp)
 · replace c4 := Bool.eq_false_iff.mpr c4
   subst c4
   have H1 : (some (0, ([] : List Int), 0, 1)) = some (r1, r2, r3, r4) := by rw [if_neg (show ¬ (false = true) by decide)] at H; exact H
   clear H
   have H := H1
   clear H1
   simp only [Option.some.injEq, Prod.mk.injEq] at H
   obtain ⟨rfl, rfl, rfl, rfl⟩ := H
   go_enter Try.func36, Try.ntmps36
   go_wp2_with (first | ((with_reducible refine gate_dst (N := 4) rfl ?_); refine box_event ?hg (N := 4) ?hd (cs := #[.int .u64 0, .slice none 0 0, .int .u32 0]) (t := 26) ?hr ?_; (case hd => rfl); (case hg => rfl); (case hr => first | (go_simp; done) | (go_simp; rfl)); intro gb101 hg w35 hbox hb; have n0_ := Aside0.mk (below_step (by repeat (first | (with_reducible first | exact HB.out | apply below_alloc | apply pw_below_drewN | apply below_drew1) | exact HB.out)) hb); have n1_ := Aside0.mk (hbox); have n2_ := Aside0.mk ((by rw [hg]; exact (below_size (by repeat (first | (with_reducible first | exact HB.out | apply below_alloc | apply pw_below_drewN | apply below_drew1) | exact HB.out))) : w.heap.size ≤ gb101)); have n3_ := Aside0.mk ((by rw [hg]; exact (below_size (by repeat (first | (with_reducible first | exact HB.out | apply below_alloc | apply pw_below_drewN | apply below_drew1) | exact HB.out))) : w.heap.size ≤ gb101)); clear HB; have HB := n0_; have BK101 := n1_; have GW101 := n2_; have GE101 := n3_; clear n0_ n1_ n2_ n3_; clear hb hbox hg) | ((with_reducible refine gate_callee (f := 71) rfl ?_); refine goesL_ (some 12) rfl rfl Try.func71 (by kernel_rfl) rfl #[.slice A1 l1.length c1] rfl (by (try simp only [List.map_toArray, List.map_cons, List.map_nil]); first | done | rfl | (simp only [List.length_drop, List.length_take]; rfl)) ?_; (with_reducible refine (scullerref07_Right_c.calls _ _ l1 false _ ?side1 ?side2 A3.out).mono ?_); (case side1 => repeat (first | exact (Kd.C_below HR1.out HB.out) | (with_reducible refine Kd.C_alloc ?_ _) | (with_reducible refine Kd.C_drewN ?_ _) | (with_reducible refine Kd.C_drew ?_))); (case side2 => exact HC1.out); rintro e w36 ⟨rfl, hb⟩; refine ⟨_, rfl, ?_⟩; have n0_ := Aside0.mk (blk_below (g := gb101) (o := .cells #[.int .u64 0, .slice none 0 0, .int .u32 0] 26 (0, 0)) (by (with_reducible repeat (first | refine blk_drewN ?_ _ | refine blk_drew ?_ | refine blk_alloc ?_ _)); exact BK101.out) hb); have n1_ := Aside0.mk (below_step (by repeat (first | (with_reducible first | exact HB.out | apply below_alloc | apply pw_below_drewN | apply below_drew1 | refine below_set ?_ GE101.out) | exact HB.out)) hb); clear BK101; clear HB; have BK101 := n0_; have HB := n1_; clear n0_ n1_; (try clear hb); (try clear hb2); (try clear hk); (try clear hi); have hcz37_0 : w36.cell? ⟨gb101, 0, none⟩ = some (.int .u64 0) := (blk_cell BK101.out 0).trans rfl; have hcz37_1 : w36.cell? ⟨gb101, 1, none⟩ = some (.slice none 0 0) := (blk_cell BK101.out 1).trans rfl; have hcz37_2 : w36.cell? ⟨gb101, 2, none⟩ = some (.int .u32 0) := (blk_cell BK101.out 2).trans rfl; have hfz37_0 := blk_frozen BK101.out 0; have hfz37_1 := blk_frozen BK101.out 1; have hfz37_2 := blk_frozen BK101.out 2))
   refine bodyPost_ret (results_ct rfl _ _ gb101 26 #[.int .u64 0, .slice none 0 0, .int .u32 0] (0, 0) _ rfl (by (with_reducible repeat (first | refine blk_drewN ?_ _ | refine blk_drew ?_ | refine blk_alloc ?_ _)); refine blk_put (cs := #[.int .u64 0, .slice none 0 0, .int .u32 0]) ?_ 2 _ rfl; (with_reducible repeat (first | refine blk_drewN ?_ _ | refine blk_drew ?_ | refine blk_alloc ?_ _)); refine blk_put (cs := #[.int .u64 0, .slice none 0 0, .int .u32 0]) ?_ 1 _ rfl; (with_reducible repeat (first | refine blk_drewN ?_ _ | refine blk_drew ?_ | refine blk_alloc ?_ _)); refine blk_put (cs := #[.int .u64 0, .slice none 0 0, .int .u32 0]) ?_ 0 _ rfl; (with_reducible repeat (first | refine blk_drewN ?_ _ | refine blk_drew ?_ | refine blk_alloc ?_ _)); exact BK101.out) Try.underlying26 rfl (by kernel_rfl)) rfl ?_
   exact ⟨_, by first | rfl | (simp [errW_none, errW_some] <;> rfl) | (simp [*, errW_none, errW_some] <;> rfl), by first | exact Kd.R_nil _ _ _ _ _ | exact Kd.N_nil _ _ _ _ _ | exact Kd.V_nil _ _ _ _ _ | exact Kd.Q_nil _ _ _ _ _ | exact Kd.S_nil _ _ _ _ _, by repeat (first | (with_reducible first | exact HB.out | apply below_alloc | apply pw_below_drewN | apply below_drew1 | refine below_set ?_ GE101.out) | exact HB.out)⟩

end Go.Proofs.Ytbijnfhcbanhdaa.F
end

section
namespace Go.Proofs.Ytbijnfhcbanhdaa.F
open Go.RowKit Go.Proofs.YtbijnfhcbanhdaaW.PrintWords Go.Proofs.YtbijnfhcbanhdaaW.PrintLast Go.Proofs.YtbijnfhcbanhdaaW.PrintMore
attribute [local go_sem] max2_int min2_int max_two min_two max_three min_three max_four min_four   -- for this text's walks alone
set_option linter.unusedVariables false
set_option linter.unusedSimpArgs false

open Go.Proofs.Ytbijnfhcbanhdaa.H
def scullerref12_Of_c.f (a0 : Int) (l1 : List (List Int)) : Option (Int × List Int × Int × Int) := if u64B a0 = true ∧ okA l1 = true then some (ofL a0 l1) else none
theorem ofBytes_length (a0 : Int) (l1 : List (List Int)) : ∀ k, k ≤ l1.length → (ofBytes a0 l1 k).length = 8 + 2 * k
 | 0, _ => by simp [ofBytes, putL_length]
 | k + 1, h => by
   rw [ofBytes_succ a0 l1 k (by rw [sizesL_length]; omega), List.length_append, putL_length, ofBytes_length a0 l1 k (by omega)]; omega
theorem scullerref12_Of.l0_to (a0 : Int) (h0 : u64B a0 = true) (l1 : List (List Int)) (hok : okA l1 = true) (hf : rightB l1 = true) : ∀ (d i : Nat), l1.length - i = d → i ≤ l1.length →
 ∃ k, scullerref12_Of.l0 k l1 (ofBytes a0 l1 i) (i : Int) a0 (sizesL l1) 0 = some (ofL a0 l1)
 | 0, i, hd, hi => by
   have hfit := fitsB_at (l := sizesL l1) hf
   rw [sizesL_length] at hfit
   have hsum := sizesL_sum l1
   have hl := ofBytes_length a0 l1 i hi
   have hbl := bytesL_length l1
   have hb : bytesB (ofBytes a0 l1 i ++ bytesL l1) = true := by rw [bytesB_append, ofBytes_byte, bytesB_of (bytesL_byte l1)]; rfl
   obtain rfl : i = l1.length := by omega
   refine ⟨1, ?_⟩
   rw [scullerref12_Of.l0, sizesL_length, if_neg (by omega), scullerref07_Bytes_c.f, if_pos hok, Option.bind_some, if_pos (by omega), scullerref02_Sum.f, scullerref02_More_c.f, if_pos ⟨by omega, by omega, hb, by rw [List.length_append]; omega⟩, Option.bind_some, Option.bind_some, ofL, if_pos hf]
 | d + 1, i, hd, hi => by
   have hfit := fitsB_at (l := sizesL l1) hf
   rw [sizesL_length] at hfit
   obtain ⟨k, hk⟩ := scullerref12_Of.l0_to a0 h0 l1 hok hf d (i + 1) (by omega) (by omega)
   have hlt : i < (sizesL l1).length := by rw [sizesL_length]; omega
   have hx0 := hfit.2.2.2.1 _ (List.getElem_mem hlt)
   have hx1 := mem_le_sum hfit.2.2.2.1 i hlt
   have hr : rd (sizesL l1) (i : Int) = (sizesL l1)[i] := getD_toNat (sizesL l1) 0 i hlt
   have hl := ofBytes_length a0 l1 i (by omega)
   refine ⟨k + 1, ?_⟩
   rw [ofBytes_succ a0 l1 i hlt] at hk
   have hux : u64B (sizesL l1)[i] = true := by
    have e : u64B (sizesL l1)[i] = (decide (0 ≤ (sizesL l1)[i]) && decide ((sizesL l1)[i] < 18446744073709551616)) := rfl
    rw [e, decide_eq_true (by omega), decide_eq_true (by omega)]
    rfl
   have hw : IntKind.u64.wrap (sizesL l1)[i] = (sizesL l1)[i] := by simp only [IntKind.wrap, IntKind.signed, IntKind.bits]; simp; omega
   rw [scullerref12_Of.l0, sizesL_length, if_pos (by omega), if_pos (by omega), hr, hw, scullerref01_Put_c.f, if_pos hux, Option.bind_some, show putN 2 = 2 from rfl, if_pos (by rw [putL_length]; omega), show wrap64 ((i : Int) + 1) = ((i + 1 : Nat) : Int) from by unfold wrap64; omega]
   exact hk
theorem scullerref12_Of_c.to {a0 : Int} {l1 : List (List Int)} {r : Int × List Int × Int × Int} (h : scullerref12_Of_c.f a0 l1 = some r) : ∃ k, scullerref12_Of.f k a0 l1 = some r := by
 unfold scullerref12_Of_c.f at h
 split at h
 case isFalse => cases h
 case isTrue hb =>
 obtain rfl := Option.some.inj h
 have hlen : l1.length ≤ 1000000 := by
  have := hb.2
  simp only [okA, Bool.and_eq_true, decide_eq_true_eq] at this
  exact this.1.1
 by_cases hf : rightB l1 = true
 · obtain ⟨k, hk⟩ := scullerref12_Of.l0_to a0 hb.1 l1 hb.2 hf l1.length 0 (by omega) (by omega)
   refine ⟨k, ?_⟩
   rw [scullerref12_Of.f, scullerref07_Right_c.f, if_pos hlen, Option.bind_some, if_pos hf, scullerref07_Sizes_c.f, if_pos hlen, Option.bind_some, scullerref01_Put_c.f, if_pos hb.1, Option.bind_some, show putN 8 = 8 from rfl]
   rw [show ofBytes a0 l1 0 = putL a0 8 from by simp [ofBytes]] at hk
   exact hk
 · refine ⟨0, ?_⟩
   rw [scullerref12_Of.f, scullerref07_Right_c.f, if_pos hlen, Option.bind_some, if_neg hf, ofL, if_neg hf]

theorem scullerref12_Of_c.calls (a0 : Int) (A1 : Option Addr) (c1 : Nat) (l1 : List (List Int)) (r1 : Int) (r2 : List Int) (r3 : Int) (r4 : Int) (w : World) (hr1 : Kd.C (Kd.slice 22 (Kd.int .u64)) w A1 l1.length l1) (hc1 : l1.length ≤ c1) (h : scullerref12_Of_c.f a0 l1 = some (r1, r2, r3, r4)) :
 Calls Try.prog 36 #[.int .u64 a0, .slice A1 l1.length c1] w fun e w' => ∃ v1_ : Value, e = .returned (.tuple #[.agg #[.int .u64 r1, v1_, .int .u32 r3], .int .i64 r4]) ∧ Kd.R (Kd.int .i64) 3 w' w.heap.size (fun _ => True) v1_ r2 ∧ Below w.heap.size w w' := by
 obtain ⟨k_, hk_⟩ := scullerref12_Of_c.to h
 exact scullerref12_Of.calls k_ a0 A1 c1 l1 r1 r2 r3 r4 w hr1 hc1 hk_

end Go.Proofs.Ytbijnfhcbanhdaa.F
end
