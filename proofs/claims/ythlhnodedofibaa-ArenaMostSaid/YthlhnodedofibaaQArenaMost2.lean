/- Proved: at every input in bounds the statement ArenaMost of the arena layer answers yes, what fits an arena is taken and what does not fit is refused.
Text 2 of 3; functions told as plain ones, with the contracts of their calls. -/
import Derived.Test.YthlhnodedofibaaQArenaMost1
section
namespace Go.Proofs.Ythlhnodedofibaa.F
open Go.RowKit Go.Proofs.YthlhnodedofibaaW.PrintWords Go.Proofs.YthlhnodedofibaaW.PrintLast Go.Proofs.YthlhnodedofibaaW.PrintMore
attribute [local go_sem] max2_int min2_int max_two min_two max_three min_three max_four min_four   -- for this text's walks alone
set_option linter.unusedVariables false
set_option linter.unusedSimpArgs false

/-! ### scullerlaw07_ArenaMost: function 5 -/
mutual
def scullerlaw07_ArenaMost.j0 : Nat → Int → List Int → Option (Bool)
  | 0, _, _ => none
  | k + 1, x5, x6 => scullerlaw07_ArenaMost.l0 k x5 x6 0 0
def scullerlaw07_ArenaMost.l0 : Nat → Int → List Int → Int → Int → Option (Bool)
  | 0, _, _, _, _ => none
  | k + 1, x5, x6, x7, x8 => if x8 < x5 then (if 0 ≤ x8 then (if x8 < (x6.length : Int) then (scullerlaw07_ArenaMost.l0 k x5 x6 (wrap64 (x7 + (rd x6 x8))) (wrap64 (x8 + 1))) else (none)) else (none)) else (scullerlaw07_ArenaMost.l1 k x5 x6 x7 ([] : List (List Int)) 0)
def scullerlaw07_ArenaMost.l1 : Nat → Int → List Int → Int → List (List Int) → Int → Option (Bool)
  | 0, _, _, _, _, _ => none
  | k + 1, x5, x6, x7, x9, x10 => if x10 < x5 then (if 0 ≤ x10 then (if x10 < (x6.length : Int) then (if 0 ≤ (rd x6 x10) then (if (rd x6 x10 : Int).toNat ≤ 35184372088832 then (if x9.length < 5864062014805 then (scullerlaw07_ArenaMost.l1 k x5 x6 x7 (x9 ++ [(List.replicate (rd x6 x10 : Int).toNat 0)]) (wrap64 (x10 + 1))) else (none)) else (none)) else (none)) else (none)) else (none)) else (if x5 ≥ 1 then (if x5 ≤ 16 then (scullerlaw07_ArenaMost.j3 k x6 x7 x9 (decide (x7 ≤ 4096))) else (scullerlaw07_ArenaMost.j3 k x6 x7 x9 false)) else (scullerlaw07_ArenaMost.j3 k x6 x7 x9 false))
def scullerlaw07_ArenaMost.j3 : Nat → List Int → Int → List (List Int) → Bool → Option (Bool)
  | 0, _, _, _, _ => none
  | k + 1, x6, x7, x9, x11 => if 0 ≤ (wrap64 (8 * x7)) then (if (wrap64 (8 * x7) : Int).toNat ≤ 281474976710656 then ((arena_Cut.f x6 (List.replicate (wrap64 (8 * x7) : Int).toNat 0)).bind fun bt198 => ((scullerlaw07_known.f).bind fun t202 => (if t202 = true then ((arena_Fits_c.f x6).bind fun t203 => (if (t203 == x11) = true then ((arena_Right_c.f x9).bind fun t204 => (if (t204 == x11) = true then (if ((bt198.2 == 0) == x11) = true then ((arena_Sizes_c.f x9).bind fun t205 => ((scullerref07_SameInts_c.f t205 x6).bind fun t208 => (if t208 = true then ((arena_Fits_c.f (([0, 1] : List Int))).bind fun t212 => (some (!t212))) else (some false)))) else (some false)) else (some false))) else (some false))) else (some false)))) else (none)) else (none)
end
def scullerlaw07_ArenaMost.f (k : Nat) (a0 : Int) (a1 : Int) : Option (Bool) := if 0 ≤ (wrap64 (Int.tmod a0 20)) then (if (wrap64 (Int.tmod a0 20) : Int).toNat ≤ 35184372088832 then ((some (List.replicate (wrap64 (Int.tmod a0 20) : Int).toNat 0 : List Int)).bind fun y181 => (if (wrap64 (Int.tmod a0 20)) > 0 then (if 0 < (y181.length : Int) then ((some (y181.set (0 : Int).toNat 1 : List Int)).bind fun y184 => (if 0 ≤ (wrap64 ((wrap64 (Int.tmod a0 20)) - 1)) then (if (wrap64 ((wrap64 (Int.tmod a0 20)) - 1)) < (y181.length : Int) then (scullerlaw07_ArenaMost.j0 k (wrap64 (Int.tmod a0 20)) (y184.set ((wrap64 ((wrap64 (Int.tmod a0 20)) - 1)) : Int).toNat (wrap64 ((rd y184 (wrap64 ((wrap64 (Int.tmod a0 20)) - 1))) + (Int.tmod (wrap64 (a1)) 5000))))) else (none)) else (none))) else (none)) else (scullerlaw07_ArenaMost.j0 k (wrap64 (Int.tmod a0 20)) y181))) else (none)) else (none)
theorem scullerlaw07_ArenaMost.mono_l : ∀ k, (∀ y0 y1, LeO (scullerlaw07_ArenaMost.j0 k y0 y1) (scullerlaw07_ArenaMost.j0 (k + 1) y0 y1)) ∧ (∀ y0 y1 y2 y3, LeO (scullerlaw07_ArenaMost.l0 k y0 y1 y2 y3) (scullerlaw07_ArenaMost.l0 (k + 1) y0 y1 y2 y3)) ∧ (∀ y0 y1 y2 y3 y4, LeO (scullerlaw07_ArenaMost.l1 k y0 y1 y2 y3 y4) (scullerlaw07_ArenaMost.l1 (k + 1) y0 y1 y2 y3 y4)) ∧ (∀ y0 y1 y2 y3, LeO (scullerlaw07_ArenaMost.j3 k y0 y1 y2 y3) (scullerlaw07_ArenaMost.j3 (k + 1) y0 y1 y2 y3))
  | 0 => ⟨fun _ _ r h => by simp [scullerlaw07_ArenaMost.j0] at h, fun _ _ _ _ r h => by simp [scullerlaw07_ArenaMost.l0] at h, fun _ _ _ _ _ r h => by simp [scullerlaw07_ArenaMost.l1] at h, fun _ _ _ _ r h => by simp [scullerlaw07_ArenaMost.j3] at h⟩
  | k + 1 => by
    obtain ⟨ih0, ih1, ih2, ih3⟩ := scullerlaw07_ArenaMost.mono_l k
    refine ⟨?_, ?_, ?_, ?_⟩
    · intro y0 y1
      unfold scullerlaw07_ArenaMost.j0
      repeat' first
      | (with_reducible exact ih0 _ _)
      | (with_reducible exact ih1 _ _ _ _)
      | (with_reducible exact ih2 _ _ _ _ _)
      | (with_reducible exact ih3 _ _ _ _)
      | (with_reducible exact LeO.refl _)
      | (with_reducible exact LeO.none _)
      | (with_reducible refine LeO.ite ?_ ?_)
      | (with_reducible refine LeO.bind ?_ (fun _ => ?_))
      | exact ih0 _ _
      | exact ih1 _ _ _ _
      | exact ih2 _ _ _ _ _
      | exact ih3 _ _ _ _
      | exact LeO.none _
      | refine LeO.ite ?_ ?_
      | refine LeO.bind ?_ (fun _ => ?_)
    · intro y0 y1 y2 y3
      unfold scullerlaw07_ArenaMost.l0
      repeat' first
      | (with_reducible exact ih0 _ _)
      | (with_reducible exact ih1 _ _ _ _)
      | (with_reducible exact ih2 _ _ _ _ _)
      | (with_reducible exact ih3 _ _ _ _)
      | (with_reducible exact LeO.refl _)
      | (with_reducible exact LeO.none _)
      | (with_reducible refine LeO.ite ?_ ?_)
      | (with_reducible refine LeO.bind ?_ (fun _ => ?_))
      | exact ih0 _ _
      | exact ih1 _ _ _ _
      | exact ih2 _ _ _ _ _
      | exact ih3 _ _ _ _
      | exact LeO.none _
      | refine LeO.ite ?_ ?_
      | refine LeO.bind ?_ (fun _ => ?_)
    · intro y0 y1 y2 y3 y4
      unfold scullerlaw07_ArenaMost.l1
      repeat' first
      | (with_reducible exact ih0 _ _)
      | (with_reducible exact ih1 _ _ _ _)
      | (with_reducible exact ih2 _ _ _ _ _)
      | (with_reducible exact ih3 _ _ _ _)
      | (with_reducible exact LeO.refl _)
      | (with_reducible exact LeO.none _)
      | (with_reducible refine LeO.ite ?_ ?_)
      | (with_reducible refine LeO.bind ?_ (fun _ => ?_))
      | exact ih0 _ _
      | exact ih1 _ _ _ _
      | exact ih2 _ _ _ _ _
      | exact ih3 _ _ _ _
      | exact LeO.none _
      | refine LeO.ite ?_ ?_
      | refine LeO.bind ?_ (fun _ => ?_)
    · intro y0 y1 y2 y3
      unfold scullerlaw07_ArenaMost.j3
      repeat' first
      | (with_reducible exact ih0 _ _)
      | (with_reducible exact ih1 _ _ _ _)
      | (with_reducible exact ih2 _ _ _ _ _)
      | (with_reducible exact ih3 _ _ _ _)
      | (with_reducible exact LeO.refl _)
      | (with_reducible exact LeO.none _)
      | (with_reducible refine LeO.ite ?_ ?_)
      | (with_reducible refine LeO.bind ?_ (fun _ => ?_))
      | exact ih0 _ _
      | exact ih1 _ _ _ _
      | exact ih2 _ _ _ _ _
      | exact ih3 _ _ _ _
      | exact LeO.none _
      | refine LeO.ite ?_ ?_
      | refine LeO.bind ?_ (fun _ => ?_)
theorem scullerlaw07_ArenaMost.mono : ∀ a0 a1 k, LeO (scullerlaw07_ArenaMost.f k a0 a1) (scullerlaw07_ArenaMost.f (k + 1) a0 a1) := by
  intro a0 a1 k
  obtain ⟨ih0, ih1, ih2, ih3⟩ := scullerlaw07_ArenaMost.mono_l k
  unfold scullerlaw07_ArenaMost.f
  repeat' first
      | (with_reducible exact ih0 _ _)
      | (with_reducible exact ih1 _ _ _ _)
      | (with_reducible exact ih2 _ _ _ _ _)
      | (with_reducible exact ih3 _ _ _ _)
      | (with_reducible exact LeO.refl _)
      | (with_reducible exact LeO.none _)
      | (with_reducible refine LeO.ite ?_ ?_)
      | (with_reducible refine LeO.bind ?_ (fun _ => ?_))
      | exact ih0 _ _
      | exact ih1 _ _ _ _
      | exact ih2 _ _ _ _ _
      | exact ih3 _ _ _ _
      | exact LeO.none _
      | refine LeO.ite ?_ ?_
      | refine LeO.bind ?_ (fun _ => ?_)
set_option maxHeartbeats 8000000 in
set_option maxRecDepth 100000 in
theorem scullerlaw07_ArenaMost.calls (k : Nat) (a0 : Int) (a1 : Int) (r : Bool) (w : World) (h : scullerlaw07_ArenaMost.f k a0 a1 = some r) :
    Calls Try.prog 5 #[.int .u8 a0, .int .u16 a1] w fun e w' => e = .returned (.bool r) ∧ Below w.heap.size w w' := by
  have HB := Aside0.mk (Below.refl w.heap.size w)
  have H : (if 0 ≤ (wrap64 (Int.tmod a0 20)) then (if (wrap64 (Int.tmod a0 20) : Int).toNat ≤ 35184372088832 then ((some (List.replicate (wrap64 (Int.tmod a0 20) : Int).toNat 0 : List Int)).bind fun y181 => (if (wrap64 (Int.tmod a0 20)) > 0 then (if 0 < (y181.length : Int) then ((some (y181.set (0 : Int).toNat 1 : List Int)).bind fun y184 => (if 0 ≤ (wrap64 ((wrap64 (Int.tmod a0 20)) - 1)) then (if (wrap64 ((wrap64 (Int.tmod a0 20)) - 1)) < (y181.length : Int) then (scullerlaw07_ArenaMost.j0 k (wrap64 (Int.tmod a0 20)) (y184.set ((wrap64 ((wrap64 (Int.tmod a0 20)) - 1)) : Int).toNat (wrap64 ((rd y184 (wrap64 ((wrap64 (Int.tmod a0 20)) - 1))) + (Int.tmod (wrap64 (a1)) 5000))))) else (none)) else (none))) else (none)) else (scullerlaw07_ArenaMost.j0 k (wrap64 (Int.tmod a0 20)) y181))) else (none)) else (none)) = some r := h
  clear h
  obtain ⟨ji3, hji3⟩ : ∃ j_ : Int, (wrap64 (Int.tmod a0 20)) = j_ := ⟨_, rfl⟩
  replace H : (if 0 ≤ (ji3) then (if (ji3 : Int).toNat ≤ 35184372088832 then ((some (List.replicate (ji3 : Int).toNat 0 : List Int)).bind fun y181 => (if (ji3) > 0 then (if 0 < (y181.length : Int) then ((some (y181.set (0 : Int).toNat 1 : List Int)).bind fun y184 => (if 0 ≤ (wrap64 ((ji3) - 1)) then (if (wrap64 ((ji3) - 1)) < (y181.length : Int) then (scullerlaw07_ArenaMost.j0 k ji3 (y184.set ((wrap64 ((ji3) - 1)) : Int).toNat (wrap64 ((rd y184 (wrap64 ((ji3) - 1))) + (Int.tmod (wrap64 (a1)) 5000))))) else (none)) else (none))) else (none)) else (scullerlaw07_ArenaMost.j0 k ji3 y181))) else (none)) else (none)) = some r := by first | (rw [hji3] at H; exact H) | (simp only [hji3] at H ⊢; exact H)
  have hji3w : (IntKind.i64.wrap (Int.tmod a0 20)) = ji3 := (i64_w _).trans hji3
  by_cases c4 : 0 ≤ (ji3)
  · rw [if_pos c4] at H
    have c4b0 := eq_true c4
    have c4b1 : decide (0 ≤ (ji3)) = true := decide_eq_true c4
    clear c4
    by_cases c5 : (ji3 : Int).toNat ≤ 35184372088832
    · rw [if_pos c5] at H
      have c5b0 := eq_true c5
      have c5b1 : decide ((ji3 : Int).toNat ≤ 35184372088832) = true := decide_eq_true c5
      clear c5
      obtain ⟨y181, hy181⟩ : ∃ y_ : List Int, y_ = (List.replicate (ji3 : Int).toNat 0) := ⟨_, rfl⟩
      replace H : (if (ji3) > 0 then (if 0 < (y181.length : Int) then ((some (y181.set (0 : Int).toNat 1 : List Int)).bind fun y184 => (if 0 ≤ (wrap64 ((ji3) - 1)) then (if (wrap64 ((ji3) - 1)) < (y181.length : Int) then (scullerlaw07_ArenaMost.j0 k ji3 (y184.set ((wrap64 ((ji3) - 1)) : Int).toNat (wrap64 ((rd y184 (wrap64 ((ji3) - 1))) + (Int.tmod (wrap64 (a1)) 5000))))) else (none)) else (none))) else (none)) else (scullerlaw07_ArenaMost.j0 k ji3 y181)) = some r := by first | (rw [hy181]; with_reducible exact H) | (have H2_ := (Option.bind_some _ _).symm.trans H; rw [hy181]; with_reducible exact H2_) | (have H2_ := (Option.bind_some _ _).symm.trans H; with_reducible exact H2_) | with_reducible exact H | (rw [hy181]; exact H) | exact H
      have Ny181 := Aside0.mk hy181
      clear hy181
      have HC6 := Aside0.mk H
      clear H
      go_enter Try.func5, Try.ntmps5
      go_upto_if 20 with (first | ((with_reducible refine gate_dst (N := 18) rfl ?_); (try (refine gate_guard (by rfl) ?_; dsimp only)); refine Kd.R_make (Kd.int .i64) _ 3 rfl (N := 18) rfl 22 _ _ rfl ji3 rfl rfl Try.underlying22 (.int .i64 0) 8 info3 rfl (by decide) (by omega) 0 (ok := fun _ => True) (okp := fun _ => True) rfl (fun _ hk => hk) trivial (of_decide_eq_true (by first | (with_reducible assumption) | assumption)) (Nat.le_trans (Nat.mul_le_mul_right _ (of_decide_eq_true (by first | (with_reducible assumption) | assumption) : ji3.toNat ≤ 35184372088832)) (by omega)) (Below.refl _ _) (Nat.le_refl _) ?_; intro v182 w7 ho8 hb hg_ hnew_; clear hg_ hnew_; (first | rw [← Ny181.out] at ho8 | (simp only [Int.reduceToNat] at ho8; rw [← Ny181.out] at ho8)); have n0_ := Aside0.mk (Kd.R_lower ho8 (below_size (by repeat (first | (with_reducible first | exact HB.out | apply below_alloc | apply pw_below_drewN | apply below_drew1) | exact HB.out)))); have n1_ := Aside0.mk (below_step (by repeat (first | (with_reducible first | exact HB.out | apply below_alloc | apply pw_below_drewN | apply below_drew1) | exact HB.out)) hb); clear HB; have HO183 := n0_; have HB := n1_; clear n0_ n1_; clear hb ho8))
      (try simp only [Act.put, List.setIfInBounds_toArray, List.set_cons_zero, List.set_cons_succ])
      go_cut [] (fun wc => ∃ (kq : Nat) (x6_5 : List Int), Aside0 (scullerlaw07_ArenaMost.j0 kq ji3 x6_5 = some r) ∧ Aside0 (kq ≤ k) ∧ Aside0 (Kd.R (Kd.int .i64) 3 wc w.heap.size (fun _ => True) v182 x6_5) ∧ Aside0 (Below w.heap.size w wc))
      case first =>
        have H := HC6.out
        clear HC6
        by_cases c9 : (ji3) > 0
        · rw [if_pos c9] at H
          have c9b0 : decide (0 < (ji3)) = true := decide_eq_true c9
          clear c9
          (first | rw [c9b0] | (simp only [i64_w, i32_w]; rw [c9b0]) | skip)
          by_cases c10 : 0 < (y181.length : Int)
          · rw [if_pos c10] at H
            have c10b0 : decide (0 < (y181.length : Int)) = true := decide_eq_true c10
            have c10b1 : decide (0 < y181.length) = true := decide_eq_true (by omega)
            clear c10
            obtain ⟨y184, hy184⟩ : ∃ y_ : List Int, y_ = (y181.set (0 : Int).toNat 1) := ⟨_, rfl⟩
            replace H : (if 0 ≤ (wrap64 ((ji3) - 1)) then (if (wrap64 ((ji3) - 1)) < (y181.length : Int) then (scullerlaw07_ArenaMost.j0 k ji3 (y184.set ((wrap64 ((ji3) - 1)) : Int).toNat (wrap64 ((rd y184 (wrap64 ((ji3) - 1))) + (Int.tmod (wrap64 (a1)) 5000))))) else (none)) else (none)) = some r := by first | (rw [hy184]; with_reducible exact H) | (have H2_ := (Option.bind_some _ _).symm.trans H; rw [hy184]; with_reducible exact H2_) | (have H2_ := (Option.bind_some _ _).symm.trans H; with_reducible exact H2_) | with_reducible exact H | (rw [hy184]; exact H) | exact H
            have Ny184 := Aside0.mk hy184
            clear hy184
            obtain ⟨ji12, hji12⟩ : ∃ j_ : Int, (wrap64 ((ji3) - 1)) = j_ := ⟨_, rfl⟩
            replace H : (if 0 ≤ (ji12) then (if (ji12) < (y181.length : Int) then (scullerlaw07_ArenaMost.j0 k ji3 (y184.set ((ji12) : Int).toNat (wrap64 ((rd y184 (ji12)) + (Int.tmod (wrap64 (a1)) 5000))))) else (none)) else (none)) = some r := by first | (rw [hji12] at H; exact H) | (simp only [hji12] at H ⊢; exact H)
            have hji12w : (IntKind.i64.wrap ((ji3) - 1)) = ji12 := (i64_w _).trans hji12
            by_cases c13 : 0 ≤ (ji12)
            · rw [if_pos c13] at H
              have c13b0 : decide (0 ≤ (ji12)) = true := decide_eq_true c13
              clear c13
              by_cases c14 : (ji12) < (y181.length : Int)
              · rw [if_pos c14] at H
                have c14b0 : decide ((ji12) < (y181.length : Int)) = true := decide_eq_true c14
                clear c14
                obtain ⟨y186, hy186⟩ : ∃ y_ : List Int, y_ = (y184.set ((ji12) : Int).toNat (wrap64 ((rd y184 (ji12)) + (Int.tmod (wrap64 (a1)) 5000)))) := ⟨_, rfl⟩
                replace H : (scullerlaw07_ArenaMost.j0 k ji3 y186) = some r := by first | (rw [hy186]; with_reducible exact H) | (have H2_ := (Option.bind_some _ _).symm.trans H; rw [hy186]; with_reducible exact H2_) | (have H2_ := (Option.bind_some _ _).symm.trans H; with_reducible exact H2_) | with_reducible exact H | (rw [hy186]; exact H) | exact H
                have Ny186 := Aside0.mk hy186
                clear hy186
                have H' := Aside0.mk H
                clear H
                have p11 : 0 ≤ (0 : Int) := (by omega)
                have q11 : (0 : Int) < ((y181.length : Int) : Int) := of_decide_eq_true (by first | (with_reducible assumption) | assumption)
                have qi11 : (0 < y181.length) = True := eq_true (by omega)
                obtain ⟨go11, co11, eo11, gb11, gl11, cl11, HG11⟩ := Kd.R_form HO183.out (by omega)
                (first | cases eo11 | (injection eo11 with ea_ en_ ec_; (first | subst ea_ | (injection ea_ with ea_; subst ea_)); subst ec_; clear en_))
                have GB11 := Aside0.mk gb11
                have GG11 := Aside0.mk HG11
                clear gb11 gl11 HG11
                obtain ⟨hx11_0, hf11_0⟩ := Kd.R_celln 0 HO183.out (0 : Int) p11 q11
                (try rw [show ((0 : Int)).toNat = 0 from rfl] at hx11_0)
                (try simp only [Nat.reduceMul, Nat.zero_mul, Nat.zero_add, Nat.reduceAdd] at hx11_0)
                (try rw [show ((0 : Int)).toNat = 0 from rfl] at hf11_0)
                (try simp only [Nat.reduceMul, Nat.zero_mul, Nat.zero_add, Nat.reduceAdd] at hf11_0)
                replace p11 := eq_true p11
                replace q11 := eq_true q11
                have HP16 := Kd.R_putg HO183.out (0 : Int) 1
                go_wp2_with (first | ((with_reducible refine gate_store (t := 3) (p := 22) rfl ?_); refine store_event (t := 3) (p := 22) (v := ?vo_w17) (w1 := (w7.setCell ⟨go11, (0 : Int).toNat, none⟩ (.int .i64 1))) ?hg ?ho ?hn ?hr ?_; (case ho => rfl); (case hg => rfl); (case hn => rfl); (case hr => first | (go_simp; done) | (go_simp; rfl)); intro w17 hw; have hg : w7.grownBy w17 (some go11) := (by rw [hw]; exact HP16.2); have hp_ : Kd.R (Kd.int .i64) 3 w17 w.heap.size (fun _ => True) (.slice (some ⟨go11, 0, none⟩) y181.length co11) y184 := (by rw [hw, Ny184.out]; exact HP16.1); clear HP16; have n0_ := Aside0.mk (hp_); have n1_ := Aside0.mk ((by rw [hw]; exact below_set (HB.out) GB11.out : Below w.heap.size w w17)); clear HO183; clear HB; have HO183 := n0_; have HB := n1_; clear n0_ n1_; clear hg hw hp_; have p185 : 0 ≤ ((ji12) : Int) := of_decide_eq_true (by first | (with_reducible assumption) | assumption); have q185 : (ji12) < (y184.length : Int) := (by have h_ : ((ji12) : Int) < ((y181.length : Int) : Int) := of_decide_eq_true (by first | (with_reducible assumption) | assumption); first | (have e_ := (Kd.R_reads' HO183.out).1; omega) | simpa only [Ny184.out, List.length_set] using h_); have ql185 : (((ji12) : Int) < ((y181.length : Int) : Int)) = True := eq_true (of_decide_eq_true (by first | (with_reducible assumption) | assumption)); obtain ⟨ad185, e185, hx185_0⟩ := Kd.at_int (Kd.R_reads' HO183.out).2.2 (ji12) p185 q185; obtain rfl : (⟨go11, 0, none⟩ : Addr) = ad185 := (by injection e185); (first | simp only [add_plain] at hx185_0 | simp only [add_at] at hx185_0 | simp only [Addr.add, Nat.zero_add] at hx185_0 | skip); replace p185 := eq_true p185; replace q185 := eq_true q185; have p15 : 0 ≤ ((ji12) : Int) := of_decide_eq_true (by first | (with_reducible assumption) | assumption); have q15 : ((ji12) : Int) < ((y181.length : Int) : Int) := of_decide_eq_true (by first | (with_reducible assumption) | assumption); obtain ⟨hx15_0, hf15_0⟩ := Kd.R_celln 0 HO183.out ((ji12) : Int) p15 q15; replace p15 := eq_true p15; replace q15 := eq_true q15; obtain ⟨hy18_, hz18_⟩ := Kd.R_celln 0 HO183.out ((ji12) : Int) (of_decide_eq_true (by first | (with_reducible assumption) | assumption)) (of_decide_eq_true (by first | (with_reducible assumption) | assumption)); have HP18 := Kd.R_putg HO183.out ((ji12) : Int) (wrap64 ((rd y184 (ji12)) + (Int.tmod (wrap64 (a1)) 5000)))) | ((with_reducible refine gate_store (t := 3) (p := 32) rfl ?_); refine store_event (t := 3) (p := 32) (v := ?vo_w19) (w1 := (w17.setCell ⟨go11, ((ji12) : Int).toNat, none⟩ (.int .i64 (wrap64 ((rd y184 (ji12)) + (Int.tmod (wrap64 (a1)) 5000)))))) ?hg ?ho ?hn ?hr ?_; (case ho => rfl); (case hg => rfl); (case hn => rfl); (case hr => first | (go_simp; done) | (go_simp; rfl)); intro w19 hw; have hg : w17.grownBy w19 (some go11) := (by rw [hw]; exact HP18.2); have hp_ : Kd.R (Kd.int .i64) 3 w19 w.heap.size (fun _ => True) (.slice (some ⟨go11, 0, none⟩) y181.length co11) y186 := (by rw [hw, Ny186.out]; exact HP18.1); clear HP18; have n0_ := Aside0.mk (hp_); have n1_ := Aside0.mk ((by rw [hw]; exact below_set (HB.out) GB11.out : Below w.heap.size w w19)); clear HO183; clear HB; have HO183 := n0_; have HB := n1_; clear n0_ n1_; clear hg hw hp_))
                go_meet
                case rel => exact ⟨_, (y186), H', ⟨by first | omega | exact Nat.le_refl _⟩, ⟨by (with_reducible repeat (first | apply Kd.R_alloc | apply Kd.R_drewN | apply Kd.R_drew)); exact HO183.out⟩, ⟨by repeat (first | (with_reducible first | exact HB.out | apply below_alloc | apply pw_below_drewN | apply below_drew1) | exact HB.out)⟩⟩
              · rw [if_neg c14] at H
                exact absurd H (by simp)
            · rw [if_neg c13] at H
              exact absurd H (by simp)
          · rw [if_neg c10] at H
            exact absurd H (by simp)
        · rw [if_neg c9] at H
          have c9b0 : decide (0 < (ji3)) = false := decide_eq_false c9
          clear c9
          (first | rw [c9b0] | (simp only [i64_w, i32_w]; rw [c9b0]) | skip)
          have H' := Aside0.mk H
          clear H
          go_wp2
          go_meet
          case rel => exact ⟨_, (y181), H', ⟨by first | omega | exact Nat.le_refl _⟩, ⟨by (with_reducible repeat (first | apply Kd.R_alloc | apply Kd.R_drewN | apply Kd.R_drew)); exact HO183.out⟩, ⟨by repeat (first | (with_reducible first | exact HB.out | apply below_alloc | apply pw_below_drewN | apply below_drew1) | exact HB.out)⟩⟩
      case rest =>
        clear HC6
        try clear c1
        try clear p1
        try clear q1
        try clear hx1
        try clear qi1
        try clear p2
        try clear c4
        try clear c4b0
        try clear c4b1
        try clear c5
        try clear c5b0
        try clear c5b1
        try clear p6
        try clear c9
        try clear c9b0
        try clear c10
        try clear c10b0
        try clear c10b1
        try clear p11
        try clear q11
        try clear hx11
        try clear qi11
        try clear hf11
        try clear c13
        try clear c13b0
        try clear c14
        try clear c14b0
        try clear p15
        try clear q15
        try clear hx15
        try clear hf15
        try clear p18
        try clear q18
        try clear hx18
        try clear hx11_0
        try clear hx15_0
        try clear hx185_0
        try clear p11
        try clear p15
        try clear p185
        try clear q11
        try clear q15
        try clear q185
        obtain ⟨kq, x6_5, HA, HJ5, HO_6, HB⟩ := hcut
        cases kq with
        | zero => exact absurd HA.out (by simp [scullerlaw07_ArenaMost.j0])
        | succ kj5 =>
          have H := HA.out
          clear HA
          simp only [scullerlaw07_ArenaMost.j0] at H
          have H' := Aside0.mk H
          clear H
          go_wp2
          go_loopg [7, 8] kj5 (fun kq v7 v8 w' => ∃ (x7_2 : Int) (x8_2 : Int), v7 = .int .i64 x7_2 ∧ v8 = .int .i64 x8_2 ∧ Aside0 (scullerlaw07_ArenaMost.l0 kq ji3 x6_5 x7_2 x8_2 = some r) ∧ Aside0 (kq ≤ kj5) ∧ Aside0 (Kd.R (Kd.int .i64) 3 w' w.heap.size (fun _ => True) v182 x6_5) ∧ Aside0 (Below w.heap.size w w'))
          case atStart => exact ⟨(0), (0), (by first | rfl | (simp; done) | (simp [*]; done)), (by first | rfl | (simp; done) | (simp [*]; done)), H', ⟨Nat.le_refl _⟩, ⟨by (with_reducible repeat (first | apply Kd.R_alloc | apply Kd.R_drewN | apply Kd.R_drew)); exact HO_6.out⟩, ⟨by repeat (first | (with_reducible first | exact HB.out | apply below_alloc | apply pw_below_drewN | apply below_drew1) | exact HB.out)⟩⟩
          case round =>
            clear H'
            try clear c1
            try clear p1
            try clear q1
            try clear hx1
            try clear qi1
            try clear p2
            try clear c4
            try clear c4b0
            try clear c4b1
            try clear c5
            try clear c5b0
            try clear c5b1
            try clear p6
            try clear c9
            try clear c9b0
            try clear c10
            try clear c10b0
            try clear c10b1
            try clear p11
            try clear q11
            try clear hx11
            try clear qi11
            try clear hf11
            try clear c13
            try clear c13b0
            try clear c14
            try clear c14b0
            try clear p15
            try clear q15
            try clear hx15
            try clear hf15
            try clear p18
            try clear q18
            try clear hx18
            try clear hx11_0
            try clear hx15_0
            try clear hx185_0
            try clear p1
            try clear p11
            try clear p15
            try clear p18
            try clear p185
            try clear p2
            try clear p6
            try clear q1
            try clear q11
            try clear q15
            try clear q18
            try clear q185
            obtain ⟨x7_2, x8_2, rfl, rfl, HA, HK2, HO_6, HB⟩ := hrel
            cases gk with
            | zero => exact absurd HA.out (by simp [scullerlaw07_ArenaMost.l0])
            | succ k2 =>
              have H := HA.out
              clear HA
              simp only [scullerlaw07_ArenaMost.l0] at H
              by_cases c20 : x8_2 < ji3
              · rw [if_pos c20] at H
                have c20b0 : decide (x8_2 < ji3) = true := decide_eq_true c20
                clear c20
                by_cases c21 : 0 ≤ x8_2
                · rw [if_pos c21] at H
                  have c21b0 : decide (0 ≤ x8_2) = true := decide_eq_true c21
                  clear c21
                  by_cases c22 : x8_2 < (x6_5.length : Int)
                  · rw [if_pos c22] at H
                    have c22b0 : decide (x8_2 < (x6_5.length : Int)) = true := decide_eq_true c22
                    clear c22
                    have H' := Aside0.mk H
                    clear H
                    obtain ⟨Ao23, co23, eo23⟩ := Kd.R_slice HO_6.out
                    subst eo23
                    have p187 : 0 ≤ (x8_2 : Int) := of_decide_eq_true (by first | (with_reducible assumption) | assumption)
                    have q187 : x8_2 < (x6_5.length : Int) := of_decide_eq_true (by first | (with_reducible assumption) | assumption)
                    obtain ⟨ad187, e187, hx187_0⟩ := Kd.at_int (Kd.R_reads' HO_6.out).2.2 x8_2 p187 q187
                    cases e187
                    replace p187 := eq_true p187
                    replace q187 := eq_true q187
                    go_wp2
                    go_roundg k2
                    case measure => have := HJ5.out; have := HK2.out; omega
                    case rel => exact ⟨(wrap64 (x7_2 + (rd x6_5 x8_2))), (wrap64 (x8_2 + 1)), (by first | rfl | (simp; done) | (simp [*]; done)), (by first | rfl | (simp; done) | (simp [*]; done)), H', ⟨by have := HJ5.out; have := HK2.out; omega⟩, ⟨by (with_reducible repeat (first | apply Kd.R_alloc | apply Kd.R_drewN | apply Kd.R_drew)); exact HO_6.out⟩, ⟨by repeat (first | (with_reducible first | exact HB.out | apply below_alloc | apply pw_below_drewN | apply below_drew1) | exact HB.out)⟩⟩
                  · rw [if_neg c22] at H
                    exact absurd H (by simp)
                · rw [if_neg c21] at H
                  exact absurd H (by simp)
              · rw [if_neg c20] at H
                have c20b0 : decide (x8_2 < ji3) = false := decide_eq_false c20
                clear c20
                have H' := Aside0.mk H
                clear H
                go_wp2
                go_loopg [9, 10] k2 (fun kq v9 v10 w' => ∃ (x9_3 : List (List Int)) (x10_3 : Int), v10 = .int .i64 x10_3 ∧ Aside0 (scullerlaw07_ArenaMost.l1 kq ji3 x6_5 x7_2 x9_3 x10_3 = some r) ∧ Aside0 (kq ≤ k2) ∧ Aside0 (Kd.R (Kd.int .i64) 3 w' w.heap.size (fun _ => True) v182 x6_5) ∧ Aside0 (Kd.S (Kd.slice 42 (Kd.int .u64)) 37 w' w.heap.size (fun _ => True) v9 x9_3) ∧ Aside0 (Below w.heap.size w w'))
                case atStart => exact ⟨(([] : List (List Int))), (0), (by first | rfl | (simp; done) | (simp [*]; done)), H', ⟨Nat.le_refl _⟩, ⟨by (with_reducible repeat (first | apply Kd.R_alloc | apply Kd.R_drewN | apply Kd.R_drew)); exact HO_6.out⟩, ⟨by first | exact Kd.S_nil _ _ _ _ _ | exact Kd.N_nil _ _ _ _ _ | exact Kd.V_nil _ _ _ _ _ | exact Kd.Q_nil _ _ _ _ _ | exact Kd.R_nil _ _ _ _ _⟩, ⟨by repeat (first | (with_reducible first | exact HB.out | apply below_alloc | apply pw_below_drewN | apply below_drew1) | exact HB.out)⟩⟩
                case round =>
                  clear H'
                  try clear c1
                  try clear p1
                  try clear q1
                  try clear hx1
                  try clear qi1
                  try clear c2
                  try clear p2
                  try clear c4
                  try clear c4b0
                  try clear c4b1
                  try clear c5
                  try clear c5b0
                  try clear c5b1
                  try clear p6
                  try clear c9
                  try clear c9b0
                  try clear c10
                  try clear c10b0
                  try clear c10b1
                  try clear p11
                  try clear q11
                  try clear hx11
                  try clear qi11
                  try clear hf11
                  try clear c13
                  try clear c13b0
                  try clear c14
                  try clear c14b0
                  try clear p15
                  try clear q15
                  try clear hx15
                  try clear hf15
                  try clear p18
                  try clear q18
                  try clear hx18
                  try clear c20
                  try clear c20b0
                  try clear c21
                  try clear c21b0
                  try clear c22
                  try clear c22b0
                  try clear hx11_0
                  try clear hx15_0
                  try clear hx185_0
                  try clear hx187_0
                  try clear p1
                  try clear p11
                  try clear p15
                  try clear p18
                  try clear p185
                  try clear p187
                  try clear p2
                  try clear p6
                  try clear q1
                  try clear q11
                  try clear q15
                  try clear q18
                  try clear q185
                  try clear q187
                  obtain ⟨x9_3, x10_3, rfl, HA, HK3, HO_6, HO_9, HB⟩ := hrel
                  cases gk with
                  | zero => exact absurd HA.out (by simp [scullerlaw07_ArenaMost.l1])
                  | succ k3 =>
                    have H := HA.out
                    clear HA
                    simp only [scullerlaw07_ArenaMost.l1] at H
                    by_cases c24 : x10_3 < ji3
                    · rw [if_pos c24] at H
                      have c24b0 : decide (x10_3 < ji3) = true := decide_eq_true c24
                      clear c24
                      by_cases c25 : 0 ≤ x10_3
                      · rw [if_pos c25] at H
                        have c25b0 : decide (0 ≤ x10_3) = true := decide_eq_true c25
                        clear c25
                        by_cases c26 : x10_3 < (x6_5.length : Int)
                        · rw [if_pos c26] at H
                          have c26b0 : decide (x10_3 < (x6_5.length : Int)) = true := decide_eq_true c26
                          clear c26
                          by_cases c27 : 0 ≤ (rd x6_5 x10_3)
                          · rw [if_pos c27] at H
                            have c27b0 := eq_true c27
                            have c27b1 : decide (0 ≤ (rd x6_5 x10_3)) = true := decide_eq_true c27
                            clear c27
                            by_cases c28 : (rd x6_5 x10_3 : Int).toNat ≤ 35184372088832
                            · rw [if_pos c28] at H
                              have c28b0 := eq_true c28
                              have c28b1 : decide ((rd x6_5 x10_3 : Int).toNat ≤ 35184372088832) = true := decide_eq_true c28
                              clear c28
                              obtain ⟨y189, hy189⟩ : ∃ y_ : List Int, y_ = (List.replicate (rd x6_5 x10_3 : Int).toNat 0) := ⟨_, rfl⟩
                              replace H : (if x9_3.length < 5864062014805 then (scullerlaw07_ArenaMost.l1 k3 ji3 x6_5 x7_2 (x9_3 ++ [y189]) (wrap64 (x10_3 + 1))) else (none)) = some r := by first | (rw [hy189]; with_reducible exact H) | (have H2_ := (Option.bind_some _ _).symm.trans H; rw [hy189]; with_reducible exact H2_) | (have H2_ := (Option.bind_some _ _).symm.trans H; with_reducible exact H2_) | with_reducible exact H | (rw [hy189]; exact H) | exact H
                              have Ny189 := Aside0.mk hy189
                              clear hy189
                              by_cases c29 : x9_3.length < 5864062014805
                              · rw [if_pos c29] at H
                                have LMc29 := Aside0.mk c29
                                clear c29
                                obtain ⟨y192, hy192⟩ : ∃ y_ : List (List Int), y_ = (x9_3 ++ [y189]) := ⟨_, rfl⟩
                                replace H : (scullerlaw07_ArenaMost.l1 k3 ji3 x6_5 x7_2 y192 (wrap64 (x10_3 + 1))) = some r := by first | (rw [hy192]; with_reducible exact H) | (have H2_ := (Option.bind_some _ _).symm.trans H; rw [hy192]; with_reducible exact H2_) | (have H2_ := (Option.bind_some _ _).symm.trans H; with_reducible exact H2_) | with_reducible exact H | (rw [hy192]; exact H) | exact H
                                have Ny192 := Aside0.mk hy192
                                clear hy192
                                have H' := Aside0.mk H
                                clear H
                                obtain ⟨Ao30, co30, eo30⟩ := Kd.R_slice HO_6.out
                                subst eo30
                                have p188 : 0 ≤ (x10_3 : Int) := of_decide_eq_true (by first | (with_reducible assumption) | assumption)
                                have q188 : x10_3 < (x6_5.length : Int) := of_decide_eq_true (by first | (with_reducible assumption) | assumption)
                                obtain ⟨ad188, e188, hx188_0⟩ := Kd.at_int (Kd.R_reads' HO_6.out).2.2 x10_3 p188 q188
                                cases e188
                                replace p188 := eq_true p188
                                replace q188 := eq_true q188
                                go_wp2_with (first | ((with_reducible refine gate_dst (N := 54) rfl ?_); (try (refine gate_guard (by rfl) ?_; dsimp only)); refine Kd.R_make (Kd.int .u64) _ 42 rfl (N := 54) rfl 37 _ _ rfl (rd x6_5 x10_3) rfl rfl Try.underlying37 (.int .u64 0) 8 info42 rfl (by decide) (by omega) 0 (ok := fun _ => True) (okp := fun _ => True) rfl (fun _ hk => hk) trivial (of_decide_eq_true (by first | (with_reducible assumption) | assumption)) (Nat.le_trans (Nat.mul_le_mul_right _ (of_decide_eq_true (by first | (with_reducible assumption) | assumption) : (rd x6_5 x10_3).toNat ≤ 35184372088832)) (by omega)) (Below.refl _ _) (Nat.le_refl _) ?_; intro v190 w31 ho32 hb hg_ hnew_; clear hg_ hnew_; (first | rw [← Ny189.out] at ho32 | (simp only [Int.reduceToNat] at ho32; rw [← Ny189.out] at ho32)); have n0_ := Aside0.mk (Kd.R_below (by (with_reducible repeat (first | apply Kd.R_alloc | apply Kd.R_drewN | apply Kd.R_drew)); exact HO_6.out) hb); have n1_ := Aside0.mk (Kd.S_elder' (by (with_reducible repeat (first | apply Kd.S_alloc | apply Kd.S_drewN | apply Kd.S_drew)); exact HO_9.out) (Kd.R_base ho32) hb); have n2_ := Aside0.mk (Kd.R_lower ho32 (below_size (by repeat (first | (with_reducible first | exact HB.out | apply below_alloc | apply pw_below_drewN | apply below_drew1) | exact HB.out)))); have n3_ := Aside0.mk (below_step (by repeat (first | (with_reducible first | exact HB.out | apply below_alloc | apply pw_below_drewN | apply below_drew1) | exact HB.out)) hb); clear HO_6; clear HO_9; clear HB; have HO_6 := n0_; have HO_9 := n1_; have HO191 := n2_; have HB := n3_; clear n0_ n1_ n2_ n3_; clear hb ho32; obtain ⟨Ao34, co34, eo34⟩ := Kd.R_slice HO191.out; subst eo34) | ((with_reducible refine gate_builtin (b := .append) (xs := #[.tmp 49, .tmp 55]) rfl ?_); (try (refine gate_guard (by rfl) ?_; dsimp only)); at_builtin; refine Kd.S_append (Kd.slice 42 (Kd.int .u64)) (w0 := w) w.heap.size rfl (.tmp 49) (.tmp 55) 26 37 (.slice none 0 0) 24 rfl Try.underlying26 info37 rfl (by decide) (by omega) u9 x9_3 y189 [.slice Ao34 y189.length co34] (fun _ => True) (fun k_ => some k_ = (.slice Ao34 y189.length co34 : Value).ownBlock) rfl rfl ?aP (fun k_ hk_ => ((Kd.R_mono (ok' := fun k_ => ((fun _ => True)) k_ ∧ some k_ ≠ (u9 : Value).ownBlock) (Kd.R_apart' (HO191.out) (Kd.S_typed HO_9.out) (by decide)) (fun k_ hk => ⟨trivial, hk.2⟩))).1 k_ hk_.symm) ?aF ?aO ?aB ?aS ?aL ?_; (case aP => exact Kd.M_row (Kd.R_mono (Kd.R_tight rfl (Kd.R_mono (ok' := fun k_ => ((fun _ => True)) k_ ∧ some k_ ≠ (u9 : Value).ownBlock) (Kd.R_apart' (HO191.out) (Kd.S_typed HO_9.out) (by decide)) (fun k_ hk => ⟨trivial, hk.2⟩))) (fun _ h_ => h_))); (case aB => exact (by repeat (first | (with_reducible first | exact HB.out | apply below_alloc | apply pw_below_drewN | apply below_drew1) | exact HB.out))); (case aF => exact (fun _ _ => trivial)); (case aO => exact (by (with_reducible repeat (first | apply Kd.S_alloc | apply Kd.S_drewN | apply Kd.S_drew)); exact Kd.S_mono HO_9.out (fun k_ hk => ⟨trivial, fun e_ => hk.2 e_⟩))); (case aS => exact (below_size (by repeat (first | (with_reducible first | exact HB.out | apply below_alloc | apply pw_below_drewN | apply below_drew1) | exact HB.out)))); (case aL => have := LMc29.out; omega); intro v193 w33 ho hb hg hat; rw [← Ny192.out] at ho; have n0_ := Aside0.mk (Kd.R_over' (by (with_reducible repeat (first | apply Kd.R_alloc | apply Kd.R_drewN | apply Kd.R_drew)); exact HO_6.out) (Kd.S_typed (by (with_reducible repeat (first | apply Kd.S_alloc | apply Kd.S_drewN | apply Kd.S_drew)); exact HO_9.out)) (by decide) hg); have n1_ := Aside0.mk (hb); have n2_ := Aside0.mk (ho); clear HO_6; clear HB; clear HO_9; clear HO191; have HO_6 := n0_; have HB := n1_; have HO194 := n2_; clear n0_ n1_ n2_; clear ho hb hg hat))
                                go_roundg k3
                                case measure => have := HJ5.out; have := HK2.out; have := HK3.out; omega
                                case rel => exact ⟨(y192), (wrap64 (x10_3 + 1)), (by first | rfl | (simp; done) | (simp [*]; done)), H', ⟨by have := HJ5.out; have := HK2.out; have := HK3.out; omega⟩, ⟨by (with_reducible repeat (first | apply Kd.R_alloc | apply Kd.R_drewN | apply Kd.R_drew)); exact HO_6.out⟩, ⟨by (with_reducible repeat (first | apply Kd.S_alloc | apply Kd.S_drewN | apply Kd.S_drew)); exact HO194.out⟩, ⟨by repeat (first | (with_reducible first | exact HB.out | apply below_alloc | apply pw_below_drewN | apply below_drew1) | exact HB.out)⟩⟩
                              · rw [if_neg c29] at H
                                exact absurd H (by simp)
                            · rw [if_neg c28] at H
                              exact absurd H (by simp)
                          · rw [if_neg c27] at H
                            exact absurd H (by simp)
                        · rw [if_neg c26] at H
                          exact absurd H (by simp)
                      · rw [if_neg c25] at H
                        exact absurd H (by simp)
                    · rw [if_neg c24] at H
                      have c24b0 : decide (x10_3 < ji3) = false := decide_eq_false c24
                      clear c24
                      have HC35 := Aside0.mk H
                      clear H
                      go_upto_region 16 with (fail)
                      go_cut [11] (fun v11 wc => ∃ (kq : Nat) (x11_34 : Bool), v11 = .bool x11_34 ∧ Aside0 (scullerlaw07_ArenaMost.j3 kq x6_5 x7_2 x9_3 x11_34 = some r) ∧ Aside0 (kq ≤ k3) ∧ Aside0 (Kd.R (Kd.int .i64) 3 wc w.heap.size (fun _ => True) v182 x6_5) ∧ Aside0 (Kd.S (Kd.slice 42 (Kd.int .u64)) 37 wc w.heap.size (fun _ => True) u9 x9_3) ∧ Aside0 (Below w.heap.size w wc))
                      case first =>
                        have H := HC35.out
                        clear HC35
                        by_cases c36 : ji3 ≥ 1
                        · rw [if_pos c36] at H
                          have c36b0 : decide (1 ≤ ji3) = true := decide_eq_true c36
                          clear c36
                          (first | rw [c36b0] | (simp only [i64_w, i32_w]; rw [c36b0]) | skip)
                          by_cases c37 : ji3 ≤ 16
                          · rw [if_pos c37] at H
                            have c37b0 : decide (ji3 ≤ 16) = true := decide_eq_true c37
                            clear c37
                            have H' := Aside0.mk H
                            clear H
                            go_wp2
                            go_meet
                            case rel => exact ⟨_, (decide (x7_2 ≤ 4096)), (by first | rfl | (simp; done) | (simp [*]; done)), H', ⟨by have := HJ5.out; have := HK2.out; have := HK3.out; first | omega | exact Nat.le_refl _⟩, ⟨by (with_reducible repeat (first | apply Kd.R_alloc | apply Kd.R_drewN | apply Kd.R_drew)); exact HO_6.out⟩, ⟨by (with_reducible repeat (first | apply Kd.S_alloc | apply Kd.S_drewN | apply Kd.S_drew)); exact HO_9.out⟩, ⟨by repeat (first | (with_reducible first | exact HB.out | apply below_alloc | apply pw_below_drewN | apply below_drew1) | exact HB.out)⟩⟩
                          · rw [if_neg c37] at H
                            have c37b0 : decide (ji3 ≤ 16) = false := decide_eq_false c37
                            clear c37
                            have H' := Aside0.mk H
                            clear H
                            go_wp2
                            go_meet
                            case rel => exact ⟨_, (false), (by first | rfl | (simp; done) | (simp [*]; done)), H', ⟨by have := HJ5.out; have := HK2.out; have := HK3.out; first | omega | exact Nat.le_refl _⟩, ⟨by (with_reducible repeat (first | apply Kd.R_alloc | apply Kd.R_drewN | apply Kd.R_drew)); exact HO_6.out⟩, ⟨by (with_reducible repeat (first | apply Kd.S_alloc | apply Kd.S_drewN | apply Kd.S_drew)); exact HO_9.out⟩, ⟨by repeat (first | (with_reducible first | exact HB.out | apply below_alloc | apply pw_below_drewN | apply below_drew1) | exact HB.out)⟩⟩
                        · rw [if_neg c36] at H
                          have c36b0 : decide (1 ≤ ji3) = false := decide_eq_false c36
                          clear c36
                          (first | rw [c36b0] | (simp only [i64_w, i32_w]; rw [c36b0]) | skip)
                          have H' := Aside0.mk H
                          clear H
                          go_wp2
                          go_meet
                          case rel => exact ⟨_, (false), (by first | rfl | (simp; done) | (simp [*]; done)), H', ⟨by have := HJ5.out; have := HK2.out; have := HK3.out; first | omega | exact Nat.le_refl _⟩, ⟨by (with_reducible repeat (first | apply Kd.R_alloc | apply Kd.R_drewN | apply Kd.R_drew)); exact HO_6.out⟩, ⟨by (with_reducible repeat (first | apply Kd.S_alloc | apply Kd.S_drewN | apply Kd.S_drew)); exact HO_9.out⟩, ⟨by repeat (first | (with_reducible first | exact HB.out | apply below_alloc | apply pw_below_drewN | apply below_drew1) | exact HB.out)⟩⟩
                      case rest =>
                        clear HC35
                        try clear c1
                        try clear p1
                        try clear q1
                        try clear hx1
                        try clear qi1
                        try clear c2
                        try clear p2
                        try clear c3
                        try clear c4
                        try clear c4b0
                        try clear c4b1
                        try clear c5
                        try clear c5b0
                        try clear c5b1
                        try clear p6
                        try clear c9
                        try clear c9b0
                        try clear c10
                        try clear c10b0
                        try clear c10b1
                        try clear p11
                        try clear q11
                        try clear hx11
                        try clear qi11
                        try clear hf11
                        try clear c13
                        try clear c13b0
                        try clear c14
                        try clear c14b0
                        try clear p15
                        try clear q15
                        try clear hx15
                        try clear hf15
                        try clear p18
                        try clear q18
                        try clear hx18
                        try clear c20
                        try clear c20b0
                        try clear c21
                        try clear c21b0
                        try clear c22
                        try clear c22b0
                        try clear c24
                        try clear c24b0
                        try clear c25
                        try clear c25b0
                        try clear c26
                        try clear c26b0
                        try clear c27
                        try clear c27b0
                        try clear c27b1
                        try clear c28
                        try clear c28b0
                        try clear c28b1
                        try clear c29
                        try clear c36
                        try clear c36b0
                        try clear c37
                        try clear c37b0
                        try clear hx11_0
                        try clear hx15_0
                        try clear hx185_0
                        try clear hx187_0
                        try clear hx188_0
                        try clear p1
                        try clear p11
                        try clear p15
                        try clear p18
                        try clear p185
                        try clear p187
                        try clear p188
                        try clear p2
                        try clear p6
                        try clear q1
                        try clear q11
                        try clear q15
                        try clear q18
                        try clear q185
                        try clear q187
                        try clear q188
                        obtain ⟨kq, x11_34, rfl, HA, HJ34, HO_6, HO_9, HB⟩ := hcut
                        cases kq with
                        | zero => exact absurd HA.out (by simp [scullerlaw07_ArenaMost.j3])
                        | succ kj34 =>
                          have H := HA.out
                          clear HA
                          simp only [scullerlaw07_ArenaMost.j3] at H
                          obtain ⟨ji38, hji38⟩ : ∃ j_ : Int, (wrap64 (8 * x7_2)) = j_ := ⟨_, rfl⟩
                          replace H : (if 0 ≤ (ji38) then (if (ji38 : Int).toNat ≤ 281474976710656 then ((arena_Cut.f x6_5 (List.replicate (ji38 : Int).toNat 0)).bind fun bt198 => ((scullerlaw07_known.f).bind fun t202 => (if t202 = true then ((arena_Fits_c.f x6_5).bind fun t203 => (if (t203 == x11_34) = true then ((arena_Right_c.f x9_3).bind fun t204 => (if (t204 == x11_34) = true then (if ((bt198.2 == 0) == x11_34) = true then ((arena_Sizes_c.f x9_3).bind fun t205 => ((scullerref07_SameInts_c.f t205 x6_5).bind fun t208 => (if t208 = true then ((arena_Fits_c.f (([0, 1] : List Int))).bind fun t212 => (some (!t212))) else (some false)))) else (some false)) else (some false))) else (some false))) else (some false)))) else (none)) else (none)) = some r := by first | (rw [hji38] at H; exact H) | (simp only [hji38] at H ⊢; exact H)
                          have hji38w : (IntKind.i64.wrap (8 * x7_2)) = ji38 := (i64_w _).trans hji38
                          by_cases c39 : 0 ≤ (ji38)
                          · rw [if_pos c39] at H
                            have c39b0 := eq_true c39
                            have c39b1 : decide (0 ≤ (ji38)) = true := decide_eq_true c39
                            clear c39
                            by_cases c40 : (ji38 : Int).toNat ≤ 281474976710656
                            · rw [if_pos c40] at H
                              have c40b0 := eq_true c40
                              have c40b1 : decide ((ji38 : Int).toNat ≤ 281474976710656) = true := decide_eq_true c40
                              clear c40
                              obtain ⟨y195, hy195⟩ : ∃ y_ : List Int, y_ = (List.replicate (ji38 : Int).toNat 0) := ⟨_, rfl⟩
                              replace H : ((arena_Cut.f x6_5 y195).bind fun bt198 => ((scullerlaw07_known.f).bind fun t202 => (if t202 = true then ((arena_Fits_c.f x6_5).bind fun t203 => (if (t203 == x11_34) = true then ((arena_Right_c.f x9_3).bind fun t204 => (if (t204 == x11_34) = true then (if ((bt198.2 == 0) == x11_34) = true then ((arena_Sizes_c.f x9_3).bind fun t205 => ((scullerref07_SameInts_c.f t205 x6_5).bind fun t208 => (if t208 = true then ((arena_Fits_c.f (([0, 1] : List Int))).bind fun t212 => (some (!t212))) else (some false)))) else (some false)) else (some false))) else (some false))) else (some false)))) = some r := by first | (rw [hy195]; with_reducible exact H) | (have H2_ := (Option.bind_some _ _).symm.trans H; rw [hy195]; with_reducible exact H2_) | (have H2_ := (Option.bind_some _ _).symm.trans H; with_reducible exact H2_) | with_reducible exact H | (rw [hy195]; exact H) | exact H
                              have Ny195 := Aside0.mk hy195
                              clear hy195
                              replace H := Option.bind_eq_some_iff.mp H
                              obtain ⟨⟨t198, t199⟩, A410, H⟩ := H
                              replace H : ((scullerlaw07_known.f).bind fun t202 => (if t202 = true then ((arena_Fits_c.f x6_5).bind fun t203 => (if (t203 == x11_34) = true then ((arena_Right_c.f x9_3).bind fun t204 => (if (t204 == x11_34) = true then (if ((t199 == 0) == x11_34) = true then ((arena_Sizes_c.f x9_3).bind fun t205 => ((scullerref07_SameInts_c.f t205 x6_5).bind fun t208 => (if t208 = true then ((arena_Fits_c.f (([0, 1] : List Int))).bind fun t212 => (some (!t212))) else (some false)))) else (some false)) else (some false))) else (some false))) else (some false))) = some r := H
                              have A41 := Aside0.mk A410
                              clear A410
                              replace H := Option.bind_eq_some_iff.mp H
                              obtain ⟨t202, A420, H⟩ := H
                              replace H : (if t202 = true then ((arena_Fits_c.f x6_5).bind fun t203 => (if (t203 == x11_34) = true then ((arena_Right_c.f x9_3).bind fun t204 => (if (t204 == x11_34) = true then (if ((t199 == 0) == x11_34) = true then ((arena_Sizes_c.f x9_3).bind fun t205 => ((scullerref07_SameInts_c.f t205 x6_5).bind fun t208 => (if t208 = true then ((arena_Fits_c.f (([0, 1] : List Int))).bind fun t212 => (some (!t212))) else (some false)))) else (some false)) else (some false))) else (some false))) else (some false)) = some r := H
                              have A42 := Aside0.mk A420
                              clear A420
                              by_cases c43 : t202 = true
                              · subst c43
                                have H1 : ((arena_Fits_c.f x6_5).bind fun t203 => (if (t203 == x11_34) = true then ((arena_Right_c.f x9_3).bind fun t204 => (if (t204 == x11_34) = true then (if ((t199 == 0) == x11_34) = true then ((arena_Sizes_c.f x9_3).bind fun t205 => ((scullerref07_SameInts_c.f t205 x6_5).bind fun t208 => (if t208 = true then ((arena_Fits_c.f (([0, 1] : List Int))).bind fun t212 => (some (!t212))) else (some false)))) else (some false)) else (some false))) else (some false))) = some r := by rw [if_pos rfl] at H; exact H
                                clear H
                                have H := H1
                                clear H1
                                replace H := Option.bind_eq_some_iff.mp H
                                obtain ⟨t203, A440, H⟩ := H
                                replace H : (if (t203 == x11_34) = true then ((arena_Right_c.f x9_3).bind fun t204 => (if (t204 == x11_34) = true then (if ((t199 == 0) == x11_34) = true then ((arena_Sizes_c.f x9_3).bind fun t205 => ((scullerref07_SameInts_c.f t205 x6_5).bind fun t208 => (if t208 = true then ((arena_Fits_c.f (([0, 1] : List Int))).bind fun t212 => (some (!t212))) else (some false)))) else (some false)) else (some false))) else (some false)) = some r := H
                                have A44 := Aside0.mk A440
                                clear A440
                                by_cases c45 : (t203 == x11_34) = true
                                · rw [if_pos c45] at H
                                  have c45b0 : (t203 == x11_34) = true := c45
                                  (try (have c45b1 : decide (t203 = x11_34) = true := by simpa using c45))
                                  (try (have c45b2 : (t203 == x11_34) = true := by simpa using c45))
                                  clear c45
                                  replace H := Option.bind_eq_some_iff.mp H
                                  obtain ⟨t204, A460, H⟩ := H
                                  replace H : (if (t204 == x11_34) = true then (if ((t199 == 0) == x11_34) = true then ((arena_Sizes_c.f x9_3).bind fun t205 => ((scullerref07_SameInts_c.f t205 x6_5).bind fun t208 => (if t208 = true then ((arena_Fits_c.f (([0, 1] : List Int))).bind fun t212 => (some (!t212))) else (some false)))) else (some false)) else (some false)) = some r := H
                                  have A46 := Aside0.mk A460
                                  clear A460
                                  by_cases c47 : (t204 == x11_34) = true
                                  · rw [if_pos c47] at H
                                    have c47b0 : (t204 == x11_34) = true := c47
                                    (try (have c47b1 : decide (t204 = x11_34) = true := by simpa using c47))
                                    (try (have c47b2 : (t204 == x11_34) = true := by simpa using c47))
                                    clear c47
                                    by_cases c48 : ((t199 == 0) == x11_34) = true
                                    · rw [if_pos c48] at H
                                      have c48b0 : ((t199 == 0) == x11_34) = true := c48
                                      (try (have c48b1 : decide ((t199 == 0) = x11_34) = true := by simpa using c48))
                                      (try (have c48b2 : ((t199 == 0) == x11_34) = true := by simpa using c48))
                                      clear c48
                                      replace H := Option.bind_eq_some_iff.mp H
                                      obtain ⟨t205, A490, H⟩ := H
                                      replace H : ((scullerref07_SameInts_c.f t205 x6_5).bind fun t208 => (if t208 = true then ((arena_Fits_c.f (([0, 1] : List Int))).bind fun t212 => (some (!t212))) else (some false))) = some r := H
                                      have A49 := Aside0.mk A490
                                      clear A490
                                      replace H := Option.bind_eq_some_iff.mp H
                                      obtain ⟨t208, A500, H⟩ := H
                                      replace H : (if t208 = true then ((arena_Fits_c.f (([0, 1] : List Int))).bind fun t212 => (some (!t212))) else (some false)) = some r := H
                                      have A50 := Aside0.mk A500
                                      clear A500
                                      by_cases c51 : t208 = true
                                      · subst c51
                                        have H1 : ((arena_Fits_c.f (([0, 1] : List Int))).bind fun t212 => (some (!t212))) = some r := by rw [if_pos rfl] at H; exact H
                                        clear H
                                        have H := H1
                                        clear H1
                                        obtain ⟨y209, hy209⟩ : ∃ y_ : List Int, y_ = (([0, 1] : List Int)) := ⟨_, rfl⟩
                                        replace H : ((arena_Fits_c.f y209).bind fun t212 => (some (!t212))) = some r := by first | (rw [hy209]; with_reducible exact H) | (have H2_ := (Option.bind_some _ _).symm.trans H; rw [hy209]; with_reducible exact H2_) | (have H2_ := (Option.bind_some _ _).symm.trans H; with_reducible exact H2_) | with_reducible exact H | (rw [hy209]; exact H) | exact H
                                        have Ny209 := Aside0.mk hy209
                                        clear hy209
                                        replace H := Option.bind_eq_some_iff.mp H
                                        obtain ⟨t212, A520, H⟩ := H
                                        replace H : (some (!t212)) = some r := H
                                        have A52 := Aside0.mk A520
                                        clear A520
                                        obtain rfl := Option.some.inj H
                                        go_wp2_with (first | ((with_reducible refine gate_dst (N := 71) rfl ?_); (try (refine gate_guard (by rfl) ?_; dsimp only)); refine Kd.R_make (Kd.int .u8) _ 5 rfl (N := 71) rfl 23 _ _ rfl ji38 rfl rfl Try.underlying23 (.int .u8 0) 1 info5 rfl (by decide) (by omega) 0 (ok := fun _ => True) (okp := fun _ => True) rfl (fun _ hk => hk) trivial (of_decide_eq_true (by first | (with_reducible assumption) | assumption)) (Nat.le_trans (Nat.mul_le_mul_right _ (of_decide_eq_true (by first | (with_reducible assumption) | assumption) : ji38.toNat ≤ 281474976710656)) (by omega)) (Below.refl _ _) (Nat.le_refl _) ?_; intro v196 w53 ho54 hb hg_ hnew_; clear hg_ hnew_; (first | rw [← Ny195.out] at ho54 | (simp only [Int.reduceToNat] at ho54; rw [← Ny195.out] at ho54)); have n0_ := Aside0.mk (Kd.R_below (by (with_reducible repeat (first | apply Kd.R_alloc | apply Kd.R_drewN | apply Kd.R_drew)); exact HO_6.out) hb); have n1_ := Aside0.mk (Kd.S_below (by (with_reducible repeat (first | apply Kd.S_alloc | apply Kd.S_drewN | apply Kd.S_drew)); exact HO_9.out) hb); have n2_ := Aside0.mk (Kd.R_lower ho54 (below_size (by repeat (first | (with_reducible first | exact HB.out | apply below_alloc | apply pw_below_drewN | apply below_drew1) | exact HB.out)))); have n3_ := Aside0.mk (below_step (by repeat (first | (with_reducible first | exact HB.out | apply below_alloc | apply pw_below_drewN | apply below_drew1) | exact HB.out)) hb); clear HO_6; clear HO_9; clear HB; have HO_6 := n0_; have HO_9 := n1_; have HO197 := n2_; have HB := n3_; clear n0_ n1_ n2_ n3_; clear hb ho54; obtain ⟨Ao55, co55, eo55⟩ := Kd.R_slice HO_6.out; subst eo55; obtain ⟨Ao56, co56, eo56⟩ := Kd.R_slice HO197.out; subst eo56) | ((with_reducible refine gate_callee (f := 18) rfl ?_); refine goesL_ (some 72) rfl rfl Try.func18 (by kernel_rfl) rfl #[.slice Ao55 x6_5.length co55, .slice Ao56 y195.length co56] rfl (by (try simp only [List.map_toArray, List.map_cons, List.map_nil]); first | done | rfl | (simp only [List.length_drop, List.length_take]; rfl)) ?_; (with_reducible refine (arena_Cut.calls _ _ x6_5 _ _ y195 t198 t199 _ ?side1 ?side2 ?side3 ?side4 A41.out).mono ?_); (case side1 => repeat (first | exact (Kd.R_reads' HO_6.out).2.2 | (with_reducible refine Kd.C_alloc ?_ _) | (with_reducible refine Kd.C_drewN ?_ _) | (with_reducible refine Kd.C_drew ?_))); (case side2 => exact (Kd.R_reads' HO_6.out).2.1); (case side3 => repeat (first | exact (Kd.R_reads' HO197.out).2.2 | (with_reducible refine Kd.C_alloc ?_ _) | (with_reducible refine Kd.C_drewN ?_ _) | (with_reducible refine Kd.C_drew ?_))); (case side4 => exact (Kd.R_reads' HO197.out).2.1); rintro e w57 ⟨v200, rfl, ho0, hb⟩; refine ⟨_, rfl, ?_⟩; have n0_ := Aside0.mk (Kd.R_below (by (with_reducible repeat (first | apply Kd.R_alloc | apply Kd.R_drewN | apply Kd.R_drew)); exact HO_6.out) hb); have n1_ := Aside0.mk (Kd.S_elder' (by (with_reducible repeat (first | apply Kd.S_alloc | apply Kd.S_drewN | apply Kd.S_drew)); exact HO_9.out) (Kd.S_base ho0) hb); have n2_ := Aside0.mk (Kd.R_below (by (with_reducible repeat (first | apply Kd.R_alloc | apply Kd.R_drewN | apply Kd.R_drew)); exact HO197.out) hb); have n3_ := Aside0.mk (Kd.S_lower (Kd.S_new' ho0 (Kd.S_lt (by (with_reducible repeat (first | apply Kd.S_alloc | apply Kd.S_drewN | apply Kd.S_drew)); exact HO_9.out))) (below_size (by repeat (first | (with_reducible first | exact HB.out | apply below_alloc | apply pw_below_drewN | apply below_drew1) | exact HB.out)))); have n4_ := Aside0.mk (below_step (by repeat (first | (with_reducible first | exact HB.out | apply below_alloc | apply pw_below_drewN | apply below_drew1) | exact HB.out)) hb); clear HO_6; clear HO_9; clear HO197; clear HB; have HO_6 := n0_; have HO_9 := n1_; have HO197 := n2_; have HO201 := n3_; have HB := n4_; clear n0_ n1_ n2_ n3_ n4_; (try clear hb); (try clear hb2); (try clear hk); (try clear hi); (try clear ho0)) | ((with_reducible refine gate_callee (f := 12) rfl ?_); refine goesL_ (some 75) rfl rfl Try.func12 (by kernel_rfl) rfl #[] rfl (by (try simp only [List.map_toArray, List.map_cons, List.map_nil]); first | done | rfl | (simp only [List.length_drop, List.length_take]; rfl)) ?_; (with_reducible refine (scullerlaw07_known.calls  true _ A42.out).mono ?_); rintro e w58 ⟨rfl, hb⟩; refine ⟨_, rfl, ?_⟩; have n0_ := Aside0.mk (Kd.R_below (by (with_reducible repeat (first | apply Kd.R_alloc | apply Kd.R_drewN | apply Kd.R_drew)); exact HO_6.out) hb); have n1_ := Aside0.mk (Kd.S_below (by (with_reducible repeat (first | apply Kd.S_alloc | apply Kd.S_drewN | apply Kd.S_drew)); exact HO_9.out) hb); have n2_ := Aside0.mk (Kd.R_below (by (with_reducible repeat (first | apply Kd.R_alloc | apply Kd.R_drewN | apply Kd.R_drew)); exact HO197.out) hb); have n3_ := Aside0.mk (Kd.S_below (by (with_reducible repeat (first | apply Kd.S_alloc | apply Kd.S_drewN | apply Kd.S_drew)); exact HO201.out) hb); have n4_ := Aside0.mk (below_step (by repeat (first | (with_reducible first | exact HB.out | apply below_alloc | apply pw_below_drewN | apply below_drew1) | exact HB.out)) hb); clear HO_6; clear HO_9; clear HO197; clear HO201; clear HB; have HO_6 := n0_; have HO_9 := n1_; have HO197 := n2_; have HO201 := n3_; have HB := n4_; clear n0_ n1_ n2_ n3_ n4_; (try clear hb); (try clear hb2); (try clear hk); (try clear hi)) | (go_at_call 20; (with_reducible refine (arena_Fits_c.calls _ _ x6_5 t203 _ ?side1 ?side2 A44.out).mono ?_); (case side1 => repeat (first | exact (Kd.R_reads' HO_6.out).2.2 | (with_reducible refine Kd.C_alloc ?_ _) | (with_reducible refine Kd.C_drewN ?_ _) | (with_reducible refine Kd.C_drew ?_))); (case side2 => exact (Kd.R_reads' HO_6.out).2.1); rintro e w59 ⟨rfl, hb⟩; have n0_ := Aside0.mk (Kd.R_below (by (with_reducible repeat (first | apply Kd.R_alloc | apply Kd.R_drewN | apply Kd.R_drew)); exact HO_6.out) hb); have n1_ := Aside0.mk (Kd.S_below (by (with_reducible repeat (first | apply Kd.S_alloc | apply Kd.S_drewN | apply Kd.S_drew)); exact HO_9.out) hb); have n2_ := Aside0.mk (Kd.R_below (by (with_reducible repeat (first | apply Kd.R_alloc | apply Kd.R_drewN | apply Kd.R_drew)); exact HO197.out) hb); have n3_ := Aside0.mk (Kd.S_below (by (with_reducible repeat (first | apply Kd.S_alloc | apply Kd.S_drewN | apply Kd.S_drew)); exact HO201.out) hb); have n4_ := Aside0.mk (below_step (by repeat (first | (with_reducible first | exact HB.out | apply below_alloc | apply pw_below_drewN | apply below_drew1) | exact HB.out)) hb); clear HO_6; clear HO_9; clear HO197; clear HO201; clear HB; have HO_6 := n0_; have HO_9 := n1_; have HO197 := n2_; have HO201 := n3_; have HB := n4_; clear n0_ n1_ n2_ n3_ n4_; (try clear hb); (try clear hb2); (try clear hk); (try clear hi); obtain ⟨Ao60, co60, eo60⟩ := Kd.S_slice HO_9.out; subst eo60) | (go_at_call 21; (with_reducible refine (arena_Right_c.calls _ _ x9_3 t204 _ ?side1 ?side2 A46.out).mono ?_); (case side1 => repeat (first | exact (Kd.S_reads' HO_9.out).2.2 | (with_reducible refine Kd.C_alloc ?_ _) | (with_reducible refine Kd.C_drewN ?_ _) | (with_reducible refine Kd.C_drew ?_))); (case side2 => exact (Kd.S_reads' HO_9.out).2.1); rintro e w61 ⟨rfl, hb⟩; have n0_ := Aside0.mk (Kd.R_below (by (with_reducible repeat (first | apply Kd.R_alloc | apply Kd.R_drewN | apply Kd.R_drew)); exact HO_6.out) hb); have n1_ := Aside0.mk (Kd.S_below (by (with_reducible repeat (first | apply Kd.S_alloc | apply Kd.S_drewN | apply Kd.S_drew)); exact HO_9.out) hb); have n2_ := Aside0.mk (Kd.R_below (by (with_reducible repeat (first | apply Kd.R_alloc | apply Kd.R_drewN | apply Kd.R_drew)); exact HO197.out) hb); have n3_ := Aside0.mk (Kd.S_below (by (with_reducible repeat (first | apply Kd.S_alloc | apply Kd.S_drewN | apply Kd.S_drew)); exact HO201.out) hb); have n4_ := Aside0.mk (below_step (by repeat (first | (with_reducible first | exact HB.out | apply below_alloc | apply pw_below_drewN | apply below_drew1) | exact HB.out)) hb); clear HO_6; clear HO_9; clear HO197; clear HO201; clear HB; have HO_6 := n0_; have HO_9 := n1_; have HO197 := n2_; have HO201 := n3_; have HB := n4_; clear n0_ n1_ n2_ n3_ n4_; (try clear hb); (try clear hb2); (try clear hk); (try clear hi)) | (go_at_call 19; (with_reducible refine (arena_Sizes_c.calls _ _ x9_3 t205 _ ?side1 ?side2 A49.out).mono ?_); (case side1 => repeat (first | exact (Kd.S_reads' HO_9.out).2.2 | (with_reducible refine Kd.C_alloc ?_ _) | (with_reducible refine Kd.C_drewN ?_ _) | (with_reducible refine Kd.C_drew ?_))); (case side2 => exact (Kd.S_reads' HO_9.out).2.1); rintro e w62 ⟨v206, rfl, ho0, hb⟩; have n0_ := Aside0.mk (Kd.R_elder' (by (with_reducible repeat (first | apply Kd.R_alloc | apply Kd.R_drewN | apply Kd.R_drew)); exact HO_6.out) (Kd.R_base ho0) hb); have n1_ := Aside0.mk (Kd.S_below (by (with_reducible repeat (first | apply Kd.S_alloc | apply Kd.S_drewN | apply Kd.S_drew)); exact HO_9.out) hb); have n2_ := Aside0.mk (Kd.R_below (by (with_reducible repeat (first | apply Kd.R_alloc | apply Kd.R_drewN | apply Kd.R_drew)); exact HO197.out) hb); have n3_ := Aside0.mk (Kd.S_below (by (with_reducible repeat (first | apply Kd.S_alloc | apply Kd.S_drewN | apply Kd.S_drew)); exact HO201.out) hb); have n4_ := Aside0.mk (Kd.R_lower (Kd.R_new' ho0 (Kd.R_lt (by (with_reducible repeat (first | apply Kd.R_alloc | apply Kd.R_drewN | apply Kd.R_drew)); exact HO_6.out))) (below_size (by repeat (first | (with_reducible first | exact HB.out | apply below_alloc | apply pw_below_drewN | apply below_drew1) | exact HB.out)))); have n5_ := Aside0.mk (below_step (by repeat (first | (with_reducible first | exact HB.out | apply below_alloc | apply pw_below_drewN | apply below_drew1) | exact HB.out)) hb); clear HO_6; clear HO_9; clear HO197; clear HO201; clear HB; have HO_6 := n0_; have HO_9 := n1_; have HO197 := n2_; have HO201 := n3_; have HO207 := n4_; have HB := n5_; clear n0_ n1_ n2_ n3_ n4_ n5_; (try clear hb); (try clear hb2); (try clear hk); (try clear hi); (try clear ho0); obtain ⟨Ao63, co63, eo63⟩ := Kd.R_slice HO207.out; subst eo63) | (go_at_call 22; (with_reducible refine (scullerref07_SameInts_c.calls _ _ t205 _ _ x6_5 true _ ?side1 ?side2 ?side3 ?side4 A50.out).mono ?_); (case side1 => repeat (first | exact (Kd.R_reads' HO207.out).2.2 | (with_reducible refine Kd.C_alloc ?_ _) | (with_reducible refine Kd.C_drewN ?_ _) | (with_reducible refine Kd.C_drew ?_))); (case side2 => exact (Kd.R_reads' HO207.out).2.1); (case side3 => repeat (first | exact (Kd.R_reads' HO_6.out).2.2 | (with_reducible refine Kd.C_alloc ?_ _) | (with_reducible refine Kd.C_drewN ?_ _) | (with_reducible refine Kd.C_drew ?_))); (case side4 => exact (Kd.R_reads' HO_6.out).2.1); rintro e w' ⟨rfl, ⟨nd, rfl⟩⟩) | ((with_reducible refine gate_dst (N := 101) rfl ?_); (try (refine gate_guard (by rfl) ?_; dsimp only)); refine Kd.R_lit (Kd.int .i64) _ 3 ?hg (N := 101) ?hd (xs := ([0, 1] : List Int)) (inner := [.int .i64 0, .int .i64 1]) (ok := fun _ => True) (okp := fun _ => True) ?hr ?hp (fun _ hk => hk) trivial (Below.refl _ _) (Nat.le_refl _) (by simp) ?_; (case hd => rfl); (case hg => rfl); (case hr => first | (go_simp; done) | (go_simp; rfl)); (case hp => exact (Reps.one (show Kd.M (Kd.int .i64) _ _ _ 0 [.int .i64 0] from rfl) (Reps.one (show Kd.M (Kd.int .i64) _ _ _ 1 [.int .i64 1] from rfl) (Reps.none _ _)))); intro v210 w64 ho65 hb hg_ hnew_; clear hg_ hnew_; (first | rw [← Ny209.out] at ho65 | (simp only [Int.reduceToNat] at ho65; rw [← Ny209.out] at ho65)); have n0_ := Aside0.mk (Kd.R_elder' (by (with_reducible repeat (first | apply Kd.R_alloc | apply Kd.R_drewN | apply Kd.R_drew)); exact HO_6.out) (Kd.R_base ho65) hb); have n1_ := Aside0.mk (Kd.S_below (by (with_reducible repeat (first | apply Kd.S_alloc | apply Kd.S_drewN | apply Kd.S_drew)); exact HO_9.out) hb); have n2_ := Aside0.mk (Kd.R_below (by (with_reducible repeat (first | apply Kd.R_alloc | apply Kd.R_drewN | apply Kd.R_drew)); exact HO197.out) hb); have n3_ := Aside0.mk (Kd.S_below (by (with_reducible repeat (first | apply Kd.S_alloc | apply Kd.S_drewN | apply Kd.S_drew)); exact HO201.out) hb); have n4_ := Aside0.mk (Kd.R_elder' (by (with_reducible repeat (first | apply Kd.R_alloc | apply Kd.R_drewN | apply Kd.R_drew)); exact HO207.out) (Kd.R_base ho65) hb); have n5_ := Aside0.mk (Kd.R_lower (Kd.R_new' (Kd.R_new' ho65 (Kd.R_lt (by (with_reducible repeat (first | apply Kd.R_alloc | apply Kd.R_drewN | apply Kd.R_drew)); exact HO_6.out))) (Kd.R_lt (by (with_reducible repeat (first | apply Kd.R_alloc | apply Kd.R_drewN | apply Kd.R_drew)); exact HO207.out))) (below_size (by repeat (first | (with_reducible first | exact HB.out | apply below_alloc | apply pw_below_drewN | apply below_drew1) | exact HB.out)))); have n6_ := Aside0.mk (below_step (by repeat (first | (with_reducible first | exact HB.out | apply below_alloc | apply pw_below_drewN | apply below_drew1) | exact HB.out)) hb); clear HO_6; clear HO_9; clear HO197; clear HO201; clear HO207; clear HB; have HO_6 := n0_; have HO_9 := n1_; have HO197 := n2_; have HO201 := n3_; have HO207 := n4_; have HO211 := n5_; have HB := n6_; clear n0_ n1_ n2_ n3_ n4_ n5_ n6_; clear hb ho65; obtain ⟨Ao66, co66, eo66⟩ := Kd.R_slice HO211.out; subst eo66) | (go_at_call 20; (with_reducible refine (arena_Fits_c.calls _ _ y209 t212 _ ?side1 ?side2 A52.out).mono ?_); (case side1 => repeat (first | exact (Kd.R_reads' HO211.out).2.2 | (with_reducible refine Kd.C_alloc ?_ _) | (with_reducible refine Kd.C_drewN ?_ _) | (with_reducible refine Kd.C_drew ?_))); (case side2 => exact (Kd.R_reads' HO211.out).2.1); rintro e w67 ⟨rfl, hb⟩; have n0_ := Aside0.mk (Kd.R_below (by (with_reducible repeat (first | apply Kd.R_alloc | apply Kd.R_drewN | apply Kd.R_drew)); exact HO_6.out) hb); have n1_ := Aside0.mk (Kd.S_below (by (with_reducible repeat (first | apply Kd.S_alloc | apply Kd.S_drewN | apply Kd.S_drew)); exact HO_9.out) hb); have n2_ := Aside0.mk (Kd.R_below (by (with_reducible repeat (first | apply Kd.R_alloc | apply Kd.R_drewN | apply Kd.R_drew)); exact HO197.out) hb); have n3_ := Aside0.mk (Kd.S_below (by (with_reducible repeat (first | apply Kd.S_alloc | apply Kd.S_drewN | apply Kd.S_drew)); exact HO201.out) hb); have n4_ := Aside0.mk (Kd.R_below (by (with_reducible repeat (first | apply Kd.R_alloc | apply Kd.R_drewN | apply Kd.R_drew)); exact HO207.out) hb); have n5_ := Aside0.mk (Kd.R_below (by (with_reducible repeat (first | apply Kd.R_alloc | apply Kd.R_drewN | apply Kd.R_drew)); exact HO211.out) hb); have n6_ := Aside0.mk (below_step (by repeat (first | (with_reducible first | exact HB.out | apply below_alloc | apply pw_below_drewN | apply below_drew1) | exact HB.out)) hb); clear HO_6; clear HO_9; clear HO197; clear HO201; clear HO207; clear HO211; clear HB; have HO_6 := n0_; have HO_9 := n1_; have HO197 := n2_; have HO201 := n3_; have HO207 := n4_; have HO211 := n5_; have HB := n6_; clear n0_ n1_ n2_ n3_ n4_ n5_ n6_; (try clear hb); (try clear hb2); (try clear hk); (try clear hi)))
                                        go_ret
                                        exact ⟨by first | rfl | (simp [errW_none, errW_some] <;> rfl) | (simp only [← hji3, ← hji38]; first | rfl | (simp [errW_none, errW_some] <;> rfl)) | (simp [*, errW_none, errW_some] <;> rfl), by repeat (first | (with_reducible first | exact HB.out | apply below_alloc | apply pw_below_drewN | apply below_drew1) | exact HB.out)⟩
                                      · replace c51 := Bool.eq_false_iff.mpr c51
                                        subst c51
                                        have H1 : (some false) = some r := by rw [if_neg (show ¬ (false = true) by decide)] at H; exact H
                                        clear H
                                        have H := H1
                                        clear H1
                                        obtain rfl := Option.some.inj H
                                        go_wp2_with (first | ((with_reducible refine gate_dst (N := 71) rfl ?_); (try (refine gate_guard (by rfl) ?_; dsimp only)); refine Kd.R_make (Kd.int .u8) _ 5 rfl (N := 71) rfl 23 _ _ rfl ji38 rfl rfl Try.underlying23 (.int .u8 0) 1 info5 rfl (by decide) (by omega) 0 (ok := fun _ => True) (okp := fun _ => True) rfl (fun _ hk => hk) trivial (of_decide_eq_true (by first | (with_reducible assumption) | assumption)) (Nat.le_trans (Nat.mul_le_mul_right _ (of_decide_eq_true (by first | (with_reducible assumption) | assumption) : ji38.toNat ≤ 281474976710656)) (by omega)) (Below.refl _ _) (Nat.le_refl _) ?_; intro v196 w68 ho69 hb hg_ hnew_; clear hg_ hnew_; (first | rw [← Ny195.out] at ho69 | (simp only [Int.reduceToNat] at ho69; rw [← Ny195.out] at ho69)); have n0_ := Aside0.mk (Kd.R_below (by (with_reducible repeat (first | apply Kd.R_alloc | apply Kd.R_drewN | apply Kd.R_drew)); exact HO_6.out) hb); have n1_ := Aside0.mk (Kd.S_below (by (with_reducible repeat (first | apply Kd.S_alloc | apply Kd.S_drewN | apply Kd.S_drew)); exact HO_9.out) hb); have n2_ := Aside0.mk (Kd.R_lower ho69 (below_size (by repeat (first | (with_reducible first | exact HB.out | apply below_alloc | apply pw_below_drewN | apply below_drew1) | exact HB.out)))); have n3_ := Aside0.mk (below_step (by repeat (first | (with_reducible first | exact HB.out | apply below_alloc | apply pw_below_drewN | apply below_drew1) | exact HB.out)) hb); clear HO_6; clear HO_9; clear HB; have HO_6 := n0_; have HO_9 := n1_; have HO197 := n2_; have HB := n3_; clear n0_ n1_ n2_ n3_; clear hb ho69; obtain ⟨Ao70, co70, eo70⟩ := Kd.R_slice HO_6.out; subst eo70; obtain ⟨Ao71, co71, eo71⟩ := Kd.R_slice HO197.out; subst eo71) | ((with_reducible refine gate_callee (f := 18) rfl ?_); refine goesL_ (some 72) rfl rfl Try.func18 (by kernel_rfl) rfl #[.slice Ao70 x6_5.length co70, .slice Ao71 y195.length co71] rfl (by (try simp only [List.map_toArray, List.map_cons, List.map_nil]); first | done | rfl | (simp only [List.length_drop, List.length_take]; rfl)) ?_; (with_reducible refine (arena_Cut.calls _ _ x6_5 _ _ y195 t198 t199 _ ?side1 ?side2 ?side3 ?side4 A41.out).mono ?_); (case side1 => repeat (first | exact (Kd.R_reads' HO_6.out).2.2 | (with_reducible refine Kd.C_alloc ?_ _) | (with_reducible refine Kd.C_drewN ?_ _) | (with_reducible refine Kd.C_drew ?_))); (case side2 => exact (Kd.R_reads' HO_6.out).2.1); (case side3 => repeat (first | exact (Kd.R_reads' HO197.out).2.2 | (with_reducible refine Kd.C_alloc ?_ _) | (with_reducible refine Kd.C_drewN ?_ _) | (with_reducible refine Kd.C_drew ?_))); (case side4 => exact (Kd.R_reads' HO197.out).2.1); rintro e w72 ⟨v200, rfl, ho0, hb⟩; refine ⟨_, rfl, ?_⟩; have n0_ := Aside0.mk (Kd.R_below (by (with_reducible repeat (first | apply Kd.R_alloc | apply Kd.R_drewN | apply Kd.R_drew)); exact HO_6.out) hb); have n1_ := Aside0.mk (Kd.S_elder' (by (with_reducible repeat (first | apply Kd.S_alloc | apply Kd.S_drewN | apply Kd.S_drew)); exact HO_9.out) (Kd.S_base ho0) hb); have n2_ := Aside0.mk (Kd.R_below (by (with_reducible repeat (first | apply Kd.R_alloc | apply Kd.R_drewN | apply Kd.R_drew)); exact HO197.out) hb); have n3_ := Aside0.mk (Kd.S_lower (Kd.S_new' ho0 (Kd.S_lt (by (with_reducible repeat (first | apply Kd.S_alloc | apply Kd.S_drewN | apply Kd.S_drew)); exact HO_9.out))) (below_size (by repeat (first | (with_reducible first | exact HB.out | apply below_alloc | apply pw_below_drewN | apply below_drew1) | exact HB.out)))); have n4_ := Aside0.mk (below_step (by repeat (first | (with_reducible first | exact HB.out | apply below_alloc | apply pw_below_drewN | apply below_drew1) | exact HB.out)) hb); clear HO_6; clear HO_9; clear HO197; clear HB; have HO_6 := n0_; have HO_9 := n1_; have HO197 := n2_; have HO201 := n3_; have HB := n4_; clear n0_ n1_ n2_ n3_ n4_; (try clear hb); (try clear hb2); (try clear hk); (try clear hi); (try clear ho0)) | ((with_reducible refine gate_callee (f := 12) rfl ?_); refine goesL_ (some 75) rfl rfl Try.func12 (by kernel_rfl) rfl #[] rfl (by (try simp only [List.map_toArray, List.map_cons, List.map_nil]); first | done | rfl | (simp only [List.length_drop, List.length_take]; rfl)) ?_; (with_reducible refine (scullerlaw07_known.calls  true _ A42.out).mono ?_); rintro e w73 ⟨rfl, hb⟩; refine ⟨_, rfl, ?_⟩; have n0_ := Aside0.mk (Kd.R_below (by (with_reducible repeat (first | apply Kd.R_alloc | apply Kd.R_drewN | apply Kd.R_drew)); exact HO_6.out) hb); have n1_ := Aside0.mk (Kd.S_below (by (with_reducible repeat (first | apply Kd.S_alloc | apply Kd.S_drewN | apply Kd.S_drew)); exact HO_9.out) hb); have n2_ := Aside0.mk (Kd.R_below (by (with_reducible repeat (first | apply Kd.R_alloc | apply Kd.R_drewN | apply Kd.R_drew)); exact HO197.out) hb); have n3_ := Aside0.mk (Kd.S_below (by (with_reducible repeat (first | apply Kd.S_alloc | apply Kd.S_drewN | apply Kd.S_drew)); exact HO201.out) hb); have n4_ := Aside0.mk (below_step (by repeat (first | (with_reducible first | exact HB.out | apply below_alloc | apply pw_below_drewN | apply below_drew1) | exact HB.out)) hb); clear HO_6; clear HO_9; clear HO197; clear HO201; clear HB; have HO_6 := n0_; have HO_9 := n1_; have HO197 := n2_; have HO201 := n3_; have HB := n4_; clear n0_ n1_ n2_ n3_ n4_; (try clear hb); (try clear hb2); (try clear hk); (try clear hi)) | (go_at_call 20; (with_reducible refine (arena_Fits_c.calls _ _ x6_5 t203 _ ?side1 ?side2 A44.out).mono ?_); (case side1 => repeat (first | exact (Kd.R_reads' HO_6.out).2.2 | (with_reducible refine Kd.C_alloc ?_ _) | (with_reducible refine Kd.C_drewN ?_ _) | (with_reducible refine Kd.C_drew ?_))); (case side2 => exact (Kd.R_reads' HO_6.out).2.1); rintro e w74 ⟨rfl, hb⟩; have n0_ := Aside0.mk (Kd.R_below (by (with_reducible repeat (first | apply Kd.R_alloc | apply Kd.R_drewN | apply Kd.R_drew)); exact HO_6.out) hb); have n1_ := Aside0.mk (Kd.S_below (by (with_reducible repeat (first | apply Kd.S_alloc | apply Kd.S_drewN | apply Kd.S_drew)); exact HO_9.out) hb); have n2_ := Aside0.mk (Kd.R_below (by (with_reducible repeat (first | apply Kd.R_alloc | apply Kd.R_drewN | apply Kd.R_drew)); exact HO197.out) hb); have n3_ := Aside0.mk (Kd.S_below (by (with_reducible repeat (first | apply Kd.S_alloc | apply Kd.S_drewN | apply Kd.S_drew)); exact HO201.out) hb); have n4_ := Aside0.mk (below_step (by repeat (first | (with_reducible first | exact HB.out | apply below_alloc | apply pw_below_drewN | apply below_drew1) | exact HB.out)) hb); clear HO_6; clear HO_9; clear HO197; clear HO201; clear HB; have HO_6 := n0_; have HO_9 := n1_; have HO197 := n2_; have HO201 := n3_; have HB := n4_; clear n0_ n1_ n2_ n3_ n4_; (try clear hb); (try clear hb2); (try clear hk); (try clear hi); obtain ⟨Ao75, co75, eo75⟩ := Kd.S_slice HO_9.out; subst eo75) | (go_at_call 21; (with_reducible refine (arena_Right_c.calls _ _ x9_3 t204 _ ?side1 ?side2 A46.out).mono ?_); (case side1 => repeat (first | exact (Kd.S_reads' HO_9.out).2.2 | (with_reducible refine Kd.C_alloc ?_ _) | (with_reducible refine Kd.C_drewN ?_ _) | (with_reducible refine Kd.C_drew ?_))); (case side2 => exact (Kd.S_reads' HO_9.out).2.1); rintro e w76 ⟨rfl, hb⟩; have n0_ := Aside0.mk (Kd.R_below (by (with_reducible repeat (first | apply Kd.R_alloc | apply Kd.R_drewN | apply Kd.R_drew)); exact HO_6.out) hb); have n1_ := Aside0.mk (Kd.S_below (by (with_reducible repeat (first | apply Kd.S_alloc | apply Kd.S_drewN | apply Kd.S_drew)); exact HO_9.out) hb); have n2_ := Aside0.mk (Kd.R_below (by (with_reducible repeat (first | apply Kd.R_alloc | apply Kd.R_drewN | apply Kd.R_drew)); exact HO197.out) hb); have n3_ := Aside0.mk (Kd.S_below (by (with_reducible repeat (first | apply Kd.S_alloc | apply Kd.S_drewN | apply Kd.S_drew)); exact HO201.out) hb); have n4_ := Aside0.mk (below_step (by repeat (first | (with_reducible first | exact HB.out | apply below_alloc | apply pw_below_drewN | apply below_drew1) | exact HB.out)) hb); clear HO_6; clear HO_9; clear HO197; clear HO201; clear HB; have HO_6 := n0_; have HO_9 := n1_; have HO197 := n2_; have HO201 := n3_; have HB := n4_; clear n0_ n1_ n2_ n3_ n4_; (try clear hb); (try clear hb2); (try clear hk); (try clear hi)) | (go_at_call 19; (with_reducible refine (arena_Sizes_c.calls _ _ x9_3 t205 _ ?side1 ?side2 A49.out).mono ?_); (case side1 => repeat (first | exact (Kd.S_reads' HO_9.out).2.2 | (with_reducible refine Kd.C_alloc ?_ _) | (with_reducible refine Kd.C_drewN ?_ _) | (with_reducible refine Kd.C_drew ?_))); (case side2 => exact (Kd.S_reads' HO_9.out).2.1); rintro e w77 ⟨v206, rfl, ho0, hb⟩; have n0_ := Aside0.mk (Kd.R_elder' (by (with_reducible repeat (first | apply Kd.R_alloc | apply Kd.R_drewN | apply Kd.R_drew)); exact HO_6.out) (Kd.R_base ho0) hb); have n1_ := Aside0.mk (Kd.S_below (by (with_reducible repeat (first | apply Kd.S_alloc | apply Kd.S_drewN | apply Kd.S_drew)); exact HO_9.out) hb); have n2_ := Aside0.mk (Kd.R_below (by (with_reducible repeat (first | apply Kd.R_alloc | apply Kd.R_drewN | apply Kd.R_drew)); exact HO197.out) hb); have n3_ := Aside0.mk (Kd.S_below (by (with_reducible repeat (first | apply Kd.S_alloc | apply Kd.S_drewN | apply Kd.S_drew)); exact HO201.out) hb); have n4_ := Aside0.mk (Kd.R_lower (Kd.R_new' ho0 (Kd.R_lt (by (with_reducible repeat (first | apply Kd.R_alloc | apply Kd.R_drewN | apply Kd.R_drew)); exact HO_6.out))) (below_size (by repeat (first | (with_reducible first | exact HB.out | apply below_alloc | apply pw_below_drewN | apply below_drew1) | exact HB.out)))); have n5_ := Aside0.mk (below_step (by repeat (first | (with_reducible first | exact HB.out | apply below_alloc | apply pw_below_drewN | apply below_drew1) | exact HB.out)) hb); clear HO_6; clear HO_9; clear HO197; clear HO201; clear HB; have HO_6 := n0_; have HO_9 := n1_; have HO197 := n2_; have HO201 := n3_; have HO207 := n4_; have HB := n5_; clear n0_ n1_ n2_ n3_ n4_ n5_; (try clear hb); (try clear hb2); (try clear hk); (try clear hi); (try clear ho0); obtain ⟨Ao78, co78, eo78⟩ := Kd.R_slice HO207.out; subst eo78) | (go_at_call 22; (with_reducible refine (scullerref07_SameInts_c.calls _ _ t205 _ _ x6_5 false _ ?side1 ?side2 ?side3 ?side4 A50.out).mono ?_); (case side1 => repeat (first | exact (Kd.R_reads' HO207.out).2.2 | (with_reducible refine Kd.C_alloc ?_ _) | (with_reducible refine Kd.C_drewN ?_ _) | (with_reducible refine Kd.C_drew ?_))); (case side2 => exact (Kd.R_reads' HO207.out).2.1); (case side3 => repeat (first | exact (Kd.R_reads' HO_6.out).2.2 | (with_reducible refine Kd.C_alloc ?_ _) | (with_reducible refine Kd.C_drewN ?_ _) | (with_reducible refine Kd.C_drew ?_))); (case side4 => exact (Kd.R_reads' HO_6.out).2.1); rintro e w' ⟨rfl, ⟨nd, rfl⟩⟩))
                                        go_ret
                                        exact ⟨by first | rfl | (simp [errW_none, errW_some] <;> rfl) | (simp only [← hji3, ← hji38]; first | rfl | (simp [errW_none, errW_some] <;> rfl)) | (simp [*, errW_none, errW_some] <;> rfl), by repeat (first | (with_reducible first | exact HB.out | apply below_alloc | apply pw_below_drewN | apply below_drew1) | exact HB.out)⟩
                                    · rw [if_neg c48] at H
                                      have c48b0 : ((t199 == 0) == x11_34) = false := by simpa using c48
                                      (try (have c48b1 : decide ((t199 == 0) = x11_34) = false := by simpa using c48))
                                      (try (have c48b2 : ((t199 == 0) == x11_34) = false := by simpa using c48))
                                      (try (have c48b3 : ¬ ((t199 == 0) = x11_34) := by simpa using c48))
                                      clear c48
                                      obtain rfl := Option.some.inj H
                                      go_wp2_with (first | ((with_reducible refine gate_dst (N := 71) rfl ?_); (try (refine gate_guard (by rfl) ?_; dsimp only)); refine Kd.R_make (Kd.int .u8) _ 5 rfl (N := 71) rfl 23 _ _ rfl ji38 rfl rfl Try.underlying23 (.int .u8 0) 1 info5 rfl (by decide) (by omega) 0 (ok := fun _ => True) (okp := fun _ => True) rfl (fun _ hk => hk) trivial (of_decide_eq_true (by first | (with_reducible assumption) | assumption)) (Nat.le_trans (Nat.mul_le_mul_right _ (of_decide_eq_true (by first | (with_reducible assumption) | assumption) : ji38.toNat ≤ 281474976710656)) (by omega)) (Below.refl _ _) (Nat.le_refl _) ?_; intro v196 w79 ho80 hb hg_ hnew_; clear hg_ hnew_; (first | rw [← Ny195.out] at ho80 | (simp only [Int.reduceToNat] at ho80; rw [← Ny195.out] at ho80)); have n0_ := Aside0.mk (Kd.R_below (by (with_reducible repeat (first | apply Kd.R_alloc | apply Kd.R_drewN | apply Kd.R_drew)); exact HO_6.out) hb); have n1_ := Aside0.mk (Kd.S_below (by (with_reducible repeat (first | apply Kd.S_alloc | apply Kd.S_drewN | apply Kd.S_drew)); exact HO_9.out) hb); have n2_ := Aside0.mk (Kd.R_lower ho80 (below_size (by repeat (first | (with_reducible first | exact HB.out | apply below_alloc | apply pw_below_drewN | apply below_drew1) | exact HB.out)))); have n3_ := Aside0.mk (below_step (by repeat (first | (with_reducible first | exact HB.out | apply below_alloc | apply pw_below_drewN | apply below_drew1) | exact HB.out)) hb); clear HO_6; clear HO_9; clear HB; have HO_6 := n0_; have HO_9 := n1_; have HO197 := n2_; have HB := n3_; clear n0_ n1_ n2_ n3_; clear hb ho80; obtain ⟨Ao81, co81, eo81⟩ := Kd.R_slice HO_6.out; subst eo81; obtain ⟨Ao82, co82, eo82⟩ := Kd.R_slice HO197.out; subst eo82) | ((with_reducible refine gate_callee (f := 18) rfl ?_); refine goesL_ (some 72) rfl rfl Try.func18 (by kernel_rfl) rfl #[.slice Ao81 x6_5.length co81, .slice Ao82 y195.length co82] rfl (by (try simp only [List.map_toArray, List.map_cons, List.map_nil]); first | done | rfl | (simp only [List.length_drop, List.length_take]; rfl)) ?_; (with_reducible refine (arena_Cut.calls _ _ x6_5 _ _ y195 t198 t199 _ ?side1 ?side2 ?side3 ?side4 A41.out).mono ?_); (case side1 => repeat (first | exact (Kd.R_reads' HO_6.out).2.2 | (with_reducible refine Kd.C_alloc ?_ _) | (with_reducible refine Kd.C_drewN ?_ _) | (with_reducible refine Kd.C_drew ?_))); (case side2 => exact (Kd.R_reads' HO_6.out).2.1); (case side3 => repeat (first | exact (Kd.R_reads' HO197.out).2.2 | (with_reducible refine Kd.C_alloc ?_ _) | (with_reducible refine Kd.C_drewN ?_ _) | (with_reducible refine Kd.C_drew ?_))); (case side4 => exact (Kd.R_reads' HO197.out).2.1); rintro e w83 ⟨v200, rfl, ho0, hb⟩; refine ⟨_, rfl, ?_⟩; have n0_ := Aside0.mk (Kd.R_below (by (with_reducible repeat (first | apply Kd.R_alloc | apply Kd.R_drewN | apply Kd.R_drew)); exact HO_6.out) hb); have n1_ := Aside0.mk (Kd.S_elder' (by (with_reducible repeat (first | apply Kd.S_alloc | apply Kd.S_drewN | apply Kd.S_drew)); exact HO_9.out) (Kd.S_base ho0) hb); have n2_ := Aside0.mk (Kd.R_below (by (with_reducible repeat (first | apply Kd.R_alloc | apply Kd.R_drewN | apply Kd.R_drew)); exact HO197.out) hb); have n3_ := Aside0.mk (Kd.S_lower (Kd.S_new' ho0 (Kd.S_lt (by (with_reducible repeat (first | apply Kd.S_alloc | apply Kd.S_drewN | apply Kd.S_drew)); exact HO_9.out))) (below_size (by repeat (first | (with_reducible first | exact HB.out | apply below_alloc | apply pw_below_drewN | apply below_drew1) | exact HB.out)))); have n4_ := Aside0.mk (below_step (by repeat (first | (with_reducible first | exact HB.out | apply below_alloc | apply pw_below_drewN | apply below_drew1) | exact HB.out)) hb); clear HO_6; clear HO_9; clear HO197; clear HB; have HO_6 := n0_; have HO_9 := n1_; have HO197 := n2_; have HO201 := n3_; have HB := n4_; clear n0_ n1_ n2_ n3_ n4_; (try clear hb); (try clear hb2); (try clear hk); (try clear hi); (try clear ho0)) | ((with_reducible refine gate_callee (f := 12) rfl ?_); refine goesL_ (some 75) rfl rfl Try.func12 (by kernel_rfl) rfl #[] rfl (by (try simp only [List.map_toArray, List.map_cons, List.map_nil]); first | done | rfl | (simp only [List.length_drop, List.length_take]; rfl)) ?_; (with_reducible refine (scullerlaw07_known.calls  true _ A42.out).mono ?_); rintro e w84 ⟨rfl, hb⟩; refine ⟨_, rfl, ?_⟩; have n0_ := Aside0.mk (Kd.R_below (by (with_reducible repeat (first | apply Kd.R_alloc | apply Kd.R_drewN | apply Kd.R_drew)); exact HO_6.out) hb); have n1_ := Aside0.mk (Kd.S_below (by (with_reducible repeat (first | apply Kd.S_alloc | apply Kd.S_drewN | apply Kd.S_drew)); exact HO_9.out) hb); have n2_ := Aside0.mk (Kd.R_below (by (with_reducible repeat (first | apply Kd.R_alloc | apply Kd.R_drewN | apply Kd.R_drew)); exact HO197.out) hb); have n3_ := Aside0.mk (Kd.S_below (by (with_reducible repeat (first | apply Kd.S_alloc | apply Kd.S_drewN | apply Kd.S_drew)); exact HO201.out) hb); have n4_ := Aside0.mk (below_step (by repeat (first | (with_reducible first | exact HB.out | apply below_alloc | apply pw_below_drewN | apply below_drew1) | exact HB.out)) hb); clear HO_6; clear HO_9; clear HO197; clear HO201; clear HB; have HO_6 := n0_; have HO_9 := n1_; have HO197 := n2_; have HO201 := n3_; have HB := n4_; clear n0_ n1_ n2_ n3_ n4_; (try clear hb); (try clear hb2); (try clear hk); (try clear hi)) | (go_at_call 20; (with_reducible refine (arena_Fits_c.calls _ _ x6_5 t203 _ ?side1 ?side2 A44.out).mono ?_); (case side1 => repeat (first | exact (Kd.R_reads' HO_6.out).2.2 | (with_reducible refine Kd.C_alloc ?_ _) | (with_reducible refine Kd.C_drewN ?_ _) | (with_reducible refine Kd.C_drew ?_))); (case side2 => exact (Kd.R_reads' HO_6.out).2.1); rintro e w85 ⟨rfl, hb⟩; have n0_ := Aside0.mk (Kd.R_below (by (with_reducible repeat (first | apply Kd.R_alloc | apply Kd.R_drewN | apply Kd.R_drew)); exact HO_6.out) hb); have n1_ := Aside0.mk (Kd.S_below (by (with_reducible repeat (first | apply Kd.S_alloc | apply Kd.S_drewN | apply Kd.S_drew)); exact HO_9.out) hb); have n2_ := Aside0.mk (Kd.R_below (by (with_reducible repeat (first | apply Kd.R_alloc | apply Kd.R_drewN | apply Kd.R_drew)); exact HO197.out) hb); have n3_ := Aside0.mk (Kd.S_below (by (with_reducible repeat (first | apply Kd.S_alloc | apply Kd.S_drewN | apply Kd.S_drew)); exact HO201.out) hb); have n4_ := Aside0.mk (below_step (by repeat (first | (with_reducible first | exact HB.out | apply below_alloc | apply pw_below_drewN | apply below_drew1) | exact HB.out)) hb); clear HO_6; clear HO_9; clear HO197; clear HO201; clear HB; have HO_6 := n0_; have HO_9 := n1_; have HO197 := n2_; have HO201 := n3_; have HB := n4_; clear n0_ n1_ n2_ n3_ n4_; (try clear hb); (try clear hb2); (try clear hk); (try clear hi); obtain ⟨Ao86, co86, eo86⟩ := Kd.S_slice HO_9.out; subst eo86) | (go_at_call 21; (with_reducible refine (arena_Right_c.calls _ _ x9_3 t204 _ ?side1 ?side2 A46.out).mono ?_); (case side1 => repeat (first | exact (Kd.S_reads' HO_9.out).2.2 | (with_reducible refine Kd.C_alloc ?_ _) | (with_reducible refine Kd.C_drewN ?_ _) | (with_reducible refine Kd.C_drew ?_))); (case side2 => exact (Kd.S_reads' HO_9.out).2.1); rintro e w87 ⟨rfl, hb⟩; have n0_ := Aside0.mk (Kd.R_below (by (with_reducible repeat (first | apply Kd.R_alloc | apply Kd.R_drewN | apply Kd.R_drew)); exact HO_6.out) hb); have n1_ := Aside0.mk (Kd.S_below (by (with_reducible repeat (first | apply Kd.S_alloc | apply Kd.S_drewN | apply Kd.S_drew)); exact HO_9.out) hb); have n2_ := Aside0.mk (Kd.R_below (by (with_reducible repeat (first | apply Kd.R_alloc | apply Kd.R_drewN | apply Kd.R_drew)); exact HO197.out) hb); have n3_ := Aside0.mk (Kd.S_below (by (with_reducible repeat (first | apply Kd.S_alloc | apply Kd.S_drewN | apply Kd.S_drew)); exact HO201.out) hb); have n4_ := Aside0.mk (below_step (by repeat (first | (with_reducible first | exact HB.out | apply below_alloc | apply pw_below_drewN | apply below_drew1) | exact HB.out)) hb); clear HO_6; clear HO_9; clear HO197; clear HO201; clear HB; have HO_6 := n0_; have HO_9 := n1_; have HO197 := n2_; have HO201 := n3_; have HB := n4_; clear n0_ n1_ n2_ n3_ n4_; (try clear hb); (try clear hb2); (try clear hk); (try clear hi)))
                                      go_ret
                                      exact ⟨by first | rfl | (simp [errW_none, errW_some] <;> rfl) | (simp only [← hji3, ← hji38]; first | rfl | (simp [errW_none, errW_some] <;> rfl)) | (simp [*, errW_none, errW_some] <;> rfl), by repeat (first | (with_reducible first | exact HB.out | apply below_alloc | apply pw_below_drewN | apply below_drew1) | exact HB.out)⟩
                                  · rw [if_neg c47] at H
                                    have c47b0 : (t204 == x11_34) = false := by simpa using c47
                                    (try (have c47b1 : decide (t204 = x11_34) = false := by simpa using c47))
                                    (try (have c47b2 : (t204 == x11_34) = false := by simpa using c47))
                                    (try (have c47b3 : ¬ (t204 = x11_34) := by simpa using c47))
                                    clear c47
                                    obtain rfl := Option.some.inj H
                                    go_wp2_with (first | ((with_reducible refine gate_dst (N := 71) rfl ?_); (try (refine gate_guard (by rfl) ?_; dsimp only)); refine Kd.R_make (Kd.int .u8) _ 5 rfl (N := 71) rfl 23 _ _ rfl ji38 rfl rfl Try.underlying23 (.int .u8 0) 1 info5 rfl (by decide) (by omega) 0 (ok := fun _ => True) (okp := fun _ => True) rfl (fun _ hk => hk) trivial (of_decide_eq_true (by first | (with_reducible assumption) | assumption)) (Nat.le_trans (Nat.mul_le_mul_right _ (of_decide_eq_true (by first | (with_reducible assumption) | assumption) : ji38.toNat ≤ 281474976710656)) (by omega)) (Below.refl _ _) (Nat.le_refl _) ?_; intro v196 w88 ho89 hb hg_ hnew_; clear hg_ hnew_; (first | rw [← Ny195.out] at ho89 | (simp only [Int.reduceToNat] at ho89; rw [← Ny195.out] at ho89)); have n0_ := Aside0.mk (Kd.R_below (by (with_reducible repeat (first | apply Kd.R_alloc | apply Kd.R_drewN | apply Kd.R_drew)); exact HO_6.out) hb); have n1_ := Aside0.mk (Kd.S_below (by (with_reducible repeat (first | apply Kd.S_alloc | apply Kd.S_drewN | apply Kd.S_drew)); exact HO_9.out) hb); have n2_ := Aside0.mk (Kd.R_lower ho89 (below_size (by repeat (first | (with_reducible first | exact HB.out | apply below_alloc | apply pw_below_drewN | apply below_drew1) | exact HB.out)))); have n3_ := Aside0.mk (below_step (by repeat (first | (with_reducible first | exact HB.out | apply below_alloc | apply pw_below_drewN | apply below_drew1) | exact HB.out)) hb); clear HO_6; clear HO_9; clear HB; have HO_6 := n0_; have HO_9 := n1_; have HO197 := n2_; have HB := n3_; clear n0_ n1_ n2_ n3_; clear hb ho89; obtain ⟨Ao90, co90, eo90⟩ := Kd.R_slice HO_6.out; subst eo90; obtain ⟨Ao91, co91, eo91⟩ := Kd.R_slice HO197.out; subst eo91) | ((with_reducible refine gate_callee (f := 18) rfl ?_); refine goesL_ (some 72) rfl rfl Try.func18 (by kernel_rfl) rfl #[.slice Ao90 x6_5.length co90, .slice Ao91 y195.length co91] rfl (by (try simp only [List.map_toArray, List.map_cons, List.map_nil]); first | done | rfl | (simp only [List.length_drop, List.length_take]; rfl)) ?_; (with_reducible refine (arena_Cut.calls _ _ x6_5 _ _ y195 t198 t199 _ ?side1 ?side2 ?side3 ?side4 A41.out).mono ?_); (case side1 => repeat (first | exact (Kd.R_reads' HO_6.out).2.2 | (with_reducible refine Kd.C_alloc ?_ _) | (with_reducible refine Kd.C_drewN ?_ _) | (with_reducible refine Kd.C_drew ?_))); (case side2 => exact (Kd.R_reads' HO_6.out).2.1); (case side3 => repeat (first | exact (Kd.R_reads' HO197.out).2.2 | (with_reducible refine Kd.C_alloc ?_ _) | (with_reducible refine Kd.C_drewN ?_ _) | (with_reducible refine Kd.C_drew ?_))); (case side4 => exact (Kd.R_reads' HO197.out).2.1); rintro e w92 ⟨v200, rfl, ho0, hb⟩; refine ⟨_, rfl, ?_⟩; have n0_ := Aside0.mk (Kd.R_below (by (with_reducible repeat (first | apply Kd.R_alloc | apply Kd.R_drewN | apply Kd.R_drew)); exact HO_6.out) hb); have n1_ := Aside0.mk (Kd.S_elder' (by (with_reducible repeat (first | apply Kd.S_alloc | apply Kd.S_drewN | apply Kd.S_drew)); exact HO_9.out) (Kd.S_base ho0) hb); have n2_ := Aside0.mk (Kd.R_below (by (with_reducible repeat (first | apply Kd.R_alloc | apply Kd.R_drewN | apply Kd.R_drew)); exact HO197.out) hb); have n3_ := Aside0.mk (Kd.S_lower (Kd.S_new' ho0 (Kd.S_lt (by (with_reducible repeat (first | apply Kd.S_alloc | apply Kd.S_drewN | apply Kd.S_drew)); exact HO_9.out))) (below_size (by repeat (first | (with_reducible first | exact HB.out | apply below_alloc | apply pw_below_drewN | apply below_drew1) | exact HB.out)))); have n4_ := Aside0.mk (below_step (by repeat (first | (with_reducible first | exact HB.out | apply below_alloc | apply pw_below_drewN | apply below_drew1) | exact HB.out)) hb); clear HO_6; clear HO_9; clear HO197; clear HB; have HO_6 := n0_; have HO_9 := n1_; have HO197 := n2_; have HO201 := n3_; have HB := n4_; clear n0_ n1_ n2_ n3_ n4_; (try clear hb); (try clear hb2); (try clear hk); (try clear hi); (try clear ho0)) | ((with_reducible refine gate_callee (f := 12) rfl ?_); refine goesL_ (some 75) rfl rfl Try.func12 (by kernel_rfl) rfl #[] rfl (by (try simp only [List.map_toArray, List.map_cons, List.map_nil]); first | done | rfl | (simp only [List.length_drop, List.length_take]; rfl)) ?_; (with_reducible refine (scullerlaw07_known.calls  true _ A42.out).mono ?_); rintro e w93 ⟨rfl, hb⟩; refine ⟨_, rfl, ?_⟩; have n0_ := Aside0.mk (Kd.R_below (by (with_reducible repeat (first | apply Kd.R_alloc | apply Kd.R_drewN | apply Kd.R_drew)); exact HO_6.out) hb); have n1_ := Aside0.mk (Kd.S_below (by (with_reducible repeat (first | apply Kd.S_alloc | apply Kd.S_drewN | apply Kd.S_drew)); exact HO_9.out) hb); have n2_ := Aside0.mk (Kd.R_below (by (with_reducible repeat (first | apply Kd.R_alloc | apply Kd.R_drewN | apply Kd.R_drew)); exact HO197.out) hb); have n3_ := Aside0.mk (Kd.S_below (by (with_reducible repeat (first | apply Kd.S_alloc | apply Kd.S_drewN | apply Kd.S_drew)); exact HO201.out) hb); have n4_ := Aside0.mk (below_step (by repeat (first | (with_reducible first | exact HB.out | apply below_alloc | apply pw_below_drewN | apply below_drew1) | exact HB.out)) hb); clear HO_6; clear HO_9; clear HO197; clear HO201; clear HB; have HO_6 := n0_; have HO_9 := n1_; have HO197 := n2_; have HO201 := n3_; have HB := n4_; clear n0_ n1_ n2_ n3_ n4_; (try clear hb); (try clear hb2); (try clear hk); (try clear hi)) | (go_at_call 20; (with_reducible refine (arena_Fits_c.calls _ _ x6_5 t203 _ ?side1 ?side2 A44.out).mono ?_); (case side1 => repeat (first | exact (Kd.R_reads' HO_6.out).2.2 | (with_reducible refine Kd.C_alloc ?_ _) | (with_reducible refine Kd.C_drewN ?_ _) | (with_reducible refine Kd.C_drew ?_))); (case side2 => exact (Kd.R_reads' HO_6.out).2.1); rintro e w94 ⟨rfl, hb⟩; have n0_ := Aside0.mk (Kd.R_below (by (with_reducible repeat (first | apply Kd.R_alloc | apply Kd.R_drewN | apply Kd.R_drew)); exact HO_6.out) hb); have n1_ := Aside0.mk (Kd.S_below (by (with_reducible repeat (first | apply Kd.S_alloc | apply Kd.S_drewN | apply Kd.S_drew)); exact HO_9.out) hb); have n2_ := Aside0.mk (Kd.R_below (by (with_reducible repeat (first | apply Kd.R_alloc | apply Kd.R_drewN | apply Kd.R_drew)); exact HO197.out) hb); have n3_ := Aside0.mk (Kd.S_below (by (with_reducible repeat (first | apply Kd.S_alloc | apply Kd.S_drewN | apply Kd.S_drew)); exact HO201.out) hb); have n4_ := Aside0.mk (below_step (by repeat (first | (with_reducible first | exact HB.out | apply below_alloc | apply pw_below_drewN | apply below_drew1) | exact HB.out)) hb); clear HO_6; clear HO_9; clear HO197; clear HO201; clear HB; have HO_6 := n0_; have HO_9 := n1_; have HO197 := n2_; have HO201 := n3_; have HB := n4_; clear n0_ n1_ n2_ n3_ n4_; (try clear hb); (try clear hb2); (try clear hk); (try clear hi); obtain ⟨Ao95, co95, eo95⟩ := Kd.S_slice HO_9.out; subst eo95) | (go_at_call 21; (with_reducible refine (arena_Right_c.calls _ _ x9_3 t204 _ ?side1 ?side2 A46.out).mono ?_); (case side1 => repeat (first | exact (Kd.S_reads' HO_9.out).2.2 | (with_reducible refine Kd.C_alloc ?_ _) | (with_reducible refine Kd.C_drewN ?_ _) | (with_reducible refine Kd.C_drew ?_))); (case side2 => exact (Kd.S_reads' HO_9.out).2.1); rintro e w96 ⟨rfl, hb⟩; have n0_ := Aside0.mk (Kd.R_below (by (with_reducible repeat (first | apply Kd.R_alloc | apply Kd.R_drewN | apply Kd.R_drew)); exact HO_6.out) hb); have n1_ := Aside0.mk (Kd.S_below (by (with_reducible repeat (first | apply Kd.S_alloc | apply Kd.S_drewN | apply Kd.S_drew)); exact HO_9.out) hb); have n2_ := Aside0.mk (Kd.R_below (by (with_reducible repeat (first | apply Kd.R_alloc | apply Kd.R_drewN | apply Kd.R_drew)); exact HO197.out) hb); have n3_ := Aside0.mk (Kd.S_below (by (with_reducible repeat (first | apply Kd.S_alloc | apply Kd.S_drewN | apply Kd.S_drew)); exact HO201.out) hb); have n4_ := Aside0.mk (below_step (by repeat (first | (with_reducible first | exact HB.out | apply below_alloc | apply pw_below_drewN | apply below_drew1) | exact HB.out)) hb); clear HO_6; clear HO_9; clear HO197; clear HO201; clear HB; have HO_6 := n0_; have HO_9 := n1_; have HO197 := n2_; have HO201 := n3_; have HB := n4_; clear n0_ n1_ n2_ n3_ n4_; (try clear hb); (try clear hb2); (try clear hk); (try clear hi)))
                                    go_ret
                                    exact ⟨by first | rfl | (simp [errW_none, errW_some] <;> rfl) | (simp only [← hji3, ← hji38]; first | rfl | (simp [errW_none, errW_some] <;> rfl)) | (simp [*, errW_none, errW_some] <;> rfl), by repeat (first | (with_reducible first | exact HB.out | apply below_alloc | apply pw_below_drewN | apply below_drew1) | exact HB.out)⟩
                                · rw [if_neg c45] at H
                                  have c45b0 : (t203 == x11_34) = false := by simpa using c45
                                  (try (have c45b1 : decide (t203 = x11_34) = false := by simpa using c45))
                                  (try (have c45b2 : (t203 == x11_34) = false := by simpa using c45))
                                  (try (have c45b3 : ¬ (t203 = x11_34) := by simpa using c45))
                                  clear c45
                                  obtain rfl := Option.some.inj H
                                  go_wp2_with (first | ((with_reducible refine gate_dst (N := 71) rfl ?_); (try (refine gate_guard (by rfl) ?_; dsimp only)); refine Kd.R_make (Kd.int .u8) _ 5 rfl (N := 71) rfl 23 _ _ rfl ji38 rfl rfl Try.underlying23 (.int .u8 0) 1 info5 rfl (by decide) (by omega) 0 (ok := fun _ => True) (okp := fun _ => True) rfl (fun _ hk => hk) trivial (of_decide_eq_true (by first | (with_reducible assumption) | assumption)) (Nat.le_trans (Nat.mul_le_mul_right _ (of_decide_eq_true (by first | (with_reducible assumption) | assumption) : ji38.toNat ≤ 281474976710656)) (by omega)) (Below.refl _ _) (Nat.le_refl _) ?_; intro v196 w97 ho98 hb hg_ hnew_; clear hg_ hnew_; (first | rw [← Ny195.out] at ho98 | (simp only [Int.reduceToNat] at ho98; rw [← Ny195.out] at ho98)); have n0_ := Aside0.mk (Kd.R_below (by (with_reducible repeat (first | apply Kd.R_alloc | apply Kd.R_drewN | apply Kd.R_drew)); exact HO_6.out) hb); have n1_ := Aside0.mk (Kd.S_below (by (with_reducible repeat (first | apply Kd.S_alloc | apply Kd.S_drewN | apply Kd.S_drew)); exact HO_9.out) hb); have n2_ := Aside0.mk (Kd.R_lower ho98 (below_size (by repeat (first | (with_reducible first | exact HB.out | apply below_alloc | apply pw_below_drewN | apply below_drew1) | exact HB.out)))); have n3_ := Aside0.mk (below_step (by repeat (first | (with_reducible first | exact HB.out | apply below_alloc | apply pw_below_drewN | apply below_drew1) | exact HB.out)) hb); clear HO_6; clear HO_9; clear HB; have HO_6 := n0_; have HO_9 := n1_; have HO197 := n2_; have HB := n3_; clear n0_ n1_ n2_ n3_; clear hb ho98; obtain ⟨Ao99, co99, eo99⟩ := Kd.R_slice HO_6.out; subst eo99; obtain ⟨Ao100, co100, eo100⟩ := Kd.R_slice HO197.out; subst eo100) | ((with_reducible refine gate_callee (f := 18) rfl ?_); refine goesL_ (some 72) rfl rfl Try.func18 (by kernel_rfl) rfl #[.slice Ao99 x6_5.length co99, .slice Ao100 y195.length co100] rfl (by (try simp only [List.map_toArray, List.map_cons, List.map_nil]); first | done | rfl | (simp only [List.length_drop, List.length_take]; rfl)) ?_; (with_reducible refine (arena_Cut.calls _ _ x6_5 _ _ y195 t198 t199 _ ?side1 ?side2 ?side3 ?side4 A41.out).mono ?_); (case side1 => repeat (first | exact (Kd.R_reads' HO_6.out).2.2 | (with_reducible refine Kd.C_alloc ?_ _) | (with_reducible refine Kd.C_drewN ?_ _) | (with_reducible refine Kd.C_drew ?_))); (case side2 => exact (Kd.R_reads' HO_6.out).2.1); (case side3 => repeat (first | exact (Kd.R_reads' HO197.out).2.2 | (with_reducible refine Kd.C_alloc ?_ _) | (with_reducible refine Kd.C_drewN ?_ _) | (with_reducible refine Kd.C_drew ?_))); (case side4 => exact (Kd.R_reads' HO197.out).2.1); rintro e w101 ⟨v200, rfl, ho0, hb⟩; refine ⟨_, rfl, ?_⟩; have n0_ := Aside0.mk (Kd.R_below (by (with_reducible repeat (first | apply Kd.R_alloc | apply Kd.R_drewN | apply Kd.R_drew)); exact HO_6.out) hb); have n1_ := Aside0.mk (Kd.S_elder' (by (with_reducible repeat (first | apply Kd.S_alloc | apply Kd.S_drewN | apply Kd.S_drew)); exact HO_9.out) (Kd.S_base ho0) hb); have n2_ := Aside0.mk (Kd.R_below (by (with_reducible repeat (first | apply Kd.R_alloc | apply Kd.R_drewN | apply Kd.R_drew)); exact HO197.out) hb); have n3_ := Aside0.mk (Kd.S_lower (Kd.S_new' ho0 (Kd.S_lt (by (with_reducible repeat (first | apply Kd.S_alloc | apply Kd.S_drewN | apply Kd.S_drew)); exact HO_9.out))) (below_size (by repeat (first | (with_reducible first | exact HB.out | apply below_alloc | apply pw_below_drewN | apply below_drew1) | exact HB.out)))); have n4_ := Aside0.mk (below_step (by repeat (first | (with_reducible first | exact HB.out | apply below_alloc | apply pw_below_drewN | apply below_drew1) | exact HB.out)) hb); clear HO_6; clear HO_9; clear HO197; clear HB; have HO_6 := n0_; have HO_9 := n1_; have HO197 := n2_; have HO201 := n3_; have HB := n4_; clear n0_ n1_ n2_ n3_ n4_; (try clear hb); (try clear hb2); (try clear hk); (try clear hi); (try clear ho0)) | ((with_reducible refine gate_callee (f := 12) rfl ?_); refine goesL_ (some 75) rfl rfl Try.func12 (by kernel_rfl) rfl #[] rfl (by (try simp only [List.map_toArray, List.map_cons, List.map_nil]); first | done | rfl | (simp only [List.length_drop, List.length_take]; rfl)) ?_; (with_reducible refine (scullerlaw07_known.calls  true _ A42.out).mono ?_); rintro e w102 ⟨rfl, hb⟩; refine ⟨_, rfl, ?_⟩; have n0_ := Aside0.mk (Kd.R_below (by (with_reducible repeat (first | apply Kd.R_alloc | apply Kd.R_drewN | apply Kd.R_drew)); exact HO_6.out) hb); have n1_ := Aside0.mk (Kd.S_below (by (with_reducible repeat (first | apply Kd.S_alloc | apply Kd.S_drewN | apply Kd.S_drew)); exact HO_9.out) hb); have n2_ := Aside0.mk (Kd.R_below (by (with_reducible repeat (first | apply Kd.R_alloc | apply Kd.R_drewN | apply Kd.R_drew)); exact HO197.out) hb); have n3_ := Aside0.mk (Kd.S_below (by (with_reducible repeat (first | apply Kd.S_alloc | apply Kd.S_drewN | apply Kd.S_drew)); exact HO201.out) hb); have n4_ := Aside0.mk (below_step (by repeat (first | (with_reducible first | exact HB.out | apply below_alloc | apply pw_below_drewN | apply below_drew1) | exact HB.out)) hb); clear HO_6; clear HO_9; clear HO197; clear HO201; clear HB; have HO_6 := n0_; have HO_9 := n1_; have HO197 := n2_; have HO201 := n3_; have HB := n4_; clear n0_ n1_ n2_ n3_ n4_; (try clear hb); (try clear hb2); (try clear hk); (try clear hi)) | (go_at_call 20; (with_reducible refine (arena_Fits_c.calls _ _ x6_5 t203 _ ?side1 ?side2 A44.out).mono ?_); (case side1 => repeat (first | exact (Kd.R_reads' HO_6.out).2.2 | (with_reducible refine Kd.C_alloc ?_ _) | (with_reducible refine Kd.C_drewN ?_ _) | (with_reducible refine Kd.C_drew ?_))); (case side2 => exact (Kd.R_reads' HO_6.out).2.1); rintro e w103 ⟨rfl, hb⟩; have n0_ := Aside0.mk (Kd.R_below (by (with_reducible repeat (first | apply Kd.R_alloc | apply Kd.R_drewN | apply Kd.R_drew)); exact HO_6.out) hb); have n1_ := Aside0.mk (Kd.S_below (by (with_reducible repeat (first | apply Kd.S_alloc | apply Kd.S_drewN | apply Kd.S_drew)); exact HO_9.out) hb); have n2_ := Aside0.mk (Kd.R_below (by (with_reducible repeat (first | apply Kd.R_alloc | apply Kd.R_drewN | apply Kd.R_drew)); exact HO197.out) hb); have n3_ := Aside0.mk (Kd.S_below (by (with_reducible repeat (first | apply Kd.S_alloc | apply Kd.S_drewN | apply Kd.S_drew)); exact HO201.out) hb); have n4_ := Aside0.mk (below_step (by repeat (first | (with_reducible first | exact HB.out | apply below_alloc | apply pw_below_drewN | apply below_drew1) | exact HB.out)) hb); clear HO_6; clear HO_9; clear HO197; clear HO201; clear HB; have HO_6 := n0_; have HO_9 := n1_; have HO197 := n2_; have HO201 := n3_; have HB := n4_; clear n0_ n1_ n2_ n3_ n4_; (try clear hb); (try clear hb2); (try clear hk); (try clear hi)))
                                  go_ret
                                  exact ⟨by first | rfl | (simp [errW_none, errW_some] <;> rfl) | (simp only [← hji3, ← hji38]; first | rfl | (simp [errW_none, errW_some] <;> rfl)) | (simp [*, errW_none, errW_some] <;> rfl), by repeat (first | (with_reducible first | exact HB.out | apply below_alloc | apply pw_below_drewN | apply below_drew1) | exact HB.out)⟩
                              · replace c43 := Bool.eq_false_iff.mpr c43
                                subst c43
                                have H1 : (some false) = some r := by rw [if_neg (show ¬ (false = true) by decide)] at H; exact H
                                clear H
                                have H := H1
                                clear H1
                                obtain rfl := Option.some.inj H
                                go_wp2_with (first | ((with_reducible refine gate_dst (N := 71) rfl ?_); (try (refine gate_guard (by rfl) ?_; dsimp only)); refine Kd.R_make (Kd.int .u8) _ 5 rfl (N := 71) rfl 23 _ _ rfl ji38 rfl rfl Try.underlying23 (.int .u8 0) 1 info5 rfl (by decide) (by omega) 0 (ok := fun _ => True) (okp := fun _ => True) rfl (fun _ hk => hk) trivial (of_decide_eq_true (by first | (with_reducible assumption) | assumption)) (Nat.le_trans (Nat.mul_le_mul_right _ (of_decide_eq_true (by first | (with_reducible assumption) | assumption) : ji38.toNat ≤ 281474976710656)) (by omega)) (Below.refl _ _) (Nat.le_refl _) ?_; intro v196 w104 ho105 hb hg_ hnew_; clear hg_ hnew_; (first | rw [← Ny195.out] at ho105 | (simp only [Int.reduceToNat] at ho105; rw [← Ny195.out] at ho105)); have n0_ := Aside0.mk (Kd.R_below (by (with_reducible repeat (first | apply Kd.R_alloc | apply Kd.R_drewN | apply Kd.R_drew)); exact HO_6.out) hb); have n1_ := Aside0.mk (Kd.S_below (by (with_reducible repeat (first | apply Kd.S_alloc | apply Kd.S_drewN | apply Kd.S_drew)); exact HO_9.out) hb); have n2_ := Aside0.mk (Kd.R_lower ho105 (below_size (by repeat (first | (with_reducible first | exact HB.out | apply below_alloc | apply pw_below_drewN | apply below_drew1) | exact HB.out)))); have n3_ := Aside0.mk (below_step (by repeat (first | (with_reducible first | exact HB.out | apply below_alloc | apply pw_below_drewN | apply below_drew1) | exact HB.out)) hb); clear HO_6; clear HO_9; clear HB; have HO_6 := n0_; have HO_9 := n1_; have HO197 := n2_; have HB := n3_; clear n0_ n1_ n2_ n3_; clear hb ho105; obtain ⟨Ao106, co106, eo106⟩ := Kd.R_slice HO_6.out; subst eo106; obtain ⟨Ao107, co107, eo107⟩ := Kd.R_slice HO197.out; subst eo107) | ((with_reducible refine gate_callee (f := 18) rfl ?_); refine goesL_ (some 72) rfl rfl Try.func18 (by kernel_rfl) rfl #[.slice Ao106 x6_5.length co106, .slice Ao107 y195.length co107] rfl (by (try simp only [List.map_toArray, List.map_cons, List.map_nil]); first | done | rfl | (simp only [List.length_drop, List.length_take]; rfl)) ?_; (with_reducible refine (arena_Cut.calls _ _ x6_5 _ _ y195 t198 t199 _ ?side1 ?side2 ?side3 ?side4 A41.out).mono ?_); (case side1 => repeat (first | exact (Kd.R_reads' HO_6.out).2.2 | (with_reducible refine Kd.C_alloc ?_ _) | (with_reducible refine Kd.C_drewN ?_ _) | (with_reducible refine Kd.C_drew ?_))); (case side2 => exact (Kd.R_reads' HO_6.out).2.1); (case side3 => repeat (first | exact (Kd.R_reads' HO197.out).2.2 | (with_reducible refine Kd.C_alloc ?_ _) | (with_reducible refine Kd.C_drewN ?_ _) | (with_reducible refine Kd.C_drew ?_))); (case side4 => exact (Kd.R_reads' HO197.out).2.1); rintro e w108 ⟨v200, rfl, ho0, hb⟩; refine ⟨_, rfl, ?_⟩; have n0_ := Aside0.mk (Kd.R_below (by (with_reducible repeat (first | apply Kd.R_alloc | apply Kd.R_drewN | apply Kd.R_drew)); exact HO_6.out) hb); have n1_ := Aside0.mk (Kd.S_elder' (by (with_reducible repeat (first | apply Kd.S_alloc | apply Kd.S_drewN | apply Kd.S_drew)); exact HO_9.out) (Kd.S_base ho0) hb); have n2_ := Aside0.mk (Kd.R_below (by (with_reducible repeat (first | apply Kd.R_alloc | apply Kd.R_drewN | apply Kd.R_drew)); exact HO197.out) hb); have n3_ := Aside0.mk (Kd.S_lower (Kd.S_new' ho0 (Kd.S_lt (by (with_reducible repeat (first | apply Kd.S_alloc | apply Kd.S_drewN | apply Kd.S_drew)); exact HO_9.out))) (below_size (by repeat (first | (with_reducible first | exact HB.out | apply below_alloc | apply pw_below_drewN | apply below_drew1) | exact HB.out)))); have n4_ := Aside0.mk (below_step (by repeat (first | (with_reducible first | exact HB.out | apply below_alloc | apply pw_below_drewN | apply below_drew1) | exact HB.out)) hb); clear HO_6; clear HO_9; clear HO197; clear HB; have HO_6 := n0_; have HO_9 := n1_; have HO197 := n2_; have HO201 := n3_; have HB := n4_; clear n0_ n1_ n2_ n3_ n4_; (try clear hb); (try clear hb2); (try clear hk); (try clear hi); (try clear ho0)) | ((with_reducible refine gate_callee (f := 12) rfl ?_); refine goesL_ (some 75) rfl rfl Try.func12 (by kernel_rfl) rfl #[] rfl (by (try simp only [List.map_toArray, List.map_cons, List.map_nil]); first | done | rfl | (simp only [List.length_drop, List.length_take]; rfl)) ?_; (with_reducible refine (scullerlaw07_known.calls  false _ A42.out).mono ?_); rintro e w109 ⟨rfl, hb⟩; refine ⟨_, rfl, ?_⟩; have n0_ := Aside0.mk (Kd.R_below (by (with_reducible repeat (first | apply Kd.R_alloc | apply Kd.R_drewN | apply Kd.R_drew)); exact HO_6.out) hb); have n1_ := Aside0.mk (Kd.S_below (by (with_reducible repeat (first | apply Kd.S_alloc | apply Kd.S_drewN | apply Kd.S_drew)); exact HO_9.out) hb); have n2_ := Aside0.mk (Kd.R_below (by (with_reducible repeat (first | apply Kd.R_alloc | apply Kd.R_drewN | apply Kd.R_drew)); exact HO197.out) hb); have n3_ := Aside0.mk (Kd.S_below (by (with_reducible repeat (first | apply Kd.S_alloc | apply Kd.S_drewN | apply Kd.S_drew)); exact HO201.out) hb); have n4_ := Aside0.mk (below_step (by repeat (first | (with_reducible first | exact HB.out | apply below_alloc | apply pw_below_drewN | apply below_drew1) | exact HB.out)) hb); clear HO_6; clear HO_9; clear HO197; clear HO201; clear HB; have HO_6 := n0_; have HO_9 := n1_; have HO197 := n2_; have HO201 := n3_; have HB := n4_; clear n0_ n1_ n2_ n3_ n4_; (try clear hb); (try clear hb2); (try clear hk); (try clear hi)))
                                go_ret
                                exact ⟨by first | rfl | (simp [errW_none, errW_some] <;> rfl) | (simp only [← hji3, ← hji38]; first | rfl | (simp [errW_none, errW_some] <;> rfl)) | (simp [*, errW_none, errW_some] <;> rfl), by repeat (first | (with_reducible first | exact HB.out | apply below_alloc | apply pw_below_drewN | apply below_drew1) | exact HB.out)⟩
                            · rw [if_neg c40] at H
                              exact absurd H (by simp)
                          · rw [if_neg c39] at H
                            exact absurd H (by simp)
    · rw [if_neg c5] at H
      exact absurd H (by simp)
  · rw [if_neg c4] at H
    exact absurd H (by simp)

/-- THE ONE PURE STATEMENT of scullerlaw07_ArenaMost: yours. -/
def scullerlaw07_ArenaMost.Pure : Prop := ∀ (a0 : Int) (a1 : Int), (Lit.int .u8 a0).wf = true → (Lit.int .u16 a1).wf = true → ∃ k, scullerlaw07_ArenaMost.f k a0 a1 = some true
theorem scullerlaw07_ArenaMost.walk (P : scullerlaw07_ArenaMost.Pure) (a0 : Int) (a1 : Int) (w : World) (w0 : (Lit.int .u8 a0).wf = true) (w1 : (Lit.int .u16 a1).wf = true) :
    Calls Try.prog 5 #[.int .u8 a0, .int .u16 a1] w fun e w' => e = .returned (.bool true) ∧ Below w.heap.size w w' := by
  obtain ⟨k, h⟩ := P a0 a1 w0 w1
  refine (scullerlaw07_ArenaMost.calls k a0 a1 true w h).mono ?_
  rintro e w' ⟨rfl, hd⟩
  exact ⟨rfl, hd⟩

end Go.Proofs.Ythlhnodedofibaa.F
end

section
/- The statements' own arenas: they fit, and what is cut from their bytes is they again. No program in sight. -/
namespace Go.Proofs.Ythlhnodedofibaa.H
set_option linter.unusedVariables false
set_option linter.unusedSimpArgs false
theorem flat8_take (s : List Int) (b : List Int) (hs : ∀ x ∈ s, u64B x = true) : segL s.length ((s.flatMap fun w => putL w 8) ++ b) = s := by
  induction s with
  | nil => rfl
  | cons x xs ih =>
    have hx := hs x (by simp)
    simp only [u64B, Bool.and_eq_true, decide_eq_true_eq] at hx
    have hl := putL_length x 8
    rw [List.length_cons, segL, List.flatMap_cons, List.append_assoc, List.take_append_of_le_length (by omega), List.take_of_length_le (by omega), getL_putL 8 x hx.1 (by omega),
      List.drop_append_of_le_length (by omega), List.drop_of_length_le (by omega), List.nil_append, ih (fun y hy => hs y (by simp [hy]))]
theorem cutWords_bytes (a : List (List Int)) (h : ∀ s ∈ a, ∀ x ∈ s, u64B x = true) (b : List Int) : cutWords (sizesL a) (bytesL a ++ b) = a := by
  induction a with
  | nil => rfl
  | cons s a ih =>
    rw [sizesL_cons, cutWords, bytesL_cons, List.append_assoc, Int.toNat_natCast, flat8_take s _ (h s (by simp)), ← flat8_length s, List.drop_append_of_le_length (by omega), List.drop_of_length_le (by omega), List.nil_append,
      ih (fun t ht => h t (by simp [ht]))]
theorem sizesL_sum (a : List (List Int)) : (sizesL a).sum = (wordsL a : Int) := by
  induction a with
  | nil => rfl
  | cons s a ih => rw [sizesL_cons, List.sum_cons, ih, wordsL_cons]; omega
theorem cutL_bytes (a : List (List Int)) (hf : fitsB (sizesL a) = true) (h : ∀ s ∈ a, ∀ x ∈ s, u64B x = true) : cutL (sizesL a) (bytesL a) = (a, 0) := by
  unfold cutL
  rw [if_pos hf, if_pos (by rw [bytesL_length, sizesL_sum]; omega)]
  have := cutWords_bytes a h []
  rw [List.append_nil] at this
  rw [this]
theorem sizesL_nonneg (a : List (List Int)) : ∀ x ∈ sizesL a, 0 ≤ x := by
  intro x hx
  simp only [sizesL, List.mem_map] at hx
  obtain ⟨s, _, rfl⟩ := hx
  omega
theorem fitsB_of {l : List Int} (h1 : 1 ≤ l.length) (h2 : l.length ≤ 16) (h3 : 1 ≤ l.getD 0 0) (h4 : ∀ x ∈ l, 0 ≤ x) (h5 : l.sum ≤ 4096) : fitsB l = true := by
  have : l.all (fun x => decide (0 ≤ x)) = true := List.all_eq_true.2 fun x hx => by simpa using h4 x hx
  simp only [fitsB, restB, Bool.and_eq_true, decide_eq_true_eq]
  exact ⟨⟨⟨h1, h2⟩, h3⟩, this, by omega⟩
theorem arenaC_length (c : List Int) : ∀ m i k, (arenaC c m i k).length = m
  | 0, _, _ => rfl
  | m + 1, i, k => by simp [arenaC, arenaC_length c m]
theorem arenaC_words (c : List Int) : ∀ m i k, wordsL (arenaC c m i k) ≤ 12 * m
  | 0, _, _ => by simp [arenaC, wordsL]
  | m + 1, i, k => by
    have := arenaC_words c m (i + 1) (k + sizeC c i)
    have := sizeC_le c i
    rw [arenaC, wordsL_cons, segC_length]; omega
theorem wordC_u64 {c : List Int} (hc : bytesB c = true) (k : Nat) (hk : k ≤ 1000000000) : u64B (wordC c k) = true := by
  have h : 0 ≤ c.getD (k % c.length) 0 ∧ c.getD (k % c.length) 0 ≤ 255 := by
    by_cases hl : k % c.length < c.length
    · rw [List.getD_eq_getElem?_getD, List.getElem?_eq_getElem hl]; exact bytesB_at hc _ (List.getElem_mem hl)
    · rw [List.getD_eq_getElem?_getD, List.getElem?_eq_none (by omega)]; simp
  have e : u64B (wordC c k) = (decide (0 ≤ wordC c k) && decide (wordC c k < 18446744073709551616)) := rfl
  rw [e, wordC, decide_eq_true (by omega), decide_eq_true (by omega)]
  rfl
theorem arenaC_u64 {c : List Int} (hc : bytesB c = true) : ∀ m i k, k + 12 * m ≤ 1000000000 → ∀ s ∈ arenaC c m i k, ∀ x ∈ s, u64B x = true
  | 0, _, _, _ => by simp [arenaC]
  | m + 1, i, k, hk => by
    have hz := sizeC_le c i
    have := arenaC_u64 hc m (i + 1) (k + sizeC c i) (by omega)
    intro s hs
    rw [arenaC, List.mem_cons] at hs
    rcases hs with rfl | hs
    · intro x hx
      simp only [segC, List.mem_map, List.mem_range] at hx
      obtain ⟨j, hj, rfl⟩ := hx
      exact wordC_u64 hc _ (by omega)
    · exact this s hs
theorem arenaL_length (c : List Int) {n : Int} (h0 : 0 ≤ n) : 1 ≤ (arenaL c n).length ∧ (arenaL c n).length ≤ 5 := by
  unfold arenaL; rw [arenaC_length]; omega
theorem arenaL_words (c : List Int) {n : Int} (h0 : 0 ≤ n) : wordsL (arenaL c n) ≤ 60 := by
  have := arenaC_words c (1 + (n % 5)).toNat 0 0
  unfold arenaL; omega
theorem arenaL_u64 {c : List Int} (hc : bytesB c = true) {n : Int} (h0 : 0 ≤ n) : ∀ s ∈ arenaL c n, ∀ x ∈ s, u64B x = true :=
  arenaC_u64 hc _ _ _ (by omega)
theorem arenaL_first (c : List Int) {n : Int} (h0 : 0 ≤ n) : 1 ≤ (sizesL (arenaL c n)).getD 0 0 := by
  unfold arenaL
  rw [show (1 + (n % 5)).toNat = (n % 5).toNat + 1 from by omega, arenaC, sizesL_cons, segC_length]
  have := sizeC_pos c
  simp; omega
theorem arenaL_fits (c : List Int) {n : Int} (h0 : 0 ≤ n) : fitsB (sizesL (arenaL c n)) = true := by
  have h1 := arenaL_length c h0
  have h2 := arenaL_words c h0
  exact fitsB_of (by rw [sizesL_length]; omega) (by rw [sizesL_length]; omega) (arenaL_first c h0) (sizesL_nonneg _) (by rw [sizesL_sum]; omega)
theorem arenaL_cut {c : List Int} (hc : bytesB c = true) {n : Int} (h0 : 0 ≤ n) : cutL (sizesL (arenaL c n)) (bytesL (arenaL c n)) = (arenaL c n, 0) :=
  cutL_bytes _ (arenaL_fits c h0) (arenaL_u64 hc h0)
theorem mem_wordsL {a : List (List Int)} {s : List Int} (h : s ∈ a) : s.length ≤ wordsL a := by
  induction a with
  | nil => simp at h
  | cons t a ih =>
    rw [wordsL_cons]
    rcases List.mem_cons.1 h with rfl | h
    · omega
    · have := ih h; omega
theorem arenaL_small (c : List Int) {n : Int} (h0 : 0 ≤ n) : smallA (arenaL c n) = true := by
  have h1 := arenaL_length c h0
  have h2 := arenaL_words c h0
  simp only [smallA, Bool.and_eq_true, decide_eq_true_eq, List.all_eq_true]
  exact ⟨by omega, fun s hs => by have := mem_wordsL hs; omega⟩
theorem okA_of {a : List (List Int)} (h1 : a.length ≤ 1000000) (h2 : wordsL a ≤ 1000000) (h3 : ∀ s ∈ a, ∀ x ∈ s, u64B x = true) : okA a = true := by
  simp only [okA, Bool.and_eq_true, decide_eq_true_eq, List.all_eq_true]
  exact ⟨⟨h1, h2⟩, h3⟩
theorem arenaL_ok {c : List Int} (hc : bytesB c = true) {n : Int} (h0 : 0 ≤ n) : okA (arenaL c n) = true :=
  okA_of (by have := arenaL_length c h0; omega) (by have := arenaL_words c h0; omega) (arenaL_u64 hc h0)
theorem cutWords_u64 : ∀ (s b : List Int), bytesB b = true → ∀ t ∈ cutWords s b, ∀ x ∈ t, u64B x = true
  | [], _, _ => by simp [cutWords]
  | n :: ss, b, hb => by
    have hseg : ∀ (m : Nat) (b : List Int), bytesB b = true → ∀ x ∈ segL m b, u64B x = true := by
      intro m
      induction m with
      | zero => intro b _ x hx; simp [segL] at hx
      | succ m ih =>
        intro b hb x hx
        rw [segL, List.mem_cons] at hx
        rcases hx with rfl | hx
        · have := getL_bound 8 (b.take 8) (by simp; omega) (bytesB_at (bytesB_take hb 8))
          simp only [u64B, Bool.and_eq_true, decide_eq_true_eq]; omega
        · exact ih _ (bytesB_drop hb 8) x hx
    intro t ht
    rw [cutWords, List.mem_cons] at ht
    rcases ht with rfl | ht
    · exact hseg _ _ hb
    · exact cutWords_u64 ss _ (bytesB_drop hb _) t ht
end Go.Proofs.Ythlhnodedofibaa.H
end

section
/- Plain facts that several laws of the arena layer need. -/
namespace Go.Proofs.Ythlhnodedofibaa.Pure
open Go.RowKit Go.Proofs.Ythlhnodedofibaa.F Go.Proofs.Ythlhnodedofibaa.H
theorem known07 : scullerlaw07_known.f = some true := by decide +kernel
theorem byte_wf {x : Int} (h : (Lit.int .u8 x).wf = true) : 0 ≤ x ∧ x ≤ 255 := by
  simp [Lit.wf, IntKind.min, IntKind.max, IntKind.signed, IntKind.bits] at h
  omega
theorem bytes_wf {l : List Int} (h : ∀ x ∈ l, (Lit.int .u8 x).wf = true) : bytesB l = true := bytesB_of fun x hx => byte_wf (h x hx)
end Go.Proofs.Ythlhnodedofibaa.Pure
end

section
/- What fits an arena and what does not. -/
namespace Go.Proofs.Ythlhnodedofibaa.Pure
open Go.RowKit Go.Proofs.Ythlhnodedofibaa.F Go.Proofs.Ythlhnodedofibaa.H Go.Proofs.YthlhnodedofibaaW.PrintWords Go.Proofs.YthlhnodedofibaaW.PrintLast
def zerosL (s : List Int) : List (List Int) := s.map fun x => List.replicate x.toNat 0
theorem zerosL_length (s : List Int) : (zerosL s).length = s.length := by simp [zerosL]
theorem sizesL_zeros (s : List Int) (h : ∀ x ∈ s, 0 ≤ x) : sizesL (zerosL s) = s := by
  induction s with
  | nil => rfl
  | cons x s ih =>
    have := h x (by simp)
    rw [zerosL, List.map_cons, sizesL_cons, ← zerosL, ih (fun y hy => h y (by simp [hy])), List.length_replicate, Int.toNat_of_nonneg this]
/-- What the sizes of this statement are. -/
structure Most (s : List Int) : Prop where
  len : s.length < 20
  pos : ∀ x ∈ s, 0 ≤ x
  sum : s.sum ≤ 6000
  first : 1 ≤ s.length → 1 ≤ s.getD 0 0
theorem most_j3 (s : List Int) (hs : Most s) (b : Bool) (hb : b = fitsB s) : scullerlaw07_ArenaMost.j3 1 s s.sum (zerosL s) b = some true := by
  have h0 := sum_nonneg' hs.pos
  have h1 := hs.sum
  have h2 := hs.len
  have e : wrap64 (8 * s.sum) = 8 * s.sum := by unfold wrap64; omega
  have hby : bytesB (List.replicate (8 * s.sum).toNat 0) = true := bytesB_of fun c hc => by rw [(List.mem_replicate.1 hc).2]; omega
  have hcut : cutL s (List.replicate (8 * s.sum).toNat 0) = if fitsB s = true then (cutWords s (List.replicate (8 * s.sum).toNat 0), 0) else ([], 1) := by
    unfold cutL
    rw [List.length_replicate, Int.toNat_of_nonneg (by omega), if_pos rfl]
  have hz := sizesL_zeros s hs.pos
  rw [scullerlaw07_ArenaMost.j3, e, if_pos (by omega), if_pos (by omega), arena_Cut.f, if_pos ⟨hby, by rw [List.length_replicate]; omega⟩, Option.bind_some, known07, Option.bind_some, if_pos rfl, arena_Fits_c.f, Option.bind_some, ← hb, if_pos (by simp),
    arena_Right_c.f, if_pos (by rw [zerosL_length]; omega), Option.bind_some, rightB, hz, ← hb, if_pos (by simp), hcut, ← hb, if_pos (by cases b <;> rfl), arena_Sizes_c.f, if_pos (by rw [zerosL_length]; omega), Option.bind_some, hz,
    scullerref07_SameInts_c.f, if_pos (by omega), Option.bind_some, if_pos (by simp), arena_Fits_c.f, Option.bind_some]
  rfl
theorem most_l1 (s : List Int) (hs : Most s) : ∀ (d i : Nat), s.length - i = d → i ≤ s.length → ∃ k, scullerlaw07_ArenaMost.l1 k s.length s s.sum (zerosL (s.take i)) i = some true
  | 0, i, hd, hi => by
    have h0 := sum_nonneg' hs.pos
    have hfit : ∀ b, b = (decide (1 ≤ s.length) && decide (s.length ≤ 16) && decide (s.sum ≤ 4096)) → b = fitsB s := by
      intro b hb
      have ha : s.all (fun x => decide (0 ≤ x)) = true := List.all_eq_true.2 fun x hx => by simpa using hs.pos x hx
      rw [hb, fitsB, restB, ha, Bool.true_and, Int.zero_add]
      by_cases h1 : 1 ≤ s.length
      · rw [decide_eq_true (hs.first h1), Bool.and_true]
      · rw [decide_eq_false h1]; simp
    obtain rfl : i = s.length := by omega
    refine ⟨2, ?_⟩
    rw [scullerlaw07_ArenaMost.l1, if_neg (by omega), List.take_length]
    split
    · split
      · rw [most_j3 s hs]
        apply hfit
        rw [decide_eq_true (show 1 ≤ s.length by omega), decide_eq_true (show s.length ≤ 16 by omega)]
        simp
      · rw [most_j3 s hs]
        apply hfit
        rw [decide_eq_false (show ¬ s.length ≤ 16 by omega)]
        simp
    · rw [most_j3 s hs]
      apply hfit
      rw [decide_eq_false (show ¬ 1 ≤ s.length by omega)]
      simp
  | d + 1, i, hd, hi => by
    have hlt : i < s.length := by omega
    obtain ⟨k, hk⟩ := most_l1 s hs d (i + 1) (by omega) (by omega)
    refine ⟨k + 1, ?_⟩
    have hlen := hs.len
    have hr : rd s (i : Int) = s[i]'hlt := getD_toNat s 0 i hlt
    have h0 := hs.pos _ (List.getElem_mem hlt)
    have h1 := mem_le_sum hs.pos i hlt
    have h2 := hs.sum
    rw [take_at s i hlt, zerosL, List.map_append, ← zerosL, List.map_singleton] at hk
    rw [scullerlaw07_ArenaMost.l1, if_pos (by omega), if_pos (by omega), if_pos (by omega), hr, if_pos h0, if_pos (by omega), if_pos (by rw [zerosL_length, List.length_take]; omega), show wrap64 ((i : Int) + 1) = ((i + 1 : Nat) : Int) from by unfold wrap64; omega]
    exact hk
theorem most_l0 (s : List Int) (hs : Most s) : ∀ (d i : Nat), s.length - i = d → i ≤ s.length → ∃ k, scullerlaw07_ArenaMost.l0 k s.length s (s.take i).sum i = some true
  | 0, i, hd, hi => by
    obtain ⟨k, hk⟩ := most_l1 s hs s.length 0 (by omega) (by omega)
    obtain rfl : i = s.length := by omega
    refine ⟨k + 1, ?_⟩
    rw [scullerlaw07_ArenaMost.l0, if_neg (by omega), List.take_length]
    exact hk
  | d + 1, i, hd, hi => by
    have hlt : i < s.length := by omega
    obtain ⟨k, hk⟩ := most_l0 s hs d (i + 1) (by omega) (by omega)
    refine ⟨k + 1, ?_⟩
    have hlen := hs.len
    have hr : rd s (i : Int) = s[i]'hlt := getD_toNat s 0 i hlt
    have h0 := hs.pos _ (List.getElem_mem hlt)
    have h1 := mem_le_sum hs.pos i hlt
    have h2 := hs.sum
    have h3 := sum_take_le hs.pos i
    have h4 := sum_nonneg' (l := s.take i) (fun y hy => hs.pos y (List.mem_of_mem_take hy))
    rw [sum_take_succ s i hlt] at hk
    rw [scullerlaw07_ArenaMost.l0, if_pos (by omega), if_pos (by omega), if_pos (by omega), hr, show wrap64 ((i : Int) + 1) = ((i + 1 : Nat) : Int) from by unfold wrap64; omega, show wrap64 ((s.take i).sum + s[i]'hlt) = (s.take i).sum + s[i]'hlt from by unfold wrap64; omega]
    exact hk
theorem most_j0 (s : List Int) (hs : Most s) (n : Int) (hn : n = s.length) : ∃ k, scullerlaw07_ArenaMost.j0 k n s = some true := by
  obtain ⟨k, hk⟩ := most_l0 s hs s.length 0 (by omega) (by omega)
  refine ⟨k + 1, ?_⟩
  rw [scullerlaw07_ArenaMost.j0, hn]
  exact hk
theorem sum_replicate0 (m : Nat) : (List.replicate m (0 : Int)).sum = 0 := by
  induction m with
  | zero => rfl
  | succ m ih => rw [List.replicate_succ, List.sum_cons, ih]; rfl
theorem ArenaMost : scullerlaw07_ArenaMost.Pure := by
  intro a0 a1 h0 h1
  have hn := byte_wf h0
  have hm : 0 ≤ a1 ∧ a1 ≤ 65535 := by
    simp [Lit.wf, IntKind.min, IntKind.max, IntKind.signed, IntKind.bits] at h1
    omega
  obtain ⟨n, hn1, en⟩ : ∃ n : Nat, n < 20 ∧ wrap64 (Int.tmod a0 20) = n := ⟨(a0 % 20).toNat, by omega, by rw [Int.tmod_eq_emod_of_nonneg hn.1]; unfold wrap64; omega⟩
  obtain ⟨m, hm1, em⟩ : ∃ m : Nat, m < 5000 ∧ Int.tmod (wrap64 a1) 5000 = m := ⟨(a1 % 5000).toNat, by omega, by rw [show wrap64 a1 = a1 from by unfold wrap64; omega, Int.tmod_eq_emod_of_nonneg hm.1]; omega⟩
  match n with
  | 0 =>
    obtain ⟨k, hk⟩ := most_j0 [] ⟨by simp, by simp, by simp, by simp⟩ 0 rfl
    refine ⟨k, ?_⟩
    rw [scullerlaw07_ArenaMost.f, en, if_pos (by omega), if_pos (by omega), Option.bind_some, if_neg (by omega)]
    exact hk
  | 1 =>
    have key : ∀ x : Int, x = 1 + m → Most [x] := fun x hx => ⟨by simp, by intro y hy; simp at hy; omega, by simp; omega, by simp; omega⟩
    obtain ⟨k, hk⟩ := most_j0 [1 + (m : Int)] (key _ rfl) 1 rfl
    refine ⟨k, ?_⟩
    rw [scullerlaw07_ArenaMost.f, en, em, if_pos (by omega), if_pos (by omega), Option.bind_some, if_pos (by omega), if_pos (by simp), Option.bind_some, show wrap64 (((1 : Nat) : Int) - 1) = 0 from by unfold wrap64; omega, if_pos (by omega), if_pos (by simp)]
    have e : wrap64 (rd ((List.replicate ((1 : Nat) : Int).toNat 0).set (0 : Int).toNat 1) 0 + (m : Int)) = 1 + m := by
      show wrap64 (1 + (m : Int)) = 1 + m
      unfold wrap64; omega
    rw [e]
    exact hk
  | n + 2 =>
    have hl : (((1 : Int) :: List.replicate n 0 ++ [(m : Int)])).length = n + 2 := by simp
    have hs : Most ((1 : Int) :: List.replicate n 0 ++ [(m : Int)]) := by
      refine ⟨by rw [hl]; omega, ?_, ?_, by simp⟩
      · intro x hx
        simp only [List.cons_append, List.mem_cons, List.mem_append, List.mem_replicate, List.not_mem_nil, or_false] at hx
        omega
      · rw [List.sum_append, List.sum_cons, sum_replicate0]; simp; omega
    obtain ⟨k, hk⟩ := most_j0 _ hs ((n + 2 : Nat) : Int) (by rw [hl])
    refine ⟨k, ?_⟩
    have e1 : wrap64 (((n + 2 : Nat) : Int) - 1) = ((n + 1 : Nat) : Int) := by unfold wrap64; omega
    rw [scullerlaw07_ArenaMost.f, en, em, if_pos (by omega), if_pos (by omega), Option.bind_some, if_pos (by omega), if_pos (by simp; omega), Option.bind_some, e1, if_pos (by omega), if_pos (by simp; omega)]
    have e2 : (List.replicate ((n + 2 : Nat) : Int).toNat (0 : Int)).set (0 : Int).toNat 1 = 1 :: List.replicate n 0 ++ [0] := by
      show (List.replicate (n + 2) (0 : Int)).set 0 1 = _
      rw [List.replicate_succ, List.set_cons_zero, List.replicate_succ', List.cons_append]
    have e3 : rd ((1 : Int) :: List.replicate n 0 ++ [0]) ((n + 1 : Nat) : Int) = 0 := by
      unfold rd
      rw [Int.toNat_natCast, List.getD_eq_getElem?_getD, List.getElem?_append_right (by simp)]
      simp
    have e4 : ((1 : Int) :: List.replicate n 0 ++ [0]).set (((n + 1 : Nat) : Int)).toNat (m : Int) = 1 :: List.replicate n 0 ++ [(m : Int)] := by
      rw [Int.toNat_natCast, List.set_append_right _ _ (by simp)]
      simp
    rw [e2, e3, show wrap64 (0 + (m : Int)) = m from by unfold wrap64; omega, e4]
    exact hk
end Go.Proofs.Ythlhnodedofibaa.Pure
end
