/- Proved: at every input in bounds the statement TokenCut of the token layer answers yes: cut off, even with a sum of its own, a token is none; nor is it with a segment more.
Text 4 of 5; functions told as plain ones, with the contracts of their calls. -/
import Derived.Test.YtbijnfhcbanhdaaQTokenCut1
import Derived.Test.YtbijnfhcbanhdaaQTokenCut3
import Derived.Test.YtbijnfhcbanhdaaQTokenCut2
section
namespace Go.Proofs.Ytbijnfhcbanhdaa.F
open Go.RowKit Go.Proofs.YtbijnfhcbanhdaaW.PrintWords Go.Proofs.YtbijnfhcbanhdaaW.PrintLast Go.Proofs.YtbijnfhcbanhdaaW.PrintMore
attribute [local go_sem] max2_int min2_int max_two min_two max_three min_three max_four min_four   -- for this text's walks alone
set_option linter.unusedVariables false
set_option linter.unusedSimpArgs false

/-! ### scullerlaw12_Arena: function 37 -/
mutual
def scullerlaw12_Arena.l0 : Nat → Int → Int → List (List Int) → Int → Option ((List (List Int)))
 | 0, _, _, _, _ => none
 | k + 1, x1, x2, x7, x8 => if x8 < (wrap64 (Int.tmod x2 40)) then (if 0 ≤ (wrap64 ((x7.length : Int) - 1)) then (if (wrap64 ((x7.length : Int) - 1)) < (x7.length : Int) then (if (rd_L8 x7 (wrap64 ((x7.length : Int) - 1))).length < 17592186044416 then (scullerlaw12_Arena.l0 k x1 x2 (x7.set ((wrap64 ((x7.length : Int) - 1)) : Int).toNat ((rd_L8 x7 (wrap64 ((x7.length : Int) - 1))) ++ [IntKind.u64.wrap ((IntKind.u64.wrap (x8)) * (IntKind.u64.wrap (x1)))])) (wrap64 (x8 + 1))) else (none)) else (none)) else (none)) else (scullerlaw12_Arena.l1 k x2 x7 0)
def scullerlaw12_Arena.l1 : Nat → Int → List (List Int) → Int → Option ((List (List Int)))
 | 0, _, _, _ => none
 | k + 1, x2, x7, x9 => if x9 < (wrap64 (Int.tmod x2 7)) then (if 0 ≤ x9 then (if (x9 : Int).toNat ≤ 35184372088832 then (if x7.length < 5864062014805 then (scullerlaw12_Arena.l1 k x2 (x7 ++ [(List.replicate (x9 : Int).toNat 0)]) (wrap64 (x9 + 1))) else (none)) else (none)) else (none)) else (some x7)
end
def scullerlaw12_Arena.f (k : Nat) (l0 : List Int) (a1 : Int) (a2 : Int) : Option ((List (List Int))) := (scullerlaw07_Arena_c.f l0 a1).bind fun t101 => (scullerlaw12_Arena.l0 k a1 a2 t101 0)
theorem scullerlaw12_Arena.mono_l : ∀ k, (∀ y0 y1 y2 y3, LeO (scullerlaw12_Arena.l0 k y0 y1 y2 y3) (scullerlaw12_Arena.l0 (k + 1) y0 y1 y2 y3)) ∧ (∀ y0 y1 y2, LeO (scullerlaw12_Arena.l1 k y0 y1 y2) (scullerlaw12_Arena.l1 (k + 1) y0 y1 y2))
 | 0 => ⟨fun _ _ _ _ r h => by simp [scullerlaw12_Arena.l0] at h, fun _ _ _ r h => by simp [scullerlaw12_Arena.l1] at h⟩
 | k + 1 => by
   obtain ⟨ih0, ih1⟩ := scullerlaw12_Arena.mono_l k
   refine ⟨?_, ?_⟩
   · intro y0 y1 y2 y3
     unfold scullerlaw12_Arena.l0
     repeat' first
     | (with_reducible exact ih0 _ _ _ _)
     | (with_reducible exact ih1 _ _ _)
     | (with_reducible exact LeO.refl _)
     | (with_reducible exact LeO.none _)
     | (with_reducible refine LeO.ite ?_ ?_)
     | (with_reducible refine LeO.bind ?_ (fun _ => ?_))
     | exact ih0 _ _ _ _
     | exact ih1 _ _ _
     | exact LeO.none _
     | refine LeO.ite ?_ ?_
     | refine LeO.bind ?_ (fun _ => ?_)
   · intro y0 y1 y2
     unfold scullerlaw12_Arena.l1
     repeat' first
     | (with_reducible exact ih0 _ _ _ _)
     | (with_reducible exact ih1 _ _ _)
     | (with_reducible exact LeO.refl _)
     | (with_reducible exact LeO.none _)
     | (with_reducible refine LeO.ite ?_ ?_)
     | (with_reducible refine LeO.bind ?_ (fun _ => ?_))
     | exact ih0 _ _ _ _
     | exact ih1 _ _ _
     | exact LeO.none _
     | refine LeO.ite ?_ ?_
     | refine LeO.bind ?_ (fun _ => ?_)
theorem scullerlaw12_Arena.mono : ∀ a0 a1 a2 k, LeO (scullerlaw12_Arena.f k a0 a1 a2) (scullerlaw12_Arena.f (k + 1) a0 a1 a2) := by
 intro a0 a1 a2 k
 obtain ⟨ih0, ih1⟩ := scullerlaw12_Arena.mono_l k
 unfold scullerlaw12_Arena.f
 repeat' first
  | (with_reducible exact ih0 _ _ _ _)
  | (with_reducible exact ih1 _ _ _)
  | (with_reducible exact LeO.refl _)
  | (with_reducible exact LeO.none _)
  | (with_reducible refine LeO.ite ?_ ?_)
  | (with_reducible refine LeO.bind ?_ (fun _ => ?_))
  | exact ih0 _ _ _ _
  | exact ih1 _ _ _
  | exact LeO.none _
  | refine LeO.ite ?_ ?_
  | refine LeO.bind ?_ (fun _ => ?_)
set_option maxHeartbeats 8000000 in
set_option maxRecDepth 100000 in
theorem scullerlaw12_Arena.calls (k : Nat) (A0 : Option Addr) (c0 : Nat) (l0 : List Int) (a1 : Int) (a2 : Int) (r : List (List Int)) (w : World) (hr0 : Kd.C (Kd.int .u8) w A0 l0.length l0) (hc0 : l0.length ≤ c0) (h : scullerlaw12_Arena.f k l0 a1 a2 = some r) :
 Calls Try.prog 37 #[.slice A0 l0.length c0, .int .u8 a1, .int .u8 a2] w fun e w' => ∃ v0_ : Value, e = .returned (v0_) ∧ Kd.S (Kd.slice 22 (Kd.int .u64)) 123 w' w.heap.size (fun _ => True) v0_ r ∧ Below w.heap.size w w' := by
 have HR0 := Aside0.mk hr0
 have HC0 := Aside0.mk hc0
 clear hr0 hc0
 have HB := Aside0.mk (Below.refl w.heap.size w)
 have H : ((scullerlaw07_Arena_c.f l0 a1).bind fun t101 => (scullerlaw12_Arena.l0 k a1 a2 t101 0)) = some r := h
 clear h
 replace H := Option.bind_eq_some_iff.mp H
 obtain ⟨t101, A40, H⟩ := H
 replace H : (scullerlaw12_Arena.l0 k a1 a2 t101 0) = some r := H
 have A4 := Aside0.mk A40
 clear A40
 have H' := Aside0.mk H
 clear H
 go_enter Try.func37, Try.ntmps37
 go_wp2_with (first | ((with_reducible refine gate_callee (f := 74) rfl ?_); refine goesL_ (some 12) rfl rfl Try.func74 (by kernel_rfl) rfl #[.slice A0 l0.length c0, .int .u8 a1] rfl (by (try simp only [List.map_toArray, List.map_cons, List.map_nil]); first | done | rfl | (simp only [List.length_drop, List.length_take]; rfl)) ?_; (with_reducible refine (scullerlaw07_Arena_c.calls _ _ l0 a1 t101 _ ?side1 ?side2 A4.out).mono ?_); (case side1 => repeat (first | exact HR0.out | (with_reducible refine Kd.C_alloc ?_ _) | (with_reducible refine Kd.C_drewN ?_ _) | (with_reducible refine Kd.C_drew ?_))); (case side2 => exact HC0.out); rintro e w5 ⟨v102, rfl, ho0, hb⟩; refine ⟨_, rfl, ?_⟩; have n0_ := Aside0.mk (Kd.S_lower ho0 (below_size (by repeat (first | (with_reducible first | exact HB.out | apply below_alloc | apply pw_below_drewN | apply below_drew1) | exact HB.out)))); have n1_ := Aside0.mk (below_step (by repeat (first | (with_reducible first | exact HB.out | apply below_alloc | apply pw_below_drewN | apply below_drew1) | exact HB.out)) hb); clear HB; have HO103 := n0_; have HB := n1_; clear n0_ n1_; (try clear hb); (try clear hb2); (try clear hk); (try clear hi); (try clear ho0)))
 go_loopg [8] k (fun kq v8 w' => ∃ (x7_1 : List (List Int)) (x8_1 : Int), v8 = .int .i64 x8_1 ∧ Aside0 (scullerlaw12_Arena.l0 kq a1 a2 x7_1 x8_1 = some r) ∧ Aside0 (kq ≤ k) ∧ Aside0 (Kd.S (Kd.slice 22 (Kd.int .u64)) 123 w' w.heap.size (fun _ => True) v102 x7_1) ∧ Aside0 (Below w.heap.size w w'))
 case atStart => exact ⟨(t101), (0), (by first | rfl | (simp; done) | (simp [*]; done)), H', ⟨Nat.le_refl _⟩, ⟨by (with_reducible repeat (first | apply Kd.S_alloc | apply Kd.S_drewN | apply Kd.S_drew)); exact HO103.out⟩, ⟨by repeat (first | (with_reducible first | exact HB.out | apply below_alloc | apply pw_below_drewN | apply below_drew1) | exact HB.out)⟩⟩
 case round =>
  clear H'
  try clear p2
  try clear c3
  obtain ⟨x7_1, x8_1, rfl, HA, HK1, HO_7, HB⟩ := hrel
  cases gk with
  | zero => exact absurd HA.out (by simp [scullerlaw12_Arena.l0])
  | succ k1 =>
    have H := HA.out
    clear HA
    simp only [scullerlaw12_Arena.l0] at H
    by_cases c6 : x8_1 < (wrap64 (Int.tmod a2 40))
    · rw [if_pos c6] at H
      have c6b0 : decide (x8_1 < (wrap64 (Int.tmod a2 40))) = true := decide_eq_true c6
      clear c6
      obtain ⟨ji7, hji7⟩ : ∃ j_ : Int, (wrap64 ((x7_1.length : Int) - 1)) = j_ := ⟨_, rfl⟩
      replace H : (if 0 ≤ (ji7) then (if (ji7) < (x7_1.length : Int) then (if (rd_L8 x7_1 (ji7)).length < 17592186044416 then (scullerlaw12_Arena.l0 k1 a1 a2 (x7_1.set ((ji7) : Int).toNat ((rd_L8 x7_1 (ji7)) ++ [IntKind.u64.wrap ((IntKind.u64.wrap (x8_1)) * (IntKind.u64.wrap (a1)))])) (wrap64 (x8_1 + 1))) else (none)) else (none)) else (none)) = some r := by first | (rw [hji7] at H; exact H) | (simp only [hji7] at H ⊢; exact H)
      have hji7w : (IntKind.i64.wrap ((x7_1.length : Int) - 1)) = ji7 := (i64_w _).trans hji7
      by_cases c8 : 0 ≤ (ji7)
      · rw [if_pos c8] at H
        have c8b0 : decide (0 ≤ (ji7)) = true := decide_eq_true c8
        clear c8
        by_cases c9 : (ji7) < (x7_1.length : Int)
        · rw [if_pos c9] at H
          have c9b0 : decide ((ji7) < (x7_1.length : Int)) = true := decide_eq_true c9
          clear c9
          by_cases c10 : (rd_L8 x7_1 (ji7)).length < 17592186044416
          · rw [if_pos c10] at H
            have LMc10 := Aside0.mk c10
            clear c10
            obtain ⟨y105, hy105⟩ : ∃ y_ : List Int, y_ = ((rd_L8 x7_1 (ji7)) ++ [IntKind.u64.wrap ((IntKind.u64.wrap (x8_1)) * (IntKind.u64.wrap (a1)))]) := ⟨_, rfl⟩
            replace H : (scullerlaw12_Arena.l0 k1 a1 a2 (x7_1.set ((ji7) : Int).toNat y105) (wrap64 (x8_1 + 1))) = some r := by first | (rw [hy105]; with_reducible exact H) | (have H2_ := (Option.bind_some _ _).symm.trans H; rw [hy105]; with_reducible exact H2_) | (have H2_ := (Option.bind_some _ _).symm.trans H; with_reducible exact H2_) | with_reducible exact H | (rw [hy105]; exact H) | exact H
            have Ny105 := Aside0.mk hy105
            clear hy105
            obtain ⟨y108, hy108⟩ : ∃ y_ : List (List Int), y_ = (x7_1.set ((ji7) : Int).toNat y105) := ⟨_, rfl⟩
            replace H : (scullerlaw12_Arena.l0 k1 a1 a2 y108 (wrap64 (x8_1 + 1))) = some r := by first | (rw [hy108]; with_reducible exact H) | (have H2_ := (Option.bind_some _ _).symm.trans H; rw [hy108]; with_reducible exact H2_) | (have H2_ := (Option.bind_some _ _).symm.trans H; with_reducible exact H2_) | with_reducible exact H | (rw [hy108]; exact H) | exact H
            have Ny108 := Aside0.mk hy108
            clear hy108
            have H' := Aside0.mk H
            clear H
            obtain ⟨Ao12, co12, eo12⟩ := Kd.S_slice HO_7.out
            subst eo12
            have p104 : 0 ≤ ((ji7) : Int) := of_decide_eq_true (by first | (with_reducible assumption) | assumption)
            have q104 : (ji7) < (x7_1.length : Int) := of_decide_eq_true (by first | (with_reducible assumption) | assumption)
            obtain ⟨ad104, A104_0, c104_0, e104, hx104_0, hl104_0, hi104_0⟩ := at_L8 (Kd.S_reads' HO_7.out).2.2 (ji7) p104 q104
            cases e104
            obtain ⟨ce104, hce104, hMe104, hcc104⟩ := Kd.S_get HO_7.out [] (ji7) p104 (by first | exact q104 | exact of_decide_eq_true (by first | (with_reducible assumption) | assumption) | (have e_ := (Kd.S_reads' HO_7.out).1; omega))
            obtain ⟨ve104_0, rfl, ge104_0⟩ := hMe104
            have hv104_0 := hcc104 0 _ rfl
            rw [Nat.add_zero, show ((Kd.slice 22 (Kd.int .u64))).sz = 1 from rfl, Nat.mul_one] at hv104_0
            replace hv104_0 := Option.some.inj (hv104_0.symm.trans hx104_0)
            rw [hv104_0] at ge104_0
            have HL104_0 := Aside0.mk (show Kd.R (Kd.int .u64) 22 _ _ _ _ (rd_L8 x7_1 (ji7)) from ge104_0)
            clear hv104_0 ge104_0
            have HX104_0 := Aside0.mk hx104_0
            clear hcc104 hce104
            have HR104_0 := Aside0.mk hi104_0
            have HC104_0 := Aside0.mk hl104_0
            clear hi104_0 hl104_0
            replace p104 := eq_true p104
            replace q104 := eq_true q104
            obtain ⟨go13, co13, eo13, gb13, gl13, cl13, HG13⟩ := Kd.S_form HO_7.out (by have h_ : ((ji7) : Int) < ((x7_1.length : Int) : Int) := of_decide_eq_true (by first | (with_reducible assumption) | assumption); have h2_ : 0 ≤ ((ji7) : Int) := (of_decide_eq_true (by first | (with_reducible assumption) | assumption)); omega)
            (first | cases eo13 | (injection eo13 with ea_ en_ ec_; (first | subst ea_ | (injection ea_ with ea_; subst ea_)); subst ec_; clear en_))
            have GB13 := Aside0.mk gb13
            have GG13 := Aside0.mk HG13
            clear gb13 gl13 HG13
            (first | simp only [add_plain] at hx104_0 | skip)
            obtain ⟨oki13, ce13, hcl13, hM13, hcc13, _, _, hH13⟩ := Kd.S_elem HO_7.out [] ((ji7) : Int) (of_decide_eq_true (by first | (with_reducible assumption) | assumption)) (by have h_ : ((ji7) : Int) < ((x7_1.length : Int) : Int) := of_decide_eq_true (by first | (with_reducible assumption) | assumption); first | exact h_ | (have e_ := (Kd.S_reads' HO_7.out).1; omega) | simpa using h_)
            obtain ⟨ve13_0, rfl, ge13_0⟩ := hM13
            have hv13 := hcc13 0 _ rfl
            have hX13 := HX104_0.out
            (try simp only [add_plain] at hX13)
            (try simp only [Nat.add_zero] at hv13)
            (try rw [show ((Kd.slice 22 (Kd.int .u64))).sz = 1 from rfl, Nat.mul_one] at hv13)
            replace hv13 := Option.some.inj (hv13.symm.trans hX13)
            subst hv13
            clear hX13 hcc13 hcl13
            have UU13 := Aside0.mk (show Kd.R (Kd.int .u64) 22 _ w.heap.size oki13 (.slice A104_0 (rd_L8 x7_1 (ji7)).length c104_0) (rd_L8 x7_1 (ji7)) from ge13_0)
            have HH13 := Aside0.mk hH13
            have HN13 := Aside0.mk (Kd.S_reads' HO_7.out).1
            clear hH13 ge13_0
            go_wp2_with (first | ((with_reducible refine gate_builtin (b := .append) (xs := #[.tmp 29, .tmp 35]) rfl ?_); at_builtin; refine Kd.R_append (Kd.int .u64) (w0 := w) w.heap.size rfl (.tmp 29) (.tmp 35) 123 22 (.int .u64 0) 8 rfl Try.underlying123 info22 rfl (by decide) (by omega) (.slice A104_0 (rd_L8 x7_1 (ji7)).length c104_0) (rd_L8 x7_1 (ji7)) (IntKind.u64.wrap ((IntKind.u64.wrap (x8_1)) * (IntKind.u64.wrap (a1)))) [.int .u64 (IntKind.u64.wrap ((IntKind.u64.wrap (x8_1)) * (IntKind.u64.wrap (a1))))] (fun k_ => oki13 k_ ∨ ((fun _ => True)) k_ ∧ wr.heap.size ≤ k_) (fun _ => False) rfl rfl ?aP (fun _ hk => hk.elim) ?aF ?aO ?aB ?aS ?aL ?_; (case aP => exact rfl); (case aB => exact (by repeat (first | (with_reducible first | exact HB.out | apply below_alloc | apply pw_below_drewN | apply below_drew1) | exact HB.out))); (case aF => exact (fun k_ hk => .inr ⟨trivial, hk⟩)); (case aO => exact (by (with_reducible repeat (first | apply Kd.R_alloc | apply Kd.R_drewN | apply Kd.R_drew)); exact Kd.R_mono UU13.out (fun _ hk => .inl hk))); (case aS => exact (below_size (by repeat (first | (with_reducible first | exact HB.out | apply below_alloc | apply pw_below_drewN | apply below_drew1) | exact HB.out)))); (case aL => have := LMc10.out; omega); intro v106 w14 ho hb hg hat; rw [← Ny105.out] at ho; have n0_ := Aside0.mk (hb); have n1_ := Aside0.mk (Kd.H_grown (Kd.H_widen (by repeat (first | exact HH13.out | refine Kd.H_alloc ?_ _ | refine Kd.H_drewN ?_ _ | refine Kd.H_drew ?_))) hg (fun k_ e_ => .inl (UU13.out.1 k_ e_))); have n2_ := Aside0.mk (ho); clear HB; clear HH13; clear HO_7; clear UU13; clear HL104_0; have HB := n0_; have HH13 := n1_; have HO107 := n2_; clear n0_ n1_ n2_; clear ho hb hg hat; have p11 : 0 ≤ ((ji7) : Int) := of_decide_eq_true (by first | (with_reducible assumption) | assumption); have q11 : ((ji7) : Int) < ((x7_1.length : Int) : Int) := of_decide_eq_true (by first | (with_reducible assumption) | assumption); replace p11 := eq_true p11; replace q11 := eq_true q11; obtain ⟨Ao17, co17, eo17⟩ := Kd.R_slice HO107.out; subst eo17; obtain ⟨_, _, hraw15, _, _, hcc15, _⟩ := Kd.H_raw HH13.out (of_decide_eq_true (by first | (with_reducible assumption) | assumption)) (by have h_ : ((ji7) : Int) < ((x7_1.length : Int) : Int) := of_decide_eq_true (by first | (with_reducible assumption) | assumption); first | exact h_ | (have e_ := (HN13.out); omega) | simpa using h_); obtain ⟨_, hfr15⟩ := Kd.H_at HH13.out (of_decide_eq_true (by first | (with_reducible assumption) | assumption)) (by have h_ : ((ji7) : Int) < ((x7_1.length : Int) : Int) := of_decide_eq_true (by first | (with_reducible assumption) | assumption); first | exact h_ | (have e_ := (HN13.out); omega) | simpa using h_); have hx15_0 := hcc15 0 _ rfl; have hf15_0 := hfr15 0; (try simp only [Nat.add_zero] at hx15_0 hf15_0); (try rw [show ((Kd.slice 22 (Kd.int .u64))).sz = 1 from rfl, Nat.mul_one] at hx15_0); (try rw [show ((Kd.slice 22 (Kd.int .u64))).sz = 1 from rfl, Nat.mul_one] at hf15_0); have HP15 := Kd.S_seg0 HH13.out (of_decide_eq_true (by first | (with_reducible assumption) | assumption)) (by have h_ : ((ji7) : Int) < ((x7_1.length : Int) : Int) := of_decide_eq_true (by first | (with_reducible assumption) | assumption); first | exact h_ | (have e_ := (HN13.out); omega) | simpa using h_) (seg := [.slice Ao17 y105.length co17]) (j := 0) (show 1 ≤ 1 from by decide) (x' := y105) (Kd.M_row HO107.out) (fun _ hk => hk); (try simp only [show ((Kd.slice 22 (Kd.int .u64))).sz = 1 from rfl, Nat.mul_one, Nat.add_zero] at HP15); clear hcc15 hfr15) | ((with_reducible refine gate_store (t := 123) (p := 37) rfl ?_); refine store_event (t := 123) (p := 37) (v := ?vo_w16) (w1 := (w14.setCell ⟨go13, ((ji7) : Int).toNat, none⟩ (.slice Ao17 y105.length co17))) ?hg ?ho ?hn ?hr ?_; (case ho => rfl); (case hg => rfl); (case hn => rfl); (case hr => first | (go_simp; done) | (go_simp; rfl)); intro w16 hw; have hg : w14.grownBy w16 (some go13) := (by rw [hw]; exact HP15.2); have hp_ : Kd.S (Kd.slice 22 (Kd.int .u64)) 123 w16 w.heap.size (fun _ => True) (.slice (some ⟨go13, 0, none⟩) x7_1.length co12) y108 := (by rw [hw, Ny108.out]; exact HP15.1); clear HP15; have n0_ := Aside0.mk ((by rw [hw]; exact below_set HB.out GB13.out : Below w.heap.size w w16)); have n1_ := Aside0.mk (hp_); clear HB; clear HO107; clear HH13; have HB := n0_; have HO_7 := n1_; clear n0_ n1_; clear hg hw hp_ hraw15))
            go_roundg k1
            case measure => have := HK1.out; omega
            case rel => exact ⟨(y108), (wrap64 (x8_1 + 1)), (by first | rfl | (simp; done) | (simp [*]; done)), H', ⟨by have := HK1.out; omega⟩, ⟨by (with_reducible repeat (first | apply Kd.S_alloc | apply Kd.S_drewN | apply Kd.S_drew)); exact HO_7.out⟩, ⟨by repeat (first | (with_reducible first | exact HB.out | apply below_alloc | apply pw_below_drewN | apply below_drew1) | exact HB.out)⟩⟩
          · rw [if_neg c10] at H
            exact absurd H (by simp)
        · rw [if_neg c9] at H
          exact absurd H (by simp)
      · rw [if_neg c8] at H
        exact absurd H (by simp)
    · rw [if_neg c6] at H
      have c6b0 : decide (x8_1 < (wrap64 (Int.tmod a2 40))) = false := decide_eq_false c6
      clear c6
      have H' := Aside0.mk H
      clear H
      go_wp2
      go_loopg [7, 9] k1 (fun kq v7 v9 w' => ∃ (x7_2 : List (List Int)) (x9_2 : Int), v9 = .int .i64 x9_2 ∧ Aside0 (scullerlaw12_Arena.l1 kq a2 x7_2 x9_2 = some r) ∧ Aside0 (kq ≤ k1) ∧ Aside0 (Kd.S (Kd.slice 22 (Kd.int .u64)) 123 w' w.heap.size (fun _ => True) v7 x7_2) ∧ Aside0 (Below w.heap.size w w'))
      case atStart => exact ⟨(x7_1), (0), (by first | rfl | (simp; done) | (simp [*]; done)), H', ⟨Nat.le_refl _⟩, ⟨by (with_reducible repeat (first | apply Kd.S_alloc | apply Kd.S_drewN | apply Kd.S_drew)); exact HO_7.out⟩, ⟨by repeat (first | (with_reducible first | exact HB.out | apply below_alloc | apply pw_below_drewN | apply below_drew1) | exact HB.out)⟩⟩
      case round =>
       clear H'
       try clear c1
       try clear p1
       try clear q1
       try clear hx1
       try clear p2
       try clear c3
       try clear c6
       try clear c6b0
       try clear p6
       try clear c7
       try clear c8
       try clear c8b0
       try clear c9
       try clear c9b0
       try clear c10
       try clear p10
       try clear q10
       try clear hx10
       try clear p11
       try clear q11
       try clear c13
       try clear c15
       try clear hx15
       try clear hf15
       try clear hx104_0
       try clear hx15_0
       try clear p104
       try clear p11
       try clear p2
       try clear q104
       try clear q11
       obtain ⟨x7_2, x9_2, rfl, HA, HK2, HO_7, HB⟩ := hrel
       cases gk with
       | zero => exact absurd HA.out (by simp [scullerlaw12_Arena.l1])
       | succ k2 =>
         have H := HA.out
         clear HA
         simp only [scullerlaw12_Arena.l1] at H
         by_cases c18 : x9_2 < (wrap64 (Int.tmod a2 7))
         · rw [if_pos c18] at H
           have c18b0 : decide (x9_2 < (wrap64 (Int.tmod a2 7))) = true := decide_eq_true c18
           clear c18
           by_cases c19 : 0 ≤ x9_2
           · rw [if_pos c19] at H
             have c19b0 := eq_true c19
             have c19b1 : decide (0 ≤ x9_2) = true := decide_eq_true c19
             clear c19
             by_cases c20 : (x9_2 : Int).toNat ≤ 35184372088832
             · rw [if_pos c20] at H
               have c20b0 := eq_true c20
               have c20b1 : decide ((x9_2 : Int).toNat ≤ 35184372088832) = true := decide_eq_true c20
               clear c20
               obtain ⟨y109, hy109⟩ : ∃ y_ : List Int, y_ = (List.replicate (x9_2 : Int).toNat 0) := ⟨_, rfl⟩
               replace H : (if x7_2.length < 5864062014805 then (scullerlaw12_Arena.l1 k2 a2 (x7_2 ++ [y109]) (wrap64 (x9_2 + 1))) else (none)) = some r := by first | (rw [hy109]; with_reducible exact H) | (have H2_ := (Option.bind_some _ _).symm.trans H; rw [hy109]; with_reducible exact H2_) | (have H2_ := (Option.bind_some _ _).symm.trans H; with_reducible exact H2_) | with_reducible exact H | (rw [hy109]; exact H) | exact H
               have Ny109 := Aside0.mk hy109
               clear hy109
               by_cases c21 : x7_2.length < 5864062014805
               · rw [if_pos c21] at H
                 have LMc21 := Aside0.mk c21
                 clear c21
                 obtain ⟨y112, hy112⟩ : ∃ y_ : List (List Int), y_ = (x7_2 ++ [y109]) := ⟨_, rfl⟩
                 replace H : (scullerlaw12_Arena.l1 k2 a2 y112 (wrap64 (x9_2 + 1))) = some r := by first | (rw [hy112]; with_reducible exact H) | (have H2_ := (Option.bind_some _ _).symm.trans H; rw [hy112]; with_reducible exact H2_) | (have H2_ := (Option.bind_some _ _).symm.trans H; with_reducible exact H2_) | with_reducible exact H | (rw [hy112]; exact H) | exact H
                 have Ny112 := Aside0.mk hy112
                 clear hy112
                 have H' := Aside0.mk H
                 clear H
                 go_wp2_with (first | ((with_reducible refine gate_dst (N := 47) rfl ?_); refine Kd.R_make (Kd.int .u64) _ 22 rfl (N := 47) rfl 123 _ _ rfl x9_2 rfl rfl Try.underlying123 (.int .u64 0) 8 info22 rfl (by decide) (by omega) 0 (ok := fun _ => True) (okp := fun _ => True) rfl (fun _ hk => hk) trivial (of_decide_eq_true (by first | (with_reducible assumption) | assumption)) (Nat.le_trans (Nat.mul_le_mul_right _ (of_decide_eq_true (by first | (with_reducible assumption) | assumption) : x9_2.toNat ≤ 35184372088832)) (by omega)) (Below.refl _ _) (Nat.le_refl _) ?_; intro v110 w22 ho23 hb hg_ hnew_; clear hg_ hnew_; (first | rw [← Ny109.out] at ho23 | (simp only [Int.reduceToNat] at ho23; rw [← Ny109.out] at ho23)); have n0_ := Aside0.mk (Kd.S_elder' (by (with_reducible repeat (first | apply Kd.S_alloc | apply Kd.S_drewN | apply Kd.S_drew)); exact HO_7.out) (Kd.R_base ho23) hb); have n1_ := Aside0.mk (Kd.R_lower ho23 (below_size (by repeat (first | (with_reducible first | exact HB.out | apply below_alloc | apply pw_below_drewN | apply below_drew1) | exact HB.out)))); have n2_ := Aside0.mk (below_step (by repeat (first | (with_reducible first | exact HB.out | apply below_alloc | apply pw_below_drewN | apply below_drew1) | exact HB.out)) hb); clear HO_7; clear HB; have HO_7 := n0_; have HO111 := n1_; have HB := n2_; clear n0_ n1_ n2_; clear hb ho23; obtain ⟨Ao25, co25, eo25⟩ := Kd.R_slice HO111.out; subst eo25) | ((with_reducible refine gate_builtin (b := .append) (xs := #[.tmp 45, .tmp 48]) rfl ?_); at_builtin; refine Kd.S_append (Kd.slice 22 (Kd.int .u64)) (w0 := w) w.heap.size rfl (.tmp 45) (.tmp 48) 76 123 (.slice none 0 0) 24 rfl Try.underlying76 info123 rfl (by decide) (by omega) u7 x7_2 y109 [.slice Ao25 y109.length co25] (fun _ => True) (fun k_ => some k_ = (.slice Ao25 y109.length co25 : Value).ownBlock) rfl rfl ?aP (fun k_ hk_ => ((Kd.R_mono (ok' := fun k_ => ((fun _ => True)) k_ ∧ some k_ ≠ (u7 : Value).ownBlock) (Kd.R_apart' (HO111.out) (Kd.S_typed HO_7.out) (by decide)) (fun k_ hk => ⟨trivial, hk.2⟩))).1 k_ hk_.symm) ?aF ?aO ?aB ?aS ?aL ?_; (case aP => exact Kd.M_row (Kd.R_mono (Kd.R_tight rfl (Kd.R_mono (ok' := fun k_ => ((fun _ => True)) k_ ∧ some k_ ≠ (u7 : Value).ownBlock) (Kd.R_apart' (HO111.out) (Kd.S_typed HO_7.out) (by decide)) (fun k_ hk => ⟨trivial, hk.2⟩))) (fun _ h_ => h_))); (case aB => exact (by repeat (first | (with_reducible first | exact HB.out | apply below_alloc | apply pw_below_drewN | apply below_drew1) | exact HB.out))); (case aF => exact (fun _ _ => trivial)); (case aO => exact (by (with_reducible repeat (first | apply Kd.S_alloc | apply Kd.S_drewN | apply Kd.S_drew)); exact Kd.S_mono HO_7.out (fun k_ hk => ⟨trivial, fun e_ => hk.2 e_⟩))); (case aS => exact (below_size (by repeat (first | (with_reducible first | exact HB.out | apply below_alloc | apply pw_below_drewN | apply below_drew1) | exact HB.out)))); (case aL => have := LMc21.out; omega); intro v113 w24 ho hb hg hat; rw [← Ny112.out] at ho; have n0_ := Aside0.mk (hb); have n1_ := Aside0.mk (ho); clear HB; clear HO_7; clear HO111; have HB := n0_; have HO114 := n1_; clear n0_ n1_; clear ho hb hg hat))
                 go_roundg k2
                 case measure => have := HK1.out; have := HK2.out; omega
                 case rel => exact ⟨(y112), (wrap64 (x9_2 + 1)), (by first | rfl | (simp; done) | (simp [*]; done)), H', ⟨by have := HK1.out; have := HK2.out; omega⟩, ⟨by (with_reducible repeat (first | apply Kd.S_alloc | apply Kd.S_drewN | apply Kd.S_drew)); exact HO114.out⟩, ⟨by repeat (first | (with_reducible first | exact HB.out | apply below_alloc | apply pw_below_drewN | apply below_drew1) | exact HB.out)⟩⟩
               · rw [if_neg c21] at H
                 exact absurd H (by simp)
             · rw [if_neg c20] at H
               exact absurd H (by simp)
           · rw [if_neg c19] at H
             exact absurd H (by simp)
         · rw [if_neg c18] at H
           have c18b0 : decide (x9_2 < (wrap64 (Int.tmod a2 7))) = false := decide_eq_false c18
           clear c18
           obtain rfl := Option.some.inj H
           go_wp2
           go_ret
           exact ⟨_, by first | rfl | (simp [errW_none, errW_some] <;> rfl) | (simp [*, errW_none, errW_some] <;> rfl), by (with_reducible repeat (first | apply Kd.S_alloc | apply Kd.S_drewN | apply Kd.S_drew)); exact HO_7.out, by repeat (first | (with_reducible first | exact HB.out | apply below_alloc | apply pw_below_drewN | apply below_drew1) | exact HB.out)⟩

end Go.Proofs.Ytbijnfhcbanhdaa.F
end

section
namespace Go.Proofs.Ytbijnfhcbanhdaa.F
open Go.RowKit Go.Proofs.YtbijnfhcbanhdaaW.PrintWords Go.Proofs.YtbijnfhcbanhdaaW.PrintLast Go.Proofs.YtbijnfhcbanhdaaW.PrintMore
attribute [local go_sem] max2_int min2_int max_two min_two max_three min_three max_four min_four   -- for this text's walks alone
set_option linter.unusedVariables false
set_option linter.unusedSimpArgs false

open Go.Proofs.Ytbijnfhcbanhdaa.H
def scullerlaw12_Arena_c.f (l0 : List Int) (a1 : Int) (a2 : Int) : Option (List (List Int)) := if bytesB l0 = true ∧ l0.length ≤ 140737488351232 ∧ 0 ≤ a1 ∧ a1 ≤ 255 ∧ 0 ≤ a2 ∧ a2 ≤ 255 then some (arena12L l0 a1 a2) else none
theorem scullerlaw12_Arena.l1_to (m : Int) (hm0 : 0 ≤ m) (hm : m ≤ 255) (x : List (List Int)) (hx : x.length ≤ 100) : ∀ (d i : Nat), (m % 7).toNat - i = d → i ≤ (m % 7).toNat → ∃ k, scullerlaw12_Arena.l1 k m (x ++ zerosC i) (i : Int) = some (x ++ zerosC (m % 7).toNat)
 | 0, i, hd, hi => ⟨1, by
   obtain rfl : i = (m % 7).toNat := by omega
   rw [scullerlaw12_Arena.l1, Int.tmod_eq_emod_of_nonneg hm0, if_neg (by unfold wrap64; omega)]⟩
 | d + 1, i, hd, hi => by
   obtain ⟨k, hk⟩ := scullerlaw12_Arena.l1_to m hm0 hm x hx d (i + 1) (by omega) (by omega)
   refine ⟨k + 1, ?_⟩
   rw [zerosC_succ] at hk
   rw [scullerlaw12_Arena.l1, Int.tmod_eq_emod_of_nonneg hm0, if_pos (by unfold wrap64; omega), if_pos (by omega), if_pos (by omega), if_pos (by rw [List.length_append, zerosC_length]; omega), List.append_assoc, Int.toNat_natCast, show wrap64 ((i : Int) + 1) = ((i + 1 : Nat) : Int) from by unfold wrap64; omega]
   exact hk
theorem scullerlaw12_Arena.l0_to (n m : Int) (hn0 : 0 ≤ n) (hn : n ≤ 255) (hm0 : 0 ≤ m) (hm : m ≤ 255) (x : List (List Int)) (e : List Int) (hx : x.length ≤ 50) (he : e.length ≤ 1000) : ∀ (d i : Nat), (m % 40).toNat - i = d → i ≤ (m % 40).toNat →
 ∃ k, scullerlaw12_Arena.l0 k n m (x ++ [e ++ addC n i]) (i : Int) = some (x ++ [e ++ addC n (m % 40).toNat] ++ zerosC (m % 7).toNat)
 | 0, i, hd, hi => by
   obtain rfl : i = (m % 40).toNat := by omega
   obtain ⟨k, hk⟩ := scullerlaw12_Arena.l1_to m hm0 hm (x ++ [e ++ addC n (m % 40).toNat]) (by simp; omega) (m % 7).toNat 0 (by omega) (by omega)
   refine ⟨k + 1, ?_⟩
   rw [scullerlaw12_Arena.l0, Int.tmod_eq_emod_of_nonneg hm0, if_neg (by unfold wrap64; omega)]
   rw [show zerosC 0 = [] from rfl, List.append_nil] at hk
   exact hk
 | d + 1, i, hd, hi => by
   obtain ⟨k, hk⟩ := scullerlaw12_Arena.l0_to n m hn0 hn hm0 hm x e hx he d (i + 1) (by omega) (by omega)
   refine ⟨k + 1, ?_⟩
   have hl : (x ++ [e ++ addC n i]).length = x.length + 1 := by simp
   have e1 : wrap64 (((x ++ [e ++ addC n i]).length : Int) - 1) = (x.length : Int) := by rw [hl]; unfold wrap64; omega
   have hr : rd_L8 (x ++ [e ++ addC n i]) (x.length : Int) = e ++ addC n i := by
    unfold rd_L8
    rw [getD_toNat _ _ x.length (by simp)]
    simp
   have h2 : (i : Int) * n ≤ 40 * 255 := Int.mul_le_mul (by omega) (by omega) (by omega) (by omega)
   have h3 : 0 ≤ (i : Int) * n := Int.mul_nonneg (by omega) (by omega)
   have wu : ∀ z : Int, 0 ≤ z → z < 18446744073709551616 → IntKind.u64.wrap z = z := fun z hz hz2 => wrapu hz hz2
   rw [addC_succ] at hk
   rw [scullerlaw12_Arena.l0, Int.tmod_eq_emod_of_nonneg hm0, if_pos (by unfold wrap64; omega), e1, if_pos (by omega), if_pos (by rw [hl]; omega), hr, if_pos (by rw [List.length_append, addC_length]; omega), wu (i : Int) (by omega) (by omega), wu n hn0 (by omega), wu _ h3 (by omega), Int.toNat_natCast,
    List.set_append_right _ _ (Nat.le_refl _), Nat.sub_self, List.set_cons_zero, List.append_assoc, show wrap64 ((i : Int) + 1) = ((i + 1 : Nat) : Int) from by unfold wrap64; omega]
   exact hk
theorem scullerlaw12_Arena_c.to {l0 : List Int} {a1 a2 : Int} {r : List (List Int)} (h : scullerlaw12_Arena_c.f l0 a1 a2 = some r) : ∃ k, scullerlaw12_Arena.f k l0 a1 a2 = some r := by
 unfold scullerlaw12_Arena_c.f at h
 split at h
 case isFalse => cases h
 case isTrue hb =>
 obtain rfl := Option.some.inj h
 obtain ⟨h0, h1, h2, h3, h4, h5⟩ := hb
 have hl := arenaL_length l0 h2
 have hw := arenaL_words l0 h2
 have hlast := arenaL_last l0 h2
 have he : ((arenaL l0 a1).getLastD []).length ≤ 1000 := by
  rw [← hlast, wordsL_append, wordsL_one] at hw
  omega
 obtain ⟨k, hk⟩ := scullerlaw12_Arena.l0_to a1 a2 h2 h3 h4 h5 (arenaL l0 a1).dropLast ((arenaL l0 a1).getLastD []) (by simp; omega) he (a2 % 40).toNat 0 (by omega) (by omega)
 refine ⟨k, ?_⟩
 rw [show addC a1 0 = [] from rfl, List.append_nil, hlast] at hk
 rw [scullerlaw12_Arena.f, scullerlaw07_Arena_c.f, if_pos ⟨h0, h1, h2, h3⟩, Option.bind_some]
 exact hk

theorem scullerlaw12_Arena_c.calls (A0 : Option Addr) (c0 : Nat) (l0 : List Int) (a1 : Int) (a2 : Int) (r : List (List Int)) (w : World) (hr0 : Kd.C (Kd.int .u8) w A0 l0.length l0) (hc0 : l0.length ≤ c0) (h : scullerlaw12_Arena_c.f l0 a1 a2 = some r) :
 Calls Try.prog 37 #[.slice A0 l0.length c0, .int .u8 a1, .int .u8 a2] w fun e w' => ∃ v0_ : Value, e = .returned (v0_) ∧ Kd.S (Kd.slice 22 (Kd.int .u64)) 123 w' w.heap.size (fun _ => True) v0_ r ∧ Below w.heap.size w w' := by
 obtain ⟨k_, hk_⟩ := scullerlaw12_Arena_c.to h
 exact scullerlaw12_Arena.calls k_ A0 c0 l0 a1 a2 r w hr0 hc0 hk_

end Go.Proofs.Ytbijnfhcbanhdaa.F
end

section
namespace Go.Proofs.Ytbijnfhcbanhdaa.F
open Go.RowKit Go.Proofs.YtbijnfhcbanhdaaW.PrintWords Go.Proofs.YtbijnfhcbanhdaaW.PrintLast Go.Proofs.YtbijnfhcbanhdaaW.PrintMore
attribute [local go_sem] max2_int min2_int max_two min_two max_three min_three max_four min_four   -- for this text's walks alone
set_option linter.unusedVariables false
set_option linter.unusedSimpArgs false

/-! ### scullerlaw14_Token: function 12 -/
def scullerlaw14_Token.l0 : Nat → List Int → List Int → Int → Int → List Int → Int → Option (Int × List Int × Int × List Int)
 | 0, _, _, _, _, _, _ => none
 | k + 1, x1, x11, x12, x112000, x112001, x112002 => if x12 < (x1.length : Int) then (if 0 ≤ x12 then ((scullerref12_Chunks.f x112000 x112001 x112002).bind fun t117 => (if (wrap64 (rd x1 x12)) < t117 then ((scullerref03_Set_c.f x11 (wrap64 (rd x1 x12))).bind fun t119 => (scullerlaw14_Token.l0 k x1 t119 (wrap64 (x12 + 1)) x112000 x112001 x112002)) else (scullerlaw14_Token.l0 k x1 x11 (wrap64 (x12 + 1)) x112000 x112001 x112002))) else (none)) else (some (x112000, x112001, x112002, x11))
def scullerlaw14_Token.f (k : Nat) (a0 : Int) (l1 : List Int) (a2 : Int) (a3 : Int) : Option (Int × List Int × Int × List Int) := (scullerlaw12_Arena_c.f l1 a2 a3).bind fun t102 => ((scullerref12_Of_c.f a0 t102).bind fun bt105 => ((scullerref12_Chunks.f bt105.1 bt105.2.1 bt105.2.2.1).bind fun t112 => ((scullerref03_Make.f t112).bind fun t113 => (scullerlaw14_Token.l0 k l1 t113 0 bt105.1 bt105.2.1 bt105.2.2.1))))
theorem scullerlaw14_Token.mono_l : ∀ k, (∀ y0 y1 y2 y3 y4 y5, LeO (scullerlaw14_Token.l0 k y0 y1 y2 y3 y4 y5) (scullerlaw14_Token.l0 (k + 1) y0 y1 y2 y3 y4 y5))
 | 0 => fun _ _ _ _ _ _ r h => by simp [scullerlaw14_Token.l0] at h
 | k + 1 => by
   have ih0 := scullerlaw14_Token.mono_l k
   · intro y0 y1 y2 y3 y4 y5
     unfold scullerlaw14_Token.l0
     repeat' first
     | (with_reducible exact ih0 _ _ _ _ _ _)
     | (with_reducible exact LeO.refl _)
     | (with_reducible exact LeO.none _)
     | (with_reducible refine LeO.ite ?_ ?_)
     | (with_reducible refine LeO.bind ?_ (fun _ => ?_))
     | exact ih0 _ _ _ _ _ _
     | exact LeO.none _
     | refine LeO.ite ?_ ?_
     | refine LeO.bind ?_ (fun _ => ?_)
theorem scullerlaw14_Token.mono : ∀ a0 a1 a2 a3 k, LeO (scullerlaw14_Token.f k a0 a1 a2 a3) (scullerlaw14_Token.f (k + 1) a0 a1 a2 a3) := by
 intro a0 a1 a2 a3 k
 have ih0 := scullerlaw14_Token.mono_l k
 unfold scullerlaw14_Token.f
 repeat' first
  | (with_reducible exact ih0 _ _ _ _ _ _)
  | (with_reducible exact LeO.refl _)
  | (with_reducible exact LeO.none _)
  | (with_reducible refine LeO.ite ?_ ?_)
  | (with_reducible refine LeO.bind ?_ (fun _ => ?_))
  | exact ih0 _ _ _ _ _ _
  | exact LeO.none _
  | refine LeO.ite ?_ ?_
  | refine LeO.bind ?_ (fun _ => ?_)
def scullerlaw14_Token.T6 : Bool × List (List Nat × List Nat) := (true, [([], []), ([], []), ([0, 1], [0, 1]), ([2], [2]), ([3], [3]), ([], []), ([5], [5]), ([4, 6], [4, 6])])
def scullerlaw14_Token.B6 : List Nat := [0, 0, 3, 7, 15, 0, 32, 127]
theorem scullerlaw14_Token.tab6 : rtab .any (opsOf Try.f12 6) = scullerlaw14_Token.T6 := by kernel_rfl
theorem scullerlaw14_Token.bits6 : waitsOk scullerlaw14_Token.T6.2 scullerlaw14_Token.B6 = true := by kernel_rfl
set_option maxHeartbeats 8000000 in
set_option maxRecDepth 100000 in
theorem scullerlaw14_Token.calls (k : Nat) (a0 : Int) (A1 : Option Addr) (c1 : Nat) (l1 : List Int) (a2 : Int) (a3 : Int) (r1 : Int) (r2 : List Int) (r3 : Int) (r4 : List Int) (w : World) (hr1 : Kd.C (Kd.int .u8) w A1 l1.length l1) (hc1 : l1.length ≤ c1) (h : scullerlaw14_Token.f k a0 l1 a2 a3 = some (r1, r2, r3, r4)) :
 Calls Try.prog 12 #[.int .u64 a0, .slice A1 l1.length c1, .int .u8 a2, .int .u8 a3] w fun e w' => ∃ v1_ v3_ : Value, e = .returned (.agg #[.int .u64 r1, v1_, .int .u32 r3, v3_]) ∧ Kd.R (Kd.int .i64) 3 w' w.heap.size (fun _ => True) v1_ r2 ∧ Kd.R (Kd.int .u8) 5 w' w.heap.size (fun _ => True) v3_ r4 ∧ Below w.heap.size w w' := by
 have hu29 := Try.underlying29
 have hu26 := Try.underlying26
 have HR1 := Aside0.mk hr1
 have HC1 := Aside0.mk hc1
 clear hr1 hc1
 have HB := Aside0.mk (Below.refl w.heap.size w)
 have H : ((scullerlaw12_Arena_c.f l1 a2 a3).bind fun t102 => ((scullerref12_Of_c.f a0 t102).bind fun bt105 => ((scullerref12_Chunks.f bt105.1 bt105.2.1 bt105.2.2.1).bind fun t112 => ((scullerref03_Make.f t112).bind fun t113 => (scullerlaw14_Token.l0 k l1 t113 0 bt105.1 bt105.2.1 bt105.2.2.1))))) = some (r1, r2, r3, r4) := h
 clear h
 replace H := Option.bind_eq_some_iff.mp H
 obtain ⟨t102, A50, H⟩ := H
 replace H : ((scullerref12_Of_c.f a0 t102).bind fun bt105 => ((scullerref12_Chunks.f bt105.1 bt105.2.1 bt105.2.2.1).bind fun t112 => ((scullerref03_Make.f t112).bind fun t113 => (scullerlaw14_Token.l0 k l1 t113 0 bt105.1 bt105.2.1 bt105.2.2.1)))) = some (r1, r2, r3, r4) := H
 have A5 := Aside0.mk A50
 clear A50
 replace H := Option.bind_eq_some_iff.mp H
 obtain ⟨⟨t105, t106, t109, t110⟩, A60, H⟩ := H
 replace H : ((scullerref12_Chunks.f t105 t106 t109).bind fun t112 => ((scullerref03_Make.f t112).bind fun t113 => (scullerlaw14_Token.l0 k l1 t113 0 t105 t106 t109))) = some (r1, r2, r3, r4) := H
 have A6 := Aside0.mk A60
 clear A60
 replace H := Option.bind_eq_some_iff.mp H
 obtain ⟨t112, A70, H⟩ := H
 replace H : ((scullerref03_Make.f t112).bind fun t113 => (scullerlaw14_Token.l0 k l1 t113 0 t105 t106 t109)) = some (r1, r2, r3, r4) := H
 have A7 := Aside0.mk A70
 clear A70
 replace H := Option.bind_eq_some_iff.mp H
 obtain ⟨t113, A80, H⟩ := H
 replace H : (scullerlaw14_Token.l0 k l1 t113 0 t105 t106 t109) = some (r1, r2, r3, r4) := H
 have A8 := Aside0.mk A80
 clear A80
 have H' := Aside0.mk H
 clear H
 go_enter Try.func12, Try.ntmps12
 go_wp2_with (first | ((with_reducible refine gate_dst (N := 8) rfl ?_); refine box_event ?hg (N := 8) ?hd (cs := #[.int .u64 0, .slice none 0 0, .int .u32 0, .slice none 0 0]) (t := 29) ?hr ?_; (case hd => rfl); (case hg => rfl); (case hr => first | (go_simp; done) | (go_simp; rfl)); intro gb101 hg w9 hbox hb; have n0_ := Aside0.mk (below_step (by repeat (first | (with_reducible first | exact HB.out | apply below_alloc | apply pw_below_drewN | apply below_drew1) | exact HB.out)) hb); have n1_ := Aside0.mk (hbox); have n2_ := Aside0.mk ((by rw [hg]; exact (below_size (by repeat (first | (with_reducible first | exact HB.out | apply below_alloc | apply pw_below_drewN | apply below_drew1) | exact HB.out))) : w.heap.size ≤ gb101)); have n3_ := Aside0.mk ((by rw [hg]; exact (below_size (by repeat (first | (with_reducible first | exact HB.out | apply below_alloc | apply pw_below_drewN | apply below_drew1) | exact HB.out))) : w.heap.size ≤ gb101)); clear HB; have HB := n0_; have BK101 := n1_; have GW101 := n2_; have GE101 := n3_; clear n0_ n1_ n2_ n3_; clear hb hbox hg) | ((with_reducible refine gate_callee (f := 37) rfl ?_); refine goesL_ (some 18) rfl rfl Try.func37 (by kernel_rfl) rfl #[.slice A1 l1.length c1, .int .u8 a2, .int .u8 a3] rfl (by (try simp only [List.map_toArray, List.map_cons, List.map_nil]); first | done | rfl | (simp only [List.length_drop, List.length_take]; rfl)) ?_; (with_reducible refine (scullerlaw12_Arena_c.calls _ _ l1 a2 a3 t102 _ ?side1 ?side2 A5.out).mono ?_); (case side1 => repeat (first | exact (Kd.C_below HR1.out HB.out) | (with_reducible refine Kd.C_alloc ?_ _) | (with_reducible refine Kd.C_drewN ?_ _) | (with_reducible refine Kd.C_drew ?_))); (case side2 => exact HC1.out); rintro e w10 ⟨v103, rfl, ho0, hb⟩; refine ⟨_, rfl, ?_⟩; have n0_ := Aside0.mk (Kd.S_lower ho0 (below_size (by repeat (first | (with_reducible first | exact HB.out | apply below_alloc | apply pw_below_drewN | apply below_drew1 | refine below_set ?_ GE101.out) | exact HB.out)))); have n1_ := Aside0.mk (blk_below (g := gb101) (o := .cells #[.int .u64 0, .slice none 0 0, .int .u32 0, .slice none 0 0] 29 (0, 0)) (by (with_reducible repeat (first | refine blk_drewN ?_ _ | refine blk_drew ?_ | refine blk_alloc ?_ _)); exact BK101.out) hb); have n2_ := Aside0.mk (below_step (by repeat (first | (with_reducible first | exact HB.out | apply below_alloc | apply pw_below_drewN | apply below_drew1 | refine below_set ?_ GE101.out) | exact HB.out)) hb); clear BK101; clear HB; have HO104 := n0_; have BK101 := n1_; have HB := n2_; clear n0_ n1_ n2_; (try clear hb); (try clear hb2); (try clear hk); (try clear hi); (try clear ho0); obtain ⟨Ao11, co11, eo11⟩ := Kd.S_slice HO104.out; subst eo11) | ((with_reducible refine gate_callee (f := 36) rfl ?_); refine goesL_ (some 19) rfl rfl Try.func36 (by kernel_rfl) rfl #[.int .u64 a0, .slice Ao11 t102.length co11] rfl (by (try simp only [List.map_toArray, List.map_cons, List.map_nil]); first | done | rfl | (simp only [List.length_drop, List.length_take]; rfl)) ?_; (with_reducible refine (scullerref12_Of_c.calls a0 _ _ t102 t105 t106 t109 t110 _ ?side1 ?side2 A6.out).mono ?_); (case side1 => repeat (first | exact (Kd.S_reads' HO104.out).2.2 | (with_reducible refine Kd.C_alloc ?_ _) | (with_reducible refine Kd.C_drewN ?_ _) | (with_reducible refine Kd.C_drew ?_))); (case side2 => exact (Kd.S_reads' HO104.out).2.1); rintro e w12 ⟨v107, rfl, ho0, hb⟩; refine ⟨_, rfl, ?_⟩; have n0_ := Aside0.mk (Kd.S_below (by (with_reducible repeat (first | apply Kd.S_alloc | apply Kd.S_drewN | apply Kd.S_drew)); exact HO104.out) hb); have n1_ := Aside0.mk (Kd.R_lower ho0 (below_size (by repeat (first | (with_reducible first | exact HB.out | apply below_alloc | apply pw_below_drewN | apply below_drew1 | refine below_set ?_ GE101.out) | exact HB.out)))); have n2_ := Aside0.mk (blk_below (g := gb101) (o := .cells #[.int .u64 0, .slice none 0 0, .int .u32 0, .slice none 0 0] 29 (0, 0)) (by (with_reducible repeat (first | refine blk_drewN ?_ _ | refine blk_drew ?_ | refine blk_alloc ?_ _)); exact BK101.out) hb); have n3_ := Aside0.mk (below_step (by repeat (first | (with_reducible first | exact HB.out | apply below_alloc | apply pw_below_drewN | apply below_drew1 | refine below_set ?_ GE101.out) | exact HB.out)) hb); clear HO104; clear BK101; clear HB; have HO104 := n0_; have HO108 := n1_; have BK101 := n2_; have HB := n3_; clear n0_ n1_ n2_ n3_; (try clear hb); (try clear hb2); (try clear hk); (try clear hi); (try clear ho0)) | ((with_reducible refine gate_dst (N := 9) rfl ?_); refine box_event ?hg (N := 9) ?hd (cs := #[.int .u64 0, .slice none 0 0, .int .u32 0]) (t := 26) ?hr ?_; (case hd => rfl); (case hg => rfl); (case hr => first | (go_simp; done) | (go_simp; rfl)); intro gb111 hg w13 hbox hb; have n0_ := Aside0.mk (Kd.S_below (by (with_reducible repeat (first | apply Kd.S_alloc | apply Kd.S_drewN | apply Kd.S_drew)); exact HO104.out) hb); have n1_ := Aside0.mk (Kd.R_below (by (with_reducible repeat (first | apply Kd.R_alloc | apply Kd.R_drewN | apply Kd.R_drew)); exact HO108.out) hb); have n2_ := Aside0.mk (blk_below (g := gb101) (o := .cells #[.int .u64 0, .slice none 0 0, .int .u32 0, .slice none 0 0] 29 (0, 0)) (by (with_reducible repeat (first | refine blk_drewN ?_ _ | refine blk_drew ?_ | refine blk_alloc ?_ _)); exact BK101.out) hb); have n3_ := Aside0.mk (below_step (by repeat (first | (with_reducible first | exact HB.out | apply below_alloc | apply pw_below_drewN | apply below_drew1 | refine below_set ?_ GE101.out) | exact HB.out)) hb); have n4_ := Aside0.mk (hbox); have n5_ := Aside0.mk ((by rw [hg]; exact (below_size (by repeat (first | (with_reducible first | exact HB.out | apply below_alloc | apply pw_below_drewN | apply below_drew1 | refine below_set ?_ GE101.out) | exact HB.out))) : w.heap.size ≤ gb111)); have n6_ := Aside0.mk ((by rw [hg]; exact (below_size (by repeat (first | (with_reducible first | exact HB.out | apply below_alloc | apply pw_below_drewN | apply below_drew1 | refine below_set ?_ GE101.out) | exact HB.out))) : w.heap.size ≤ gb111)); have n7_ := Aside0.mk ((by rw [hg]; exact Nat.ne_of_lt (blk_lt (g := gb101) (o := .cells #[.int .u64 0, .slice none 0 0, .int .u32 0, .slice none 0 0] 29 (0, 0)) (by (with_reducible repeat (first | refine blk_drewN ?_ _ | refine blk_drew ?_ | refine blk_alloc ?_ _)); exact BK101.out)) : gb101 ≠ gb111)); have n8_ := Aside0.mk ((by rw [hg]; exact Nat.ne_of_gt (blk_lt (g := gb101) (o := .cells #[.int .u64 0, .slice none 0 0, .int .u32 0, .slice none 0 0] 29 (0, 0)) (by (with_reducible repeat (first | refine blk_drewN ?_ _ | refine blk_drew ?_ | refine blk_alloc ?_ _)); exact BK101.out)) : gb111 ≠ gb101)); clear HO104; clear HO108; clear BK101; clear HB; have HO104 := n0_; have HO108 := n1_; have BK101 := n2_; have HB := n3_; have BK111 := n4_; have GW111 := n5_; have GE111 := n6_; have NB101_111 := n7_; have NB111_101 := n8_; clear n0_ n1_ n2_ n3_ n4_ n5_ n6_ n7_ n8_; clear hb hbox hg; have hnb14 := NB111_101.out; have hnc14 := NB101_111.out; have hcz15_0 : w13.cell? ⟨gb111, 0, none⟩ = some (.int .u64 0) := (blk_cell BK111.out 0).trans rfl; have hcz15_1 : w13.cell? ⟨gb111, 1, none⟩ = some (.slice none 0 0) := (blk_cell BK111.out 1).trans rfl; have hcz15_2 : w13.cell? ⟨gb111, 2, none⟩ = some (.int .u32 0) := (blk_cell BK111.out 2).trans rfl; have hfz15_0 := blk_frozen BK111.out 0; have hfz15_1 := blk_frozen BK111.out 1; have hfz15_2 := blk_frozen BK111.out 2; obtain ⟨Ao16, co16, eo16⟩ := Kd.R_slice HO108.out; subst eo16) | ((with_reducible refine gate_callee (f := 21) rfl ?_); refine goesL_ (some 23) rfl rfl Try.func21 (by kernel_rfl) rfl #[.agg #[.int .u64 t105, .slice Ao16 t106.length co16, .int .u32 t109]] rfl (by (try simp only [List.map_toArray, List.map_cons, List.map_nil]); first | done | rfl | (simp only [List.length_drop, List.length_take]; rfl)) ?_; (with_reducible refine (scullerref12_Chunks.calls t105 _ _ t106 t109 t112 _ ?side1 ?side2 A7.out).mono ?_); (case side1 => refine (Kd.R_reads' (e := 3) (base := w.heap.size) (ok := fun k_ => True) (n := t106.length) (c := co16) ?_).2.2; exact (by (with_reducible repeat (first | apply Kd.R_alloc | apply Kd.R_drewN | apply Kd.R_drew)); exact (Kd.R_mono (Kd.R_far (p := ⟨gb111, 2, none⟩) (Kd.R_far (p := ⟨gb111, 1, none⟩) (Kd.R_far (p := ⟨gb111, 0, none⟩) (Kd.R_types HO108.out BK111.out (by decide)) (fun _ hk => hk.2) (.int .u64 t105)) (fun _ hk => hk.2) (.slice Ao16 t106.length co16)) (fun _ hk => hk.2) (.int .u32 t109)) (fun _ h_ => h_.1)))); (case side2 => exact (Kd.R_reads' HO108.out).2.1); rintro e w17 ⟨rfl, hb⟩; refine ⟨_, rfl, ?_⟩; have n0_ := Aside0.mk (Kd.S_below (by (with_reducible repeat (first | apply Kd.S_alloc | apply Kd.S_drewN | apply Kd.S_drew)); exact (Kd.S_mono (Kd.S_far (p := ⟨gb111, 2, none⟩) (Kd.S_far (p := ⟨gb111, 1, none⟩) (Kd.S_far (p := ⟨gb111, 0, none⟩) (Kd.S_types HO104.out BK111.out (by decide)) (fun _ hk => hk.2) (.int .u64 t105)) (fun _ hk => hk.2) (.slice Ao16 t106.length co16)) (fun _ hk => hk.2) (.int .u32 t109)) (fun _ h_ => h_.1))) hb); have n1_ := Aside0.mk (Kd.R_below (by (with_reducible repeat (first | apply Kd.R_alloc | apply Kd.R_drewN | apply Kd.R_drew)); exact (Kd.R_mono (Kd.R_far (p := ⟨gb111, 2, none⟩) (Kd.R_far (p := ⟨gb111, 1, none⟩) (Kd.R_far (p := ⟨gb111, 0, none⟩) (Kd.R_types HO108.out BK111.out (by decide)) (fun _ hk => hk.2) (.int .u64 t105)) (fun _ hk => hk.2) (.slice Ao16 t106.length co16)) (fun _ hk => hk.2) (.int .u32 t109)) (fun _ h_ => h_.1))) hb); have n2_ := Aside0.mk (blk_below (g := gb101) (o := .cells #[.int .u64 0, .slice none 0 0, .int .u32 0, .slice none 0 0] 29 (0, 0)) (by (with_reducible repeat (first | refine blk_drewN ?_ _ | refine blk_drew ?_ | refine blk_alloc ?_ _)); refine blk_far ?_ NB101_111.out _; (with_reducible repeat (first | refine blk_drewN ?_ _ | refine blk_drew ?_ | refine blk_alloc ?_ _)); refine blk_far ?_ NB101_111.out _; (with_reducible repeat (first | refine blk_drewN ?_ _ | refine blk_drew ?_ | refine blk_alloc ?_ _)); refine blk_far ?_ NB101_111.out _; (with_reducible repeat (first | refine blk_drewN ?_ _ | refine blk_drew ?_ | refine blk_alloc ?_ _)); exact BK101.out) hb); have n3_ := Aside0.mk (blk_below (g := gb111) (o := .cells #[.int .u64 t105, .slice Ao16 t106.length co16, .int .u32 t109] 26 (0, 0)) (by (with_reducible repeat (first | refine blk_drewN ?_ _ | refine blk_drew ?_ | refine blk_alloc ?_ _)); refine blk_put (cs := #[.int .u64 t105, .slice Ao16 t106.length co16, .int .u32 0]) ?_ 2 _ rfl; (with_reducible repeat (first | refine blk_drewN ?_ _ | refine blk_drew ?_ | refine blk_alloc ?_ _)); refine blk_put (cs := #[.int .u64 t105, .slice none 0 0, .int .u32 0]) ?_ 1 _ rfl; (with_reducible repeat (first | refine blk_drewN ?_ _ | refine blk_drew ?_ | refine blk_alloc ?_ _)); refine blk_put (cs := #[.int .u64 0, .slice none 0 0, .int .u32 0]) ?_ 0 _ rfl; (with_reducible repeat (first | refine blk_drewN ?_ _ | refine blk_drew ?_ | refine blk_alloc ?_ _)); exact BK111.out) hb); have n4_ := Aside0.mk (below_step (by repeat (first | (with_reducible first | exact HB.out | apply below_alloc | apply pw_below_drewN | apply below_drew1 | refine below_set ?_ GE101.out | refine below_set ?_ GE111.out) | exact HB.out)) hb); clear HO104; clear HO108; clear BK101; clear BK111; clear HB; have HO104 := n0_; have HO108 := n1_; have BK101 := n2_; have BK111 := n3_; have HB := n4_; clear n0_ n1_ n2_ n3_ n4_; (try clear hb); (try clear hb2); (try clear hk); (try clear hi)) | ((with_reducible refine gate_callee (f := 22) rfl ?_); refine goesL_ (some 24) rfl rfl Try.func22 (by kernel_rfl) rfl #[.int .i64 t112] rfl (by (try simp only [List.map_toArray, List.map_cons, List.map_nil]); first | done | rfl | (simp only [List.length_drop, List.length_take]; rfl)) ?_; (with_reducible refine (scullerref03_Make.calls t112 t113 _ A8.out).mono ?_); rintro e w18 ⟨v114, rfl, ho0, hb⟩; refine ⟨_, rfl, ?_⟩; have n0_ := Aside0.mk (Kd.S_below (by (with_reducible repeat (first | apply Kd.S_alloc | apply Kd.S_drewN | apply Kd.S_drew)); exact HO104.out) hb); have n1_ := Aside0.mk (Kd.R_below (by (with_reducible repeat (first | apply Kd.R_alloc | apply Kd.R_drewN | apply Kd.R_drew)); exact HO108.out) hb); have n2_ := Aside0.mk (Kd.R_lower ho0 (below_size (by repeat (first | (with_reducible first | exact HB.out | apply below_alloc | apply pw_below_drewN | apply below_drew1 | refine below_set ?_ GE101.out | refine below_set ?_ GE111.out) | exact HB.out)))); have n3_ := Aside0.mk (blk_below (g := gb101) (o := .cells #[.int .u64 0, .slice none 0 0, .int .u32 0, .slice none 0 0] 29 (0, 0)) (by (with_reducible repeat (first | refine blk_drewN ?_ _ | refine blk_drew ?_ | refine blk_alloc ?_ _)); exact BK101.out) hb); have n4_ := Aside0.mk (blk_below (g := gb111) (o := .cells #[.int .u64 t105, .slice Ao16 t106.length co16, .int .u32 t109] 26 (0, 0)) (by (with_reducible repeat (first | refine blk_drewN ?_ _ | refine blk_drew ?_ | refine blk_alloc ?_ _)); exact BK111.out) hb); have n5_ := Aside0.mk (below_step (by repeat (first | (with_reducible first | exact HB.out | apply below_alloc | apply pw_below_drewN | apply below_drew1 | refine below_set ?_ GE101.out | refine below_set ?_ GE111.out) | exact HB.out)) hb); clear HO104; clear HO108; clear BK101; clear BK111; clear HB; have HO104 := n0_; have HO108 := n1_; have HO115 := n2_; have BK101 := n3_; have BK111 := n4_; have HB := n5_; clear n0_ n1_ n2_ n3_ n4_ n5_; (try clear hb); (try clear hb2); (try clear hk); (try clear hi); (try clear ho0)))
 go_loopg [11, 12] k (fun kq v11 v12 w' => ∃ (x11_1 : List Int) (x12_1 : Int), v12 = .int .i64 x12_1 ∧ Aside0 (scullerlaw14_Token.l0 kq l1 x11_1 x12_1 t105 t106 t109 = some (r1, r2, r3, r4)) ∧ Aside0 (kq ≤ k) ∧ Aside0 (Kd.R (Kd.int .u8) 5 w' w.heap.size (fun _ => True) v11 x11_1) ∧ Aside0 (Kd.R (Kd.int .i64) 3 w' w.heap.size (fun _ => True) (.slice Ao16 t106.length co16) t106) ∧ Aside0 (w'.heap[gb101]? = some (.cells #[.int .u64 0, (.slice none 0 0), .int .u32 0, (.slice none 0 0)] 29 (0, 0))) ∧ Aside0 (w'.heap[gb111]? = some (.cells #[.int .u64 t105, (.slice Ao16 t106.length co16), .int .u32 t109] 26 (0, 0))) ∧ Aside0 (Below w.heap.size w w'))
 case atStart => exact ⟨(t113), (0), (by first | rfl | (simp; done) | (simp [*]; done)), H', ⟨Nat.le_refl _⟩, ⟨by (with_reducible repeat (first | apply Kd.R_alloc | apply Kd.R_drewN | apply Kd.R_drew)); exact HO115.out⟩, ⟨by (with_reducible repeat (first | apply Kd.R_alloc | apply Kd.R_drewN | apply Kd.R_drew)); exact HO108.out⟩, ⟨by (with_reducible repeat (first | refine blk_drewN ?_ _ | refine blk_drew ?_ | refine blk_alloc ?_ _)); exact BK101.out⟩, ⟨by (with_reducible repeat (first | refine blk_drewN ?_ _ | refine blk_drew ?_ | refine blk_alloc ?_ _)); exact BK111.out⟩, ⟨by repeat (first | (with_reducible first | exact HB.out | apply below_alloc | apply pw_below_drewN | apply below_drew1 | refine below_set ?_ GE101.out | refine below_set ?_ GE111.out) | exact HB.out)⟩⟩
 case round =>
  clear H'
  try clear c1
  try clear c2
  try clear p2
  try clear c3
  try clear c12
  try clear c14
  try clear hcz15_0
  try clear hcz15_1
  try clear hcz15_2
  try clear hfz15_0
  try clear hfz15_1
  try clear hfz15_2
  obtain ⟨x11_1, x12_1, rfl, HA, HK1, HO_11, HO_112001, BK101, BK111, HB⟩ := hrel
  cases gk with
  | zero => exact absurd HA.out (by simp [scullerlaw14_Token.l0])
  | succ k1 =>
    have H := HA.out
    clear HA
    simp only [scullerlaw14_Token.l0] at H
    by_cases c19 : x12_1 < (l1.length : Int)
    · rw [if_pos c19] at H
      have c19b0 : decide (x12_1 < (l1.length : Int)) = true := decide_eq_true c19
      clear c19
      by_cases c20 : 0 ≤ x12_1
      · rw [if_pos c20] at H
        have c20b0 : decide (0 ≤ x12_1) = true := decide_eq_true c20
        clear c20
        replace H := Option.bind_eq_some_iff.mp H
        obtain ⟨t117, A210, H⟩ := H
        replace H : (if (wrap64 (rd l1 x12_1)) < t117 then ((scullerref03_Set_c.f x11_1 (wrap64 (rd l1 x12_1))).bind fun t119 => (scullerlaw14_Token.l0 k1 l1 t119 (wrap64 (x12_1 + 1)) t105 t106 t109)) else (scullerlaw14_Token.l0 k1 l1 x11_1 (wrap64 (x12_1 + 1)) t105 t106 t109)) = some (r1, r2, r3, r4) := H
        have A21 := Aside0.mk A210
        clear A210
        by_cases c22 : (wrap64 (rd l1 x12_1)) < t117
        · rw [if_pos c22] at H
          have c22b0 : decide ((wrap64 (rd l1 x12_1)) < t117) = true := decide_eq_true c22
          clear c22
          replace H := Option.bind_eq_some_iff.mp H
          obtain ⟨t119, A230, H⟩ := H
          replace H : (scullerlaw14_Token.l0 k1 l1 t119 (wrap64 (x12_1 + 1)) t105 t106 t109) = some (r1, r2, r3, r4) := H
          have A23 := Aside0.mk A230
          clear A230
          have H' := Aside0.mk H
          clear H
          try go_wp2
          have n0_ := Aside0.mk (Kd.R_drew HO_11.out)
          have n1_ := Aside0.mk (Kd.R_drew HO_112001.out)
          have n2_ := Aside0.mk (blk_drew BK101.out)
          have n3_ := Aside0.mk (blk_drew BK111.out)
          have n4_ := Aside0.mk (below_drew1 HB.out)
          clear HO_11
          clear HO_112001
          clear BK101
          clear BK111
          clear HB
          have HO_11 := n0_
          have HO_112001 := n1_
          have BK101 := n2_
          have BK111 := n3_
          have HB := n4_
          clear n0_ n1_ n2_ n3_ n4_
          have p116 : 0 ≤ (x12_1 : Int) := of_decide_eq_true (by first | (with_reducible assumption) | assumption)
          have q116 : x12_1 < (l1.length : Int) := of_decide_eq_true (by first | (with_reducible assumption) | assumption)
          obtain ⟨ad116, e116, hx116_0⟩ := Kd.at_int HR1.out x12_1 p116 q116
          have hw116_0 := hx116_0
          cases e116
          replace hx116_0 := (HB.out.cell (World.block_lt_of_cell? w _ hx116_0)).trans hx116_0
          replace p116 := eq_true p116
          replace q116 := eq_true q116
          refine start_ (n := 8) (S := fun w' => w'.cell? ⟨gb111, 0, none⟩ = some (.int .u64 t105) ∧ w'.cell? ⟨gb111, 1, none⟩ = some (.slice Ao16 t106.length co16) ∧ w'.cell? ⟨gb111, 2, none⟩ = some (.int .u32 t109) ∧ w'.cell? (ad116.add (x12_1).toNat) = some (.int .u8 (rd l1 x12_1))) (ds := []) #[false, false, false, false, false, false, false, false] (by kernel_rfl) rfl rfl ⟨(blk_cell BK111.out 0).trans rfl, (blk_cell BK111.out 1).trans rfl, (blk_cell BK111.out 2).trans rfl, ((HB.out.cell (World.block_lt_of_cell? w _ hw116_0)).trans hw116_0)⟩ (fun hHeld => ?_); refine with_tabW scullerlaw14_Token.tab6 scullerlaw14_Token.bits6 (fun HT_ HW_ => ?_)
          generalize wr.drew = w24 at HO_11 HO_112001 BK101 BK111 HB hx116_0 hHeld ⊢
          refine pure_ (i := 0) (N := some 31) (v := ?_) (a' := ?_) #[true, false, false, false, false, false, false, false] rfl rfl (any_of HT_.out (by kernel_rfl)) (fun _ _ _ h => h) (Or.inl ⟨by rfl, ?_⟩) ?_ ?_
          rotate_left
          · intro w'
            go_simp
            with_reducible rfl
          rotate_left
          · simp only [Act.put, List.setIfInBounds_toArray, List.set_cons_zero, List.set_cons_succ, i64_w, i32_w]
            rfl
          refine pure_ (i := 1) (N := some 32) (v := ?_) (a' := ?_) #[true, true, false, false, false, false, false, false] rfl rfl (any_of HT_.out (by kernel_rfl)) (fun _ _ _ h => h) (Or.inl ⟨by rfl, ?_⟩) ?_ ?_
          rotate_left
          · intro w'
            go_simp
            with_reducible rfl
          rotate_left
          · simp only [Act.put, List.setIfInBounds_toArray, List.set_cons_zero, List.set_cons_succ, i64_w, i32_w]
            rfl
          refine pure_ (i := 2) (N := some 33) (v := ?_) (a' := ?_) #[true, true, true, false, false, false, false, false] rfl rfl (any_of HT_.out (by kernel_rfl)) (fun _ _ _ h => h) (Or.inl ⟨by rfl, ?_⟩) ?_ ?_
          rotate_left
          · intro w'
            go_simp
            with_reducible rfl
          rotate_left
          · simp only [Act.put, List.setIfInBounds_toArray, List.set_cons_zero, List.set_cons_succ, i64_w, i32_w]
            rfl
          refine take_ (i := 3) (N := some 34) (v := ?_) (a' := ?_) #[true, true, true, true, false, false, false, false] rfl rfl (take_ofW HT_.out HW_.out (by kernel_rfl)) (fun _ _ _ h => h) (Or.inl ⟨by rfl, ?_⟩) hHeld ?_ ?_
          rotate_left
          · rintro w' ⟨s0, s1, s2, s3⟩
            go_simp
            with_reducible rfl
          rotate_left
          · simp only [Act.put, List.setIfInBounds_toArray, List.set_cons_zero, List.set_cons_succ, i64_w, i32_w]
            rfl
          refine pure_ (i := 4) (N := some 35) (v := ?_) (a' := ?_) #[true, true, true, true, true, false, false, false] rfl rfl (any_of HT_.out (by kernel_rfl)) (fun _ _ _ h => h) (Or.inl ⟨by rfl, ?_⟩) ?_ ?_
          rotate_left
          · intro w'
            go_simp
            with_reducible rfl
          rotate_left
          · simp only [Act.put, List.setIfInBounds_toArray, List.set_cons_zero, List.set_cons_succ, i64_w, i32_w]
            rfl
          refine take_ (i := 5) (N := some 36) (v := ?_) (a' := ?_) #[true, true, true, true, true, true, false, false] rfl rfl (take_ofW HT_.out HW_.out (by kernel_rfl)) (fun _ _ _ h => h) (Or.inl ⟨by rfl, ?_⟩) hHeld ?_ ?_
          rotate_left
          · rintro w' ⟨s0, s1, s2, s3⟩
            go_simp
            with_reducible rfl
          rotate_left
          · simp only [Act.put, List.setIfInBounds_toArray, List.set_cons_zero, List.set_cons_succ, i64_w, i32_w]
            rfl
          refine one_ (i := 6) (N := some 37) #[true, true, true, true, true, true, true, false] rfl rfl (one_of HT_.out (by kernel_rfl)) (by decide) (fun K hK => ?_)
          refine goes_ Try.func21 (by kernel_rfl) rfl #[.agg #[.int .u64 t105, .slice Ao16 t106.length co16, .int .u32 t109]] (by rfl) rfl rfl (by (try simp only [List.map_toArray, List.map_cons, List.map_nil]); first | done | rfl | (simp only [List.length_drop, List.length_take]; rfl)) ?_
          with_reducible refine (scullerref12_Chunks.calls t105 _ _ t106 t109 t117 _ ?side1 ?side2 A21.out).mono ?_
          (case side1 => repeat (first | exact (Kd.R_reads' HO_112001.out).2.2 | (with_reducible refine Kd.C_alloc ?_ _) | (with_reducible refine Kd.C_drewN ?_ _) | (with_reducible refine Kd.C_drew ?_)))
          (case side2 => exact (Kd.R_reads' HO_112001.out).2.1)
          rintro e w25 ⟨rfl, hb⟩
          refine ⟨_, rfl, ?_⟩
          have n0_ := Aside0.mk (Kd.R_below (by (with_reducible repeat (first | apply Kd.R_alloc | apply Kd.R_drewN | apply Kd.R_drew)); exact HO_11.out) hb)
          have n1_ := Aside0.mk (Kd.R_below (by (with_reducible repeat (first | apply Kd.R_alloc | apply Kd.R_drewN | apply Kd.R_drew)); exact HO_112001.out) hb)
          have n2_ := Aside0.mk (blk_below (g := gb101) (o := .cells #[.int .u64 0, .slice none 0 0, .int .u32 0, .slice none 0 0] 29 (0, 0)) (by (with_reducible repeat (first | refine blk_drewN ?_ _ | refine blk_drew ?_ | refine blk_alloc ?_ _)); exact BK101.out) hb)
          have n3_ := Aside0.mk (blk_below (g := gb111) (o := .cells #[.int .u64 t105, .slice Ao16 t106.length co16, .int .u32 t109] 26 (0, 0)) (by (with_reducible repeat (first | refine blk_drewN ?_ _ | refine blk_drew ?_ | refine blk_alloc ?_ _)); exact BK111.out) hb)
          have n4_ := Aside0.mk (below_step (by repeat (first | (with_reducible first | exact HB.out | apply below_alloc | apply pw_below_drewN | apply below_drew1 | refine below_set ?_ GE101.out | refine below_set ?_ GE111.out) | exact HB.out)) hb)
          clear HO_11
          clear HO_112001
          clear BK101
          clear BK111
          clear HB
          have HO_11 := n0_
          have HO_112001 := n1_
          have BK101 := n2_
          have BK111 := n3_
          have HB := n4_
          clear n0_ n1_ n2_ n3_ n4_
          (try clear hb)
          (try clear hb2)
          (try clear hk)
          (try clear hi)
          refine hK.out _ _ ⟨(blk_cell BK111.out 0).trans rfl, (blk_cell BK111.out 1).trans rfl, (blk_cell BK111.out 2).trans rfl, ((HB.out.cell (World.block_lt_of_cell? w _ hw116_0)).trans hw116_0)⟩ (fun hHeld => ?_)
          clear hK K
          refine norm_ (a' := ?_) ?_ ?_
          rotate_left
          · show Act.put _ (some 37) _ = _
            simp only [Act.put, List.setIfInBounds_toArray, List.set_cons_zero, List.set_cons_succ, i64_w, i32_w]
            rfl
          refine pure_ (i := 7) (N := some 38) (v := ?_) (a' := ?_) #[true, true, true, true, true, true, true, true] rfl rfl (any_of HT_.out (by kernel_rfl)) (fun _ _ _ h => h) (Or.inl ⟨by rfl, ?_⟩) ?_ ?_
          rotate_left
          · intro w'
            go_simp
            with_reducible rfl
          rotate_left
          · simp only [Act.put, List.setIfInBounds_toArray, List.set_cons_zero, List.set_cons_succ, i64_w, i32_w]
            rfl
          refine done_ (done_of HT_.out (by kernel_rfl)) ?_
          have p118 : 0 ≤ (x12_1 : Int) := of_decide_eq_true (by first | (with_reducible assumption) | assumption)
          have q118 : x12_1 < (l1.length : Int) := of_decide_eq_true (by first | (with_reducible assumption) | assumption)
          obtain ⟨ad118, e118, hx118_0⟩ := Kd.at_int HR1.out x12_1 p118 q118
          obtain rfl : ad116 = ad118 := (by injection e118)
          replace hx118_0 := (HB.out.cell (World.block_lt_of_cell? w _ hx118_0)).trans hx118_0
          replace p118 := eq_true p118
          replace q118 := eq_true q118
          obtain ⟨Ao26, co26, eo26⟩ := Kd.R_slice HO_11.out
          subst eo26
          try go_wp2_with (first | ((with_reducible refine gate_callee (f := 23) rfl ?_); refine goesL_ (some 45) rfl rfl Try.func23 (by kernel_rfl) rfl #[.slice Ao26 x11_1.length co26, .int .i64 (wrap64 (rd l1 x12_1))] rfl (by (try simp only [List.map_toArray, List.map_cons, List.map_nil]); first | done | rfl | (simp only [List.length_drop, List.length_take]; rfl)) ?_; (with_reducible refine (scullerref03_Set_c.calls _ _ x11_1 (wrap64 (rd l1 x12_1)) t119 _ ?side1 ?side2 A23.out).mono ?_); (case side1 => repeat (first | exact (Kd.R_reads' HO_11.out).2.2 | (with_reducible refine Kd.C_alloc ?_ _) | (with_reducible refine Kd.C_drewN ?_ _) | (with_reducible refine Kd.C_drew ?_))); (case side2 => exact (Kd.R_reads' HO_11.out).2.1); rintro e w27 ⟨v120, rfl, ho0, hb⟩; refine ⟨_, rfl, ?_⟩; have n0_ := Aside0.mk (Kd.R_elder' (by (with_reducible repeat (first | apply Kd.R_alloc | apply Kd.R_drewN | apply Kd.R_drew)); exact HO_11.out) (Kd.R_base ho0) hb); have n1_ := Aside0.mk (Kd.R_below (by (with_reducible repeat (first | apply Kd.R_alloc | apply Kd.R_drewN | apply Kd.R_drew)); exact HO_112001.out) hb); have n2_ := Aside0.mk (Kd.R_lower (Kd.R_new' ho0 (Kd.R_lt (by (with_reducible repeat (first | apply Kd.R_alloc | apply Kd.R_drewN | apply Kd.R_drew)); exact HO_11.out))) (below_size (by repeat (first | (with_reducible first | exact HB.out | apply below_alloc | apply pw_below_drewN | apply below_drew1 | refine below_set ?_ GE101.out | refine below_set ?_ GE111.out) | exact HB.out)))); have n3_ := Aside0.mk (blk_below (g := gb101) (o := .cells #[.int .u64 0, .slice none 0 0, .int .u32 0, .slice none 0 0] 29 (0, 0)) (by (with_reducible repeat (first | refine blk_drewN ?_ _ | refine blk_drew ?_ | refine blk_alloc ?_ _)); exact BK101.out) hb); have n4_ := Aside0.mk (blk_below (g := gb111) (o := .cells #[.int .u64 t105, .slice Ao16 t106.length co16, .int .u32 t109] 26 (0, 0)) (by (with_reducible repeat (first | refine blk_drewN ?_ _ | refine blk_drew ?_ | refine blk_alloc ?_ _)); exact BK111.out) hb); have n5_ := Aside0.mk (below_step (by repeat (first | (with_reducible first | exact HB.out | apply below_alloc | apply pw_below_drewN | apply below_drew1 | refine below_set ?_ GE101.out | refine below_set ?_ GE111.out) | exact HB.out)) hb); clear HO_11; clear HO_112001; clear BK101; clear BK111; clear HB; have HO_11 := n0_; have HO_112001 := n1_; have HO121 := n2_; have BK101 := n3_; have BK111 := n4_; have HB := n5_; clear n0_ n1_ n2_ n3_ n4_ n5_; (try clear hb); (try clear hb2); (try clear hk); (try clear hi); (try clear ho0)))
          go_roundg k1
          case measure => have := HK1.out; omega
          case rel => exact ⟨(t119), (wrap64 (x12_1 + 1)), (by first | rfl | (simp; done) | (simp [*]; done)), H', ⟨by have := HK1.out; omega⟩, ⟨by (with_reducible repeat (first | apply Kd.R_alloc | apply Kd.R_drewN | apply Kd.R_drew)); exact Kd.R_mono HO121.out (fun _ hk => trivial)⟩, ⟨by (with_reducible repeat (first | apply Kd.R_alloc | apply Kd.R_drewN | apply Kd.R_drew)); exact HO_112001.out⟩, ⟨by (with_reducible repeat (first | refine blk_drewN ?_ _ | refine blk_drew ?_ | refine blk_alloc ?_ _)); exact BK101.out⟩, ⟨by (with_reducible repeat (first | refine blk_drewN ?_ _ | refine blk_drew ?_ | refine blk_alloc ?_ _)); exact BK111.out⟩, ⟨by repeat (first | (with_reducible first | exact HB.out | apply below_alloc | apply pw_below_drewN | apply below_drew1 | refine below_set ?_ GE101.out | refine below_set ?_ GE111.out) | exact HB.out)⟩⟩
        · rw [if_neg c22] at H
          have c22b0 : decide ((wrap64 (rd l1 x12_1)) < t117) = false := decide_eq_false c22
          clear c22
          have H' := Aside0.mk H
          clear H
          try go_wp2
          have n0_ := Aside0.mk (Kd.R_drew HO_11.out)
          have n1_ := Aside0.mk (Kd.R_drew HO_112001.out)
          have n2_ := Aside0.mk (blk_drew BK101.out)
          have n3_ := Aside0.mk (blk_drew BK111.out)
          have n4_ := Aside0.mk (below_drew1 HB.out)
          clear HO_11
          clear HO_112001
          clear BK101
          clear BK111
          clear HB
          have HO_11 := n0_
          have HO_112001 := n1_
          have BK101 := n2_
          have BK111 := n3_
          have HB := n4_
          clear n0_ n1_ n2_ n3_ n4_
          have p116 : 0 ≤ (x12_1 : Int) := of_decide_eq_true (by first | (with_reducible assumption) | assumption)
          have q116 : x12_1 < (l1.length : Int) := of_decide_eq_true (by first | (with_reducible assumption) | assumption)
          obtain ⟨ad116, e116, hx116_0⟩ := Kd.at_int HR1.out x12_1 p116 q116
          have hw116_0 := hx116_0
          cases e116
          replace hx116_0 := (HB.out.cell (World.block_lt_of_cell? w _ hx116_0)).trans hx116_0
          replace p116 := eq_true p116
          replace q116 := eq_true q116
          refine start_ (n := 8) (S := fun w' => w'.cell? ⟨gb111, 0, none⟩ = some (.int .u64 t105) ∧ w'.cell? ⟨gb111, 1, none⟩ = some (.slice Ao16 t106.length co16) ∧ w'.cell? ⟨gb111, 2, none⟩ = some (.int .u32 t109) ∧ w'.cell? (ad116.add (x12_1).toNat) = some (.int .u8 (rd l1 x12_1))) (ds := []) #[false, false, false, false, false, false, false, false] (by kernel_rfl) rfl rfl ⟨(blk_cell BK111.out 0).trans rfl, (blk_cell BK111.out 1).trans rfl, (blk_cell BK111.out 2).trans rfl, ((HB.out.cell (World.block_lt_of_cell? w _ hw116_0)).trans hw116_0)⟩ (fun hHeld => ?_); refine with_tabW scullerlaw14_Token.tab6 scullerlaw14_Token.bits6 (fun HT_ HW_ => ?_)
          generalize wr.drew = w28 at HO_11 HO_112001 BK101 BK111 HB hx116_0 hHeld ⊢
          refine pure_ (i := 0) (N := some 31) (v := ?_) (a' := ?_) #[true, false, false, false, false, false, false, false] rfl rfl (any_of HT_.out (by kernel_rfl)) (fun _ _ _ h => h) (Or.inl ⟨by rfl, ?_⟩) ?_ ?_
          rotate_left
          · intro w'
            go_simp
            with_reducible rfl
          rotate_left
          · simp only [Act.put, List.setIfInBounds_toArray, List.set_cons_zero, List.set_cons_succ, i64_w, i32_w]
            rfl
          refine pure_ (i := 1) (N := some 32) (v := ?_) (a' := ?_) #[true, true, false, false, false, false, false, false] rfl rfl (any_of HT_.out (by kernel_rfl)) (fun _ _ _ h => h) (Or.inl ⟨by rfl, ?_⟩) ?_ ?_
          rotate_left
          · intro w'
            go_simp
            with_reducible rfl
          rotate_left
          · simp only [Act.put, List.setIfInBounds_toArray, List.set_cons_zero, List.set_cons_succ, i64_w, i32_w]
            rfl
          refine pure_ (i := 2) (N := some 33) (v := ?_) (a' := ?_) #[true, true, true, false, false, false, false, false] rfl rfl (any_of HT_.out (by kernel_rfl)) (fun _ _ _ h => h) (Or.inl ⟨by rfl, ?_⟩) ?_ ?_
          rotate_left
          · intro w'
            go_simp
            with_reducible rfl
          rotate_left
          · simp only [Act.put, List.setIfInBounds_toArray, List.set_cons_zero, List.set_cons_succ, i64_w, i32_w]
            rfl
          refine take_ (i := 3) (N := some 34) (v := ?_) (a' := ?_) #[true, true, true, true, false, false, false, false] rfl rfl (take_ofW HT_.out HW_.out (by kernel_rfl)) (fun _ _ _ h => h) (Or.inl ⟨by rfl, ?_⟩) hHeld ?_ ?_
          rotate_left
          · rintro w' ⟨s0, s1, s2, s3⟩
            go_simp
            with_reducible rfl
          rotate_left
          · simp only [Act.put, List.setIfInBounds_toArray, List.set_cons_zero, List.set_cons_succ, i64_w, i32_w]
            rfl
          refine pure_ (i := 4) (N := some 35) (v := ?_) (a' := ?_) #[true, true, true, true, true, false, false, false] rfl rfl (any_of HT_.out (by kernel_rfl)) (fun _ _ _ h => h) (Or.inl ⟨by rfl, ?_⟩) ?_ ?_
          rotate_left
          · intro w'
            go_simp
            with_reducible rfl
          rotate_left
          · simp only [Act.put, List.setIfInBounds_toArray, List.set_cons_zero, List.set_cons_succ, i64_w, i32_w]
            rfl
          refine take_ (i := 5) (N := some 36) (v := ?_) (a' := ?_) #[true, true, true, true, true, true, false, false] rfl rfl (take_ofW HT_.out HW_.out (by kernel_rfl)) (fun _ _ _ h => h) (Or.inl ⟨by rfl, ?_⟩) hHeld ?_ ?_
          rotate_left
          · rintro w' ⟨s0, s1, s2, s3⟩
            go_simp
            with_reducible rfl
          rotate_left
          · simp only [Act.put, List.setIfInBounds_toArray, List.set_cons_zero, List.set_cons_succ, i64_w, i32_w]
            rfl
          refine one_ (i := 6) (N := some 37) #[true, true, true, true, true, true, true, false] rfl rfl (one_of HT_.out (by kernel_rfl)) (by decide) (fun K hK => ?_)
          refine goes_ Try.func21 (by kernel_rfl) rfl #[.agg #[.int .u64 t105, .slice Ao16 t106.length co16, .int .u32 t109]] (by rfl) rfl rfl (by (try simp only [List.map_toArray, List.map_cons, List.map_nil]); first | done | rfl | (simp only [List.length_drop, List.length_take]; rfl)) ?_
          with_reducible refine (scullerref12_Chunks.calls t105 _ _ t106 t109 t117 _ ?side1 ?side2 A21.out).mono ?_
          (case side1 => repeat (first | exact (Kd.R_reads' HO_112001.out).2.2 | (with_reducible refine Kd.C_alloc ?_ _) | (with_reducible refine Kd.C_drewN ?_ _) | (with_reducible refine Kd.C_drew ?_)))
          (case side2 => exact (Kd.R_reads' HO_112001.out).2.1)
          rintro e w29 ⟨rfl, hb⟩
          refine ⟨_, rfl, ?_⟩
          have n0_ := Aside0.mk (Kd.R_below (by (with_reducible repeat (first | apply Kd.R_alloc | apply Kd.R_drewN | apply Kd.R_drew)); exact HO_11.out) hb)
          have n1_ := Aside0.mk (Kd.R_below (by (with_reducible repeat (first | apply Kd.R_alloc | apply Kd.R_drewN | apply Kd.R_drew)); exact HO_112001.out) hb)
          have n2_ := Aside0.mk (blk_below (g := gb101) (o := .cells #[.int .u64 0, .slice none 0 0, .int .u32 0, .slice none 0 0] 29 (0, 0)) (by (with_reducible repeat (first | refine blk_drewN ?_ _ | refine blk_drew ?_ | refine blk_alloc ?_ _)); exact BK101.out) hb)
          have n3_ := Aside0.mk (blk_below (g := gb111) (o := .cells #[.int .u64 t105, .slice Ao16 t106.length co16, .int .u32 t109] 26 (0, 0)) (by (with_reducible repeat (first | refine blk_drewN ?_ _ | refine blk_drew ?_ | refine blk_alloc ?_ _)); exact BK111.out) hb)
          have n4_ := Aside0.mk (below_step (by repeat (first | (with_reducible first | exact HB.out | apply below_alloc | apply pw_below_drewN | apply below_drew1 | refine below_set ?_ GE101.out | refine below_set ?_ GE111.out) | exact HB.out)) hb)
          clear HO_11
          clear HO_112001
          clear BK101
          clear BK111
          clear HB
          have HO_11 := n0_
          have HO_112001 := n1_
          have BK101 := n2_
          have BK111 := n3_
          have HB := n4_
          clear n0_ n1_ n2_ n3_ n4_
          (try clear hb)
          (try clear hb2)
          (try clear hk)
          (try clear hi)
          refine hK.out _ _ ⟨(blk_cell BK111.out 0).trans rfl, (blk_cell BK111.out 1).trans rfl, (blk_cell BK111.out 2).trans rfl, ((HB.out.cell (World.block_lt_of_cell? w _ hw116_0)).trans hw116_0)⟩ (fun hHeld => ?_)
          clear hK K
          refine norm_ (a' := ?_) ?_ ?_
          rotate_left
          · show Act.put _ (some 37) _ = _
            simp only [Act.put, List.setIfInBounds_toArray, List.set_cons_zero, List.set_cons_succ, i64_w, i32_w]
            rfl
          refine pure_ (i := 7) (N := some 38) (v := ?_) (a' := ?_) #[true, true, true, true, true, true, true, true] rfl rfl (any_of HT_.out (by kernel_rfl)) (fun _ _ _ h => h) (Or.inl ⟨by rfl, ?_⟩) ?_ ?_
          rotate_left
          · intro w'
            go_simp
            with_reducible rfl
          rotate_left
          · simp only [Act.put, List.setIfInBounds_toArray, List.set_cons_zero, List.set_cons_succ, i64_w, i32_w]
            rfl
          refine done_ (done_of HT_.out (by kernel_rfl)) ?_
          try go_wp2
          go_roundg k1
          case measure => have := HK1.out; omega
          case rel => exact ⟨(x11_1), (wrap64 (x12_1 + 1)), (by first | rfl | (simp; done) | (simp [*]; done)), H', ⟨by have := HK1.out; omega⟩, ⟨by (with_reducible repeat (first | apply Kd.R_alloc | apply Kd.R_drewN | apply Kd.R_drew)); exact HO_11.out⟩, ⟨by (with_reducible repeat (first | apply Kd.R_alloc | apply Kd.R_drewN | apply Kd.R_drew)); exact HO_112001.out⟩, ⟨by (with_reducible repeat (first | refine blk_drewN ?_ _ | refine blk_drew ?_ | refine blk_alloc ?_ _)); exact BK101.out⟩, ⟨by (with_reducible repeat (first | refine blk_drewN ?_ _ | refine blk_drew ?_ | refine blk_alloc ?_ _)); exact BK111.out⟩, ⟨by repeat (first | (with_reducible first | exact HB.out | apply below_alloc | apply pw_below_drewN | apply below_drew1 | refine below_set ?_ GE101.out | refine below_set ?_ GE111.out) | exact HB.out)⟩⟩
      · rw [if_neg c20] at H
        exact absurd H (by simp)
    · rw [if_neg c19] at H
      have c19b0 : decide (x12_1 < (l1.length : Int)) = false := decide_eq_false c19
      clear c19
      simp only [Option.some.injEq, Prod.mk.injEq] at H
      obtain ⟨rfl, rfl, rfl, rfl⟩ := H
      have hnb30 := NB111_101.out
      have hnc30 := NB101_111.out
      have hcz31_0 : wr.cell? ⟨gb111, 0, none⟩ = some (.int .u64 t105) := (blk_cell BK111.out 0).trans rfl
      have hcz31_1 : wr.cell? ⟨gb111, 1, none⟩ = some (.slice Ao16 t106.length co16) := (blk_cell BK111.out 1).trans rfl
      have hcz31_2 : wr.cell? ⟨gb111, 2, none⟩ = some (.int .u32 t109) := (blk_cell BK111.out 2).trans rfl
      have hfz31_0 := blk_frozen BK111.out 0
      have hfz31_1 := blk_frozen BK111.out 1
      have hfz31_2 := blk_frozen BK111.out 2
      obtain ⟨Ao32, co32, eo32⟩ := Kd.R_slice HO_11.out
      subst eo32
      have hcz33_0 : wr.cell? ⟨gb101, 0, none⟩ = some (.int .u64 0) := (blk_cell BK101.out 0).trans rfl
      have hcz33_1 : wr.cell? ⟨gb101, 1, none⟩ = some (.slice none 0 0) := (blk_cell BK101.out 1).trans rfl
      have hcz33_2 : wr.cell? ⟨gb101, 2, none⟩ = some (.int .u32 0) := (blk_cell BK101.out 2).trans rfl
      have hcz33_3 : wr.cell? ⟨gb101, 3, none⟩ = some (.slice none 0 0) := (blk_cell BK101.out 3).trans rfl
      have hfz33_0 := blk_frozen BK101.out 0
      have hfz33_1 := blk_frozen BK101.out 1
      have hfz33_2 := blk_frozen BK101.out 2
      have hfz33_3 := blk_frozen BK101.out 3
      go_wp2
      refine bodyPost_ret (results_cell_row rfl _ _ gb101 29 #[.int .u64 t105, .slice Ao16 t106.length co16, .int .u32 t109, .slice Ao32 x11_1.length co32] (0, 0) _ rfl (by (with_reducible repeat (first | refine blk_drewN ?_ _ | refine blk_drew ?_ | refine blk_alloc ?_ _)); refine blk_put (cs := #[.int .u64 t105, .slice Ao16 t106.length co16, .int .u32 t109, .slice none 0 0]) ?_ 3 _ rfl; (with_reducible repeat (first | refine blk_drewN ?_ _ | refine blk_drew ?_ | refine blk_alloc ?_ _)); refine blk_put (cs := #[.int .u64 t105, .slice Ao16 t106.length co16, .int .u32 0, .slice none 0 0]) ?_ 2 _ rfl; (with_reducible repeat (first | refine blk_drewN ?_ _ | refine blk_drew ?_ | refine blk_alloc ?_ _)); refine blk_put (cs := #[.int .u64 t105, .slice none 0 0, .int .u32 0, .slice none 0 0]) ?_ 1 _ rfl; (with_reducible repeat (first | refine blk_drewN ?_ _ | refine blk_drew ?_ | refine blk_alloc ?_ _)); refine blk_put (cs := #[.int .u64 0, .slice none 0 0, .int .u32 0, .slice none 0 0]) ?_ 0 _ rfl; (with_reducible repeat (first | refine blk_drewN ?_ _ | refine blk_drew ?_ | refine blk_alloc ?_ _)); exact BK101.out) Try.underlying29 rfl (by kernel_rfl)) rfl ?_
      exact ⟨_, _, by first | rfl | (simp [errW_none, errW_some] <;> rfl) | (simp [*, errW_none, errW_some] <;> rfl), by (with_reducible repeat (first | apply Kd.R_alloc | apply Kd.R_drewN | apply Kd.R_drew)); exact Kd.R_mono (Kd.R_far (p := ⟨gb101, 3, none⟩) (Kd.R_far (p := ⟨gb101, 2, none⟩) (Kd.R_far (p := ⟨gb101, 1, none⟩) (Kd.R_far (p := ⟨gb101, 0, none⟩) (Kd.R_types HO_112001.out BK101.out (by decide)) (fun _ hk => hk.2) (.int .u64 t105)) (fun _ hk => hk.2) (.slice Ao16 t106.length co16)) (fun _ hk => hk.2) (.int .u32 t109)) (fun _ hk => hk.2) (.slice Ao32 x11_1.length co32)) (fun _ hk => trivial), by (with_reducible repeat (first | apply Kd.R_alloc | apply Kd.R_drewN | apply Kd.R_drew)); exact Kd.R_mono (Kd.R_far (p := ⟨gb101, 3, none⟩) (Kd.R_far (p := ⟨gb101, 2, none⟩) (Kd.R_far (p := ⟨gb101, 1, none⟩) (Kd.R_far (p := ⟨gb101, 0, none⟩) (Kd.R_types HO_11.out BK101.out (by decide)) (fun _ hk => hk.2) (.int .u64 t105)) (fun _ hk => hk.2) (.slice Ao16 t106.length co16)) (fun _ hk => hk.2) (.int .u32 t109)) (fun _ hk => hk.2) (.slice Ao32 x11_1.length co32)) (fun _ hk => trivial), by repeat (first | (with_reducible first | exact HB.out | apply below_alloc | apply pw_below_drewN | apply below_drew1 | refine below_set ?_ GE101.out | refine below_set ?_ GE111.out) | exact HB.out)⟩

end Go.Proofs.Ytbijnfhcbanhdaa.F
end

section
namespace Go.Proofs.Ytbijnfhcbanhdaa.F
open Go.RowKit Go.Proofs.YtbijnfhcbanhdaaW.PrintWords Go.Proofs.YtbijnfhcbanhdaaW.PrintLast Go.Proofs.YtbijnfhcbanhdaaW.PrintMore
attribute [local go_sem] max2_int min2_int max_two min_two max_three min_three max_four min_four   -- for this text's walks alone
set_option linter.unusedVariables false
set_option linter.unusedSimpArgs false

open Go.Proofs.Ytbijnfhcbanhdaa.H
def scullerlaw14_Token_c.f (a0 : Int) (l1 : List Int) (a2 a3 : Int) : Option (Int × List Int × Int × List Int) := if u64B a0 = true ∧ bytesB l1 = true ∧ l1.length ≤ 140737488351232 ∧ 0 ≤ a2 ∧ a2 ≤ 255 ∧ 0 ≤ a3 ∧ a3 ≤ 255 then some (tokenC a0 l1 a2 a3) else none
theorem chunks12_is (a : Int) (l : List Int) (b : Int) : scullerref12_Chunks.f a l b = some ((wordsM l + 7) / 8) := by
 have h := wordsM_range l
 rw [scullerref12_Chunks.f, scullerref12_Words_c.f, Option.bind_some, show wrap64 (wordsM l + 7) = wordsM l + 7 from by unfold wrap64; omega, Int.tdiv_eq_ediv_of_nonneg (by omega)]
 congr 1
 unfold wrap64
 omega
theorem make03_is (n : Int) (h0 : 0 ≤ n) (h1 : n ≤ 65536) : scullerref03_Make.f n = some (zerosB n) := by
 have hmn : mx 0 (mn n 65536) = n := by unfold mx mn; split <;> split <;> omega
 rw [scullerref03_Make.f, hmn, scullerref01_Ceil_c.f, ceilL, if_pos ⟨by omega, by omega, by omega, by omega⟩, Option.bind_some, show n + 8 - 1 = n + 7 from by omega, if_pos (by omega), if_pos (by omega)]
 rfl
theorem scullerlaw14_Token.l0_to (s sum : Int) (sizes c : List Int) (hc : bytesB c = true) (hl : c.length ≤ 140737488351232) : ∀ (d i : Nat) (x : List Int), c.length - i = d → i ≤ c.length → bytesB x = true → x.length ≤ 1000000 →
 ∃ k, scullerlaw14_Token.l0 k c x (i : Int) s sizes sum = some (s, sizes, sum, (c.drop i).foldl (fun k x => if x < (wordsM sizes + 7) / 8 then setB k x else k) x)
 | 0, i, x, hd, hi, hx, hxl => ⟨1, by
   rw [scullerlaw14_Token.l0, if_neg (by omega), List.drop_of_length_le (by omega)]
   rfl⟩
 | d + 1, i, x, hd, hi, hx, hxl => by
   have hlt : i < c.length := by omega
   have hci := bytesB_at hc _ (List.getElem_mem hlt)
   have er : rd c (i : Int) = c[i] := getD_toNat c 0 i hlt
   have ew : wrap64 c[i] = c[i] := by unfold wrap64; omega
   rw [drop_at c i hlt, List.foldl_cons]
   by_cases hb : c[i] < (wordsM sizes + 7) / 8
   · obtain ⟨k, hk⟩ := scullerlaw14_Token.l0_to s sum sizes c hc hl d (i + 1) (setB x c[i]) (by omega) (by omega) (setB_byte hx _) (by rw [setB_length]; exact hxl)
     refine ⟨k + 1, ?_⟩
     rw [if_pos hb, scullerlaw14_Token.l0, if_pos (by omega), if_pos (by omega), chunks12_is, Option.bind_some, er, ew, if_pos hb, scullerref03_Set_c.f, if_pos ⟨hx, by omega, by omega⟩, Option.bind_some, show wrap64 ((i : Int) + 1) = ((i + 1 : Nat) : Int) from by unfold wrap64; omega]
     exact hk
   · obtain ⟨k, hk⟩ := scullerlaw14_Token.l0_to s sum sizes c hc hl d (i + 1) x (by omega) (by omega) hx hxl
     refine ⟨k + 1, ?_⟩
     rw [if_neg hb, scullerlaw14_Token.l0, if_pos (by omega), if_pos (by omega), chunks12_is, Option.bind_some, er, ew, if_neg hb, show wrap64 ((i : Int) + 1) = ((i + 1 : Nat) : Int) from by unfold wrap64; omega]
     exact hk
theorem scullerlaw14_Token_c.to {a0 : Int} {l1 : List Int} {a2 a3 : Int} {r : Int × List Int × Int × List Int} (h : scullerlaw14_Token_c.f a0 l1 a2 a3 = some r) : ∃ k, scullerlaw14_Token.f k a0 l1 a2 a3 = some r := by
 unfold scullerlaw14_Token_c.f at h
 split at h
 case isFalse => cases h
 case isTrue hb =>
 obtain rfl := Option.some.inj h
 obtain ⟨hs, hb, hl, h2, h3, h4, h5⟩ := hb
 have hfit : rightB (arena12L l1 a2 a3) = true := arena12L_fits l1 h2 h4
 have hok := arena12L_ok hb h2 h3 h4
 have hcr := chunksL_range (arena12L l1 a2 a3)
 obtain ⟨k, hk⟩ := scullerlaw14_Token.l0_to a0 (sumA a0 (arena12L l1 a2 a3)) (sizesL (arena12L l1 a2 a3)) l1 hb hl l1.length 0 (zerosB (chunksL (arena12L l1 a2 a3))) (by omega) (by omega) (zerosB_byte _) (by unfold zerosB; rw [List.length_replicate]; omega)
 refine ⟨k, ?_⟩
 rw [scullerlaw14_Token.f, scullerlaw12_Arena_c.f, if_pos ⟨hb, hl, h2, h3, h4, h5⟩, Option.bind_some, scullerref12_Of_c.f, if_pos ⟨hs, hok⟩, Option.bind_some, ofL, if_pos hfit]
 dsimp only
 rw [chunks12_is, Option.bind_some, show (wordsM (sizesL (arena12L l1 a2 a3)) + 7) / 8 = chunksL (arena12L l1 a2 a3) from rfl, make03_is _ hcr.1 (by omega), Option.bind_some]
 rw [List.drop_zero] at hk
 exact hk

theorem scullerlaw14_Token_c.calls (a0 : Int) (A1 : Option Addr) (c1 : Nat) (l1 : List Int) (a2 : Int) (a3 : Int) (r1 : Int) (r2 : List Int) (r3 : Int) (r4 : List Int) (w : World) (hr1 : Kd.C (Kd.int .u8) w A1 l1.length l1) (hc1 : l1.length ≤ c1) (h : scullerlaw14_Token_c.f a0 l1 a2 a3 = some (r1, r2, r3, r4)) :
 Calls Try.prog 12 #[.int .u64 a0, .slice A1 l1.length c1, .int .u8 a2, .int .u8 a3] w fun e w' => ∃ v1_ v3_ : Value, e = .returned (.agg #[.int .u64 r1, v1_, .int .u32 r3, v3_]) ∧ Kd.R (Kd.int .i64) 3 w' w.heap.size (fun _ => True) v1_ r2 ∧ Kd.R (Kd.int .u8) 5 w' w.heap.size (fun _ => True) v3_ r4 ∧ Below w.heap.size w w' := by
 obtain ⟨k_, hk_⟩ := scullerlaw14_Token_c.to h
 exact scullerlaw14_Token.calls k_ a0 A1 c1 l1 a2 a3 r1 r2 r3 r4 w hr1 hc1 hk_

end Go.Proofs.Ytbijnfhcbanhdaa.F
end

section
/- Numbers in the bounds of their kinds. -/
namespace Go.Proofs.Ytbijnfhcbanhdaa.Pure
open Go.RowKit Go.Proofs.Ytbijnfhcbanhdaa.H
theorem byte_wf {x : Int} (h : (Lit.int .u8 x).wf = true) : 0 ≤ x ∧ x ≤ 255 := by
 simp [Lit.wf, IntKind.min, IntKind.max, IntKind.signed, IntKind.bits] at h
 omega
theorem bytes_wf {l : List Int} (h : ∀ x ∈ l, (Lit.int .u8 x).wf = true) : bytesB l = true := bytesB_of fun x hx => byte_wf (h x hx)
end Go.Proofs.Ytbijnfhcbanhdaa.Pure
end

section
/- What a token's bytes are read back as. -/
namespace Go.Proofs.Ytbijnfhcbanhdaa.Pure
set_option linter.unusedVariables false
open Go.RowKit Go.Proofs.Ytbijnfhcbanhdaa.F Go.Proofs.Ytbijnfhcbanhdaa.H Go.Proofs.YtbijnfhcbanhdaaW.PrintWords Go.Proofs.YtbijnfhcbanhdaaW.PrintLast Go.Proofs.YtbijnfhcbanhdaaW.PrintMore
theorem getR_put (x : Int) (m : Nat) (h0 : 0 ≤ x) (h1 : x < 256 ^ m) (rest : List Int) : getR (putL x m ++ rest) m = (x, rest, false) := by
 unfold getR
 rw [if_neg (by rw [List.length_append, putL_length]; omega), List.take_left' (putL_length x m), List.drop_left' (putL_length x m), getL_putL m x h0 h1]
theorem readSizes_flat : ∀ (sizes acc l : List Int), (∀ x ∈ sizes, 0 ≤ x ∧ x ≤ 65535) → readSizes sizes.length acc ((sizes.flatMap fun n => putL n 2) ++ l) false = (acc ++ sizes, l, false)
 | [], acc, l, _ => by simp [readSizes]
 | x :: sizes, acc, l, h => by
   have hx := h x (by simp)
   rw [List.length_cons, readSizes, List.flatMap_cons, List.append_assoc, getR_put x 2 hx.1 (by omega), Bool.false_or, readSizes_flat sizes (acc ++ [x]) l (fun y hy => h y (by simp [hy])), List.append_assoc]
   rfl
theorem seal_take (l : List Int) : (sealL l).take ((sealL l).length - 4) = l := by rw [sealL_length, Nat.add_sub_cancel, sealL, List.take_left]
theorem tokenB_eq (s : Int) (sizes : List Int) (sum : Int) (known : List Int) : tokenB s sizes sum known = putL s 8 ++ (putL sum 4 ++ (putL sizes.length 1 ++ ((sizes.flatMap fun n => putL n 2) ++ known))) := by
 unfold tokenB tokenH
 rw [List.take_length]
 simp only [List.append_assoc]
theorem tokenB_length (s : Int) (sizes : List Int) (sum : Int) (known : List Int) : (tokenB s sizes sum known).length = 13 + 2 * sizes.length + known.length := by
 unfold tokenB
 rw [List.length_append, tokenH_length, List.take_length]
theorem tokenB_byte (s : Int) (sizes : List Int) (sum : Int) (known : List Int) (h : bytesB known = true) : bytesB (tokenB s sizes sum known) = true := by
 unfold tokenB
 rw [bytesB_append, tokenH_byte, h]
 rfl
theorem drop_put (x : Int) (m : Nat) (r : List Int) : (putL x m ++ r).drop m = r := List.drop_left' (putL_length x m)
theorem take_put (x : Int) (m : Nat) (r : List Int) : (putL x m ++ r).take m = putL x m := List.take_left' (putL_length x m)
/-- A sealed token, right or not: its parts are read back. -/
theorem decode_seal {s : Int} (hs : u64B s = true) {sum : Int} (hm : 0 ≤ sum ∧ sum < 4294967296) {sizes : List Int} (hn : sizes.length ≤ 255) (hz : ∀ x ∈ sizes, 0 ≤ x ∧ x ≤ 65535) (known : List Int) :
 decodeL (sealL (tokenB s sizes sum known)) = if rightT sizes known = true then (s, sizes, sum, known, 0) else (0, [], 0, [], 11) := by
 simp only [u64B, Bool.and_eq_true, decide_eq_true_eq] at hs
 have hlen := tokenB_length s sizes sum known
 have hsl := sealL_length (tokenB s sizes sum known)
 have ht := seal_take (tokenB s sizes sum known)
 have e8 : getL ((tokenB s sizes sum known).take 8) = s := by rw [tokenB_eq, take_put, getL_putL 8 s hs.1 (by omega)]
 have e4 : getL (((tokenB s sizes sum known).drop 8).take 4) = sum := by rw [tokenB_eq, drop_put, take_put, getL_putL 4 sum hm.1 (by omega)]
 have e12 : (tokenB s sizes sum known).drop 12 = putL sizes.length 1 ++ ((sizes.flatMap fun n => putL n 2) ++ known) := by
  rw [show 12 = 8 + 4 from rfl, ← List.drop_drop, tokenB_eq, drop_put, drop_put]
 have e13 : (tokenB s sizes sum known).drop 13 = (sizes.flatMap fun n => putL n 2) ++ known := by
  rw [show 13 = 12 + 1 from rfl, ← List.drop_drop, e12, drop_put]
 have eQ : decodeQ (sealL (tokenB s sizes sum known)) = (sizes, known, false) := by
  rw [decodeQ, ht, e12, e13, take_put, getL_putL 1 sizes.length (by omega) (by omega), Int.toNat_natCast, readSizes_flat _ _ _ hz]
  rfl
 rw [decodeL, if_neg (by omega), if_pos (rightC_seal _), eQ, ht, e8, e4]
 dsimp only
 unfold encodeL
 by_cases hr : rightT sizes known = true
 · rw [if_pos hr, if_pos ⟨rfl, rfl⟩, if_pos hr]
 · rw [if_neg hr, if_neg (by intro h; exact absurd (congrArg Prod.snd h.2) (by simp)), if_neg hr]
theorem fits_small {sizes : List Int} (h : fitsB sizes = true) : sizes.length ≤ 255 ∧ ∀ x ∈ sizes, 0 ≤ x ∧ x ≤ 65535 := by
 obtain ⟨h1, h2, h3, h4, h5⟩ := fitsB_at h
 refine ⟨by omega, fun x hx => ⟨h4 x hx, ?_⟩⟩
 obtain ⟨i, hi, rfl⟩ := List.getElem_of_mem hx
 have := mem_le_sum h4 i hi
 omega
theorem rightT_fits {sizes known : List Int} (h : rightT sizes known = true) : fitsB sizes = true := by
 unfold rightT at h
 rw [Bool.and_eq_true] at h
 exact h.1
/-- The statements' token: what it is. -/
structure TokOk (s : Int) (sizes : List Int) (sum : Int) (known : List Int) : Prop where
 u : u64B s = true
 m : 0 ≤ sum ∧ sum < 4294967296
 r : rightT sizes known = true
 k : bytesB known = true
 l : known.length ≤ 64
theorem TokOk.fits {s : Int} {sizes : List Int} {sum : Int} {known : List Int} (h : TokOk s sizes sum known) : fitsB sizes = true := rightT_fits h.r
theorem TokOk.enc {s : Int} {sizes : List Int} {sum : Int} {known : List Int} (h : TokOk s sizes sum known) : token_Encode_c.f s sizes sum known = some (sealL (tokenB s sizes sum known), 0) := by
 rw [token_Encode_c.f, if_pos ⟨h.k, by have := h.l; omega, h.m.1, h.m.2⟩, encodeL, if_pos h.r]
theorem TokOk.len {s : Int} {sizes : List Int} {sum : Int} {known : List Int} (h : TokOk s sizes sum known) : (known.length : Int) = ((wordsM sizes + 7) / 8 + 7) / 8 := by
 have h2 := h.r
 unfold rightT at h2
 rw [Bool.and_eq_true] at h2
 exact rightBits_length h2.2
theorem TokOk.size {s : Int} {sizes : List Int} {sum : Int} {known : List Int} (h : TokOk s sizes sum known) : (sealL (tokenB s sizes sum known)).length = 17 + 2 * sizes.length + known.length := by
 rw [sealL_length, tokenB_length]; omega
theorem TokOk.byte {s : Int} {sizes : List Int} {sum : Int} {known : List Int} (h : TokOk s sizes sum known) : bytesB (sealL (tokenB s sizes sum known)) = true := sealL_byte _ (tokenB_byte s sizes sum known h.k)
theorem tokenC_ok {s : Int} (hs : u64B s = true) {c : List Int} (hc : bytesB c = true) {n m : Int} (hn : 0 ≤ n) (hm : 0 ≤ m) : TokOk (tokenC s c n m).1 (tokenC s c n m).2.1 (tokenC s c n m).2.2.1 (tokenC s c n m).2.2.2 := by
 have hk := knownL_right hc (chunksL_range (arena12L c n m)).1
 have hr := chunksL_range (arena12L c n m)
 refine ⟨hs, moreL_range 0 _ (by omega) (by rw [bytesB_append, ofBytes_byte, bytesB_of (bytesL_byte _)]; rfl), tokenC_right hc hn hm, hk.1, ?_⟩
 have := rightBits_length hk.2
 show (knownL c (chunksL (arena12L c n m))).length ≤ 64
 omega
theorem token_is {s : Int} (hs : u64B s = true) {c : List Int} (hc : bytesB c = true) (hl : c.length ≤ 140737488351232) {n m : Int} (hn : 0 ≤ n) (hn1 : n ≤ 255) (hm : 0 ≤ m) (hm1 : m ≤ 255) :
 scullerlaw14_Token_c.f s c n m = some (tokenC s c n m) := if_pos ⟨hs, hc, hl, hn, hn1, hm, hm1⟩
theorem u64_wf {x : Int} (h : (Lit.int .u64 x).wf = true) : u64B x = true := by
 simp [Lit.wf, IntKind.min, IntKind.max, IntKind.signed, IntKind.bits] at h
 exact u64B_mk (by omega) (by omega)
end Go.Proofs.Ytbijnfhcbanhdaa.Pure
end

section
namespace Go.Proofs.Ytbijnfhcbanhdaa.F
open Go.RowKit Go.Proofs.YtbijnfhcbanhdaaW.PrintWords Go.Proofs.YtbijnfhcbanhdaaW.PrintLast Go.Proofs.YtbijnfhcbanhdaaW.PrintMore
attribute [local go_sem] max2_int min2_int max_two min_two max_three min_three max_four min_four   -- for this text's walks alone
set_option linter.unusedVariables false
set_option linter.unusedSimpArgs false

open Go.Proofs.Ytbijnfhcbanhdaa.H Go.Proofs.Ytbijnfhcbanhdaa.Pure
/-! ### scullerlaw14_TokenCut: given -/
def scullerlaw14_TokenCut.f (a0 : Int) (l1 : List Int) (a2 a3 a4 : Int) : Option Bool :=
 if u64B a0 = true ∧ bytesB l1 = true ∧ l1.length ≤ 140737488351232 ∧ (0 ≤ a2 ∧ a2 ≤ 255) ∧ (0 ≤ a3 ∧ a3 ≤ 255) ∧ (0 ≤ a4 ∧ a4 ≤ 255) then some true else none
theorem cut_seal (l : List Int) (hb : bytesB l = true) (hl : l.length ≤ 100000000) : scullerref02_Seal.f l = some (sealL l) := by
 have hr := moreL_range 0 l (by omega) hb
 rw [scullerref02_Seal.f, if_pos (by simp; omega), List.nil_append, Option.bind_some, scullerref02_Sum.f, scullerref02_More_c.f, if_pos ⟨by omega, by omega, hb, by omega⟩, Option.bind_some, Option.bind_some, scullerref01_Put_c.f]
 have hw : IntKind.u64.wrap (moreL 0 l) = moreL 0 l := by simp only [IntKind.wrap, IntKind.signed, IntKind.bits]; simp; omega
 rw [hw, if_pos (u64B_mk (by omega) (by omega)), Option.bind_some, show putN 4 = 4 from rfl, if_pos (by rw [putL_length]; omega)]
 rfl
/-- With fewer bits, or more, a token is none. -/
theorem wrong_len {sizes k : List Int} (h : (k.length : Int) ≠ ((wordsM sizes + 7) / 8 + 7) / 8) : rightT sizes k = false := by
 unfold rightT rightBits
 rw [decide_eq_false h, Bool.false_and, Bool.and_false]
theorem decode_wrong {s : Int} (hs : u64B s = true) {sum : Int} (hm : 0 ≤ sum ∧ sum < 4294967296) {sizes : List Int} (hf : fitsB sizes = true) {k : List Int} (hk : bytesB k = true) (hl : k.length ≤ 1000) (h : (k.length : Int) ≠ ((wordsM sizes + 7) / 8 + 7) / 8) :
 scullerref02_Seal.f (tokenB s sizes sum k) = some (sealL (tokenB s sizes sum k)) ∧ token_Decode.f (sealL (tokenB s sizes sum k)) = some (0, [], 0, [], 11) := by
 have hz := fits_small hf
 have hb := tokenB_byte s sizes sum k hk
 have hlen := tokenB_length s sizes sum k
 have h16 := (fitsB_at hf).2.1
 refine ⟨cut_seal _ hb (by omega), ?_⟩
 rw [token_Decode.f, if_pos ⟨sealL_byte _ hb, by rw [sealL_length]; omega⟩, decode_seal hs hm hz.1 hz.2, if_neg (by rw [wrong_len h]; decide)]
theorem seal_cut (A : Option Addr) (c m : Nat) (l r : List Int) (w : World) (hl : l.length = m) (hC : Kd.C (Kd.int .u8) w A m l) (hc : m ≤ c) (h : scullerref02_Seal.f l = some r) :
 Calls Try.prog 16 #[.slice A m c] w fun e w' => ∃ v : Value, e = .returned v ∧ Kd.R (Kd.int .u8) 5 w' w.heap.size (fun _ => True) v r ∧ Below w.heap.size w w' := by
 subst hl
 exact scullerref02_Seal.calls A c l r w hC hc h
theorem decode_cut (A : Option Addr) (c m : Nat) (l : List Int) (r1 : Int) (r2 : List Int) (r3 : Int) (r4 : List Int) (r5 : Int) (w : World) (hl : l.length = m) (hC : Kd.C (Kd.int .u8) w A m l) (hc : m ≤ c) (h : token_Decode.f l = some (r1, r2, r3, r4, r5)) :
 Calls Try.prog 20 #[.slice A m c] w fun e w' => ∃ v1 v3 : Value, e = .returned (.tuple #[.agg #[.int .u64 r1, v1, .int .u32 r3, v3], .int .u16 r5]) ∧ Kd.R (Kd.int .i64) 3 w' w.heap.size (fun _ => True) v1 r2 ∧ Kd.R (Kd.int .u8) 5 w' w.heap.size (fun _ => True) v3 r4 ∧ Below w.heap.size w w' := by
 subst hl
 exact token_Decode.calls A c l r1 r2 r3 r4 r5 w hC hc h
set_option maxHeartbeats 8000000 in
set_option maxRecDepth 100000 in
theorem scullerlaw14_TokenCut.calls (a0 : Int) (A1 : Option Addr) (c1 : Nat) (l1 : List Int) (a2 a3 a4 : Int) (r : Bool) (w : World) (hr1 : Kd.C (Kd.int .u8) w A1 l1.length l1) (hc1 : l1.length ≤ c1) (h : scullerlaw14_TokenCut.f a0 l1 a2 a3 a4 = some r) :
 Calls Try.prog 8 #[.int .u64 a0, .slice A1 l1.length c1, .int .u8 a2, .int .u8 a3, .int .u8 a4] w fun e w' => e = .returned (.bool r) ∧ Below w.heap.size w w' := by
 have huT := Try.underlying29
 unfold scullerlaw14_TokenCut.f at h
 split at h
 case isFalse => cases h
 case isTrue hb =>
 obtain ⟨hs, hbb, hl, h2, h3, h4⟩ := hb
 obtain rfl := Option.some.inj h
 clear h
 have HR1 := Aside0.mk hr1
 have HC1 := Aside0.mk hc1
 have hok := tokenC_ok hs hbb h2.1 h3.1
 have htk := token_is hs hbb hl h2.1 h2.2 h3.1 h3.2
 generalize tokenC a0 l1 a2 a3 = t at hok htk
 obtain ⟨s, sizes, sum, known⟩ := t
 dsimp only at hok
 have hsz := hok.size
 have hkl := hok.len
 have hfit := hok.fits
 have hwr := wordsM_range sizes
 obtain ⟨hf1, hf2, hf3, hf4, hf5⟩ := fitsB_at hfit
 have hw1 : 1 ≤ wordsM sizes := by
  rw [wordsM, if_pos hfit]
  have h9 := mem_le_sum hf4 0 (by omega)
  have e : sizes.getD 0 0 = sizes[0] := by rw [List.getD_eq_getElem?_getD, List.getElem?_eq_getElem (by omega)]; rfl
  omega
 have hk1 : 1 ≤ known.length := by omega
 have hby := hok.byte
 have htb := tokenB_length s sizes sum known
 have hl64 := hok.l
 have e1 : (sealL (tokenB s sizes sum known)).take ((sealL (tokenB s sizes sum known)).length - 5) = tokenB s sizes sum (known.take (known.length - 1)) := by
  have hh := tokenH_length s sizes sum sizes.length
  rw [List.take_length] at hh
  rw [hsz, show 17 + 2 * sizes.length + known.length - 5 = (tokenH s sizes sum sizes.length).length + (known.length - 1) from by omega, sealL, tokenB, List.append_assoc, List.take_length_add_append, List.take_append_of_le_length (by omega), tokenB]
 have e2 : (sealL (tokenB s sizes sum known)).take ((sealL (tokenB s sizes sum known)).length - 4) ++ [0] = tokenB s sizes sum (known ++ [0]) := by
  rw [seal_take, tokenB, tokenB, List.append_assoc]
 have d1 := decode_wrong hok.u hok.m hfit (k := known.take (known.length - 1)) (bytesB_take hok.k _) (by rw [List.length_take]; omega) (by rw [List.length_take]; omega)
 have hk0 : bytesB (known ++ [0]) = true := by rw [bytesB_append, hok.k]; rfl
 have d2 := decode_wrong hok.u hok.m hfit (k := known ++ [0]) hk0 (by rw [List.length_append]; simp; omega) (by rw [List.length_append]; simp; omega)
 obtain ⟨at_, hat⟩ : ∃ n : Nat, a4 % 17 = n := ⟨(a4 % 17).toNat, by omega⟩
 have d3 : token_Decode.f ((sealL (tokenB s sizes sum known)).take at_) = some (0, [], 0, [], 10) := by
  rw [token_Decode.f, if_pos ⟨bytesB_take hby _, by rw [List.length_take]; omega⟩, decodeL, if_pos (by rw [List.length_take]; omega)]
 have hsame : token_Same.f s sizes sum known 0 [] 0 [] = some false := by
  have : mani_Same.f s sizes sum 0 [] 0 = some false := by
   rw [mani_Same.f, slices_Equal_int_int_c.f, if_pos (show sizes.length ≤ 1000000 by omega), decide_eq_false (show ¬ sizes = [] from fun e => by rw [e] at hf1; simp at hf1)]
   split <;> (try split) <;> rfl
  rw [token_Same.f, this]
  rfl
 rw [← e1] at d1
 rw [← e2] at d2
 have henc := hok.enc
 generalize sealL (tokenB s sizes sum known) = b at *
 have hbl : b.length ≤ 1000 := by omega
 obtain ⟨m5, hm5⟩ : ∃ n, b.length - 5 = n := ⟨_, rfl⟩
 obtain ⟨m4, hm4⟩ : ∃ n, b.length - 4 = n := ⟨_, rfl⟩
 rw [hm5] at d1
 rw [hm4] at d2
 have i5 : (b.length : Int) - 5 = (m5 : Int) := by omega
 have i4 : (b.length : Int) - 4 = (m4 : Int) := by omega
 have HT := Aside0.mk htk
 have HE := Aside0.mk henc
 have HD1 := Aside0.mk d1.1
 have HD1' := Aside0.mk d1.2
 have HD2 := Aside0.mk d2.1
 have HD2' := Aside0.mk d2.2
 have HD3 := Aside0.mk d3
 have HSM := Aside0.mk hsame
 have HM5 := Aside0.mk (show m5 ≤ b.length by omega)
 have HM4 := Aside0.mk (show m4 ≤ b.length by omega)
 have HAT := Aside0.mk (show at_ ≤ b.length by omega)
 have HBL := Aside0.mk hbl
 have hlt : ¬ ((b.length : Int) < 20) := by omega
 have ht17 : Int.tmod (wrap64 a4) 17 = (at_ : Int) := by rw [show wrap64 a4 = a4 from by unfold wrap64; omega, Int.tmod_eq_emod_of_nonneg h4.1, hat]
 have ht17' : a4 % 17 = (at_ : Int) := hat
 have hw4 : wrap64 a4 = a4 := by unfold wrap64; omega
 clear d1 d2 d3 hsame henc htk hk0 e1 e2 hsz hkl hfit hwr hf1 hf2 hf3 hf4 hf5 hw1 hk1 hby htb hl64 hok hm5 hm4 hbb hl hr1 hc1 hat
 go_enter Try.func8, Try.ntmps8
 go_upto_region 2 with (first
  | (go_at_call 12; refine (scullerlaw14_Token_c.calls a0 A1 c1 l1 a2 a3 s sizes sum known _ HR1.out HC1.out HT.out).mono ?_; rintro e w1 ⟨v5, v6, rfl, h5, h6, hb⟩; obtain ⟨A2, c3, e_⟩ := Kd.R_slice h5; subst e_; obtain ⟨A4, c5, e_⟩ := Kd.R_slice h6; subst e_; have sz_ := (Nat.le_refl w.heap.size); have B6 := Aside0.mk hb; have R7 := Aside0.mk (Kd.R_lower (Kd.R_mono (ok' := fun _ => True) h5 (fun _ _ => trivial)) sz_); clear h5; have R8 := Aside0.mk (Kd.R_lower (Kd.R_mono (ok' := fun _ => True) h6 (fun _ _ => trivial)) sz_); clear h6; clear hb sz_)
  | ((with_reducible refine gate_dst (N := 11) rfl ?_); (try (refine gate_guard (by rfl) ?_; dsimp only)); refine box_event ?hg (N := 11) ?hd (cs := #[.int .u64 0, .slice none 0 0, .int .u32 0, .slice none 0 0]) (t := 29) ?hr ?_; (case hd => rfl); (case hg => rfl); (case hr => first | (go_simp; done) | (go_simp; rfl)); intro g9 hg w10 hbox hb; have G11 := Aside0.mk (show w.heap.size ≤ g9 by rw [hg]; exact B6.out.size); have R12 := Aside0.mk (Kd.R_below R7.out hb); have R13 := Aside0.mk (Kd.R_below R8.out hb); have B14 := Aside0.mk (below_then B6.out B6.out.size hb); clear R7 R8 B6; have K15 := Aside0.mk hbox; clear hb hbox hg; have zg9_0 : w10.cell? ⟨g9, 0, none⟩ = _ := (blk_cell K15.out 0).trans rfl; have zfg9_0 := blk_frozen K15.out 0; have zg9_1 : w10.cell? ⟨g9, 1, none⟩ = _ := (blk_cell K15.out 1).trans rfl; have zfg9_1 := blk_frozen K15.out 1; have zg9_2 : w10.cell? ⟨g9, 2, none⟩ = _ := (blk_cell K15.out 2).trans rfl; have zfg9_2 := blk_frozen K15.out 2; have zg9_3 : w10.cell? ⟨g9, 3, none⟩ = _ := (blk_cell K15.out 3).trans rfl; have zfg9_3 := blk_frozen K15.out 3))
 have h16 := Kd.R_set R12.out K15.out (by decide) 0 (.int .u64 s)
 have h17 := Kd.R_set R13.out K15.out (by decide) 0 (.int .u64 s)
 have h18 := below_set (g := g9) (j := 0) (v := (.int .u64 s)) B14.out G11.out
 have h19 := blk_put (cs := #[.int .u64 0, .slice none 0 0, .int .u32 0, .slice none 0 0]) K15.out 0 (.int .u64 s) rfl
 have h20 := Kd.R_set h16 h19 (by decide) 1 (.slice A2 sizes.length c3)
 have h21 := Kd.R_set h17 h19 (by decide) 1 (.slice A2 sizes.length c3)
 have h22 := below_set (g := g9) (j := 1) (v := (.slice A2 sizes.length c3)) h18 G11.out
 have h23 := blk_put (cs := #[.int .u64 s, .slice none 0 0, .int .u32 0, .slice none 0 0]) h19 1 (.slice A2 sizes.length c3) rfl
 have h24 := Kd.R_set h20 h23 (by decide) 2 (.int .u32 sum)
 have h25 := Kd.R_set h21 h23 (by decide) 2 (.int .u32 sum)
 have h26 := below_set (g := g9) (j := 2) (v := (.int .u32 sum)) h22 G11.out
 have h27 := blk_put (cs := #[.int .u64 s, .slice A2 sizes.length c3, .int .u32 0, .slice none 0 0]) h23 2 (.int .u32 sum) rfl
 have h28 := Kd.R_set h24 h27 (by decide) 3 (.slice A4 known.length c5)
 have h29 := Kd.R_set h25 h27 (by decide) 3 (.slice A4 known.length c5)
 have h30 := below_set (g := g9) (j := 3) (v := (.slice A4 known.length c5)) h26 G11.out
 have h31 := blk_put (cs := #[.int .u64 s, .slice A2 sizes.length c3, .int .u32 sum, .slice none 0 0]) h27 3 (.slice A4 known.length c5) rfl
 generalize (World.setCell (World.setCell (World.setCell (World.setCell w10 ⟨g9, 0, none⟩ (.int .u64 s)) ⟨g9, 1, none⟩ (.slice A2 sizes.length c3)) ⟨g9, 2, none⟩ (.int .u32 sum)) ⟨g9, 3, none⟩ (.slice A4 known.length c5)) = w32 at h31 h30 h28 h29 ⊢
 have K33 := Aside0.mk h31
 have B34 := Aside0.mk h30
 have R35 := Aside0.mk h28
 have R36 := Aside0.mk h29
 clear h16 h17 h18 h19 h20 h21 h22 h23 h24 h25 h26 h27 h28 h29 h30 h31
 clear K15 B14 R12 R13
 clear zg9_0 zfg9_0 zg9_1 zfg9_1 zg9_2 zfg9_2 zg9_3 zfg9_3
 have y0 : w32.cell? ⟨g9, 0, none⟩ = some (.int .u64 s) := (blk_cell K33.out 0).trans rfl
 have y1 : w32.cell? ⟨g9, 1, none⟩ = some (.slice A2 sizes.length c3) := (blk_cell K33.out 1).trans rfl
 have y2 : w32.cell? ⟨g9, 2, none⟩ = some (.int .u32 sum) := (blk_cell K33.out 2).trans rfl
 have y3 : w32.cell? ⟨g9, 3, none⟩ = some (.slice A4 known.length c5) := (blk_cell K33.out 3).trans rfl
 go_upto_region 5 with (first
  | (go_at_call 19; refine (token_Encode_c.calls s A2 c3 sizes sum A4 c5 known b 0 _ (Kd.R_reads' R35.out).2.2 (Kd.R_reads' R35.out).2.1 (Kd.R_reads' R36.out).2.2 (Kd.R_reads' R36.out).2.1 HE.out).mono ?_; rintro e w37 ⟨v7, rfl, h7, hb⟩; obtain ⟨A38, c39, e_⟩ := Kd.R_slice h7; subst e_; have sz_ := (B34.out.size); have R40 := Aside0.mk (Kd.R_below R35.out hb); have R41 := Aside0.mk (Kd.R_below R36.out hb); have K42 := Aside0.mk (blk_below K33.out hb); have B43 := Aside0.mk (below_then B34.out B34.out.size hb); clear R35 R36 K33 B34; have R44 := Aside0.mk (Kd.R_lower (Kd.R_mono (ok' := fun _ => True) h7 (fun _ _ => trivial)) sz_); clear h7; clear y0 y1 y2 y3; clear hb sz_))
 have htl_m5 : (b.take m5).length = m5 := by rw [List.length_take]; have := HM5.out; omega
 have hcc_m5 : m5 ≤ c39 := Nat.le_trans HM5.out (Kd.R_reads' R44.out).2.1
 have HTL_m5 := Aside0.mk htl_m5
 have HCC_m5 := Aside0.mk hcc_m5
 have htl_m4 : (b.take m4).length = m4 := by rw [List.length_take]; have := HM4.out; omega
 have hcc_m4 : m4 ≤ c39 := Nat.le_trans HM4.out (Kd.R_reads' R44.out).2.1
 have HTL_m4 := Aside0.mk htl_m4
 have HCC_m4 := Aside0.mk hcc_m4
 have htl_at_ : (b.take at_).length = at_ := by rw [List.length_take]; have := HAT.out; omega
 have hcc_at_ : at_ ≤ c39 := Nat.le_trans HAT.out (Kd.R_reads' R44.out).2.1
 have HTL_at_ := Aside0.mk htl_at_
 have HCC_at_ := Aside0.mk hcc_at_
 clear htl_m5 htl_m4 htl_at_
 go_upto_region 6 with (first
  | (go_at_call 16; refine (seal_cut A38 c39 m5 (b.take m5) (sealL (b.take m5)) _ HTL_m5.out (Kd.C_of_reads (d := (0 : Int)) (h1 := fun _ => rfl) (ReadsInt.take_ (Kd.reads_of_C (d := (0 : Int)) (Kd.R_reads' R44.out).2.2) m5 HM5.out)) HCC_m5.out HD1.out).mono ?_; rintro e w45 ⟨v1, rfl, h1, hb⟩; obtain ⟨A46, c47, e_⟩ := Kd.R_slice h1; subst e_; have sz_ := (B43.out.size); have R48 := Aside0.mk (Kd.R_below R40.out hb); have R49 := Aside0.mk (Kd.R_below R41.out hb); have R50 := Aside0.mk (Kd.R_below R44.out hb); have K51 := Aside0.mk (blk_below K42.out hb); have B52 := Aside0.mk (below_then B43.out B43.out.size hb); clear R40 R41 R44 K42 B43; have R53 := Aside0.mk (Kd.R_lower (Kd.R_mono (ok' := fun _ => True) h1 (fun _ _ => trivial)) sz_); clear h1; clear hb sz_)
  | (go_at_call 20; refine (token_Decode.calls A46 c47 (sealL (b.take m5)) 0 [] 0 [] 11 _ (Kd.R_reads' R53.out).2.2 (Kd.R_reads' R53.out).2.1 HD1'.out).mono ?_; rintro e w54 ⟨v1, v3, rfl, h1, h3, hb⟩; obtain ⟨A55, n57, c56, e_⟩ : ∃ A_ n_ c_, v1 = Value.slice A_ n_ c_ := (by obtain ⟨A_, c_, e_⟩ := Kd.R_slice h1; exact ⟨A_, _, c_, e_⟩); subst e_; clear h1; obtain ⟨A58, n60, c59, e_⟩ : ∃ A_ n_ c_, v3 = Value.slice A_ n_ c_ := (by obtain ⟨A_, c_, e_⟩ := Kd.R_slice h3; exact ⟨A_, _, c_, e_⟩); subst e_; clear h3; have sz_ := (B52.out.size); have R61 := Aside0.mk (Kd.R_below R48.out hb); have R62 := Aside0.mk (Kd.R_below R49.out hb); have R63 := Aside0.mk (Kd.R_below R50.out hb); have R64 := Aside0.mk (Kd.R_below R53.out hb); have K65 := Aside0.mk (blk_below K51.out hb); have B66 := Aside0.mk (below_then B52.out B52.out.size hb); clear R48 R49 R50 R53 K51 B52; clear hb sz_)
  | ((with_reducible refine gate_dst (N := 14) rfl ?_); (try (refine gate_guard (by rfl) ?_; dsimp only)); refine box_event ?hg (N := 14) ?hd (cs := #[.int .u64 0, .slice none 0 0, .int .u32 0, .slice none 0 0]) (t := 29) ?hr ?_; (case hd => rfl); (case hg => rfl); (case hr => first | (go_simp; done) | (go_simp; rfl)); intro g67 hg w68 hbox hb; have G69 := Aside0.mk (show w.heap.size ≤ g67 by rw [hg]; exact B66.out.size); have N70 := Aside0.mk (show g9 ≠ g67 by have h_ := blk_lt K65.out; omega); have R71 := Aside0.mk (Kd.R_below R61.out hb); have R72 := Aside0.mk (Kd.R_below R62.out hb); have R73 := Aside0.mk (Kd.R_below R63.out hb); have R74 := Aside0.mk (Kd.R_below R64.out hb); have K75 := Aside0.mk (blk_below K65.out hb); have B76 := Aside0.mk (below_then B66.out B66.out.size hb); clear R61 R62 R63 R64 K65 B66; have K77 := Aside0.mk hbox; clear hb hbox hg; have zg67_0 : w68.cell? ⟨g67, 0, none⟩ = _ := (blk_cell K77.out 0).trans rfl; have zfg67_0 := blk_frozen K77.out 0; have zg67_1 : w68.cell? ⟨g67, 1, none⟩ = _ := (blk_cell K77.out 1).trans rfl; have zfg67_1 := blk_frozen K77.out 1; have zg67_2 : w68.cell? ⟨g67, 2, none⟩ = _ := (blk_cell K77.out 2).trans rfl; have zfg67_2 := blk_frozen K77.out 2; have zg67_3 : w68.cell? ⟨g67, 3, none⟩ = _ := (blk_cell K77.out 3).trans rfl; have zfg67_3 := blk_frozen K77.out 3))
 have h78 := Kd.R_set R71.out K77.out (by decide) 0 (.int .u64 0)
 have h79 := Kd.R_set R72.out K77.out (by decide) 0 (.int .u64 0)
 have h80 := Kd.R_set R73.out K77.out (by decide) 0 (.int .u64 0)
 have h81 := blk_far (p := ⟨g67, 0, none⟩) K75.out N70.out (.int .u64 0)
 have h82 := below_set (g := g67) (j := 0) (v := (.int .u64 0)) B76.out G69.out
 have h83 := blk_put (cs := #[.int .u64 0, .slice none 0 0, .int .u32 0, .slice none 0 0]) K77.out 0 (.int .u64 0) rfl
 have h84 := Kd.R_set h78 h83 (by decide) 1 (.slice A55 n57 c56)
 have h85 := Kd.R_set h79 h83 (by decide) 1 (.slice A55 n57 c56)
 have h86 := Kd.R_set h80 h83 (by decide) 1 (.slice A55 n57 c56)
 have h87 := blk_far (p := ⟨g67, 1, none⟩) h81 N70.out (.slice A55 n57 c56)
 have h88 := below_set (g := g67) (j := 1) (v := (.slice A55 n57 c56)) h82 G69.out
 have h89 := blk_put (cs := #[.int .u64 0, .slice none 0 0, .int .u32 0, .slice none 0 0]) h83 1 (.slice A55 n57 c56) rfl
 have h90 := Kd.R_set h84 h89 (by decide) 2 (.int .u32 0)
 have h91 := Kd.R_set h85 h89 (by decide) 2 (.int .u32 0)
 have h92 := Kd.R_set h86 h89 (by decide) 2 (.int .u32 0)
 have h93 := blk_far (p := ⟨g67, 2, none⟩) h87 N70.out (.int .u32 0)
 have h94 := below_set (g := g67) (j := 2) (v := (.int .u32 0)) h88 G69.out
 have h95 := blk_put (cs := #[.int .u64 0, .slice A55 n57 c56, .int .u32 0, .slice none 0 0]) h89 2 (.int .u32 0) rfl
 have h96 := Kd.R_set h90 h95 (by decide) 3 (.slice A58 n60 c59)
 have h97 := Kd.R_set h91 h95 (by decide) 3 (.slice A58 n60 c59)
 have h98 := Kd.R_set h92 h95 (by decide) 3 (.slice A58 n60 c59)
 have h99 := blk_far (p := ⟨g67, 3, none⟩) h93 N70.out (.slice A58 n60 c59)
 have h100 := below_set (g := g67) (j := 3) (v := (.slice A58 n60 c59)) h94 G69.out
 have h101 := blk_put (cs := #[.int .u64 0, .slice A55 n57 c56, .int .u32 0, .slice none 0 0]) h95 3 (.slice A58 n60 c59) rfl
 generalize (World.setCell (World.setCell (World.setCell (World.setCell w68 ⟨g67, 0, none⟩ (.int .u64 0)) ⟨g67, 1, none⟩ (.slice A55 n57 c56)) ⟨g67, 2, none⟩ (.int .u32 0)) ⟨g67, 3, none⟩ (.slice A58 n60 c59)) = w102 at h101 h100 h96 h97 h98 h99 ⊢
 have K103 := Aside0.mk h101
 have B104 := Aside0.mk h100
 have R105 := Aside0.mk h96
 have R106 := Aside0.mk h97
 have R107 := Aside0.mk h98
 have K108 := Aside0.mk h99
 clear h78 h79 h80 h81 h82 h83 h84 h85 h86 h87 h88 h89 h90 h91 h92 h93 h94 h95 h96 h97 h98 h99 h100 h101
 clear K77 B76 R71 R72 R73 K75
 clear zg67_0 zfg67_0 zg67_1 zfg67_1 zg67_2 zfg67_2 zg67_3 zfg67_3
 go_upto_region 7 with (fail)
 obtain ⟨N, hN⟩ : ∃ N, w102.heap.size = N := ⟨_, rfl⟩
 have HN := Aside0.mk hN
 have HWN := Aside0.mk (show w.heap.size ≤ N by rw [← hN]; exact B104.out.size)
 clear hN
 have R109 := Aside0.mk (Kd.R_mono (ok' := fun k_ => k_ < N) (Kd.R_bound R105.out) (fun k_ hk => by have := hk.2.2.1; rw [HN.out] at this; exact this))
 clear R105
 have R110 := Aside0.mk (Kd.R_mono (ok' := fun k_ => k_ < N) (Kd.R_bound R106.out) (fun k_ hk => by have := hk.2.2.1; rw [HN.out] at this; exact this))
 clear R106
 have R111 := Aside0.mk (Kd.R_mono (ok' := fun k_ => k_ < N) (Kd.R_bound R107.out) (fun k_ hk => by have := hk.2.2.1; rw [HN.out] at this; exact this))
 clear R107
 go_upto_region 8 with (first
  | ((with_reducible refine gate_builtin (b := .append) (xs := #[.tmp 44, .tmp 49]) rfl ?_); at_builtin; refine Kd.R_append_rows (Kd.int .u8) (w0 := w102) N rfl (.tmp 44) (.tmp 49) 27 5 (.int .u8 0) 1 rfl Try.underlying27 info5 rfl (by decide) (by omega) (.slice none 0 0) [] (b.take m4) A38 m4 c39 (fun _ => True) (fun _ => False) rfl rfl (Kd.R_nil _ _ _ _ _) (Kd.C_of_reads (d := (0 : Int)) (h1 := fun _ => rfl) (ReadsInt.take_ (Kd.reads_of_C (d := (0 : Int)) (Kd.R_reads' R111.out).2.2) m4 HM4.out)) (fun _ _ h => h) (fun _ h => h.elim) (fun _ _ => trivial) (Below.refl N _) (Nat.le_of_eq HN.out.symm) (by have := HM4.out; have := HBL.out; simp; omega) ?_; intro v8 w112 ho8 hb8 hg8 _; rw [List.nil_append] at ho8; obtain ⟨A113, c114, e8⟩ := Kd.R_slice ho8; rw [HTL_m4.out] at e8; subst e8; have R115 := Aside0.mk ho8; have HSZ8 := Aside0.mk (show w102.heap.size ≤ w112.heap.size from hb8.size); have hb := (show Below w102.heap.size w102 w112 by rw [HN.out]; exact hb8); have R116 := Aside0.mk (Kd.R_below R109.out hb); have R117 := Aside0.mk (Kd.R_below R110.out hb); have R118 := Aside0.mk (Kd.R_below R111.out hb); have K119 := Aside0.mk (blk_below K108.out hb); have B120 := Aside0.mk (below_then B104.out B104.out.size hb); clear R109 R110 R111 K108 B104; clear hb hb8 hg8 ho8))
 have HTL_2 := Aside0.mk (show (b.take m4 ++ [0]).length = m4 + 1 by rw [List.length_append, HTL_m4.out]; rfl)
 have HNW := Aside0.mk (show N ≤ w112.heap.size by rw [← HN.out]; exact HSZ8.out)
 go_upto_region 9 with (first
  | ((with_reducible refine gate_builtin (b := .append) (xs := #[.tmp 51, .tmp 52]) rfl ?_); at_builtin; refine Kd.R_append (Kd.int .u8) (w0 := w112) N rfl (.tmp 51) (.tmp 52) 27 5 (.int .u8 0) 1 rfl Try.underlying27 info5 rfl (by decide) (by omega) (.slice A113 m4 c114) (b.take m4) 0 [.int .u8 0] (fun _ => True) (fun _ => False) rfl rfl rfl (fun _ hk => hk.elim) (fun _ _ => trivial) R115.out (Below.refl N _) HNW.out (by have := HM4.out; have := HBL.out; have := HTL_m4.out; omega) ?_; intro v9 w121 ho9 hb8 hg8 _; obtain ⟨A122, c123, e9⟩ := Kd.R_slice ho9; rw [HTL_2.out] at e9; subst e9; have R124 := Aside0.mk ho9; have R125 := Aside0.mk (Kd.R_grown R116.out hg8 (fun k_ hk e_ => by have := Kd.R_base R115.out k_ e_.symm; omega)); have R126 := Aside0.mk (Kd.R_grown R117.out hg8 (fun k_ hk e_ => by have := Kd.R_base R115.out k_ e_.symm; omega)); have R127 := Aside0.mk (Kd.R_grown R118.out hg8 (fun k_ hk e_ => by have := Kd.R_base R115.out k_ e_.symm; omega)); have K128 := Aside0.mk (blk_grown K119.out hg8 (fun e_ => Kd.R_ne R115.out K119.out (by decide) e_)); have B129 := Aside0.mk (B120.out.trans (hb8.mono HWN.out)); clear R116 R117 R118 K119 B120; clear hb8 hg8 ho9))
 have HLE := Aside0.mk (show m4 + 1 ≤ c123 by have h_ := (Kd.R_reads' R124.out).2.1; have := HTL_2.out; omega)
 go_upto_region 10 with (first
  | (go_at_call 16; refine (seal_cut A122 c123 (m4 + 1) (b.take m4 ++ [0]) (sealL (b.take m4 ++ [0])) _ HTL_2.out (by have h_ := (Kd.R_reads' R124.out).2.2; rw [HTL_2.out] at h_; exact h_) HLE.out HD2.out).mono ?_; rintro e w130 ⟨v1, rfl, h1, hb⟩; obtain ⟨A131, c132, e_⟩ := Kd.R_slice h1; subst e_; have sz_ := (B129.out.size); have R133 := Aside0.mk (Kd.R_below R125.out hb); have R134 := Aside0.mk (Kd.R_below R126.out hb); have R135 := Aside0.mk (Kd.R_below R127.out hb); have R136 := Aside0.mk (Kd.R_below R124.out hb); have K137 := Aside0.mk (blk_below K128.out hb); have B138 := Aside0.mk (below_then B129.out B129.out.size hb); clear R125 R126 R127 R124 K128 B129; have R139 := Aside0.mk (Kd.R_lower (Kd.R_mono (ok' := fun _ => True) h1 (fun _ _ => trivial)) sz_); clear h1; clear hb sz_)
  | (go_at_call 20; refine (token_Decode.calls A131 c132 (sealL (b.take m4 ++ [0])) 0 [] 0 [] 11 _ (Kd.R_reads' R139.out).2.2 (Kd.R_reads' R139.out).2.1 HD2'.out).mono ?_; rintro e w140 ⟨v1, v3, rfl, h1, h3, hb⟩; obtain ⟨A141, n143, c142, e_⟩ : ∃ A_ n_ c_, v1 = Value.slice A_ n_ c_ := (by obtain ⟨A_, c_, e_⟩ := Kd.R_slice h1; exact ⟨A_, _, c_, e_⟩); subst e_; clear h1; obtain ⟨A144, n146, c145, e_⟩ : ∃ A_ n_ c_, v3 = Value.slice A_ n_ c_ := (by obtain ⟨A_, c_, e_⟩ := Kd.R_slice h3; exact ⟨A_, _, c_, e_⟩); subst e_; clear h3; have sz_ := (B138.out.size); have R147 := Aside0.mk (Kd.R_below R133.out hb); have R148 := Aside0.mk (Kd.R_below R134.out hb); have R149 := Aside0.mk (Kd.R_below R135.out hb); have R150 := Aside0.mk (Kd.R_below R136.out hb); have R151 := Aside0.mk (Kd.R_below R139.out hb); have K152 := Aside0.mk (blk_below K137.out hb); have B153 := Aside0.mk (below_then B138.out B138.out.size hb); clear R133 R134 R135 R136 R139 K137 B138; clear hb sz_)
  | ((with_reducible refine gate_dst (N := 17) rfl ?_); (try (refine gate_guard (by rfl) ?_; dsimp only)); refine box_event ?hg (N := 17) ?hd (cs := #[.int .u64 0, .slice none 0 0, .int .u32 0, .slice none 0 0]) (t := 29) ?hr ?_; (case hd => rfl); (case hg => rfl); (case hr => first | (go_simp; done) | (go_simp; rfl)); intro g154 hg w155 hbox hb; have G156 := Aside0.mk (show w.heap.size ≤ g154 by rw [hg]; exact B153.out.size); have N157 := Aside0.mk (show g9 ≠ g154 by have h_ := blk_lt K152.out; omega); have R158 := Aside0.mk (Kd.R_below R147.out hb); have R159 := Aside0.mk (Kd.R_below R148.out hb); have R160 := Aside0.mk (Kd.R_below R149.out hb); have R161 := Aside0.mk (Kd.R_below R150.out hb); have R162 := Aside0.mk (Kd.R_below R151.out hb); have K163 := Aside0.mk (blk_below K152.out hb); have B164 := Aside0.mk (below_then B153.out B153.out.size hb); clear R147 R148 R149 R150 R151 K152 B153; have K165 := Aside0.mk hbox; clear hb hbox hg; have zg154_0 : w155.cell? ⟨g154, 0, none⟩ = _ := (blk_cell K165.out 0).trans rfl; have zfg154_0 := blk_frozen K165.out 0; have zg154_1 : w155.cell? ⟨g154, 1, none⟩ = _ := (blk_cell K165.out 1).trans rfl; have zfg154_1 := blk_frozen K165.out 1; have zg154_2 : w155.cell? ⟨g154, 2, none⟩ = _ := (blk_cell K165.out 2).trans rfl; have zfg154_2 := blk_frozen K165.out 2; have zg154_3 : w155.cell? ⟨g154, 3, none⟩ = _ := (blk_cell K165.out 3).trans rfl; have zfg154_3 := blk_frozen K165.out 3))
 have h166 := Kd.R_set R158.out K165.out (by decide) 0 (.int .u64 0)
 have h167 := Kd.R_set R159.out K165.out (by decide) 0 (.int .u64 0)
 have h168 := Kd.R_set R160.out K165.out (by decide) 0 (.int .u64 0)
 have h169 := blk_far (p := ⟨g154, 0, none⟩) K163.out N157.out (.int .u64 0)
 have h170 := below_set (g := g154) (j := 0) (v := (.int .u64 0)) B164.out G156.out
 have h171 := blk_put (cs := #[.int .u64 0, .slice none 0 0, .int .u32 0, .slice none 0 0]) K165.out 0 (.int .u64 0) rfl
 have h172 := Kd.R_set h166 h171 (by decide) 1 (.slice A141 n143 c142)
 have h173 := Kd.R_set h167 h171 (by decide) 1 (.slice A141 n143 c142)
 have h174 := Kd.R_set h168 h171 (by decide) 1 (.slice A141 n143 c142)
 have h175 := blk_far (p := ⟨g154, 1, none⟩) h169 N157.out (.slice A141 n143 c142)
 have h176 := below_set (g := g154) (j := 1) (v := (.slice A141 n143 c142)) h170 G156.out
 have h177 := blk_put (cs := #[.int .u64 0, .slice none 0 0, .int .u32 0, .slice none 0 0]) h171 1 (.slice A141 n143 c142) rfl
 have h178 := Kd.R_set h172 h177 (by decide) 2 (.int .u32 0)
 have h179 := Kd.R_set h173 h177 (by decide) 2 (.int .u32 0)
 have h180 := Kd.R_set h174 h177 (by decide) 2 (.int .u32 0)
 have h181 := blk_far (p := ⟨g154, 2, none⟩) h175 N157.out (.int .u32 0)
 have h182 := below_set (g := g154) (j := 2) (v := (.int .u32 0)) h176 G156.out
 have h183 := blk_put (cs := #[.int .u64 0, .slice A141 n143 c142, .int .u32 0, .slice none 0 0]) h177 2 (.int .u32 0) rfl
 have h184 := Kd.R_set h178 h183 (by decide) 3 (.slice A144 n146 c145)
 have h185 := Kd.R_set h179 h183 (by decide) 3 (.slice A144 n146 c145)
 have h186 := Kd.R_set h180 h183 (by decide) 3 (.slice A144 n146 c145)
 have h187 := blk_far (p := ⟨g154, 3, none⟩) h181 N157.out (.slice A144 n146 c145)
 have h188 := below_set (g := g154) (j := 3) (v := (.slice A144 n146 c145)) h182 G156.out
 have h189 := blk_put (cs := #[.int .u64 0, .slice A141 n143 c142, .int .u32 0, .slice none 0 0]) h183 3 (.slice A144 n146 c145) rfl
 generalize (World.setCell (World.setCell (World.setCell (World.setCell w155 ⟨g154, 0, none⟩ (.int .u64 0)) ⟨g154, 1, none⟩ (.slice A141 n143 c142)) ⟨g154, 2, none⟩ (.int .u32 0)) ⟨g154, 3, none⟩ (.slice A144 n146 c145)) = w190 at h189 h188 h184 h185 h186 h187 ⊢
 have K191 := Aside0.mk h189
 have B192 := Aside0.mk h188
 have R193 := Aside0.mk h184
 have R194 := Aside0.mk h185
 have R195 := Aside0.mk h186
 have K196 := Aside0.mk h187
 clear h166 h167 h168 h169 h170 h171 h172 h173 h174 h175 h176 h177 h178 h179 h180 h181 h182 h183 h184 h185 h186 h187 h188 h189
 clear K165 B164 R158 R159 R160 K163
 clear zg154_0 zfg154_0 zg154_1 zfg154_1 zg154_2 zfg154_2 zg154_3 zfg154_3
 go_upto_region 11 with (first
  | (go_at_call 20; refine (decode_cut A38 c39 at_ (b.take at_) 0 [] 0 [] 10 _ HTL_at_.out (Kd.C_of_reads (d := (0 : Int)) (h1 := fun _ => rfl) (ReadsInt.take_ (Kd.reads_of_C (d := (0 : Int)) (Kd.R_reads' R195.out).2.2) at_ HAT.out)) HCC_at_.out HD3.out).mono ?_; rintro e w197 ⟨v1, v3, rfl, h1, h3, hb⟩; obtain ⟨A198, n200, c199, e_⟩ : ∃ A_ n_ c_, v1 = Value.slice A_ n_ c_ := (by obtain ⟨A_, c_, e_⟩ := Kd.R_slice h1; exact ⟨A_, _, c_, e_⟩); subst e_; clear h1; obtain ⟨A201, n203, c202, e_⟩ : ∃ A_ n_ c_, v3 = Value.slice A_ n_ c_ := (by obtain ⟨A_, c_, e_⟩ := Kd.R_slice h3; exact ⟨A_, _, c_, e_⟩); subst e_; clear h3; have sz_ := (B192.out.size); have R204 := Aside0.mk (Kd.R_below R193.out hb); have R205 := Aside0.mk (Kd.R_below R194.out hb); have R206 := Aside0.mk (Kd.R_below R195.out hb); have K207 := Aside0.mk (blk_below K196.out hb); have B208 := Aside0.mk (below_then B192.out B192.out.size hb); clear R193 R194 R195 K196 B192; clear hb sz_)
  | ((with_reducible refine gate_dst (N := 19) rfl ?_); (try (refine gate_guard (by rfl) ?_; dsimp only)); refine box_event ?hg (N := 19) ?hd (cs := #[.int .u64 0, .slice none 0 0, .int .u32 0, .slice none 0 0]) (t := 29) ?hr ?_; (case hd => rfl); (case hg => rfl); (case hr => first | (go_simp; done) | (go_simp; rfl)); intro g209 hg w210 hbox hb; have G211 := Aside0.mk (show w.heap.size ≤ g209 by rw [hg]; exact B208.out.size); have N212 := Aside0.mk (show g9 ≠ g209 by have h_ := blk_lt K207.out; omega); have R213 := Aside0.mk (Kd.R_below R204.out hb); have R214 := Aside0.mk (Kd.R_below R205.out hb); have R215 := Aside0.mk (Kd.R_below R206.out hb); have K216 := Aside0.mk (blk_below K207.out hb); have B217 := Aside0.mk (below_then B208.out B208.out.size hb); clear R204 R205 R206 K207 B208; have K218 := Aside0.mk hbox; clear hb hbox hg; have zg209_0 : w210.cell? ⟨g209, 0, none⟩ = _ := (blk_cell K218.out 0).trans rfl; have zfg209_0 := blk_frozen K218.out 0; have zg209_1 : w210.cell? ⟨g209, 1, none⟩ = _ := (blk_cell K218.out 1).trans rfl; have zfg209_1 := blk_frozen K218.out 1; have zg209_2 : w210.cell? ⟨g209, 2, none⟩ = _ := (blk_cell K218.out 2).trans rfl; have zfg209_2 := blk_frozen K218.out 2; have zg209_3 : w210.cell? ⟨g209, 3, none⟩ = _ := (blk_cell K218.out 3).trans rfl; have zfg209_3 := blk_frozen K218.out 3))
 have h219 := Kd.R_set R213.out K218.out (by decide) 0 (.int .u64 0)
 have h220 := Kd.R_set R214.out K218.out (by decide) 0 (.int .u64 0)
 have h221 := blk_far (p := ⟨g209, 0, none⟩) K216.out N212.out (.int .u64 0)
 have h222 := below_set (g := g209) (j := 0) (v := (.int .u64 0)) B217.out G211.out
 have h223 := blk_put (cs := #[.int .u64 0, .slice none 0 0, .int .u32 0, .slice none 0 0]) K218.out 0 (.int .u64 0) rfl
 have h224 := Kd.R_set h219 h223 (by decide) 1 (.slice A198 n200 c199)
 have h225 := Kd.R_set h220 h223 (by decide) 1 (.slice A198 n200 c199)
 have h226 := blk_far (p := ⟨g209, 1, none⟩) h221 N212.out (.slice A198 n200 c199)
 have h227 := below_set (g := g209) (j := 1) (v := (.slice A198 n200 c199)) h222 G211.out
 have h228 := blk_put (cs := #[.int .u64 0, .slice none 0 0, .int .u32 0, .slice none 0 0]) h223 1 (.slice A198 n200 c199) rfl
 have h229 := Kd.R_set h224 h228 (by decide) 2 (.int .u32 0)
 have h230 := Kd.R_set h225 h228 (by decide) 2 (.int .u32 0)
 have h231 := blk_far (p := ⟨g209, 2, none⟩) h226 N212.out (.int .u32 0)
 have h232 := below_set (g := g209) (j := 2) (v := (.int .u32 0)) h227 G211.out
 have h233 := blk_put (cs := #[.int .u64 0, .slice A198 n200 c199, .int .u32 0, .slice none 0 0]) h228 2 (.int .u32 0) rfl
 have h234 := Kd.R_set h229 h233 (by decide) 3 (.slice A201 n203 c202)
 have h235 := Kd.R_set h230 h233 (by decide) 3 (.slice A201 n203 c202)
 have h236 := blk_far (p := ⟨g209, 3, none⟩) h231 N212.out (.slice A201 n203 c202)
 have h237 := below_set (g := g209) (j := 3) (v := (.slice A201 n203 c202)) h232 G211.out
 have h238 := blk_put (cs := #[.int .u64 0, .slice A198 n200 c199, .int .u32 0, .slice none 0 0]) h233 3 (.slice A201 n203 c202) rfl
 generalize (World.setCell (World.setCell (World.setCell (World.setCell w210 ⟨g209, 0, none⟩ (.int .u64 0)) ⟨g209, 1, none⟩ (.slice A198 n200 c199)) ⟨g209, 2, none⟩ (.int .u32 0)) ⟨g209, 3, none⟩ (.slice A201 n203 c202)) = w239 at h238 h237 h234 h235 h236 ⊢
 have K240 := Aside0.mk h238
 have B241 := Aside0.mk h237
 have R242 := Aside0.mk h234
 have R243 := Aside0.mk h235
 have K244 := Aside0.mk h236
 clear h219 h220 h221 h222 h223 h224 h225 h226 h227 h228 h229 h230 h231 h232 h233 h234 h235 h236 h237 h238
 clear K218 B217 R213 R214 K216
 clear zg209_0 zfg209_0 zg209_1 zfg209_1 zg209_2 zfg209_2 zg209_3 zfg209_3
 have y0 : w239.cell? ⟨g9, 0, none⟩ = some (.int .u64 s) := (blk_cell K244.out 0).trans rfl
 have y1 : w239.cell? ⟨g9, 1, none⟩ = some (.slice A2 sizes.length c3) := (blk_cell K244.out 1).trans rfl
 have y2 : w239.cell? ⟨g9, 2, none⟩ = some (.int .u32 sum) := (blk_cell K244.out 2).trans rfl
 have y3 : w239.cell? ⟨g9, 3, none⟩ = some (.slice A4 known.length c5) := (blk_cell K244.out 3).trans rfl
 go_wp2_with (first
  | (go_at_call 11; refine (scullerlaw14_known_c.calls true _ rfl).mono ?_; rintro e w245 ⟨rfl, hb⟩; have sz_ := (B241.out.size); have R246 := Aside0.mk (Kd.R_below R242.out hb); have R247 := Aside0.mk (Kd.R_below R243.out hb); have K248 := Aside0.mk (blk_below K244.out hb); have B249 := Aside0.mk (below_then B241.out B241.out.size hb); clear R242 R243 K244 B241; clear hb sz_; clear y0 y1 y2 y3; have y0 : w245.cell? ⟨g9, 0, none⟩ = some (.int .u64 s) := (blk_cell K248.out 0).trans rfl; have y1 : w245.cell? ⟨g9, 1, none⟩ = some (.slice A2 sizes.length c3) := (blk_cell K248.out 1).trans rfl; have y2 : w245.cell? ⟨g9, 2, none⟩ = some (.int .u32 sum) := (blk_cell K248.out 2).trans rfl; have y3 : w245.cell? ⟨g9, 3, none⟩ = some (.slice A4 known.length c5) := (blk_cell K248.out 3).trans rfl)
  | (go_at_call 17; refine (token_Same.calls s A2 c3 sizes sum A4 c5 known 0 none 0 [] 0 none 0 [] false _ (Kd.R_reads' R246.out).2.2 (Kd.R_reads' R246.out).2.1 (Kd.R_reads' R247.out).2.2 (Kd.R_reads' R247.out).2.1 (Kd.R_reads' (Kd.R_nil (Kd.int .i64) 3 _ w.heap.size (fun _ => True))).2.2 (Nat.le_refl _) (Kd.R_reads' (Kd.R_nil (Kd.int .u8) 5 _ w.heap.size (fun _ => True))).2.2 (Nat.le_refl _) HSM.out).mono ?_; rintro e w250 ⟨rfl, hb⟩; have sz_ := (B249.out.size); have R251 := Aside0.mk (Kd.R_below R246.out hb); have R252 := Aside0.mk (Kd.R_below R247.out hb); have K253 := Aside0.mk (blk_below K248.out hb); have B254 := Aside0.mk (below_then B249.out B249.out.size hb); clear R246 R247 K248 B249; clear hb sz_))
 go_ret
 exact ⟨by first | rfl | simp, B254.out⟩


/-- THE ONE PURE STATEMENT of scullerlaw14_TokenCut: yours. -/
def scullerlaw14_TokenCut.Pure : Prop := ∀ (a0 : Int) (l1 : List Int) (a2 : Int) (a3 : Int) (a4 : Int), (Lit.int .u64 a0).wf = true → l1.length ≤ maxLen → l1.length * 1 ≤ 140737488351232 → (∀ x ∈ l1, (Lit.int .u8 x).wf = true) → (Lit.int .u8 a2).wf = true → (Lit.int .u8 a3).wf = true → (Lit.int .u8 a4).wf = true → scullerlaw14_TokenCut.f a0 l1 a2 a3 a4 = some true
theorem scullerlaw14_TokenCut.walk (P : scullerlaw14_TokenCut.Pure) (a0 : Int) (a1 : Option Addr) (len1 cap1 : Nat) (z1 : List Int) (a2 : Int) (a3 : Int) (a4 : Int) (w : World) (w0 : (Lit.int .u64 a0).wf = true) (w1 : (a1 = none ∧ len1 = 0 ∧ cap1 = 0 ∧ z1 = []) ∨ ∃ x, a1 = some x ∧ len1 ≤ cap1 ∧ cap1 ≤ maxLen ∧ z1.length = cap1 ∧ (∀ i, i < z1.length → w.cell? (x.add i) = some (.int .u8 (z1.getD i 0))) ∧ ∀ n ∈ z1, (Lit.int .u8 n).wf = true) (y1 : len1 * 1 ≤ 140737488351232) (w2 : (Lit.int .u8 a2).wf = true) (w3 : (Lit.int .u8 a3).wf = true) (w4 : (Lit.int .u8 a4).wf = true) :
 Calls Try.prog 8 #[.int .u64 a0, .slice a1 len1 cap1, .int .u8 a2, .int .u8 a3, .int .u8 a4] w fun e w' => e = .returned (.bool true) ∧ Below w.heap.size w w' := by
 obtain ⟨l1, rfl, hr1, hm1, hw1, hc1⟩ := ReadsInt.ofRowC w1
 have h := P a0 l1 a2 a3 a4 w0 hm1 y1 hw1 w2 w3 w4
 refine (scullerlaw14_TokenCut.calls a0 _ _ l1 a2 a3 a4 true w (Kd.C_of_reads (d := (0 : Int)) (h1 := fun _ => rfl) hr1) hc1 h).mono ?_
 rintro e w' ⟨rfl, hd⟩
 exact ⟨rfl, hd⟩

end Go.Proofs.Ytbijnfhcbanhdaa.F
end

section
/- Cut off, even with a sum of its own, a token is none; nor is it with a segment more. -/
namespace Go.Proofs.Ytbijnfhcbanhdaa.Pure
open Go.RowKit Go.Proofs.Ytbijnfhcbanhdaa.F Go.Proofs.Ytbijnfhcbanhdaa.H Go.Proofs.YtbijnfhcbanhdaaW.PrintWords Go.Proofs.YtbijnfhcbanhdaaW.PrintLast Go.Proofs.YtbijnfhcbanhdaaW.PrintMore
theorem TokenCut : scullerlaw14_TokenCut.Pure := by
 intro a0 l1 a2 a3 a4 h0 hl hl' h1 h2 h3 h4
 exact if_pos ⟨u64_wf h0, bytes_wf h1, by omega, byte_wf h2, byte_wf h3, byte_wf h4⟩
end Go.Proofs.Ytbijnfhcbanhdaa.Pure
end
