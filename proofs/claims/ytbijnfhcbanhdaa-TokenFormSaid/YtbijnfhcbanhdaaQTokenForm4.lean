/- Proved: at every input in bounds the statement TokenForm of the token layer answers yes: the bytes tell the session, the least first, the sum, how many segments, and the size of each one.
Text 4 of 5; functions told as plain ones, with the contracts of their calls. -/
import Derived.Test.YtbijnfhcbanhdaaQTokenForm1
import Derived.Test.YtbijnfhcbanhdaaQTokenForm3
import Derived.Test.YtbijnfhcbanhdaaQTokenForm2
section
namespace Go.Proofs.Ytbijnfhcbanhdaa.F
open Go.RowKit Go.Proofs.YtbijnfhcbanhdaaW.PrintWords Go.Proofs.YtbijnfhcbanhdaaW.PrintLast Go.Proofs.YtbijnfhcbanhdaaW.PrintMore
attribute [local go_sem] max2_int min2_int max_two min_two max_three min_three max_four min_four   -- for this text's walks alone
set_option linter.unusedVariables false
set_option linter.unusedSimpArgs false

/-! ### scullerlaw12_Arena: function 37 -/
mutual
def scullerlaw12_Arena.l0 : Nat → Int → Int → List (List Int) → Int → Option ((List (List Int)))
 | 0, _, _, _, _ => none
 | k + 1, x1, x2, x7, x8 => if x8 < (wrap64 (Int.tmod x2 40)) then (if 0 ≤ (wrap64 ((x7.length : Int) - 1)) then (if (wrap64 ((x7.length : Int) - 1)) < (x7.length : Int) then (if (rd_L8 x7 (wrap64 ((x7.length : Int) - 1))).length < 17592186044416 then (scullerlaw12_Arena.l0 k x1 x2 (x7.set ((wrap64 ((x7.length : Int) - 1)) : Int).toNat ((rd_L8 x7 (wrap64 ((x7.length : Int) - 1))) ++ [IntKind.u64.wrap ((IntKind.u64.wrap (x8)) * (IntKind.u64.wrap (x1)))])) (wrap64 (x8 + 1))) else (none)) else (none)) else (none)) else (scullerlaw12_Arena.l1 k x2 x7 0)
def scullerlaw12_Arena.l1 : Nat → Int → List (List Int) → Int → Option ((List (List Int)))
 | 0, _, _, _ => none
 | k + 1, x2, x7, x9 => if x9 < (wrap64 (Int.tmod x2 7)) then (if 0 ≤ x9 then (if (x9 : Int).toNat ≤ 35184372088832 then (if x7.length < 5864062014805 then (scullerlaw12_Arena.l1 k x2 (x7 ++ [(List.replicate (x9 : Int).toNat 0)]) (wrap64 (x9 + 1))) else (none)) else (none)) else (none)) else (some x7)
end
def scullerlaw12_Arena.f (k : Nat) (l0 : List Int) (a1 : Int) (a2 : Int) : Option ((List (List Int))) := (scullerlaw07_Arena_c.f l0 a1).bind fun t101 => (scullerlaw12_Arena.l0 k a1 a2 t101 0)
theorem scullerlaw12_Arena.mono_l : ∀ k, (∀ y0 y1 y2 y3, LeO (scullerlaw12_Arena.l0 k y0 y1 y2 y3) (scullerlaw12_Arena.l0 (k + 1) y0 y1 y2 y3)) ∧ (∀ y0 y1 y2, LeO (scullerlaw12_Arena.l1 k y0 y1 y2) (scullerlaw12_Arena.l1 (k + 1) y0 y1 y2))
 | 0 => ⟨fun _ _ _ _ r h => by simp [scullerlaw12_Arena.l0] at h, fun _ _ _ r h => by simp [scullerlaw12_Arena.l1] at h⟩
 | k + 1 => by
  obtain ⟨ih0, ih1⟩ := scullerlaw12_Arena.mono_l k
  refine ⟨?_, ?_⟩
  · intro y0 y1 y2 y3
    unfold scullerlaw12_Arena.l0
    repeat' first
    | (with_reducible exact ih0 _ _ _ _)
    | (with_reducible exact ih1 _ _ _)
    | (with_reducible exact LeO.refl _)
    | (with_reducible exact LeO.none _)
    | (with_reducible refine LeO.ite ?_ ?_)
    | (with_reducible refine LeO.bind ?_ (fun _ => ?_))
    | exact ih0 _ _ _ _
    | exact ih1 _ _ _
    | exact LeO.none _
    | refine LeO.ite ?_ ?_
    | refine LeO.bind ?_ (fun _ => ?_)
  · intro y0 y1 y2
    unfold scullerlaw12_Arena.l1
    repeat' first
    | (with_reducible exact ih0 _ _ _ _)
    | (with_reducible exact ih1 _ _ _)
    | (with_reducible exact LeO.refl _)
    | (with_reducible exact LeO.none _)
    | (with_reducible refine LeO.ite ?_ ?_)
    | (with_reducible refine LeO.bind ?_ (fun _ => ?_))
    | exact ih0 _ _ _ _
    | exact ih1 _ _ _
    | exact LeO.none _
    | refine LeO.ite ?_ ?_
    | refine LeO.bind ?_ (fun _ => ?_)
theorem scullerlaw12_Arena.mono : ∀ a0 a1 a2 k, LeO (scullerlaw12_Arena.f k a0 a1 a2) (scullerlaw12_Arena.f (k + 1) a0 a1 a2) := by
 intro a0 a1 a2 k
 obtain ⟨ih0, ih1⟩ := scullerlaw12_Arena.mono_l k
 unfold scullerlaw12_Arena.f
 repeat' first
  | (with_reducible exact ih0 _ _ _ _)
  | (with_reducible exact ih1 _ _ _)
  | (with_reducible exact LeO.refl _)
  | (with_reducible exact LeO.none _)
  | (with_reducible refine LeO.ite ?_ ?_)
  | (with_reducible refine LeO.bind ?_ (fun _ => ?_))
  | exact ih0 _ _ _ _
  | exact ih1 _ _ _
  | exact LeO.none _
  | refine LeO.ite ?_ ?_
  | refine LeO.bind ?_ (fun _ => ?_)
set_option maxHeartbeats 8000000 in
set_option maxRecDepth 100000 in
theorem scullerlaw12_Arena.calls (k : Nat) (A0 : Option Addr) (c0 : Nat) (l0 : List Int) (a1 : Int) (a2 : Int) (r : List (List Int)) (w : World) (hr0 : Kd.C (Kd.int .u8) w A0 l0.length l0) (hc0 : l0.length ≤ c0) (h : scullerlaw12_Arena.f k l0 a1 a2 = some r) :
 Calls Try.prog 37 #[.slice A0 l0.length c0, .int .u8 a1, .int .u8 a2] w fun e w' => ∃ v0_ : Value, e = .returned (v0_) ∧ Kd.S (Kd.slice 22 (Kd.int .u64)) 123 w' w.heap.size (fun _ => True) v0_ r ∧ Below w.heap.size w w' := by
 have HR0 := Aside0.mk hr0
 have HC0 := Aside0.mk hc0
 clear hr0 hc0
 have HB := Aside0.mk (Below.refl w.heap.size w)
 have H : ((scullerlaw07_Arena_c.f l0 a1).bind fun t101 => (scullerlaw12_Arena.l0 k a1 a2 t101 0)) = some r := h
 clear h
 replace H := Option.bind_eq_some_iff.mp H
 obtain ⟨t101, A40, H⟩ := H
 replace H : (scullerlaw12_Arena.l0 k a1 a2 t101 0) = some r := H
 have A4 := Aside0.mk A40
 clear A40
 have H' := Aside0.mk H
 clear H
 go_enter Try.func37, Try.ntmps37
 go_wp2_with (first | ((with_reducible refine gate_callee (f := 74) rfl ?_); refine goesL_ (some 12) rfl rfl Try.func74 (by kernel_rfl) rfl #[.slice A0 l0.length c0, .int .u8 a1] rfl (by (try simp only [List.map_toArray, List.map_cons, List.map_nil]); first | done | rfl | (simp only [List.length_drop, List.length_take]; rfl)) ?_; (with_reducible refine (scullerlaw07_Arena_c.calls _ _ l0 a1 t101 _ ?side1 ?side2 A4.out).mono ?_); (case side1 => repeat (first | exact HR0.out | (with_reducible refine Kd.C_alloc ?_ _) | (with_reducible refine Kd.C_drewN ?_ _) | (with_reducible refine Kd.C_drew ?_))); (case side2 => exact HC0.out); rintro e w5 ⟨v102, rfl, ho0, hb⟩; refine ⟨_, rfl, ?_⟩; have n0_ := Aside0.mk (Kd.S_lower ho0 (below_size (by repeat (first | (with_reducible first | exact HB.out | apply below_alloc | apply pw_below_drewN | apply below_drew1) | exact HB.out)))); have n1_ := Aside0.mk (below_step (by repeat (first | (with_reducible first | exact HB.out | apply below_alloc | apply pw_below_drewN | apply below_drew1) | exact HB.out)) hb); clear HB; have HO103 := n0_; have HB := n1_; clear n0_ n1_; (try clear hb); (try clear hb2); (try clear hk); (try clear hi); (try clear ho0)))
 go_loopg [8] k (fun kq v8 w' => ∃ (x7_1 : List (List Int)) (x8_1 : Int), v8 = .int .i64 x8_1 ∧ Aside0 (scullerlaw12_Arena.l0 kq a1 a2 x7_1 x8_1 = some r) ∧ Aside0 (kq ≤ k) ∧ Aside0 (Kd.S (Kd.slice 22 (Kd.int .u64)) 123 w' w.heap.size (fun _ => True) v102 x7_1) ∧ Aside0 (Below w.heap.size w w'))
 case atStart => exact ⟨(t101), (0), (by first | rfl | (simp; done) | (simp [*]; done)), H', ⟨Nat.le_refl _⟩, ⟨by (with_reducible repeat (first | apply Kd.S_alloc | apply Kd.S_drewN | apply Kd.S_drew)); exact HO103.out⟩, ⟨by repeat (first | (with_reducible first | exact HB.out | apply below_alloc | apply pw_below_drewN | apply below_drew1) | exact HB.out)⟩⟩
 case round =>
  clear H'
  try clear p2
  try clear c3
  obtain ⟨x7_1, x8_1, rfl, HA, HK1, HO_7, HB⟩ := hrel
  cases gk with
  | zero => exact absurd HA.out (by simp [scullerlaw12_Arena.l0])
  | succ k1 =>
   have H := HA.out
   clear HA
   simp only [scullerlaw12_Arena.l0] at H
   by_cases c6 : x8_1 < (wrap64 (Int.tmod a2 40))
   · rw [if_pos c6] at H
     have c6b0 : decide (x8_1 < (wrap64 (Int.tmod a2 40))) = true := decide_eq_true c6
     clear c6
     obtain ⟨ji7, hji7⟩ : ∃ j_ : Int, (wrap64 ((x7_1.length : Int) - 1)) = j_ := ⟨_, rfl⟩
     replace H : (if 0 ≤ (ji7) then (if (ji7) < (x7_1.length : Int) then (if (rd_L8 x7_1 (ji7)).length < 17592186044416 then (scullerlaw12_Arena.l0 k1 a1 a2 (x7_1.set ((ji7) : Int).toNat ((rd_L8 x7_1 (ji7)) ++ [IntKind.u64.wrap ((IntKind.u64.wrap (x8_1)) * (IntKind.u64.wrap (a1)))])) (wrap64 (x8_1 + 1))) else (none)) else (none)) else (none)) = some r := by first | (rw [hji7] at H; exact H) | (simp only [hji7] at H ⊢; exact H)
     have hji7w : (IntKind.i64.wrap ((x7_1.length : Int) - 1)) = ji7 := (i64_w _).trans hji7
     by_cases c8 : 0 ≤ (ji7)
     · rw [if_pos c8] at H
       have c8b0 : decide (0 ≤ (ji7)) = true := decide_eq_true c8
       clear c8
       by_cases c9 : (ji7) < (x7_1.length : Int)
       · rw [if_pos c9] at H
         have c9b0 : decide ((ji7) < (x7_1.length : Int)) = true := decide_eq_true c9
         clear c9
         by_cases c10 : (rd_L8 x7_1 (ji7)).length < 17592186044416
         · rw [if_pos c10] at H
           have LMc10 := Aside0.mk c10
           clear c10
           obtain ⟨y105, hy105⟩ : ∃ y_ : List Int, y_ = ((rd_L8 x7_1 (ji7)) ++ [IntKind.u64.wrap ((IntKind.u64.wrap (x8_1)) * (IntKind.u64.wrap (a1)))]) := ⟨_, rfl⟩
           replace H : (scullerlaw12_Arena.l0 k1 a1 a2 (x7_1.set ((ji7) : Int).toNat y105) (wrap64 (x8_1 + 1))) = some r := by first | (rw [hy105]; with_reducible exact H) | (have H2_ := (Option.bind_some _ _).symm.trans H; rw [hy105]; with_reducible exact H2_) | (have H2_ := (Option.bind_some _ _).symm.trans H; with_reducible exact H2_) | with_reducible exact H | (rw [hy105]; exact H) | exact H
           have Ny105 := Aside0.mk hy105
           clear hy105
           obtain ⟨y108, hy108⟩ : ∃ y_ : List (List Int), y_ = (x7_1.set ((ji7) : Int).toNat y105) := ⟨_, rfl⟩
           replace H : (scullerlaw12_Arena.l0 k1 a1 a2 y108 (wrap64 (x8_1 + 1))) = some r := by first | (rw [hy108]; with_reducible exact H) | (have H2_ := (Option.bind_some _ _).symm.trans H; rw [hy108]; with_reducible exact H2_) | (have H2_ := (Option.bind_some _ _).symm.trans H; with_reducible exact H2_) | with_reducible exact H | (rw [hy108]; exact H) | exact H
           have Ny108 := Aside0.mk hy108
           clear hy108
           have H' := Aside0.mk H
           clear H
           obtain ⟨Ao12, co12, eo12⟩ := Kd.S_slice HO_7.out
           subst eo12
           have p104 : 0 ≤ ((ji7) : Int) := of_decide_eq_true (by first | (with_reducible assumption) | assumption)
           have q104 : (ji7) < (x7_1.length : Int) := of_decide_eq_true (by first | (with_reducible assumption) | assumption)
           obtain ⟨ad104, A104_0, c104_0, e104, hx104_0, hl104_0, hi104_0⟩ := at_L8 (Kd.S_reads' HO_7.out).2.2 (ji7) p104 q104
           cases e104
           obtain ⟨ce104, hce104, hMe104, hcc104⟩ := Kd.S_get HO_7.out [] (ji7) p104 (by first | exact q104 | exact of_decide_eq_true (by first | (with_reducible assumption) | assumption) | (have e_ := (Kd.S_reads' HO_7.out).1; omega))
           obtain ⟨ve104_0, rfl, ge104_0⟩ := hMe104
           have hv104_0 := hcc104 0 _ rfl
           rw [Nat.add_zero, show ((Kd.slice 22 (Kd.int .u64))).sz = 1 from rfl, Nat.mul_one] at hv104_0
           replace hv104_0 := Option.some.inj (hv104_0.symm.trans hx104_0)
           rw [hv104_0] at ge104_0
           have HL104_0 := Aside0.mk (show Kd.R (Kd.int .u64) 22 _ _ _ _ (rd_L8 x7_1 (ji7)) from ge104_0)
           clear hv104_0 ge104_0
           have HX104_0 := Aside0.mk hx104_0
           clear hcc104 hce104
           have HR104_0 := Aside0.mk hi104_0
           have HC104_0 := Aside0.mk hl104_0
           clear hi104_0 hl104_0
           replace p104 := eq_true p104
           replace q104 := eq_true q104
           obtain ⟨go13, co13, eo13, gb13, gl13, cl13, HG13⟩ := Kd.S_form HO_7.out (by have h_ : ((ji7) : Int) < ((x7_1.length : Int) : Int) := of_decide_eq_true (by first | (with_reducible assumption) | assumption); have h2_ : 0 ≤ ((ji7) : Int) := (of_decide_eq_true (by first | (with_reducible assumption) | assumption)); omega)
           (first | cases eo13 | (injection eo13 with ea_ en_ ec_; (first | subst ea_ | (injection ea_ with ea_; subst ea_)); subst ec_; clear en_))
           have GB13 := Aside0.mk gb13
           have GG13 := Aside0.mk HG13
           clear gb13 gl13 HG13
           (first | simp only [add_plain] at hx104_0 | skip)
           obtain ⟨oki13, ce13, hcl13, hM13, hcc13, _, _, hH13⟩ := Kd.S_elem HO_7.out [] ((ji7) : Int) (of_decide_eq_true (by first | (with_reducible assumption) | assumption)) (by have h_ : ((ji7) : Int) < ((x7_1.length : Int) : Int) := of_decide_eq_true (by first | (with_reducible assumption) | assumption); first | exact h_ | (have e_ := (Kd.S_reads' HO_7.out).1; omega) | simpa using h_)
           obtain ⟨ve13_0, rfl, ge13_0⟩ := hM13
           have hv13 := hcc13 0 _ rfl
           have hX13 := HX104_0.out
           (try simp only [add_plain] at hX13)
           (try simp only [Nat.add_zero] at hv13)
           (try rw [show ((Kd.slice 22 (Kd.int .u64))).sz = 1 from rfl, Nat.mul_one] at hv13)
           replace hv13 := Option.some.inj (hv13.symm.trans hX13)
           subst hv13
           clear hX13 hcc13 hcl13
           have UU13 := Aside0.mk (show Kd.R (Kd.int .u64) 22 _ w.heap.size oki13 (.slice A104_0 (rd_L8 x7_1 (ji7)).length c104_0) (rd_L8 x7_1 (ji7)) from ge13_0)
           have HH13 := Aside0.mk hH13
           have HN13 := Aside0.mk (Kd.S_reads' HO_7.out).1
           clear hH13 ge13_0
           go_wp2_with (first | ((with_reducible refine gate_builtin (b := .append) (xs := #[.tmp 29, .tmp 35]) rfl ?_); at_builtin; refine Kd.R_append (Kd.int .u64) (w0 := w) w.heap.size rfl (.tmp 29) (.tmp 35) 123 22 (.int .u64 0) 8 rfl Try.underlying123 info22 rfl (by decide) (by omega) (.slice A104_0 (rd_L8 x7_1 (ji7)).length c104_0) (rd_L8 x7_1 (ji7)) (IntKind.u64.wrap ((IntKind.u64.wrap (x8_1)) * (IntKind.u64.wrap (a1)))) [.int .u64 (IntKind.u64.wrap ((IntKind.u64.wrap (x8_1)) * (IntKind.u64.wrap (a1))))] (fun k_ => oki13 k_ ∨ ((fun _ => True)) k_ ∧ wr.heap.size ≤ k_) (fun _ => False) rfl rfl ?aP (fun _ hk => hk.elim) ?aF ?aO ?aB ?aS ?aL ?_; (case aP => exact rfl); (case aB => exact (by repeat (first | (with_reducible first | exact HB.out | apply below_alloc | apply pw_below_drewN | apply below_drew1) | exact HB.out))); (case aF => exact (fun k_ hk => .inr ⟨trivial, hk⟩)); (case aO => exact (by (with_reducible repeat (first | apply Kd.R_alloc | apply Kd.R_drewN | apply Kd.R_drew)); exact Kd.R_mono UU13.out (fun _ hk => .inl hk))); (case aS => exact (below_size (by repeat (first | (with_reducible first | exact HB.out | apply below_alloc | apply pw_below_drewN | apply below_drew1) | exact HB.out)))); (case aL => have := LMc10.out; omega); intro v106 w14 ho hb hg hat; rw [← Ny105.out] at ho; have n0_ := Aside0.mk (hb); have n1_ := Aside0.mk (Kd.H_grown (Kd.H_widen (by repeat (first | exact HH13.out | refine Kd.H_alloc ?_ _ | refine Kd.H_drewN ?_ _ | refine Kd.H_drew ?_))) hg (fun k_ e_ => .inl (UU13.out.1 k_ e_))); have n2_ := Aside0.mk (ho); clear HB; clear HH13; clear HO_7; clear UU13; clear HL104_0; have HB := n0_; have HH13 := n1_; have HO107 := n2_; clear n0_ n1_ n2_; clear ho hb hg hat; have p11 : 0 ≤ ((ji7) : Int) := of_decide_eq_true (by first | (with_reducible assumption) | assumption); have q11 : ((ji7) : Int) < ((x7_1.length : Int) : Int) := of_decide_eq_true (by first | (with_reducible assumption) | assumption); replace p11 := eq_true p11; replace q11 := eq_true q11; obtain ⟨Ao17, co17, eo17⟩ := Kd.R_slice HO107.out; subst eo17; obtain ⟨_, _, hraw15, _, _, hcc15, _⟩ := Kd.H_raw HH13.out (of_decide_eq_true (by first | (with_reducible assumption) | assumption)) (by have h_ : ((ji7) : Int) < ((x7_1.length : Int) : Int) := of_decide_eq_true (by first | (with_reducible assumption) | assumption); first | exact h_ | (have e_ := (HN13.out); omega) | simpa using h_); obtain ⟨_, hfr15⟩ := Kd.H_at HH13.out (of_decide_eq_true (by first | (with_reducible assumption) | assumption)) (by have h_ : ((ji7) : Int) < ((x7_1.length : Int) : Int) := of_decide_eq_true (by first | (with_reducible assumption) | assumption); first | exact h_ | (have e_ := (HN13.out); omega) | simpa using h_); have hx15_0 := hcc15 0 _ rfl; have hf15_0 := hfr15 0; (try simp only [Nat.add_zero] at hx15_0 hf15_0); (try rw [show ((Kd.slice 22 (Kd.int .u64))).sz = 1 from rfl, Nat.mul_one] at hx15_0); (try rw [show ((Kd.slice 22 (Kd.int .u64))).sz = 1 from rfl, Nat.mul_one] at hf15_0); have HP15 := Kd.S_seg0 HH13.out (of_decide_eq_true (by first | (with_reducible assumption) | assumption)) (by have h_ : ((ji7) : Int) < ((x7_1.length : Int) : Int) := of_decide_eq_true (by first | (with_reducible assumption) | assumption); first | exact h_ | (have e_ := (HN13.out); omega) | simpa using h_) (seg := [.slice Ao17 y105.length co17]) (j := 0) (show 1 ≤ 1 from by decide) (x' := y105) (Kd.M_row HO107.out) (fun _ hk => hk); (try simp only [show ((Kd.slice 22 (Kd.int .u64))).sz = 1 from rfl, Nat.mul_one, Nat.add_zero] at HP15); clear hcc15 hfr15) | ((with_reducible refine gate_store (t := 123) (p := 37) rfl ?_); refine store_event (t := 123) (p := 37) (v := ?vo_w16) (w1 := (w14.setCell ⟨go13, ((ji7) : Int).toNat, none⟩ (.slice Ao17 y105.length co17))) ?hg ?ho ?hn ?hr ?_; (case ho => rfl); (case hg => rfl); (case hn => rfl); (case hr => first | (go_simp; done) | (go_simp; rfl)); intro w16 hw; have hg : w14.grownBy w16 (some go13) := (by rw [hw]; exact HP15.2); have hp_ : Kd.S (Kd.slice 22 (Kd.int .u64)) 123 w16 w.heap.size (fun _ => True) (.slice (some ⟨go13, 0, none⟩) x7_1.length co12) y108 := (by rw [hw, Ny108.out]; exact HP15.1); clear HP15; have n0_ := Aside0.mk ((by rw [hw]; exact below_set HB.out GB13.out : Below w.heap.size w w16)); have n1_ := Aside0.mk (hp_); clear HB; clear HO107; clear HH13; have HB := n0_; have HO_7 := n1_; clear n0_ n1_; clear hg hw hp_ hraw15))
           go_roundg k1
           case measure => have := HK1.out; omega
           case rel => exact ⟨(y108), (wrap64 (x8_1 + 1)), (by first | rfl | (simp; done) | (simp [*]; done)), H', ⟨by have := HK1.out; omega⟩, ⟨by (with_reducible repeat (first | apply Kd.S_alloc | apply Kd.S_drewN | apply Kd.S_drew)); exact HO_7.out⟩, ⟨by repeat (first | (with_reducible first | exact HB.out | apply below_alloc | apply pw_below_drewN | apply below_drew1) | exact HB.out)⟩⟩
         · rw [if_neg c10] at H
           exact absurd H (by simp)
       · rw [if_neg c9] at H
         exact absurd H (by simp)
     · rw [if_neg c8] at H
       exact absurd H (by simp)
   · rw [if_neg c6] at H
     have c6b0 : decide (x8_1 < (wrap64 (Int.tmod a2 40))) = false := decide_eq_false c6
     clear c6
     have H' := Aside0.mk H
     clear H
     go_wp2
     go_loopg [7, 9] k1 (fun kq v7 v9 w' => ∃ (x7_2 : List (List Int)) (x9_2 : Int), v9 = .int .i64 x9_2 ∧ Aside0 (scullerlaw12_Arena.l1 kq a2 x7_2 x9_2 = some r) ∧ Aside0 (kq ≤ k1) ∧ Aside0 (Kd.S (Kd.slice 22 (Kd.int .u64)) 123 w' w.heap.size (fun _ => True) v7 x7_2) ∧ Aside0 (Below w.heap.size w w'))
     case atStart => exact ⟨(x7_1), (0), (by first | rfl | (simp; done) | (simp [*]; done)), H', ⟨Nat.le_refl _⟩, ⟨by (with_reducible repeat (first | apply Kd.S_alloc | apply Kd.S_drewN | apply Kd.S_drew)); exact HO_7.out⟩, ⟨by repeat (first | (with_reducible first | exact HB.out | apply below_alloc | apply pw_below_drewN | apply below_drew1) | exact HB.out)⟩⟩
     case round =>
      clear H'
      try clear c1
      try clear p1
      try clear q1
      try clear hx1
      try clear p2
      try clear c3
      try clear c6
      try clear c6b0
      try clear p6
      try clear c7
      try clear c8
      try clear c8b0
      try clear c9
      try clear c9b0
      try clear c10
      try clear p10
      try clear q10
      try clear hx10
      try clear p11
      try clear q11
      try clear c13
      try clear c15
      try clear hx15
      try clear hf15
      try clear hx104_0
      try clear hx15_0
      try clear p104
      try clear p11
      try clear p2
      try clear q104
      try clear q11
      obtain ⟨x7_2, x9_2, rfl, HA, HK2, HO_7, HB⟩ := hrel
      cases gk with
      | zero => exact absurd HA.out (by simp [scullerlaw12_Arena.l1])
      | succ k2 =>
       have H := HA.out
       clear HA
       simp only [scullerlaw12_Arena.l1] at H
       by_cases c18 : x9_2 < (wrap64 (Int.tmod a2 7))
       · rw [if_pos c18] at H
         have c18b0 : decide (x9_2 < (wrap64 (Int.tmod a2 7))) = true := decide_eq_true c18
         clear c18
         by_cases c19 : 0 ≤ x9_2
         · rw [if_pos c19] at H
           have c19b0 := eq_true c19
           have c19b1 : decide (0 ≤ x9_2) = true := decide_eq_true c19
           clear c19
           by_cases c20 : (x9_2 : Int).toNat ≤ 35184372088832
           · rw [if_pos c20] at H
             have c20b0 := eq_true c20
             have c20b1 : decide ((x9_2 : Int).toNat ≤ 35184372088832) = true := decide_eq_true c20
             clear c20
             obtain ⟨y109, hy109⟩ : ∃ y_ : List Int, y_ = (List.replicate (x9_2 : Int).toNat 0) := ⟨_, rfl⟩
             replace H : (if x7_2.length < 5864062014805 then (scullerlaw12_Arena.l1 k2 a2 (x7_2 ++ [y109]) (wrap64 (x9_2 + 1))) else (none)) = some r := by first | (rw [hy109]; with_reducible exact H) | (have H2_ := (Option.bind_some _ _).symm.trans H; rw [hy109]; with_reducible exact H2_) | (have H2_ := (Option.bind_some _ _).symm.trans H; with_reducible exact H2_) | with_reducible exact H | (rw [hy109]; exact H) | exact H
             have Ny109 := Aside0.mk hy109
             clear hy109
             by_cases c21 : x7_2.length < 5864062014805
             · rw [if_pos c21] at H
               have LMc21 := Aside0.mk c21
               clear c21
               obtain ⟨y112, hy112⟩ : ∃ y_ : List (List Int), y_ = (x7_2 ++ [y109]) := ⟨_, rfl⟩
               replace H : (scullerlaw12_Arena.l1 k2 a2 y112 (wrap64 (x9_2 + 1))) = some r := by first | (rw [hy112]; with_reducible exact H) | (have H2_ := (Option.bind_some _ _).symm.trans H; rw [hy112]; with_reducible exact H2_) | (have H2_ := (Option.bind_some _ _).symm.trans H; with_reducible exact H2_) | with_reducible exact H | (rw [hy112]; exact H) | exact H
               have Ny112 := Aside0.mk hy112
               clear hy112
               have H' := Aside0.mk H
               clear H
               go_wp2_with (first | ((with_reducible refine gate_dst (N := 47) rfl ?_); refine Kd.R_make (Kd.int .u64) _ 22 rfl (N := 47) rfl 123 _ _ rfl x9_2 rfl rfl Try.underlying123 (.int .u64 0) 8 info22 rfl (by decide) (by omega) 0 (ok := fun _ => True) (okp := fun _ => True) rfl (fun _ hk => hk) trivial (of_decide_eq_true (by first | (with_reducible assumption) | assumption)) (Nat.le_trans (Nat.mul_le_mul_right _ (of_decide_eq_true (by first | (with_reducible assumption) | assumption) : x9_2.toNat ≤ 35184372088832)) (by omega)) (Below.refl _ _) (Nat.le_refl _) ?_; intro v110 w22 ho23 hb hg_ hnew_; clear hg_ hnew_; (first | rw [← Ny109.out] at ho23 | (simp only [Int.reduceToNat] at ho23; rw [← Ny109.out] at ho23)); have n0_ := Aside0.mk (Kd.S_elder' (by (with_reducible repeat (first | apply Kd.S_alloc | apply Kd.S_drewN | apply Kd.S_drew)); exact HO_7.out) (Kd.R_base ho23) hb); have n1_ := Aside0.mk (Kd.R_lower ho23 (below_size (by repeat (first | (with_reducible first | exact HB.out | apply below_alloc | apply pw_below_drewN | apply below_drew1) | exact HB.out)))); have n2_ := Aside0.mk (below_step (by repeat (first | (with_reducible first | exact HB.out | apply below_alloc | apply pw_below_drewN | apply below_drew1) | exact HB.out)) hb); clear HO_7; clear HB; have HO_7 := n0_; have HO111 := n1_; have HB := n2_; clear n0_ n1_ n2_; clear hb ho23; obtain ⟨Ao25, co25, eo25⟩ := Kd.R_slice HO111.out; subst eo25) | ((with_reducible refine gate_builtin (b := .append) (xs := #[.tmp 45, .tmp 48]) rfl ?_); at_builtin; refine Kd.S_append (Kd.slice 22 (Kd.int .u64)) (w0 := w) w.heap.size rfl (.tmp 45) (.tmp 48) 76 123 (.slice none 0 0) 24 rfl Try.underlying76 info123 rfl (by decide) (by omega) u7 x7_2 y109 [.slice Ao25 y109.length co25] (fun _ => True) (fun k_ => some k_ = (.slice Ao25 y109.length co25 : Value).ownBlock) rfl rfl ?aP (fun k_ hk_ => ((Kd.R_mono (ok' := fun k_ => ((fun _ => True)) k_ ∧ some k_ ≠ (u7 : Value).ownBlock) (Kd.R_apart' (HO111.out) (Kd.S_typed HO_7.out) (by decide)) (fun k_ hk => ⟨trivial, hk.2⟩))).1 k_ hk_.symm) ?aF ?aO ?aB ?aS ?aL ?_; (case aP => exact Kd.M_row (Kd.R_mono (Kd.R_tight rfl (Kd.R_mono (ok' := fun k_ => ((fun _ => True)) k_ ∧ some k_ ≠ (u7 : Value).ownBlock) (Kd.R_apart' (HO111.out) (Kd.S_typed HO_7.out) (by decide)) (fun k_ hk => ⟨trivial, hk.2⟩))) (fun _ h_ => h_))); (case aB => exact (by repeat (first | (with_reducible first | exact HB.out | apply below_alloc | apply pw_below_drewN | apply below_drew1) | exact HB.out))); (case aF => exact (fun _ _ => trivial)); (case aO => exact (by (with_reducible repeat (first | apply Kd.S_alloc | apply Kd.S_drewN | apply Kd.S_drew)); exact Kd.S_mono HO_7.out (fun k_ hk => ⟨trivial, fun e_ => hk.2 e_⟩))); (case aS => exact (below_size (by repeat (first | (with_reducible first | exact HB.out | apply below_alloc | apply pw_below_drewN | apply below_drew1) | exact HB.out)))); (case aL => have := LMc21.out; omega); intro v113 w24 ho hb hg hat; rw [← Ny112.out] at ho; have n0_ := Aside0.mk (hb); have n1_ := Aside0.mk (ho); clear HB; clear HO_7; clear HO111; have HB := n0_; have HO114 := n1_; clear n0_ n1_; clear ho hb hg hat))
               go_roundg k2
               case measure => have := HK1.out; have := HK2.out; omega
               case rel => exact ⟨(y112), (wrap64 (x9_2 + 1)), (by first | rfl | (simp; done) | (simp [*]; done)), H', ⟨by have := HK1.out; have := HK2.out; omega⟩, ⟨by (with_reducible repeat (first | apply Kd.S_alloc | apply Kd.S_drewN | apply Kd.S_drew)); exact HO114.out⟩, ⟨by repeat (first | (with_reducible first | exact HB.out | apply below_alloc | apply pw_below_drewN | apply below_drew1) | exact HB.out)⟩⟩
             · rw [if_neg c21] at H
               exact absurd H (by simp)
           · rw [if_neg c20] at H
             exact absurd H (by simp)
         · rw [if_neg c19] at H
           exact absurd H (by simp)
       · rw [if_neg c18] at H
         have c18b0 : decide (x9_2 < (wrap64 (Int.tmod a2 7))) = false := decide_eq_false c18
         clear c18
         obtain rfl := Option.some.inj H
         go_wp2
         go_ret
         exact ⟨_, by first | rfl | (simp [errW_none, errW_some] <;> rfl) | (simp [*, errW_none, errW_some] <;> rfl), by (with_reducible repeat (first | apply Kd.S_alloc | apply Kd.S_drewN | apply Kd.S_drew)); exact HO_7.out, by repeat (first | (with_reducible first | exact HB.out | apply below_alloc | apply pw_below_drewN | apply below_drew1) | exact HB.out)⟩

end Go.Proofs.Ytbijnfhcbanhdaa.F
end

section
namespace Go.Proofs.Ytbijnfhcbanhdaa.F
open Go.RowKit Go.Proofs.YtbijnfhcbanhdaaW.PrintWords Go.Proofs.YtbijnfhcbanhdaaW.PrintLast Go.Proofs.YtbijnfhcbanhdaaW.PrintMore
attribute [local go_sem] max2_int min2_int max_two min_two max_three min_three max_four min_four   -- for this text's walks alone
set_option linter.unusedVariables false
set_option linter.unusedSimpArgs false

open Go.Proofs.Ytbijnfhcbanhdaa.H
def scullerlaw12_Arena_c.f (l0 : List Int) (a1 : Int) (a2 : Int) : Option (List (List Int)) := if bytesB l0 = true ∧ l0.length ≤ 140737488351232 ∧ 0 ≤ a1 ∧ a1 ≤ 255 ∧ 0 ≤ a2 ∧ a2 ≤ 255 then some (arena12L l0 a1 a2) else none
theorem scullerlaw12_Arena.l1_to (m : Int) (hm0 : 0 ≤ m) (hm : m ≤ 255) (x : List (List Int)) (hx : x.length ≤ 100) : ∀ (d i : Nat), (m % 7).toNat - i = d → i ≤ (m % 7).toNat → ∃ k, scullerlaw12_Arena.l1 k m (x ++ zerosC i) (i : Int) = some (x ++ zerosC (m % 7).toNat)
 | 0, i, hd, hi => ⟨1, by
  obtain rfl : i = (m % 7).toNat := by omega
  rw [scullerlaw12_Arena.l1, Int.tmod_eq_emod_of_nonneg hm0, if_neg (by unfold wrap64; omega)]⟩
 | d + 1, i, hd, hi => by
  obtain ⟨k, hk⟩ := scullerlaw12_Arena.l1_to m hm0 hm x hx d (i + 1) (by omega) (by omega)
  refine ⟨k + 1, ?_⟩
  rw [zerosC_succ] at hk
  rw [scullerlaw12_Arena.l1, Int.tmod_eq_emod_of_nonneg hm0, if_pos (by unfold wrap64; omega), if_pos (by omega), if_pos (by omega), if_pos (by rw [List.length_append, zerosC_length]; omega), List.append_assoc, Int.toNat_natCast, show wrap64 ((i : Int) + 1) = ((i + 1 : Nat) : Int) from by unfold wrap64; omega]
  exact hk
theorem scullerlaw12_Arena.l0_to (n m : Int) (hn0 : 0 ≤ n) (hn : n ≤ 255) (hm0 : 0 ≤ m) (hm : m ≤ 255) (x : List (List Int)) (e : List Int) (hx : x.length ≤ 50) (he : e.length ≤ 1000) : ∀ (d i : Nat), (m % 40).toNat - i = d → i ≤ (m % 40).toNat →
 ∃ k, scullerlaw12_Arena.l0 k n m (x ++ [e ++ addC n i]) (i : Int) = some (x ++ [e ++ addC n (m % 40).toNat] ++ zerosC (m % 7).toNat)
 | 0, i, hd, hi => by
  obtain rfl : i = (m % 40).toNat := by omega
  obtain ⟨k, hk⟩ := scullerlaw12_Arena.l1_to m hm0 hm (x ++ [e ++ addC n (m % 40).toNat]) (by simp; omega) (m % 7).toNat 0 (by omega) (by omega)
  refine ⟨k + 1, ?_⟩
  rw [scullerlaw12_Arena.l0, Int.tmod_eq_emod_of_nonneg hm0, if_neg (by unfold wrap64; omega)]
  rw [show zerosC 0 = [] from rfl, List.append_nil] at hk
  exact hk
 | d + 1, i, hd, hi => by
  obtain ⟨k, hk⟩ := scullerlaw12_Arena.l0_to n m hn0 hn hm0 hm x e hx he d (i + 1) (by omega) (by omega)
  refine ⟨k + 1, ?_⟩
  have hl : (x ++ [e ++ addC n i]).length = x.length + 1 := by simp
  have e1 : wrap64 (((x ++ [e ++ addC n i]).length : Int) - 1) = (x.length : Int) := by rw [hl]; unfold wrap64; omega
  have hr : rd_L8 (x ++ [e ++ addC n i]) (x.length : Int) = e ++ addC n i := by
   unfold rd_L8
   rw [getD_toNat _ _ x.length (by simp)]
   simp
  have h2 : (i : Int) * n ≤ 40 * 255 := Int.mul_le_mul (by omega) (by omega) (by omega) (by omega)
  have h3 : 0 ≤ (i : Int) * n := Int.mul_nonneg (by omega) (by omega)
  have wu : ∀ z : Int, 0 ≤ z → z < 18446744073709551616 → IntKind.u64.wrap z = z := fun z hz hz2 => wrapu hz hz2
  rw [addC_succ] at hk
  rw [scullerlaw12_Arena.l0, Int.tmod_eq_emod_of_nonneg hm0, if_pos (by unfold wrap64; omega), e1, if_pos (by omega), if_pos (by rw [hl]; omega), hr, if_pos (by rw [List.length_append, addC_length]; omega), wu (i : Int) (by omega) (by omega), wu n hn0 (by omega), wu _ h3 (by omega), Int.toNat_natCast,
   List.set_append_right _ _ (Nat.le_refl _), Nat.sub_self, List.set_cons_zero, List.append_assoc, show wrap64 ((i : Int) + 1) = ((i + 1 : Nat) : Int) from by unfold wrap64; omega]
  exact hk
theorem scullerlaw12_Arena_c.to {l0 : List Int} {a1 a2 : Int} {r : List (List Int)} (h : scullerlaw12_Arena_c.f l0 a1 a2 = some r) : ∃ k, scullerlaw12_Arena.f k l0 a1 a2 = some r := by
 unfold scullerlaw12_Arena_c.f at h
 split at h
 case isFalse => cases h
 case isTrue hb =>
 obtain rfl := Option.some.inj h
 obtain ⟨h0, h1, h2, h3, h4, h5⟩ := hb
 have hl := arenaL_length l0 h2
 have hw := arenaL_words l0 h2
 have hlast := arenaL_last l0 h2
 have he : ((arenaL l0 a1).getLastD []).length ≤ 1000 := by
  rw [← hlast, wordsL_append, wordsL_one] at hw
  omega
 obtain ⟨k, hk⟩ := scullerlaw12_Arena.l0_to a1 a2 h2 h3 h4 h5 (arenaL l0 a1).dropLast ((arenaL l0 a1).getLastD []) (by simp; omega) he (a2 % 40).toNat 0 (by omega) (by omega)
 refine ⟨k, ?_⟩
 rw [show addC a1 0 = [] from rfl, List.append_nil, hlast] at hk
 rw [scullerlaw12_Arena.f, scullerlaw07_Arena_c.f, if_pos ⟨h0, h1, h2, h3⟩, Option.bind_some]
 exact hk

theorem scullerlaw12_Arena_c.calls (A0 : Option Addr) (c0 : Nat) (l0 : List Int) (a1 : Int) (a2 : Int) (r : List (List Int)) (w : World) (hr0 : Kd.C (Kd.int .u8) w A0 l0.length l0) (hc0 : l0.length ≤ c0) (h : scullerlaw12_Arena_c.f l0 a1 a2 = some r) :
 Calls Try.prog 37 #[.slice A0 l0.length c0, .int .u8 a1, .int .u8 a2] w fun e w' => ∃ v0_ : Value, e = .returned (v0_) ∧ Kd.S (Kd.slice 22 (Kd.int .u64)) 123 w' w.heap.size (fun _ => True) v0_ r ∧ Below w.heap.size w w' := by
 obtain ⟨k_, hk_⟩ := scullerlaw12_Arena_c.to h
 exact scullerlaw12_Arena.calls k_ A0 c0 l0 a1 a2 r w hr0 hc0 hk_

end Go.Proofs.Ytbijnfhcbanhdaa.F
end

section
namespace Go.Proofs.Ytbijnfhcbanhdaa.F
open Go.RowKit Go.Proofs.YtbijnfhcbanhdaaW.PrintWords Go.Proofs.YtbijnfhcbanhdaaW.PrintLast Go.Proofs.YtbijnfhcbanhdaaW.PrintMore
attribute [local go_sem] max2_int min2_int max_two min_two max_three min_three max_four min_four   -- for this text's walks alone
set_option linter.unusedVariables false
set_option linter.unusedSimpArgs false

/-! ### scullerlaw14_Token: function 12 -/
def scullerlaw14_Token.l0 : Nat → List Int → List Int → Int → Int → List Int → Int → Option (Int × List Int × Int × List Int)
 | 0, _, _, _, _, _, _ => none
 | k + 1, x1, x11, x12, x112000, x112001, x112002 => if x12 < (x1.length : Int) then (if 0 ≤ x12 then ((scullerref12_Chunks.f x112000 x112001 x112002).bind fun t117 => (if (wrap64 (rd x1 x12)) < t117 then ((scullerref03_Set_c.f x11 (wrap64 (rd x1 x12))).bind fun t119 => (scullerlaw14_Token.l0 k x1 t119 (wrap64 (x12 + 1)) x112000 x112001 x112002)) else (scullerlaw14_Token.l0 k x1 x11 (wrap64 (x12 + 1)) x112000 x112001 x112002))) else (none)) else (some (x112000, x112001, x112002, x11))
def scullerlaw14_Token.f (k : Nat) (a0 : Int) (l1 : List Int) (a2 : Int) (a3 : Int) : Option (Int × List Int × Int × List Int) := (scullerlaw12_Arena_c.f l1 a2 a3).bind fun t102 => ((scullerref12_Of_c.f a0 t102).bind fun bt105 => ((scullerref12_Chunks.f bt105.1 bt105.2.1 bt105.2.2.1).bind fun t112 => ((scullerref03_Make.f t112).bind fun t113 => (scullerlaw14_Token.l0 k l1 t113 0 bt105.1 bt105.2.1 bt105.2.2.1))))
theorem scullerlaw14_Token.mono_l : ∀ k, (∀ y0 y1 y2 y3 y4 y5, LeO (scullerlaw14_Token.l0 k y0 y1 y2 y3 y4 y5) (scullerlaw14_Token.l0 (k + 1) y0 y1 y2 y3 y4 y5))
 | 0 => fun _ _ _ _ _ _ r h => by simp [scullerlaw14_Token.l0] at h
 | k + 1 => by
  have ih0 := scullerlaw14_Token.mono_l k
  · intro y0 y1 y2 y3 y4 y5
    unfold scullerlaw14_Token.l0
    repeat' first
    | (with_reducible exact ih0 _ _ _ _ _ _)
    | (with_reducible exact LeO.refl _)
    | (with_reducible exact LeO.none _)
    | (with_reducible refine LeO.ite ?_ ?_)
    | (with_reducible refine LeO.bind ?_ (fun _ => ?_))
    | exact ih0 _ _ _ _ _ _
    | exact LeO.none _
    | refine LeO.ite ?_ ?_
    | refine LeO.bind ?_ (fun _ => ?_)
theorem scullerlaw14_Token.mono : ∀ a0 a1 a2 a3 k, LeO (scullerlaw14_Token.f k a0 a1 a2 a3) (scullerlaw14_Token.f (k + 1) a0 a1 a2 a3) := by
 intro a0 a1 a2 a3 k
 have ih0 := scullerlaw14_Token.mono_l k
 unfold scullerlaw14_Token.f
 repeat' first
  | (with_reducible exact ih0 _ _ _ _ _ _)
  | (with_reducible exact LeO.refl _)
  | (with_reducible exact LeO.none _)
  | (with_reducible refine LeO.ite ?_ ?_)
  | (with_reducible refine LeO.bind ?_ (fun _ => ?_))
  | exact ih0 _ _ _ _ _ _
  | exact LeO.none _
  | refine LeO.ite ?_ ?_
  | refine LeO.bind ?_ (fun _ => ?_)
def scullerlaw14_Token.T6 : Bool × List (List Nat × List Nat) := (true, [([], []), ([], []), ([0, 1], [0, 1]), ([2], [2]), ([3], [3]), ([], []), ([5], [5]), ([4, 6], [4, 6])])
def scullerlaw14_Token.B6 : List Nat := [0, 0, 3, 7, 15, 0, 32, 127]
theorem scullerlaw14_Token.tab6 : rtab .any (opsOf Try.f12 6) = scullerlaw14_Token.T6 := by kernel_rfl
theorem scullerlaw14_Token.bits6 : waitsOk scullerlaw14_Token.T6.2 scullerlaw14_Token.B6 = true := by kernel_rfl
set_option maxHeartbeats 8000000 in
set_option maxRecDepth 100000 in
theorem scullerlaw14_Token.calls (k : Nat) (a0 : Int) (A1 : Option Addr) (c1 : Nat) (l1 : List Int) (a2 : Int) (a3 : Int) (r1 : Int) (r2 : List Int) (r3 : Int) (r4 : List Int) (w : World) (hr1 : Kd.C (Kd.int .u8) w A1 l1.length l1) (hc1 : l1.length ≤ c1) (h : scullerlaw14_Token.f k a0 l1 a2 a3 = some (r1, r2, r3, r4)) :
 Calls Try.prog 12 #[.int .u64 a0, .slice A1 l1.length c1, .int .u8 a2, .int .u8 a3] w fun e w' => ∃ v1_ v3_ : Value, e = .returned (.agg #[.int .u64 r1, v1_, .int .u32 r3, v3_]) ∧ Kd.R (Kd.int .i64) 3 w' w.heap.size (fun _ => True) v1_ r2 ∧ Kd.R (Kd.int .u8) 5 w' w.heap.size (fun _ => True) v3_ r4 ∧ Below w.heap.size w w' := by
 have hu29 := Try.underlying29
 have hu26 := Try.underlying26
 have HR1 := Aside0.mk hr1
 have HC1 := Aside0.mk hc1
 clear hr1 hc1
 have HB := Aside0.mk (Below.refl w.heap.size w)
 have H : ((scullerlaw12_Arena_c.f l1 a2 a3).bind fun t102 => ((scullerref12_Of_c.f a0 t102).bind fun bt105 => ((scullerref12_Chunks.f bt105.1 bt105.2.1 bt105.2.2.1).bind fun t112 => ((scullerref03_Make.f t112).bind fun t113 => (scullerlaw14_Token.l0 k l1 t113 0 bt105.1 bt105.2.1 bt105.2.2.1))))) = some (r1, r2, r3, r4) := h
 clear h
 replace H := Option.bind_eq_some_iff.mp H
 obtain ⟨t102, A50, H⟩ := H
 replace H : ((scullerref12_Of_c.f a0 t102).bind fun bt105 => ((scullerref12_Chunks.f bt105.1 bt105.2.1 bt105.2.2.1).bind fun t112 => ((scullerref03_Make.f t112).bind fun t113 => (scullerlaw14_Token.l0 k l1 t113 0 bt105.1 bt105.2.1 bt105.2.2.1)))) = some (r1, r2, r3, r4) := H
 have A5 := Aside0.mk A50
 clear A50
 replace H := Option.bind_eq_some_iff.mp H
 obtain ⟨⟨t105, t106, t109, t110⟩, A60, H⟩ := H
 replace H : ((scullerref12_Chunks.f t105 t106 t109).bind fun t112 => ((scullerref03_Make.f t112).bind fun t113 => (scullerlaw14_Token.l0 k l1 t113 0 t105 t106 t109))) = some (r1, r2, r3, r4) := H
 have A6 := Aside0.mk A60
 clear A60
 replace H := Option.bind_eq_some_iff.mp H
 obtain ⟨t112, A70, H⟩ := H
 replace H : ((scullerref03_Make.f t112).bind fun t113 => (scullerlaw14_Token.l0 k l1 t113 0 t105 t106 t109)) = some (r1, r2, r3, r4) := H
 have A7 := Aside0.mk A70
 clear A70
 replace H := Option.bind_eq_some_iff.mp H
 obtain ⟨t113, A80, H⟩ := H
 replace H : (scullerlaw14_Token.l0 k l1 t113 0 t105 t106 t109) = some (r1, r2, r3, r4) := H
 have A8 := Aside0.mk A80
 clear A80
 have H' := Aside0.mk H
 clear H
 go_enter Try.func12, Try.ntmps12
 go_wp2_with (first | ((with_reducible refine gate_dst (N := 8) rfl ?_); refine box_event ?hg (N := 8) ?hd (cs := #[.int .u64 0, .slice none 0 0, .int .u32 0, .slice none 0 0]) (t := 29) ?hr ?_; (case hd => rfl); (case hg => rfl); (case hr => first | (go_simp; done) | (go_simp; rfl)); intro gb101 hg w9 hbox hb; have n0_ := Aside0.mk (below_step (by repeat (first | (with_reducible first | exact HB.out | apply below_alloc | apply pw_below_drewN | apply below_drew1) | exact HB.out)) hb); have n1_ := Aside0.mk (hbox); have n2_ := Aside0.mk ((by rw [hg]; exact (below_size (by repeat (first | (with_reducible first | exact HB.out | apply below_alloc | apply pw_below_drewN | apply below_drew1) | exact HB.out))) : w.heap.size ≤ gb101)); have n3_ := Aside0.mk ((by rw [hg]; exact (below_size (by repeat (first | (with_reducible first | exact HB.out | apply below_alloc | apply pw_below_drewN | apply below_drew1) | exact HB.out))) : w.heap.size ≤ gb101)); clear HB; have HB := n0_; have BK101 := n1_; have GW101 := n2_; have GE101 := n3_; clear n0_ n1_ n2_ n3_; clear hb hbox hg) | ((with_reducible refine gate_callee (f := 37) rfl ?_); refine goesL_ (some 18) rfl rfl Try.func37 (by kernel_rfl) rfl #[.slice A1 l1.length c1, .int .u8 a2, .int .u8 a3] rfl (by (try simp only [List.map_toArray, List.map_cons, List.map_nil]); first | done | rfl | (simp only [List.length_drop, List.length_take]; rfl)) ?_; (with_reducible refine (scullerlaw12_Arena_c.calls _ _ l1 a2 a3 t102 _ ?side1 ?side2 A5.out).mono ?_); (case side1 => repeat (first | exact (Kd.C_below HR1.out HB.out) | (with_reducible refine Kd.C_alloc ?_ _) | (with_reducible refine Kd.C_drewN ?_ _) | (with_reducible refine Kd.C_drew ?_))); (case side2 => exact HC1.out); rintro e w10 ⟨v103, rfl, ho0, hb⟩; refine ⟨_, rfl, ?_⟩; have n0_ := Aside0.mk (Kd.S_lower ho0 (below_size (by repeat (first | (with_reducible first | exact HB.out | apply below_alloc | apply pw_below_drewN | apply below_drew1 | refine below_set ?_ GE101.out) | exact HB.out)))); have n1_ := Aside0.mk (blk_below (g := gb101) (o := .cells #[.int .u64 0, .slice none 0 0, .int .u32 0, .slice none 0 0] 29 (0, 0)) (by (with_reducible repeat (first | refine blk_drewN ?_ _ | refine blk_drew ?_ | refine blk_alloc ?_ _)); exact BK101.out) hb); have n2_ := Aside0.mk (below_step (by repeat (first | (with_reducible first | exact HB.out | apply below_alloc | apply pw_below_drewN | apply below_drew1 | refine below_set ?_ GE101.out) | exact HB.out)) hb); clear BK101; clear HB; have HO104 := n0_; have BK101 := n1_; have HB := n2_; clear n0_ n1_ n2_; (try clear hb); (try clear hb2); (try clear hk); (try clear hi); (try clear ho0); obtain ⟨Ao11, co11, eo11⟩ := Kd.S_slice HO104.out; subst eo11) | ((with_reducible refine gate_callee (f := 36) rfl ?_); refine goesL_ (some 19) rfl rfl Try.func36 (by kernel_rfl) rfl #[.int .u64 a0, .slice Ao11 t102.length co11] rfl (by (try simp only [List.map_toArray, List.map_cons, List.map_nil]); first | done | rfl | (simp only [List.length_drop, List.length_take]; rfl)) ?_; (with_reducible refine (scullerref12_Of_c.calls a0 _ _ t102 t105 t106 t109 t110 _ ?side1 ?side2 A6.out).mono ?_); (case side1 => repeat (first | exact (Kd.S_reads' HO104.out).2.2 | (with_reducible refine Kd.C_alloc ?_ _) | (with_reducible refine Kd.C_drewN ?_ _) | (with_reducible refine Kd.C_drew ?_))); (case side2 => exact (Kd.S_reads' HO104.out).2.1); rintro e w12 ⟨v107, rfl, ho0, hb⟩; refine ⟨_, rfl, ?_⟩; have n0_ := Aside0.mk (Kd.S_below (by (with_reducible repeat (first | apply Kd.S_alloc | apply Kd.S_drewN | apply Kd.S_drew)); exact HO104.out) hb); have n1_ := Aside0.mk (Kd.R_lower ho0 (below_size (by repeat (first | (with_reducible first | exact HB.out | apply below_alloc | apply pw_below_drewN | apply below_drew1 | refine below_set ?_ GE101.out) | exact HB.out)))); have n2_ := Aside0.mk (blk_below (g := gb101) (o := .cells #[.int .u64 0, .slice none 0 0, .int .u32 0, .slice none 0 0] 29 (0, 0)) (by (with_reducible repeat (first | refine blk_drewN ?_ _ | refine blk_drew ?_ | refine blk_alloc ?_ _)); exact BK101.out) hb); have n3_ := Aside0.mk (below_step (by repeat (first | (with_reducible first | exact HB.out | apply below_alloc | apply pw_below_drewN | apply below_drew1 | refine below_set ?_ GE101.out) | exact HB.out)) hb); clear HO104; clear BK101; clear HB; have HO104 := n0_; have HO108 := n1_; have BK101 := n2_; have HB := n3_; clear n0_ n1_ n2_ n3_; (try clear hb); (try clear hb2); (try clear hk); (try clear hi); (try clear ho0)) | ((with_reducible refine gate_dst (N := 9) rfl ?_); refine box_event ?hg (N := 9) ?hd (cs := #[.int .u64 0, .slice none 0 0, .int .u32 0]) (t := 26) ?hr ?_; (case hd => rfl); (case hg => rfl); (case hr => first | (go_simp; done) | (go_simp; rfl)); intro gb111 hg w13 hbox hb; have n0_ := Aside0.mk (Kd.S_below (by (with_reducible repeat (first | apply Kd.S_alloc | apply Kd.S_drewN | apply Kd.S_drew)); exact HO104.out) hb); have n1_ := Aside0.mk (Kd.R_below (by (with_reducible repeat (first | apply Kd.R_alloc | apply Kd.R_drewN | apply Kd.R_drew)); exact HO108.out) hb); have n2_ := Aside0.mk (blk_below (g := gb101) (o := .cells #[.int .u64 0, .slice none 0 0, .int .u32 0, .slice none 0 0] 29 (0, 0)) (by (with_reducible repeat (first | refine blk_drewN ?_ _ | refine blk_drew ?_ | refine blk_alloc ?_ _)); exact BK101.out) hb); have n3_ := Aside0.mk (below_step (by repeat (first | (with_reducible first | exact HB.out | apply below_alloc | apply pw_below_drewN | apply below_drew1 | refine below_set ?_ GE101.out) | exact HB.out)) hb); have n4_ := Aside0.mk (hbox); have n5_ := Aside0.mk ((by rw [hg]; exact (below_size (by repeat (first | (with_reducible first | exact HB.out | apply below_alloc | apply pw_below_drewN | apply below_drew1 | refine below_set ?_ GE101.out) | exact HB.out))) : w.heap.size ≤ gb111)); have n6_ := Aside0.mk ((by rw [hg]; exact (below_size (by repeat (first | (with_reducible first | exact HB.out | apply below_alloc | apply pw_below_drewN | apply below_drew1 | refine below_set ?_ GE101.out) | exact HB.out))) : w.heap.size ≤ gb111)); have n7_ := Aside0.mk ((by rw [hg]; exact Nat.ne_of_lt (blk_lt (g := gb101) (o := .cells #[.int .u64 0, .slice none 0 0, .int .u32 0, .slice none 0 0] 29 (0, 0)) (by (with_reducible repeat (first | refine blk_drewN ?_ _ | refine blk_drew ?_ | refine blk_alloc ?_ _)); exact BK101.out)) : gb101 ≠ gb111)); have n8_ := Aside0.mk ((by rw [hg]; exact Nat.ne_of_gt (blk_lt (g := gb101) (o := .cells #[.int .u64 0, .slice none 0 0, .int .u32 0, .slice none 0 0] 29 (0, 0)) (by (with_reducible repeat (first | refine blk_drewN ?_ _ | refine blk_drew ?_ | refine blk_alloc ?_ _)); exact BK101.out)) : gb111 ≠ gb101)); clear HO104; clear HO108; clear BK101; clear HB; have HO104 := n0_; have HO108 := n1_; have BK101 := n2_; have HB := n3_; have BK111 := n4_; have GW111 := n5_; have GE111 := n6_; have NB101_111 := n7_; have NB111_101 := n8_; clear n0_ n1_ n2_ n3_ n4_ n5_ n6_ n7_ n8_; clear hb hbox hg; have hnb14 := NB111_101.out; have hnc14 := NB101_111.out; have hcz15_0 : w13.cell? ⟨gb111, 0, none⟩ = some (.int .u64 0) := (blk_cell BK111.out 0).trans rfl; have hcz15_1 : w13.cell? ⟨gb111, 1, none⟩ = some (.slice none 0 0) := (blk_cell BK111.out 1).trans rfl; have hcz15_2 : w13.cell? ⟨gb111, 2, none⟩ = some (.int .u32 0) := (blk_cell BK111.out 2).trans rfl; have hfz15_0 := blk_frozen BK111.out 0; have hfz15_1 := blk_frozen BK111.out 1; have hfz15_2 := blk_frozen BK111.out 2; obtain ⟨Ao16, co16, eo16⟩ := Kd.R_slice HO108.out; subst eo16) | ((with_reducible refine gate_callee (f := 21) rfl ?_); refine goesL_ (some 23) rfl rfl Try.func21 (by kernel_rfl) rfl #[.agg #[.int .u64 t105, .slice Ao16 t106.length co16, .int .u32 t109]] rfl (by (try simp only [List.map_toArray, List.map_cons, List.map_nil]); first | done | rfl | (simp only [List.length_drop, List.length_take]; rfl)) ?_; (with_reducible refine (scullerref12_Chunks.calls t105 _ _ t106 t109 t112 _ ?side1 ?side2 A7.out).mono ?_); (case side1 => refine (Kd.R_reads' (e := 3) (base := w.heap.size) (ok := fun k_ => True) (n := t106.length) (c := co16) ?_).2.2; exact (by (with_reducible repeat (first | apply Kd.R_alloc | apply Kd.R_drewN | apply Kd.R_drew)); exact (Kd.R_mono (Kd.R_far (p := ⟨gb111, 2, none⟩) (Kd.R_far (p := ⟨gb111, 1, none⟩) (Kd.R_far (p := ⟨gb111, 0, none⟩) (Kd.R_types HO108.out BK111.out (by decide)) (fun _ hk => hk.2) (.int .u64 t105)) (fun _ hk => hk.2) (.slice Ao16 t106.length co16)) (fun _ hk => hk.2) (.int .u32 t109)) (fun _ h_ => h_.1)))); (case side2 => exact (Kd.R_reads' HO108.out).2.1); rintro e w17 ⟨rfl, hb⟩; refine ⟨_, rfl, ?_⟩; have n0_ := Aside0.mk (Kd.S_below (by (with_reducible repeat (first | apply Kd.S_alloc | apply Kd.S_drewN | apply Kd.S_drew)); exact (Kd.S_mono (Kd.S_far (p := ⟨gb111, 2, none⟩) (Kd.S_far (p := ⟨gb111, 1, none⟩) (Kd.S_far (p := ⟨gb111, 0, none⟩) (Kd.S_types HO104.out BK111.out (by decide)) (fun _ hk => hk.2) (.int .u64 t105)) (fun _ hk => hk.2) (.slice Ao16 t106.length co16)) (fun _ hk => hk.2) (.int .u32 t109)) (fun _ h_ => h_.1))) hb); have n1_ := Aside0.mk (Kd.R_below (by (with_reducible repeat (first | apply Kd.R_alloc | apply Kd.R_drewN | apply Kd.R_drew)); exact (Kd.R_mono (Kd.R_far (p := ⟨gb111, 2, none⟩) (Kd.R_far (p := ⟨gb111, 1, none⟩) (Kd.R_far (p := ⟨gb111, 0, none⟩) (Kd.R_types HO108.out BK111.out (by decide)) (fun _ hk => hk.2) (.int .u64 t105)) (fun _ hk => hk.2) (.slice Ao16 t106.length co16)) (fun _ hk => hk.2) (.int .u32 t109)) (fun _ h_ => h_.1))) hb); have n2_ := Aside0.mk (blk_below (g := gb101) (o := .cells #[.int .u64 0, .slice none 0 0, .int .u32 0, .slice none 0 0] 29 (0, 0)) (by (with_reducible repeat (first | refine blk_drewN ?_ _ | refine blk_drew ?_ | refine blk_alloc ?_ _)); refine blk_far ?_ NB101_111.out _; (with_reducible repeat (first | refine blk_drewN ?_ _ | refine blk_drew ?_ | refine blk_alloc ?_ _)); refine blk_far ?_ NB101_111.out _; (with_reducible repeat (first | refine blk_drewN ?_ _ | refine blk_drew ?_ | refine blk_alloc ?_ _)); refine blk_far ?_ NB101_111.out _; (with_reducible repeat (first | refine blk_drewN ?_ _ | refine blk_drew ?_ | refine blk_alloc ?_ _)); exact BK101.out) hb); have n3_ := Aside0.mk (blk_below (g := gb111) (o := .cells #[.int .u64 t105, .slice Ao16 t106.length co16, .int .u32 t109] 26 (0, 0)) (by (with_reducible repeat (first | refine blk_drewN ?_ _ | refine blk_drew ?_ | refine blk_alloc ?_ _)); refine blk_put (cs := #[.int .u64 t105, .slice Ao16 t106.length co16, .int .u32 0]) ?_ 2 _ rfl; (with_reducible repeat (first | refine blk_drewN ?_ _ | refine blk_drew ?_ | refine blk_alloc ?_ _)); refine blk_put (cs := #[.int .u64 t105, .slice none 0 0, .int .u32 0]) ?_ 1 _ rfl; (with_reducible repeat (first | refine blk_drewN ?_ _ | refine blk_drew ?_ | refine blk_alloc ?_ _)); refine blk_put (cs := #[.int .u64 0, .slice none 0 0, .int .u32 0]) ?_ 0 _ rfl; (with_reducible repeat (first | refine blk_drewN ?_ _ | refine blk_drew ?_ | refine blk_alloc ?_ _)); exact BK111.out) hb); have n4_ := Aside0.mk (below_step (by repeat (first | (with_reducible first | exact HB.out | apply below_alloc | apply pw_below_drewN | apply below_drew1 | refine below_set ?_ GE101.out | refine below_set ?_ GE111.out) | exact HB.out)) hb); clear HO104; clear HO108; clear BK101; clear BK111; clear HB; have HO104 := n0_; have HO108 := n1_; have BK101 := n2_; have BK111 := n3_; have HB := n4_; clear n0_ n1_ n2_ n3_ n4_; (try clear hb); (try clear hb2); (try clear hk); (try clear hi)) | ((with_reducible refine gate_callee (f := 22) rfl ?_); refine goesL_ (some 24) rfl rfl Try.func22 (by kernel_rfl) rfl #[.int .i64 t112] rfl (by (try simp only [List.map_toArray, List.map_cons, List.map_nil]); first | done | rfl | (simp only [List.length_drop, List.length_take]; rfl)) ?_; (with_reducible refine (scullerref03_Make.calls t112 t113 _ A8.out).mono ?_); rintro e w18 ⟨v114, rfl, ho0, hb⟩; refine ⟨_, rfl, ?_⟩; have n0_ := Aside0.mk (Kd.S_below (by (with_reducible repeat (first | apply Kd.S_alloc | apply Kd.S_drewN | apply Kd.S_drew)); exact HO104.out) hb); have n1_ := Aside0.mk (Kd.R_below (by (with_reducible repeat (first | apply Kd.R_alloc | apply Kd.R_drewN | apply Kd.R_drew)); exact HO108.out) hb); have n2_ := Aside0.mk (Kd.R_lower ho0 (below_size (by repeat (first | (with_reducible first | exact HB.out | apply below_alloc | apply pw_below_drewN | apply below_drew1 | refine below_set ?_ GE101.out | refine below_set ?_ GE111.out) | exact HB.out)))); have n3_ := Aside0.mk (blk_below (g := gb101) (o := .cells #[.int .u64 0, .slice none 0 0, .int .u32 0, .slice none 0 0] 29 (0, 0)) (by (with_reducible repeat (first | refine blk_drewN ?_ _ | refine blk_drew ?_ | refine blk_alloc ?_ _)); exact BK101.out) hb); have n4_ := Aside0.mk (blk_below (g := gb111) (o := .cells #[.int .u64 t105, .slice Ao16 t106.length co16, .int .u32 t109] 26 (0, 0)) (by (with_reducible repeat (first | refine blk_drewN ?_ _ | refine blk_drew ?_ | refine blk_alloc ?_ _)); exact BK111.out) hb); have n5_ := Aside0.mk (below_step (by repeat (first | (with_reducible first | exact HB.out | apply below_alloc | apply pw_below_drewN | apply below_drew1 | refine below_set ?_ GE101.out | refine below_set ?_ GE111.out) | exact HB.out)) hb); clear HO104; clear HO108; clear BK101; clear BK111; clear HB; have HO104 := n0_; have HO108 := n1_; have HO115 := n2_; have BK101 := n3_; have BK111 := n4_; have HB := n5_; clear n0_ n1_ n2_ n3_ n4_ n5_; (try clear hb); (try clear hb2); (try clear hk); (try clear hi); (try clear ho0)))
 go_loopg [11, 12] k (fun kq v11 v12 w' => ∃ (x11_1 : List Int) (x12_1 : Int), v12 = .int .i64 x12_1 ∧ Aside0 (scullerlaw14_Token.l0 kq l1 x11_1 x12_1 t105 t106 t109 = some (r1, r2, r3, r4)) ∧ Aside0 (kq ≤ k) ∧ Aside0 (Kd.R (Kd.int .u8) 5 w' w.heap.size (fun _ => True) v11 x11_1) ∧ Aside0 (Kd.R (Kd.int .i64) 3 w' w.heap.size (fun _ => True) (.slice Ao16 t106.length co16) t106) ∧ Aside0 (w'.heap[gb101]? = some (.cells #[.int .u64 0, (.slice none 0 0), .int .u32 0, (.slice none 0 0)] 29 (0, 0))) ∧ Aside0 (w'.heap[gb111]? = some (.cells #[.int .u64 t105, (.slice Ao16 t106.length co16), .int .u32 t109] 26 (0, 0))) ∧ Aside0 (Below w.heap.size w w'))
 case atStart => exact ⟨(t113), (0), (by first | rfl | (simp; done) | (simp [*]; done)), H', ⟨Nat.le_refl _⟩, ⟨by (with_reducible repeat (first | apply Kd.R_alloc | apply Kd.R_drewN | apply Kd.R_drew)); exact HO115.out⟩, ⟨by (with_reducible repeat (first | apply Kd.R_alloc | apply Kd.R_drewN | apply Kd.R_drew)); exact HO108.out⟩, ⟨by (with_reducible repeat (first | refine blk_drewN ?_ _ | refine blk_drew ?_ | refine blk_alloc ?_ _)); exact BK101.out⟩, ⟨by (with_reducible repeat (first | refine blk_drewN ?_ _ | refine blk_drew ?_ | refine blk_alloc ?_ _)); exact BK111.out⟩, ⟨by repeat (first | (with_reducible first | exact HB.out | apply below_alloc | apply pw_below_drewN | apply below_drew1 | refine below_set ?_ GE101.out | refine below_set ?_ GE111.out) | exact HB.out)⟩⟩
 case round =>
  clear H'
  try clear c1
  try clear c2
  try clear p2
  try clear c3
  try clear c12
  try clear c14
  try clear hcz15_0
  try clear hcz15_1
  try clear hcz15_2
  try clear hfz15_0
  try clear hfz15_1
  try clear hfz15_2
  obtain ⟨x11_1, x12_1, rfl, HA, HK1, HO_11, HO_112001, BK101, BK111, HB⟩ := hrel
  cases gk with
  | zero => exact absurd HA.out (by simp [scullerlaw14_Token.l0])
  | succ k1 =>
   have H := HA.out
   clear HA
   simp only [scullerlaw14_Token.l0] at H
   by_cases c19 : x12_1 < (l1.length : Int)
   · rw [if_pos c19] at H
     have c19b0 : decide (x12_1 < (l1.length : Int)) = true := decide_eq_true c19
     clear c19
     by_cases c20 : 0 ≤ x12_1
     · rw [if_pos c20] at H
       have c20b0 : decide (0 ≤ x12_1) = true := decide_eq_true c20
       clear c20
       replace H := Option.bind_eq_some_iff.mp H
       obtain ⟨t117, A210, H⟩ := H
       replace H : (if (wrap64 (rd l1 x12_1)) < t117 then ((scullerref03_Set_c.f x11_1 (wrap64 (rd l1 x12_1))).bind fun t119 => (scullerlaw14_Token.l0 k1 l1 t119 (wrap64 (x12_1 + 1)) t105 t106 t109)) else (scullerlaw14_Token.l0 k1 l1 x11_1 (wrap64 (x12_1 + 1)) t105 t106 t109)) = some (r1, r2, r3, r4) := H
       have A21 := Aside0.mk A210
       clear A210
       by_cases c22 : (wrap64 (rd l1 x12_1)) < t117
       · rw [if_pos c22] at H
         have c22b0 : decide ((wrap64 (rd l1 x12_1)) < t117) = true := decide_eq_true c22
         clear c22
         replace H := Option.bind_eq_some_iff.mp H
         obtain ⟨t119, A230, H⟩ := H
         replace H : (scullerlaw14_Token.l0 k1 l1 t119 (wrap64 (x12_1 + 1)) t105 t106 t109) = some (r1, r2, r3, r4) := H
         have A23 := Aside0.mk A230
         clear A230
         have H' := Aside0.mk H
         clear H
         try go_wp2
         have n0_ := Aside0.mk (Kd.R_drew HO_11.out)
         have n1_ := Aside0.mk (Kd.R_drew HO_112001.out)
         have n2_ := Aside0.mk (blk_drew BK101.out)
         have n3_ := Aside0.mk (blk_drew BK111.out)
         have n4_ := Aside0.mk (below_drew1 HB.out)
         clear HO_11
         clear HO_112001
         clear BK101
         clear BK111
         clear HB
         have HO_11 := n0_
         have HO_112001 := n1_
         have BK101 := n2_
         have BK111 := n3_
         have HB := n4_
         clear n0_ n1_ n2_ n3_ n4_
         have p116 : 0 ≤ (x12_1 : Int) := of_decide_eq_true (by first | (with_reducible assumption) | assumption)
         have q116 : x12_1 < (l1.length : Int) := of_decide_eq_true (by first | (with_reducible assumption) | assumption)
         obtain ⟨ad116, e116, hx116_0⟩ := Kd.at_int HR1.out x12_1 p116 q116
         have hw116_0 := hx116_0
         cases e116
         replace hx116_0 := (HB.out.cell (World.block_lt_of_cell? w _ hx116_0)).trans hx116_0
         replace p116 := eq_true p116
         replace q116 := eq_true q116
         refine start_ (n := 8) (S := fun w' => w'.cell? ⟨gb111, 0, none⟩ = some (.int .u64 t105) ∧ w'.cell? ⟨gb111, 1, none⟩ = some (.slice Ao16 t106.length co16) ∧ w'.cell? ⟨gb111, 2, none⟩ = some (.int .u32 t109) ∧ w'.cell? (ad116.add (x12_1).toNat) = some (.int .u8 (rd l1 x12_1))) (ds := []) #[false, false, false, false, false, false, false, false] (by kernel_rfl) rfl rfl ⟨(blk_cell BK111.out 0).trans rfl, (blk_cell BK111.out 1).trans rfl, (blk_cell BK111.out 2).trans rfl, ((HB.out.cell (World.block_lt_of_cell? w _ hw116_0)).trans hw116_0)⟩ (fun hHeld => ?_); refine with_tabW scullerlaw14_Token.tab6 scullerlaw14_Token.bits6 (fun HT_ HW_ => ?_)
         generalize wr.drew = w24 at HO_11 HO_112001 BK101 BK111 HB hx116_0 hHeld ⊢
         refine pure_ (i := 0) (N := some 31) (v := ?_) (a' := ?_) #[true, false, false, false, false, false, false, false] rfl rfl (any_of HT_.out (by kernel_rfl)) (fun _ _ _ h => h) (Or.inl ⟨by rfl, ?_⟩) ?_ ?_
         rotate_left
         · intro w'
           go_simp
           with_reducible rfl
         rotate_left
         · simp only [Act.put, List.setIfInBounds_toArray, List.set_cons_zero, List.set_cons_succ, i64_w, i32_w]
           rfl
         refine pure_ (i := 1) (N := some 32) (v := ?_) (a' := ?_) #[true, true, false, false, false, false, false, false] rfl rfl (any_of HT_.out (by kernel_rfl)) (fun _ _ _ h => h) (Or.inl ⟨by rfl, ?_⟩) ?_ ?_
         rotate_left
         · intro w'
           go_simp
           with_reducible rfl
         rotate_left
         · simp only [Act.put, List.setIfInBounds_toArray, List.set_cons_zero, List.set_cons_succ, i64_w, i32_w]
           rfl
         refine pure_ (i := 2) (N := some 33) (v := ?_) (a' := ?_) #[true, true, true, false, false, false, false, false] rfl rfl (any_of HT_.out (by kernel_rfl)) (fun _ _ _ h => h) (Or.inl ⟨by rfl, ?_⟩) ?_ ?_
         rotate_left
         · intro w'
           go_simp
           with_reducible rfl
         rotate_left
         · simp only [Act.put, List.setIfInBounds_toArray, List.set_cons_zero, List.set_cons_succ, i64_w, i32_w]
           rfl
         refine take_ (i := 3) (N := some 34) (v := ?_) (a' := ?_) #[true, true, true, true, false, false, false, false] rfl rfl (take_ofW HT_.out HW_.out (by kernel_rfl)) (fun _ _ _ h => h) (Or.inl ⟨by rfl, ?_⟩) hHeld ?_ ?_
         rotate_left
         · rintro w' ⟨s0, s1, s2, s3⟩
           go_simp
           with_reducible rfl
         rotate_left
         · simp only [Act.put, List.setIfInBounds_toArray, List.set_cons_zero, List.set_cons_succ, i64_w, i32_w]
           rfl
         refine pure_ (i := 4) (N := some 35) (v := ?_) (a' := ?_) #[true, true, true, true, true, false, false, false] rfl rfl (any_of HT_.out (by kernel_rfl)) (fun _ _ _ h => h) (Or.inl ⟨by rfl, ?_⟩) ?_ ?_
         rotate_left
         · intro w'
           go_simp
           with_reducible rfl
         rotate_left
         · simp only [Act.put, List.setIfInBounds_toArray, List.set_cons_zero, List.set_cons_succ, i64_w, i32_w]
           rfl
         refine take_ (i := 5) (N := some 36) (v := ?_) (a' := ?_) #[true, true, true, true, true, true, false, false] rfl rfl (take_ofW HT_.out HW_.out (by kernel_rfl)) (fun _ _ _ h => h) (Or.inl ⟨by rfl, ?_⟩) hHeld ?_ ?_
         rotate_left
         · rintro w' ⟨s0, s1, s2, s3⟩
           go_simp
           with_reducible rfl
         rotate_left
         · simp only [Act.put, List.setIfInBounds_toArray, List.set_cons_zero, List.set_cons_succ, i64_w, i32_w]
           rfl
         refine one_ (i := 6) (N := some 37) #[true, true, true, true, true, true, true, false] rfl rfl (one_of HT_.out (by kernel_rfl)) (by decide) (fun K hK => ?_)
         refine goes_ Try.func21 (by kernel_rfl) rfl #[.agg #[.int .u64 t105, .slice Ao16 t106.length co16, .int .u32 t109]] (by rfl) rfl rfl (by (try simp only [List.map_toArray, List.map_cons, List.map_nil]); first | done | rfl | (simp only [List.length_drop, List.length_take]; rfl)) ?_
         with_reducible refine (scullerref12_Chunks.calls t105 _ _ t106 t109 t117 _ ?side1 ?side2 A21.out).mono ?_
         (case side1 => repeat (first | exact (Kd.R_reads' HO_112001.out).2.2 | (with_reducible refine Kd.C_alloc ?_ _) | (with_reducible refine Kd.C_drewN ?_ _) | (with_reducible refine Kd.C_drew ?_)))
         (case side2 => exact (Kd.R_reads' HO_112001.out).2.1)
         rintro e w25 ⟨rfl, hb⟩
         refine ⟨_, rfl, ?_⟩
         have n0_ := Aside0.mk (Kd.R_below (by (with_reducible repeat (first | apply Kd.R_alloc | apply Kd.R_drewN | apply Kd.R_drew)); exact HO_11.out) hb)
         have n1_ := Aside0.mk (Kd.R_below (by (with_reducible repeat (first | apply Kd.R_alloc | apply Kd.R_drewN | apply Kd.R_drew)); exact HO_112001.out) hb)
         have n2_ := Aside0.mk (blk_below (g := gb101) (o := .cells #[.int .u64 0, .slice none 0 0, .int .u32 0, .slice none 0 0] 29 (0, 0)) (by (with_reducible repeat (first | refine blk_drewN ?_ _ | refine blk_drew ?_ | refine blk_alloc ?_ _)); exact BK101.out) hb)
         have n3_ := Aside0.mk (blk_below (g := gb111) (o := .cells #[.int .u64 t105, .slice Ao16 t106.length co16, .int .u32 t109] 26 (0, 0)) (by (with_reducible repeat (first | refine blk_drewN ?_ _ | refine blk_drew ?_ | refine blk_alloc ?_ _)); exact BK111.out) hb)
         have n4_ := Aside0.mk (below_step (by repeat (first | (with_reducible first | exact HB.out | apply below_alloc | apply pw_below_drewN | apply below_drew1 | refine below_set ?_ GE101.out | refine below_set ?_ GE111.out) | exact HB.out)) hb)
         clear HO_11
         clear HO_112001
         clear BK101
         clear BK111
         clear HB
         have HO_11 := n0_
         have HO_112001 := n1_
         have BK101 := n2_
         have BK111 := n3_
         have HB := n4_
         clear n0_ n1_ n2_ n3_ n4_
         (try clear hb)
         (try clear hb2)
         (try clear hk)
         (try clear hi)
         refine hK.out _ _ ⟨(blk_cell BK111.out 0).trans rfl, (blk_cell BK111.out 1).trans rfl, (blk_cell BK111.out 2).trans rfl, ((HB.out.cell (World.block_lt_of_cell? w _ hw116_0)).trans hw116_0)⟩ (fun hHeld => ?_)
         clear hK K
         refine norm_ (a' := ?_) ?_ ?_
         rotate_left
         · show Act.put _ (some 37) _ = _
           simp only [Act.put, List.setIfInBounds_toArray, List.set_cons_zero, List.set_cons_succ, i64_w, i32_w]
           rfl
         refine pure_ (i := 7) (N := some 38) (v := ?_) (a' := ?_) #[true, true, true, true, true, true, true, true] rfl rfl (any_of HT_.out (by kernel_rfl)) (fun _ _ _ h => h) (Or.inl ⟨by rfl, ?_⟩) ?_ ?_
         rotate_left
         · intro w'
           go_simp
           with_reducible rfl
         rotate_left
         · simp only [Act.put, List.setIfInBounds_toArray, List.set_cons_zero, List.set_cons_succ, i64_w, i32_w]
           rfl
         refine done_ (done_of HT_.out (by kernel_rfl)) ?_
         have p118 : 0 ≤ (x12_1 : Int) := of_decide_eq_true (by first | (with_reducible assumption) | assumption)
         have q118 : x12_1 < (l1.length : Int) := of_decide_eq_true (by first | (with_reducible assumption) | assumption)
         obtain ⟨ad118, e118, hx118_0⟩ := Kd.at_int HR1.out x12_1 p118 q118
         obtain rfl : ad116 = ad118 := (by injection e118)
         replace hx118_0 := (HB.out.cell (World.block_lt_of_cell? w _ hx118_0)).trans hx118_0
         replace p118 := eq_true p118
         replace q118 := eq_true q118
         obtain ⟨Ao26, co26, eo26⟩ := Kd.R_slice HO_11.out
         subst eo26
         try go_wp2_with (first | ((with_reducible refine gate_callee (f := 23) rfl ?_); refine goesL_ (some 45) rfl rfl Try.func23 (by kernel_rfl) rfl #[.slice Ao26 x11_1.length co26, .int .i64 (wrap64 (rd l1 x12_1))] rfl (by (try simp only [List.map_toArray, List.map_cons, List.map_nil]); first | done | rfl | (simp only [List.length_drop, List.length_take]; rfl)) ?_; (with_reducible refine (scullerref03_Set_c.calls _ _ x11_1 (wrap64 (rd l1 x12_1)) t119 _ ?side1 ?side2 A23.out).mono ?_); (case side1 => repeat (first | exact (Kd.R_reads' HO_11.out).2.2 | (with_reducible refine Kd.C_alloc ?_ _) | (with_reducible refine Kd.C_drewN ?_ _) | (with_reducible refine Kd.C_drew ?_))); (case side2 => exact (Kd.R_reads' HO_11.out).2.1); rintro e w27 ⟨v120, rfl, ho0, hb⟩; refine ⟨_, rfl, ?_⟩; have n0_ := Aside0.mk (Kd.R_elder' (by (with_reducible repeat (first | apply Kd.R_alloc | apply Kd.R_drewN | apply Kd.R_drew)); exact HO_11.out) (Kd.R_base ho0) hb); have n1_ := Aside0.mk (Kd.R_below (by (with_reducible repeat (first | apply Kd.R_alloc | apply Kd.R_drewN | apply Kd.R_drew)); exact HO_112001.out) hb); have n2_ := Aside0.mk (Kd.R_lower (Kd.R_new' ho0 (Kd.R_lt (by (with_reducible repeat (first | apply Kd.R_alloc | apply Kd.R_drewN | apply Kd.R_drew)); exact HO_11.out))) (below_size (by repeat (first | (with_reducible first | exact HB.out | apply below_alloc | apply pw_below_drewN | apply below_drew1 | refine below_set ?_ GE101.out | refine below_set ?_ GE111.out) | exact HB.out)))); have n3_ := Aside0.mk (blk_below (g := gb101) (o := .cells #[.int .u64 0, .slice none 0 0, .int .u32 0, .slice none 0 0] 29 (0, 0)) (by (with_reducible repeat (first | refine blk_drewN ?_ _ | refine blk_drew ?_ | refine blk_alloc ?_ _)); exact BK101.out) hb); have n4_ := Aside0.mk (blk_below (g := gb111) (o := .cells #[.int .u64 t105, .slice Ao16 t106.length co16, .int .u32 t109] 26 (0, 0)) (by (with_reducible repeat (first | refine blk_drewN ?_ _ | refine blk_drew ?_ | refine blk_alloc ?_ _)); exact BK111.out) hb); have n5_ := Aside0.mk (below_step (by repeat (first | (with_reducible first | exact HB.out | apply below_alloc | apply pw_below_drewN | apply below_drew1 | refine below_set ?_ GE101.out | refine below_set ?_ GE111.out) | exact HB.out)) hb); clear HO_11; clear HO_112001; clear BK101; clear BK111; clear HB; have HO_11 := n0_; have HO_112001 := n1_; have HO121 := n2_; have BK101 := n3_; have BK111 := n4_; have HB := n5_; clear n0_ n1_ n2_ n3_ n4_ n5_; (try clear hb); (try clear hb2); (try clear hk); (try clear hi); (try clear ho0)))
         go_roundg k1
         case measure => have := HK1.out; omega
         case rel => exact ⟨(t119), (wrap64 (x12_1 + 1)), (by first | rfl | (simp; done) | (simp [*]; done)), H', ⟨by have := HK1.out; omega⟩, ⟨by (with_reducible repeat (first | apply Kd.R_alloc | apply Kd.R_drewN | apply Kd.R_drew)); exact Kd.R_mono HO121.out (fun _ hk => trivial)⟩, ⟨by (with_reducible repeat (first | apply Kd.R_alloc | apply Kd.R_drewN | apply Kd.R_drew)); exact HO_112001.out⟩, ⟨by (with_reducible repeat (first | refine blk_drewN ?_ _ | refine blk_drew ?_ | refine blk_alloc ?_ _)); exact BK101.out⟩, ⟨by (with_reducible repeat (first | refine blk_drewN ?_ _ | refine blk_drew ?_ | refine blk_alloc ?_ _)); exact BK111.out⟩, ⟨by repeat (first | (with_reducible first | exact HB.out | apply below_alloc | apply pw_below_drewN | apply below_drew1 | refine below_set ?_ GE101.out | refine below_set ?_ GE111.out) | exact HB.out)⟩⟩
       · rw [if_neg c22] at H
         have c22b0 : decide ((wrap64 (rd l1 x12_1)) < t117) = false := decide_eq_false c22
         clear c22
         have H' := Aside0.mk H
         clear H
         try go_wp2
         have n0_ := Aside0.mk (Kd.R_drew HO_11.out)
         have n1_ := Aside0.mk (Kd.R_drew HO_112001.out)
         have n2_ := Aside0.mk (blk_drew BK101.out)
         have n3_ := Aside0.mk (blk_drew BK111.out)
         have n4_ := Aside0.mk (below_drew1 HB.out)
         clear HO_11
         clear HO_112001
         clear BK101
         clear BK111
         clear HB
         have HO_11 := n0_
         have HO_112001 := n1_
         have BK101 := n2_
         have BK111 := n3_
         have HB := n4_
         clear n0_ n1_ n2_ n3_ n4_
         have p116 : 0 ≤ (x12_1 : Int) := of_decide_eq_true (by first | (with_reducible assumption) | assumption)
         have q116 : x12_1 < (l1.length : Int) := of_decide_eq_true (by first | (with_reducible assumption) | assumption)
         obtain ⟨ad116, e116, hx116_0⟩ := Kd.at_int HR1.out x12_1 p116 q116
         have hw116_0 := hx116_0
         cases e116
         replace hx116_0 := (HB.out.cell (World.block_lt_of_cell? w _ hx116_0)).trans hx116_0
         replace p116 := eq_true p116
         replace q116 := eq_true q116
         refine start_ (n := 8) (S := fun w' => w'.cell? ⟨gb111, 0, none⟩ = some (.int .u64 t105) ∧ w'.cell? ⟨gb111, 1, none⟩ = some (.slice Ao16 t106.length co16) ∧ w'.cell? ⟨gb111, 2, none⟩ = some (.int .u32 t109) ∧ w'.cell? (ad116.add (x12_1).toNat) = some (.int .u8 (rd l1 x12_1))) (ds := []) #[false, false, false, false, false, false, false, false] (by kernel_rfl) rfl rfl ⟨(blk_cell BK111.out 0).trans rfl, (blk_cell BK111.out 1).trans rfl, (blk_cell BK111.out 2).trans rfl, ((HB.out.cell (World.block_lt_of_cell? w _ hw116_0)).trans hw116_0)⟩ (fun hHeld => ?_); refine with_tabW scullerlaw14_Token.tab6 scullerlaw14_Token.bits6 (fun HT_ HW_ => ?_)
         generalize wr.drew = w28 at HO_11 HO_112001 BK101 BK111 HB hx116_0 hHeld ⊢
         refine pure_ (i := 0) (N := some 31) (v := ?_) (a' := ?_) #[true, false, false, false, false, false, false, false] rfl rfl (any_of HT_.out (by kernel_rfl)) (fun _ _ _ h => h) (Or.inl ⟨by rfl, ?_⟩) ?_ ?_
         rotate_left
         · intro w'
           go_simp
           with_reducible rfl
         rotate_left
         · simp only [Act.put, List.setIfInBounds_toArray, List.set_cons_zero, List.set_cons_succ, i64_w, i32_w]
           rfl
         refine pure_ (i := 1) (N := some 32) (v := ?_) (a' := ?_) #[true, true, false, false, false, false, false, false] rfl rfl (any_of HT_.out (by kernel_rfl)) (fun _ _ _ h => h) (Or.inl ⟨by rfl, ?_⟩) ?_ ?_
         rotate_left
         · intro w'
           go_simp
           with_reducible rfl
         rotate_left
         · simp only [Act.put, List.setIfInBounds_toArray, List.set_cons_zero, List.set_cons_succ, i64_w, i32_w]
           rfl
         refine pure_ (i := 2) (N := some 33) (v := ?_) (a' := ?_) #[true, true, true, false, false, false, false, false] rfl rfl (any_of HT_.out (by kernel_rfl)) (fun _ _ _ h => h) (Or.inl ⟨by rfl, ?_⟩) ?_ ?_
         rotate_left
         · intro w'
           go_simp
           with_reducible rfl
         rotate_left
         · simp only [Act.put, List.setIfInBounds_toArray, List.set_cons_zero, List.set_cons_succ, i64_w, i32_w]
           rfl
         refine take_ (i := 3) (N := some 34) (v := ?_) (a' := ?_) #[true, true, true, true, false, false, false, false] rfl rfl (take_ofW HT_.out HW_.out (by kernel_rfl)) (fun _ _ _ h => h) (Or.inl ⟨by rfl, ?_⟩) hHeld ?_ ?_
         rotate_left
         · rintro w' ⟨s0, s1, s2, s3⟩
           go_simp
           with_reducible rfl
         rotate_left
         · simp only [Act.put, List.setIfInBounds_toArray, List.set_cons_zero, List.set_cons_succ, i64_w, i32_w]
           rfl
         refine pure_ (i := 4) (N := some 35) (v := ?_) (a' := ?_) #[true, true, true, true, true, false, false, false] rfl rfl (any_of HT_.out (by kernel_rfl)) (fun _ _ _ h => h) (Or.inl ⟨by rfl, ?_⟩) ?_ ?_
         rotate_left
         · intro w'
           go_simp
           with_reducible rfl
         rotate_left
         · simp only [Act.put, List.setIfInBounds_toArray, List.set_cons_zero, List.set_cons_succ, i64_w, i32_w]
           rfl
         refine take_ (i := 5) (N := some 36) (v := ?_) (a' := ?_) #[true, true, true, true, true, true, false, false] rfl rfl (take_ofW HT_.out HW_.out (by kernel_rfl)) (fun _ _ _ h => h) (Or.inl ⟨by rfl, ?_⟩) hHeld ?_ ?_
         rotate_left
         · rintro w' ⟨s0, s1, s2, s3⟩
           go_simp
           with_reducible rfl
         rotate_left
         · simp only [Act.put, List.setIfInBounds_toArray, List.set_cons_zero, List.set_cons_succ, i64_w, i32_w]
           rfl
         refine one_ (i := 6) (N := some 37) #[true, true, true, true, true, true, true, false] rfl rfl (one_of HT_.out (by kernel_rfl)) (by decide) (fun K hK => ?_)
         refine goes_ Try.func21 (by kernel_rfl) rfl #[.agg #[.int .u64 t105, .slice Ao16 t106.length co16, .int .u32 t109]] (by rfl) rfl rfl (by (try simp only [List.map_toArray, List.map_cons, List.map_nil]); first | done | rfl | (simp only [List.length_drop, List.length_take]; rfl)) ?_
         with_reducible refine (scullerref12_Chunks.calls t105 _ _ t106 t109 t117 _ ?side1 ?side2 A21.out).mono ?_
         (case side1 => repeat (first | exact (Kd.R_reads' HO_112001.out).2.2 | (with_reducible refine Kd.C_alloc ?_ _) | (with_reducible refine Kd.C_drewN ?_ _) | (with_reducible refine Kd.C_drew ?_)))
         (case side2 => exact (Kd.R_reads' HO_112001.out).2.1)
         rintro e w29 ⟨rfl, hb⟩
         refine ⟨_, rfl, ?_⟩
         have n0_ := Aside0.mk (Kd.R_below (by (with_reducible repeat (first | apply Kd.R_alloc | apply Kd.R_drewN | apply Kd.R_drew)); exact HO_11.out) hb)
         have n1_ := Aside0.mk (Kd.R_below (by (with_reducible repeat (first | apply Kd.R_alloc | apply Kd.R_drewN | apply Kd.R_drew)); exact HO_112001.out) hb)
         have n2_ := Aside0.mk (blk_below (g := gb101) (o := .cells #[.int .u64 0, .slice none 0 0, .int .u32 0, .slice none 0 0] 29 (0, 0)) (by (with_reducible repeat (first | refine blk_drewN ?_ _ | refine blk_drew ?_ | refine blk_alloc ?_ _)); exact BK101.out) hb)
         have n3_ := Aside0.mk (blk_below (g := gb111) (o := .cells #[.int .u64 t105, .slice Ao16 t106.length co16, .int .u32 t109] 26 (0, 0)) (by (with_reducible repeat (first | refine blk_drewN ?_ _ | refine blk_drew ?_ | refine blk_alloc ?_ _)); exact BK111.out) hb)
         have n4_ := Aside0.mk (below_step (by repeat (first | (with_reducible first | exact HB.out | apply below_alloc | apply pw_below_drewN | apply below_drew1 | refine below_set ?_ GE101.out | refine below_set ?_ GE111.out) | exact HB.out)) hb)
         clear HO_11
         clear HO_112001
         clear BK101
         clear BK111
         clear HB
         have HO_11 := n0_
         have HO_112001 := n1_
         have BK101 := n2_
         have BK111 := n3_
         have HB := n4_
         clear n0_ n1_ n2_ n3_ n4_
         (try clear hb)
         (try clear hb2)
         (try clear hk)
         (try clear hi)
         refine hK.out _ _ ⟨(blk_cell BK111.out 0).trans rfl, (blk_cell BK111.out 1).trans rfl, (blk_cell BK111.out 2).trans rfl, ((HB.out.cell (World.block_lt_of_cell? w _ hw116_0)).trans hw116_0)⟩ (fun hHeld => ?_)
         clear hK K
         refine norm_ (a' := ?_) ?_ ?_
         rotate_left
         · show Act.put _ (some 37) _ = _
           simp only [Act.put, List.setIfInBounds_toArray, List.set_cons_zero, List.set_cons_succ, i64_w, i32_w]
           rfl
         refine pure_ (i := 7) (N := some 38) (v := ?_) (a' := ?_) #[true, true, true, true, true, true, true, true] rfl rfl (any_of HT_.out (by kernel_rfl)) (fun _ _ _ h => h) (Or.inl ⟨by rfl, ?_⟩) ?_ ?_
         rotate_left
         · intro w'
           go_simp
           with_reducible rfl
         rotate_left
         · simp only [Act.put, List.setIfInBounds_toArray, List.set_cons_zero, List.set_cons_succ, i64_w, i32_w]
           rfl
         refine done_ (done_of HT_.out (by kernel_rfl)) ?_
         try go_wp2
         go_roundg k1
         case measure => have := HK1.out; omega
         case rel => exact ⟨(x11_1), (wrap64 (x12_1 + 1)), (by first | rfl | (simp; done) | (simp [*]; done)), H', ⟨by have := HK1.out; omega⟩, ⟨by (with_reducible repeat (first | apply Kd.R_alloc | apply Kd.R_drewN | apply Kd.R_drew)); exact HO_11.out⟩, ⟨by (with_reducible repeat (first | apply Kd.R_alloc | apply Kd.R_drewN | apply Kd.R_drew)); exact HO_112001.out⟩, ⟨by (with_reducible repeat (first | refine blk_drewN ?_ _ | refine blk_drew ?_ | refine blk_alloc ?_ _)); exact BK101.out⟩, ⟨by (with_reducible repeat (first | refine blk_drewN ?_ _ | refine blk_drew ?_ | refine blk_alloc ?_ _)); exact BK111.out⟩, ⟨by repeat (first | (with_reducible first | exact HB.out | apply below_alloc | apply pw_below_drewN | apply below_drew1 | refine below_set ?_ GE101.out | refine below_set ?_ GE111.out) | exact HB.out)⟩⟩
     · rw [if_neg c20] at H
       exact absurd H (by simp)
   · rw [if_neg c19] at H
     have c19b0 : decide (x12_1 < (l1.length : Int)) = false := decide_eq_false c19
     clear c19
     simp only [Option.some.injEq, Prod.mk.injEq] at H
     obtain ⟨rfl, rfl, rfl, rfl⟩ := H
     have hnb30 := NB111_101.out
     have hnc30 := NB101_111.out
     have hcz31_0 : wr.cell? ⟨gb111, 0, none⟩ = some (.int .u64 t105) := (blk_cell BK111.out 0).trans rfl
     have hcz31_1 : wr.cell? ⟨gb111, 1, none⟩ = some (.slice Ao16 t106.length co16) := (blk_cell BK111.out 1).trans rfl
     have hcz31_2 : wr.cell? ⟨gb111, 2, none⟩ = some (.int .u32 t109) := (blk_cell BK111.out 2).trans rfl
     have hfz31_0 := blk_frozen BK111.out 0
     have hfz31_1 := blk_frozen BK111.out 1
     have hfz31_2 := blk_frozen BK111.out 2
     obtain ⟨Ao32, co32, eo32⟩ := Kd.R_slice HO_11.out
     subst eo32
     have hcz33_0 : wr.cell? ⟨gb101, 0, none⟩ = some (.int .u64 0) := (blk_cell BK101.out 0).trans rfl
     have hcz33_1 : wr.cell? ⟨gb101, 1, none⟩ = some (.slice none 0 0) := (blk_cell BK101.out 1).trans rfl
     have hcz33_2 : wr.cell? ⟨gb101, 2, none⟩ = some (.int .u32 0) := (blk_cell BK101.out 2).trans rfl
     have hcz33_3 : wr.cell? ⟨gb101, 3, none⟩ = some (.slice none 0 0) := (blk_cell BK101.out 3).trans rfl
     have hfz33_0 := blk_frozen BK101.out 0
     have hfz33_1 := blk_frozen BK101.out 1
     have hfz33_2 := blk_frozen BK101.out 2
     have hfz33_3 := blk_frozen BK101.out 3
     go_wp2
     refine bodyPost_ret (results_cell_row rfl _ _ gb101 29 #[.int .u64 t105, .slice Ao16 t106.length co16, .int .u32 t109, .slice Ao32 x11_1.length co32] (0, 0) _ rfl (by (with_reducible repeat (first | refine blk_drewN ?_ _ | refine blk_drew ?_ | refine blk_alloc ?_ _)); refine blk_put (cs := #[.int .u64 t105, .slice Ao16 t106.length co16, .int .u32 t109, .slice none 0 0]) ?_ 3 _ rfl; (with_reducible repeat (first | refine blk_drewN ?_ _ | refine blk_drew ?_ | refine blk_alloc ?_ _)); refine blk_put (cs := #[.int .u64 t105, .slice Ao16 t106.length co16, .int .u32 0, .slice none 0 0]) ?_ 2 _ rfl; (with_reducible repeat (first | refine blk_drewN ?_ _ | refine blk_drew ?_ | refine blk_alloc ?_ _)); refine blk_put (cs := #[.int .u64 t105, .slice none 0 0, .int .u32 0, .slice none 0 0]) ?_ 1 _ rfl; (with_reducible repeat (first | refine blk_drewN ?_ _ | refine blk_drew ?_ | refine blk_alloc ?_ _)); refine blk_put (cs := #[.int .u64 0, .slice none 0 0, .int .u32 0, .slice none 0 0]) ?_ 0 _ rfl; (with_reducible repeat (first | refine blk_drewN ?_ _ | refine blk_drew ?_ | refine blk_alloc ?_ _)); exact BK101.out) Try.underlying29 rfl (by kernel_rfl)) rfl ?_
     exact ⟨_, _, by first | rfl | (simp [errW_none, errW_some] <;> rfl) | (simp [*, errW_none, errW_some] <;> rfl), by (with_reducible repeat (first | apply Kd.R_alloc | apply Kd.R_drewN | apply Kd.R_drew)); exact Kd.R_mono (Kd.R_far (p := ⟨gb101, 3, none⟩) (Kd.R_far (p := ⟨gb101, 2, none⟩) (Kd.R_far (p := ⟨gb101, 1, none⟩) (Kd.R_far (p := ⟨gb101, 0, none⟩) (Kd.R_types HO_112001.out BK101.out (by decide)) (fun _ hk => hk.2) (.int .u64 t105)) (fun _ hk => hk.2) (.slice Ao16 t106.length co16)) (fun _ hk => hk.2) (.int .u32 t109)) (fun _ hk => hk.2) (.slice Ao32 x11_1.length co32)) (fun _ hk => trivial), by (with_reducible repeat (first | apply Kd.R_alloc | apply Kd.R_drewN | apply Kd.R_drew)); exact Kd.R_mono (Kd.R_far (p := ⟨gb101, 3, none⟩) (Kd.R_far (p := ⟨gb101, 2, none⟩) (Kd.R_far (p := ⟨gb101, 1, none⟩) (Kd.R_far (p := ⟨gb101, 0, none⟩) (Kd.R_types HO_11.out BK101.out (by decide)) (fun _ hk => hk.2) (.int .u64 t105)) (fun _ hk => hk.2) (.slice Ao16 t106.length co16)) (fun _ hk => hk.2) (.int .u32 t109)) (fun _ hk => hk.2) (.slice Ao32 x11_1.length co32)) (fun _ hk => trivial), by repeat (first | (with_reducible first | exact HB.out | apply below_alloc | apply pw_below_drewN | apply below_drew1 | refine below_set ?_ GE101.out | refine below_set ?_ GE111.out) | exact HB.out)⟩

end Go.Proofs.Ytbijnfhcbanhdaa.F
end

section
namespace Go.Proofs.Ytbijnfhcbanhdaa.F
open Go.RowKit Go.Proofs.YtbijnfhcbanhdaaW.PrintWords Go.Proofs.YtbijnfhcbanhdaaW.PrintLast Go.Proofs.YtbijnfhcbanhdaaW.PrintMore
attribute [local go_sem] max2_int min2_int max_two min_two max_three min_three max_four min_four   -- for this text's walks alone
set_option linter.unusedVariables false
set_option linter.unusedSimpArgs false

open Go.Proofs.Ytbijnfhcbanhdaa.H
def scullerlaw14_Token_c.f (a0 : Int) (l1 : List Int) (a2 a3 : Int) : Option (Int × List Int × Int × List Int) := if u64B a0 = true ∧ bytesB l1 = true ∧ l1.length ≤ 140737488351232 ∧ 0 ≤ a2 ∧ a2 ≤ 255 ∧ 0 ≤ a3 ∧ a3 ≤ 255 then some (tokenC a0 l1 a2 a3) else none
theorem chunks12_is (a : Int) (l : List Int) (b : Int) : scullerref12_Chunks.f a l b = some ((wordsM l + 7) / 8) := by
 have h := wordsM_range l
 rw [scullerref12_Chunks.f, scullerref12_Words_c.f, Option.bind_some, show wrap64 (wordsM l + 7) = wordsM l + 7 from by unfold wrap64; omega, Int.tdiv_eq_ediv_of_nonneg (by omega)]
 congr 1
 unfold wrap64
 omega
theorem make03_is (n : Int) (h0 : 0 ≤ n) (h1 : n ≤ 65536) : scullerref03_Make.f n = some (zerosB n) := by
 have hmn : mx 0 (mn n 65536) = n := by unfold mx mn; split <;> split <;> omega
 rw [scullerref03_Make.f, hmn, scullerref01_Ceil_c.f, ceilL, if_pos ⟨by omega, by omega, by omega, by omega⟩, Option.bind_some, show n + 8 - 1 = n + 7 from by omega, if_pos (by omega), if_pos (by omega)]
 rfl
theorem scullerlaw14_Token.l0_to (s sum : Int) (sizes c : List Int) (hc : bytesB c = true) (hl : c.length ≤ 140737488351232) : ∀ (d i : Nat) (x : List Int), c.length - i = d → i ≤ c.length → bytesB x = true → x.length ≤ 1000000 →
 ∃ k, scullerlaw14_Token.l0 k c x (i : Int) s sizes sum = some (s, sizes, sum, (c.drop i).foldl (fun k x => if x < (wordsM sizes + 7) / 8 then setB k x else k) x)
 | 0, i, x, hd, hi, hx, hxl => ⟨1, by
  rw [scullerlaw14_Token.l0, if_neg (by omega), List.drop_of_length_le (by omega)]
  rfl⟩
 | d + 1, i, x, hd, hi, hx, hxl => by
  have hlt : i < c.length := by omega
  have hci := bytesB_at hc _ (List.getElem_mem hlt)
  have er : rd c (i : Int) = c[i] := getD_toNat c 0 i hlt
  have ew : wrap64 c[i] = c[i] := by unfold wrap64; omega
  rw [drop_at c i hlt, List.foldl_cons]
  by_cases hb : c[i] < (wordsM sizes + 7) / 8
  · obtain ⟨k, hk⟩ := scullerlaw14_Token.l0_to s sum sizes c hc hl d (i + 1) (setB x c[i]) (by omega) (by omega) (setB_byte hx _) (by rw [setB_length]; exact hxl)
    refine ⟨k + 1, ?_⟩
    rw [if_pos hb, scullerlaw14_Token.l0, if_pos (by omega), if_pos (by omega), chunks12_is, Option.bind_some, er, ew, if_pos hb, scullerref03_Set_c.f, if_pos ⟨hx, by omega, by omega⟩, Option.bind_some, show wrap64 ((i : Int) + 1) = ((i + 1 : Nat) : Int) from by unfold wrap64; omega]
    exact hk
  · obtain ⟨k, hk⟩ := scullerlaw14_Token.l0_to s sum sizes c hc hl d (i + 1) x (by omega) (by omega) hx hxl
    refine ⟨k + 1, ?_⟩
    rw [if_neg hb, scullerlaw14_Token.l0, if_pos (by omega), if_pos (by omega), chunks12_is, Option.bind_some, er, ew, if_neg hb, show wrap64 ((i : Int) + 1) = ((i + 1 : Nat) : Int) from by unfold wrap64; omega]
    exact hk
theorem scullerlaw14_Token_c.to {a0 : Int} {l1 : List Int} {a2 a3 : Int} {r : Int × List Int × Int × List Int} (h : scullerlaw14_Token_c.f a0 l1 a2 a3 = some r) : ∃ k, scullerlaw14_Token.f k a0 l1 a2 a3 = some r := by
 unfold scullerlaw14_Token_c.f at h
 split at h
 case isFalse => cases h
 case isTrue hb =>
 obtain rfl := Option.some.inj h
 obtain ⟨hs, hb, hl, h2, h3, h4, h5⟩ := hb
 have hfit : rightB (arena12L l1 a2 a3) = true := arena12L_fits l1 h2 h4
 have hok := arena12L_ok hb h2 h3 h4
 have hcr := chunksL_range (arena12L l1 a2 a3)
 obtain ⟨k, hk⟩ := scullerlaw14_Token.l0_to a0 (sumA a0 (arena12L l1 a2 a3)) (sizesL (arena12L l1 a2 a3)) l1 hb hl l1.length 0 (zerosB (chunksL (arena12L l1 a2 a3))) (by omega) (by omega) (zerosB_byte _) (by unfold zerosB; rw [List.length_replicate]; omega)
 refine ⟨k, ?_⟩
 rw [scullerlaw14_Token.f, scullerlaw12_Arena_c.f, if_pos ⟨hb, hl, h2, h3, h4, h5⟩, Option.bind_some, scullerref12_Of_c.f, if_pos ⟨hs, hok⟩, Option.bind_some, ofL, if_pos hfit]
 dsimp only
 rw [chunks12_is, Option.bind_some, show (wordsM (sizesL (arena12L l1 a2 a3)) + 7) / 8 = chunksL (arena12L l1 a2 a3) from rfl, make03_is _ hcr.1 (by omega), Option.bind_some]
 rw [List.drop_zero] at hk
 exact hk

theorem scullerlaw14_Token_c.calls (a0 : Int) (A1 : Option Addr) (c1 : Nat) (l1 : List Int) (a2 : Int) (a3 : Int) (r1 : Int) (r2 : List Int) (r3 : Int) (r4 : List Int) (w : World) (hr1 : Kd.C (Kd.int .u8) w A1 l1.length l1) (hc1 : l1.length ≤ c1) (h : scullerlaw14_Token_c.f a0 l1 a2 a3 = some (r1, r2, r3, r4)) :
 Calls Try.prog 12 #[.int .u64 a0, .slice A1 l1.length c1, .int .u8 a2, .int .u8 a3] w fun e w' => ∃ v1_ v3_ : Value, e = .returned (.agg #[.int .u64 r1, v1_, .int .u32 r3, v3_]) ∧ Kd.R (Kd.int .i64) 3 w' w.heap.size (fun _ => True) v1_ r2 ∧ Kd.R (Kd.int .u8) 5 w' w.heap.size (fun _ => True) v3_ r4 ∧ Below w.heap.size w w' := by
 obtain ⟨k_, hk_⟩ := scullerlaw14_Token_c.to h
 exact scullerlaw14_Token.calls k_ a0 A1 c1 l1 a2 a3 r1 r2 r3 r4 w hr1 hc1 hk_

end Go.Proofs.Ytbijnfhcbanhdaa.F
end

section
namespace Go.Proofs.Ytbijnfhcbanhdaa.F
open Go.RowKit Go.Proofs.YtbijnfhcbanhdaaW.PrintWords Go.Proofs.YtbijnfhcbanhdaaW.PrintLast Go.Proofs.YtbijnfhcbanhdaaW.PrintMore
attribute [local go_sem] max2_int min2_int max_two min_two max_three min_three max_four min_four   -- for this text's walks alone
set_option linter.unusedVariables false
set_option linter.unusedSimpArgs false

/-! ### scullerlaw14_TokenForm: function 7 -/
mutual
def scullerlaw14_TokenForm.j0 : Nat → Int → List Int → Int → Bool → Int → List Int → Int → List Int → Option (Bool)
 | 0, _, _, _, _, _, _, _, _ => none
 | k + 1, x0, x10, x12, x52, x110000, x110001, x110002, x110003 => if x52 = true then (some false) else (scullerlaw14_TokenForm.l0 k x0 x10 x12 0 7 x110000 x110001 x110002 x110003)
def scullerlaw14_TokenForm.l0 : Nat → Int → List Int → Int → Int → Int → Int → List Int → Int → List Int → Option (Bool)
 | 0, _, _, _, _, _, _, _, _, _ => none
 | k + 1, x0, x10, x12, x13, x14, x110000, x110001, x110002, x110003 => if x14 ≥ 0 then (if 0 ≤ x14 then (if x14 < (x10.length : Int) then (scullerlaw14_TokenForm.l0 k x0 x10 x12 (IntKind.u64.wrap ((IntKind.u64.wrap (256 * x13)) + (IntKind.u64.wrap (rd x10 x14)))) (wrap64 (x14 - 1)) x110000 x110001 x110002 x110003) else (none)) else (none)) else (scullerlaw14_TokenForm.l1 k x0 x10 x12 x13 0 x110000 x110001 x110002 x110003)
def scullerlaw14_TokenForm.l1 : Nat → Int → List Int → Int → Int → Int → Int → List Int → Int → List Int → Option (Bool)
 | 0, _, _, _, _, _, _, _, _, _ => none
 | k + 1, x0, x10, x12, x13, x15, x110000, x110001, x110002, x110003 => if x15 < x12 then (if 0 ≤ (wrap64 (13 + (wrap64 (2 * x15)))) then (if (wrap64 (13 + (wrap64 (2 * x15)))) < (x10.length : Int) then (if 0 ≤ (wrap64 (14 + (wrap64 (2 * x15)))) then (if (wrap64 (14 + (wrap64 (2 * x15)))) < (x10.length : Int) then (if 0 ≤ x15 then (if x15 < (x110001.length : Int) then (if (wrap64 ((wrap64 (rd x10 (wrap64 (13 + (wrap64 (2 * x15)))))) + (wrap64 (256 * (wrap64 (rd x10 (wrap64 (14 + (wrap64 (2 * x15)))))))))) = (rd x110001 x15) then (scullerlaw14_TokenForm.l1 k x0 x10 x12 x13 (wrap64 (x15 + 1)) x110000 x110001 x110002 x110003) else (some false)) else (none)) else (none)) else (none)) else (none)) else (none)) else (none)) else ((scullerlaw14_known_c.f).bind fun t119 => (if t119 = true then (if x13 = x0 then (if 8 < (x10.length : Int) then (if 9 < (x10.length : Int) then (if 10 < (x10.length : Int) then (if 11 < (x10.length : Int) then (some (((((((((rd x10 8) % 4294967296) + ((((rd x10 9) % 4294967296) * 256) % 4294967296)) % 4294967296) + ((((rd x10 10) % 4294967296) * 65536) % 4294967296)) % 4294967296) + ((((rd x10 11) % 4294967296) * 16777216) % 4294967296)) % 4294967296) == x110002)) else (none)) else (none)) else (none)) else (none)) else (some false)) else (some false)))
end
def scullerlaw14_TokenForm.f (k : Nat) (a0 : Int) (l1 : List Int) (a2 : Int) (a3 : Int) : Option (Bool) := (scullerlaw14_Token_c.f a0 l1 a2 a3).bind fun bt101 => ((token_Encode_c.f bt101.1 bt101.2.1 bt101.2.2.1 bt101.2.2.2).bind fun bt110 => (if bt110.2 = 0 then (if (bt110.1.length : Int) = (wrap64 ((wrap64 ((wrap64 (13 + (wrap64 (2 * (bt101.2.1.length : Int))))) + (bt101.2.2.2.length : Int))) + 4)) then (if 12 < (bt110.1.length : Int) then (scullerlaw14_TokenForm.j0 k a0 bt110.1 (bt101.2.1.length : Int) ((wrap64 (rd bt110.1 12)) != (bt101.2.1.length : Int)) bt101.1 bt101.2.1 bt101.2.2.1 bt101.2.2.2) else (none)) else (scullerlaw14_TokenForm.j0 k a0 bt110.1 (bt101.2.1.length : Int) true bt101.1 bt101.2.1 bt101.2.2.1 bt101.2.2.2)) else (scullerlaw14_TokenForm.j0 k a0 bt110.1 (bt101.2.1.length : Int) true bt101.1 bt101.2.1 bt101.2.2.1 bt101.2.2.2)))
theorem scullerlaw14_TokenForm.mono_l : ∀ k, (∀ y0 y1 y2 y3 y4 y5 y6 y7, LeO (scullerlaw14_TokenForm.j0 k y0 y1 y2 y3 y4 y5 y6 y7) (scullerlaw14_TokenForm.j0 (k + 1) y0 y1 y2 y3 y4 y5 y6 y7)) ∧ (∀ y0 y1 y2 y3 y4 y5 y6 y7 y8, LeO (scullerlaw14_TokenForm.l0 k y0 y1 y2 y3 y4 y5 y6 y7 y8) (scullerlaw14_TokenForm.l0 (k + 1) y0 y1 y2 y3 y4 y5 y6 y7 y8)) ∧ (∀ y0 y1 y2 y3 y4 y5 y6 y7 y8, LeO (scullerlaw14_TokenForm.l1 k y0 y1 y2 y3 y4 y5 y6 y7 y8) (scullerlaw14_TokenForm.l1 (k + 1) y0 y1 y2 y3 y4 y5 y6 y7 y8))
 | 0 => ⟨fun _ _ _ _ _ _ _ _ r h => by simp [scullerlaw14_TokenForm.j0] at h, fun _ _ _ _ _ _ _ _ _ r h => by simp [scullerlaw14_TokenForm.l0] at h, fun _ _ _ _ _ _ _ _ _ r h => by simp [scullerlaw14_TokenForm.l1] at h⟩
 | k + 1 => by
  obtain ⟨ih0, ih1, ih2⟩ := scullerlaw14_TokenForm.mono_l k
  refine ⟨?_, ?_, ?_⟩
  · intro y0 y1 y2 y3 y4 y5 y6 y7
    unfold scullerlaw14_TokenForm.j0
    repeat' first
    | (with_reducible exact ih0 _ _ _ _ _ _ _ _)
    | (with_reducible exact ih1 _ _ _ _ _ _ _ _ _)
    | (with_reducible exact ih2 _ _ _ _ _ _ _ _ _)
    | (with_reducible exact LeO.refl _)
    | (with_reducible exact LeO.none _)
    | (with_reducible refine LeO.ite ?_ ?_)
    | (with_reducible refine LeO.bind ?_ (fun _ => ?_))
    | exact ih0 _ _ _ _ _ _ _ _
    | exact ih1 _ _ _ _ _ _ _ _ _
    | exact ih2 _ _ _ _ _ _ _ _ _
    | exact LeO.none _
    | refine LeO.ite ?_ ?_
    | refine LeO.bind ?_ (fun _ => ?_)
  · intro y0 y1 y2 y3 y4 y5 y6 y7 y8
    unfold scullerlaw14_TokenForm.l0
    repeat' first
    | (with_reducible exact ih0 _ _ _ _ _ _ _ _)
    | (with_reducible exact ih1 _ _ _ _ _ _ _ _ _)
    | (with_reducible exact ih2 _ _ _ _ _ _ _ _ _)
    | (with_reducible exact LeO.refl _)
    | (with_reducible exact LeO.none _)
    | (with_reducible refine LeO.ite ?_ ?_)
    | (with_reducible refine LeO.bind ?_ (fun _ => ?_))
    | exact ih0 _ _ _ _ _ _ _ _
    | exact ih1 _ _ _ _ _ _ _ _ _
    | exact ih2 _ _ _ _ _ _ _ _ _
    | exact LeO.none _
    | refine LeO.ite ?_ ?_
    | refine LeO.bind ?_ (fun _ => ?_)
  · intro y0 y1 y2 y3 y4 y5 y6 y7 y8
    unfold scullerlaw14_TokenForm.l1
    repeat' first
    | (with_reducible exact ih0 _ _ _ _ _ _ _ _)
    | (with_reducible exact ih1 _ _ _ _ _ _ _ _ _)
    | (with_reducible exact ih2 _ _ _ _ _ _ _ _ _)
    | (with_reducible exact LeO.refl _)
    | (with_reducible exact LeO.none _)
    | (with_reducible refine LeO.ite ?_ ?_)
    | (with_reducible refine LeO.bind ?_ (fun _ => ?_))
    | exact ih0 _ _ _ _ _ _ _ _
    | exact ih1 _ _ _ _ _ _ _ _ _
    | exact ih2 _ _ _ _ _ _ _ _ _
    | exact LeO.none _
    | refine LeO.ite ?_ ?_
    | refine LeO.bind ?_ (fun _ => ?_)
theorem scullerlaw14_TokenForm.mono : ∀ a0 a1 a2 a3 k, LeO (scullerlaw14_TokenForm.f k a0 a1 a2 a3) (scullerlaw14_TokenForm.f (k + 1) a0 a1 a2 a3) := by
 intro a0 a1 a2 a3 k
 obtain ⟨ih0, ih1, ih2⟩ := scullerlaw14_TokenForm.mono_l k
 unfold scullerlaw14_TokenForm.f
 repeat' first
  | (with_reducible exact ih0 _ _ _ _ _ _ _ _)
  | (with_reducible exact ih1 _ _ _ _ _ _ _ _ _)
  | (with_reducible exact ih2 _ _ _ _ _ _ _ _ _)
  | (with_reducible exact LeO.refl _)
  | (with_reducible exact LeO.none _)
  | (with_reducible refine LeO.ite ?_ ?_)
  | (with_reducible refine LeO.bind ?_ (fun _ => ?_))
  | exact ih0 _ _ _ _ _ _ _ _
  | exact ih1 _ _ _ _ _ _ _ _ _
  | exact ih2 _ _ _ _ _ _ _ _ _
  | exact LeO.none _
  | refine LeO.ite ?_ ?_
  | refine LeO.bind ?_ (fun _ => ?_)
def scullerlaw14_TokenForm.T14 : Bool × List (List Nat × List Nat) := (true, [([], []), ([], []), ([1], [1]), ([2], [2]), ([0, 3], [0, 3]), ([4], [4]), ([5], [5]), ([], []), ([], []), ([8], [8]), ([9], [9]), ([7, 10], [7, 10]), ([11], [11]), ([12], [12]), ([13], [13]), ([6, 14], [6, 14]), ([], []), ([16], [16]), ([17], [17]), ([], []), ([18, 19], [18, 19]), ([20], [20]), ([15, 21], [15, 21])])
def scullerlaw14_TokenForm.B14 : List Nat := [0, 0, 2, 6, 15, 31, 63, 0, 0, 256, 768, 1920, 3968, 8064, 16256, 32767, 0, 65536, 196608, 0, 983040, 2031616, 4194303]
theorem scullerlaw14_TokenForm.tab14 : rtab .any (opsOf Try.f7 14) = scullerlaw14_TokenForm.T14 := by kernel_rfl
theorem scullerlaw14_TokenForm.bits14 : waitsOk scullerlaw14_TokenForm.T14.2 scullerlaw14_TokenForm.B14 = true := by kernel_rfl
def scullerlaw14_TokenForm.T16 : Bool × List (List Nat × List Nat) := (true, [([], []), ([0, 0], [0]), ([1], [1]), ([1], [1]), ([2, 3, 1], [1, 2, 3]), ([1, 4], [1, 4]), ([5, 1], [5]), ([6], [6]), ([7, 6], [6, 7]), ([8, 6], [6, 8]), ([9, 6], [6, 9]), ([6], [6]), ([11, 6], [6, 11]), ([12, 6], [6, 12]), ([13, 6], [6, 13]), ([14, 6], [6, 14]), ([10, 15, 6], [6, 10, 15]), ([6], [6]), ([17, 6], [6, 17]), ([18, 6], [6, 18]), ([19, 6], [6, 19]), ([20, 6], [6, 20]), ([16, 21, 6], [6, 16, 21]), ([6], [6]), ([23, 6], [6, 23]), ([24, 6], [6, 24]), ([25, 6], [6, 25]), ([26, 6], [6, 26]), ([22, 27, 6], [6, 22, 27]), ([6], [6]), ([29, 6], [6, 29]), ([30, 6], [6, 30]), ([28, 31, 6], [6, 28, 31]), ([6, 32], [6, 32]), ([33, 6, 0, 1, 2, 3, 4, 5, 6, 7, 8, 9, 10, 11, 12, 13, 14, 15, 16, 17, 18, 19, 20, 21, 22, 23, 24, 25, 26, 27, 28, 29, 30, 31, 32, 33], [33])])
def scullerlaw14_TokenForm.B16 : List Nat := [0, 1, 3, 3, 15, 31, 63, 127, 255, 511, 1023, 127, 2175, 6271, 14463, 30847, 65535, 127, 131199, 393343, 917631, 1966207, 4194303, 127, 8388735, 25165951, 58720383, 125829247, 268435455, 127, 536871039, 1610612863, 4294967295, 8589934591, 17179869183]
theorem scullerlaw14_TokenForm.tab16 : rtab .any (opsOf Try.f7 16) = scullerlaw14_TokenForm.T16 := by kernel_rfl
theorem scullerlaw14_TokenForm.bits16 : waitsOk scullerlaw14_TokenForm.T16.2 scullerlaw14_TokenForm.B16 = true := by kernel_rfl
set_option maxHeartbeats 8000000 in
set_option maxRecDepth 100000 in
theorem scullerlaw14_TokenForm.calls (k : Nat) (a0 : Int) (A1 : Option Addr) (c1 : Nat) (l1 : List Int) (a2 : Int) (a3 : Int) (r : Bool) (w : World) (hr1 : Kd.C (Kd.int .u8) w A1 l1.length l1) (hc1 : l1.length ≤ c1) (h : scullerlaw14_TokenForm.f k a0 l1 a2 a3 = some r) (hr_ : Aside0 (r = true)) :
 Calls Try.prog 7 #[.int .u64 a0, .slice A1 l1.length c1, .int .u8 a2, .int .u8 a3] w fun e w' => e = .returned (.bool r) ∧ Below w.heap.size w w' := by
 have hu29 := Try.underlying29
 have HR1 := Aside0.mk hr1
 have HC1 := Aside0.mk hc1
 clear hr1 hc1
 have HB := Aside0.mk (Below.refl w.heap.size w)
 have H : ((scullerlaw14_Token_c.f a0 l1 a2 a3).bind fun bt101 => ((token_Encode_c.f bt101.1 bt101.2.1 bt101.2.2.1 bt101.2.2.2).bind fun bt110 => (if bt110.2 = 0 then (if (bt110.1.length : Int) = (wrap64 ((wrap64 ((wrap64 (13 + (wrap64 (2 * (bt101.2.1.length : Int))))) + (bt101.2.2.2.length : Int))) + 4)) then (if 12 < (bt110.1.length : Int) then (scullerlaw14_TokenForm.j0 k a0 bt110.1 (bt101.2.1.length : Int) ((wrap64 (rd bt110.1 12)) != (bt101.2.1.length : Int)) bt101.1 bt101.2.1 bt101.2.2.1 bt101.2.2.2) else (none)) else (scullerlaw14_TokenForm.j0 k a0 bt110.1 (bt101.2.1.length : Int) true bt101.1 bt101.2.1 bt101.2.2.1 bt101.2.2.2)) else (scullerlaw14_TokenForm.j0 k a0 bt110.1 (bt101.2.1.length : Int) true bt101.1 bt101.2.1 bt101.2.2.1 bt101.2.2.2)))) = some r := h
 clear h
 replace H := Option.bind_eq_some_iff.mp H
 obtain ⟨⟨t101, t102, t105, t106⟩, A50, H⟩ := H
 replace H : ((token_Encode_c.f t101 t102 t105 t106).bind fun bt110 => (if bt110.2 = 0 then (if (bt110.1.length : Int) = (wrap64 ((wrap64 ((wrap64 (13 + (wrap64 (2 * (t102.length : Int))))) + (t106.length : Int))) + 4)) then (if 12 < (bt110.1.length : Int) then (scullerlaw14_TokenForm.j0 k a0 bt110.1 (t102.length : Int) ((wrap64 (rd bt110.1 12)) != (t102.length : Int)) t101 t102 t105 t106) else (none)) else (scullerlaw14_TokenForm.j0 k a0 bt110.1 (t102.length : Int) true t101 t102 t105 t106)) else (scullerlaw14_TokenForm.j0 k a0 bt110.1 (t102.length : Int) true t101 t102 t105 t106))) = some r := H
 have A5 := Aside0.mk A50
 clear A50
 replace H := Option.bind_eq_some_iff.mp H
 obtain ⟨⟨t110, t113⟩, A60, H⟩ := H
 replace H : (if t113 = 0 then (if (t110.length : Int) = (wrap64 ((wrap64 ((wrap64 (13 + (wrap64 (2 * (t102.length : Int))))) + (t106.length : Int))) + 4)) then (if 12 < (t110.length : Int) then (scullerlaw14_TokenForm.j0 k a0 t110 (t102.length : Int) ((wrap64 (rd t110 12)) != (t102.length : Int)) t101 t102 t105 t106) else (none)) else (scullerlaw14_TokenForm.j0 k a0 t110 (t102.length : Int) true t101 t102 t105 t106)) else (scullerlaw14_TokenForm.j0 k a0 t110 (t102.length : Int) true t101 t102 t105 t106)) = some r := H
 have A6 := Aside0.mk A60
 clear A60
 have HC7 := Aside0.mk H
 clear H
 go_enter Try.func7, Try.ntmps7
 go_upto_region 4 with (first | ((with_reducible refine gate_callee (f := 12) rfl ?_); refine goesL_ (some 20) rfl rfl Try.func12 (by kernel_rfl) rfl #[.int .u64 a0, .slice A1 l1.length c1, .int .u8 a2, .int .u8 a3] rfl (by (try simp only [List.map_toArray, List.map_cons, List.map_nil]); first | done | rfl | (simp only [List.length_drop, List.length_take]; rfl)) ?_; (with_reducible refine (scullerlaw14_Token_c.calls a0 _ _ l1 a2 a3 t101 t102 t105 t106 _ ?side1 ?side2 A5.out).mono ?_); (case side1 => repeat (first | exact HR1.out | (with_reducible refine Kd.C_alloc ?_ _) | (with_reducible refine Kd.C_drewN ?_ _) | (with_reducible refine Kd.C_drew ?_))); (case side2 => exact HC1.out); rintro e w8 ⟨v103, v107, rfl, ho0, ho1, hb⟩; refine ⟨_, rfl, ?_⟩; have n0_ := Aside0.mk (Kd.R_lower ho0 (below_size (by repeat (first | (with_reducible first | exact HB.out | apply below_alloc | apply pw_below_drewN | apply below_drew1) | exact HB.out)))); have n1_ := Aside0.mk (Kd.R_lower ho1 (below_size (by repeat (first | (with_reducible first | exact HB.out | apply below_alloc | apply pw_below_drewN | apply below_drew1) | exact HB.out)))); have n2_ := Aside0.mk (below_step (by repeat (first | (with_reducible first | exact HB.out | apply below_alloc | apply pw_below_drewN | apply below_drew1) | exact HB.out)) hb); clear HB; have HO104 := n0_; have HO108 := n1_; have HB := n2_; clear n0_ n1_ n2_; (try clear hb); (try clear hb2); (try clear hk); (try clear hi); (try clear ho0); (try clear ho1)) | ((with_reducible refine gate_dst (N := 9) rfl ?_); (try (refine gate_guard (by rfl) ?_; dsimp only)); refine box_event ?hg (N := 9) ?hd (cs := #[.int .u64 0, .slice none 0 0, .int .u32 0, .slice none 0 0]) (t := 29) ?hr ?_; (case hd => rfl); (case hg => rfl); (case hr => first | (go_simp; done) | (go_simp; rfl)); intro gb109 hg w9 hbox hb; have n0_ := Aside0.mk (Kd.R_below (by (with_reducible repeat (first | apply Kd.R_alloc | apply Kd.R_drewN | apply Kd.R_drew)); exact HO104.out) hb); have n1_ := Aside0.mk (Kd.R_below (by (with_reducible repeat (first | apply Kd.R_alloc | apply Kd.R_drewN | apply Kd.R_drew)); exact HO108.out) hb); have n2_ := Aside0.mk (below_step (by repeat (first | (with_reducible first | exact HB.out | apply below_alloc | apply pw_below_drewN | apply below_drew1) | exact HB.out)) hb); have n3_ := Aside0.mk (hbox); have n4_ := Aside0.mk ((by rw [hg]; exact (below_size (by repeat (first | (with_reducible first | exact HB.out | apply below_alloc | apply pw_below_drewN | apply below_drew1) | exact HB.out))) : w.heap.size ≤ gb109)); have n5_ := Aside0.mk ((by rw [hg]; exact (below_size (by repeat (first | (with_reducible first | exact HB.out | apply below_alloc | apply pw_below_drewN | apply below_drew1) | exact HB.out))) : w.heap.size ≤ gb109)); clear HO104; clear HO108; clear HB; have HO104 := n0_; have HO108 := n1_; have HB := n2_; have BK109 := n3_; have GW109 := n4_; have GE109 := n5_; clear n0_ n1_ n2_ n3_ n4_ n5_; clear hb hbox hg; have hcz10_0 : w9.cell? ⟨gb109, 0, none⟩ = some (.int .u64 0) := (blk_cell BK109.out 0).trans rfl; have hcz10_1 : w9.cell? ⟨gb109, 1, none⟩ = some (.slice none 0 0) := (blk_cell BK109.out 1).trans rfl; have hcz10_2 : w9.cell? ⟨gb109, 2, none⟩ = some (.int .u32 0) := (blk_cell BK109.out 2).trans rfl; have hcz10_3 : w9.cell? ⟨gb109, 3, none⟩ = some (.slice none 0 0) := (blk_cell BK109.out 3).trans rfl; have hfz10_0 := blk_frozen BK109.out 0; have hfz10_1 := blk_frozen BK109.out 1; have hfz10_2 := blk_frozen BK109.out 2; have hfz10_3 := blk_frozen BK109.out 3; obtain ⟨Ao11, co11, eo11⟩ := Kd.R_slice HO104.out; subst eo11; obtain ⟨Ao12, co12, eo12⟩ := Kd.R_slice HO108.out; subst eo12) | ((with_reducible refine gate_callee (f := 19) rfl ?_); refine goesL_ (some 23) rfl rfl Try.func19 (by kernel_rfl) rfl #[.agg #[.int .u64 t101, .slice Ao11 t102.length co11, .int .u32 t105, .slice Ao12 t106.length co12]] rfl (by (try simp only [List.map_toArray, List.map_cons, List.map_nil]); first | done | rfl | (simp only [List.length_drop, List.length_take]; rfl)) ?_; (with_reducible refine (token_Encode_c.calls t101 _ _ t102 t105 _ _ t106 t110 t113 _ ?side1 ?side2 ?side3 ?side4 A6.out).mono ?_); (case side1 => refine (Kd.R_reads' (e := 3) (base := w.heap.size) (ok := fun k_ => True) (n := t102.length) (c := co11) ?_).2.2; exact (by (with_reducible repeat (first | apply Kd.R_alloc | apply Kd.R_drewN | apply Kd.R_drew)); exact (Kd.R_mono (Kd.R_far (p := ⟨gb109, 3, none⟩) (Kd.R_far (p := ⟨gb109, 2, none⟩) (Kd.R_far (p := ⟨gb109, 1, none⟩) (Kd.R_far (p := ⟨gb109, 0, none⟩) (Kd.R_types HO104.out BK109.out (by decide)) (fun _ hk => hk.2) (.int .u64 t101)) (fun _ hk => hk.2) (.slice Ao11 t102.length co11)) (fun _ hk => hk.2) (.int .u32 t105)) (fun _ hk => hk.2) (.slice Ao12 t106.length co12)) (fun _ h_ => h_.1)))); (case side2 => exact (Kd.R_reads' HO104.out).2.1); (case side3 => refine (Kd.R_reads' (e := 5) (base := w.heap.size) (ok := fun k_ => True) (n := t106.length) (c := co12) ?_).2.2; exact (by (with_reducible repeat (first | apply Kd.R_alloc | apply Kd.R_drewN | apply Kd.R_drew)); exact (Kd.R_mono (Kd.R_far (p := ⟨gb109, 3, none⟩) (Kd.R_far (p := ⟨gb109, 2, none⟩) (Kd.R_far (p := ⟨gb109, 1, none⟩) (Kd.R_far (p := ⟨gb109, 0, none⟩) (Kd.R_types HO108.out BK109.out (by decide)) (fun _ hk => hk.2) (.int .u64 t101)) (fun _ hk => hk.2) (.slice Ao11 t102.length co11)) (fun _ hk => hk.2) (.int .u32 t105)) (fun _ hk => hk.2) (.slice Ao12 t106.length co12)) (fun _ h_ => h_.1)))); (case side4 => exact (Kd.R_reads' HO108.out).2.1); rintro e w13 ⟨v111, rfl, ho0, hb⟩; refine ⟨_, rfl, ?_⟩; have n0_ := Aside0.mk (Kd.R_below (by (with_reducible repeat (first | apply Kd.R_alloc | apply Kd.R_drewN | apply Kd.R_drew)); exact (Kd.R_mono (Kd.R_far (p := ⟨gb109, 3, none⟩) (Kd.R_far (p := ⟨gb109, 2, none⟩) (Kd.R_far (p := ⟨gb109, 1, none⟩) (Kd.R_far (p := ⟨gb109, 0, none⟩) (Kd.R_types HO104.out BK109.out (by decide)) (fun _ hk => hk.2) (.int .u64 t101)) (fun _ hk => hk.2) (.slice Ao11 t102.length co11)) (fun _ hk => hk.2) (.int .u32 t105)) (fun _ hk => hk.2) (.slice Ao12 t106.length co12)) (fun _ h_ => h_.1))) hb); have n1_ := Aside0.mk (Kd.R_elder' (by (with_reducible repeat (first | apply Kd.R_alloc | apply Kd.R_drewN | apply Kd.R_drew)); exact (Kd.R_mono (Kd.R_far (p := ⟨gb109, 3, none⟩) (Kd.R_far (p := ⟨gb109, 2, none⟩) (Kd.R_far (p := ⟨gb109, 1, none⟩) (Kd.R_far (p := ⟨gb109, 0, none⟩) (Kd.R_types HO108.out BK109.out (by decide)) (fun _ hk => hk.2) (.int .u64 t101)) (fun _ hk => hk.2) (.slice Ao11 t102.length co11)) (fun _ hk => hk.2) (.int .u32 t105)) (fun _ hk => hk.2) (.slice Ao12 t106.length co12)) (fun _ h_ => h_.1))) (Kd.R_base ho0) hb); have n2_ := Aside0.mk (Kd.R_lower (Kd.R_new' ho0 (Kd.R_lt (by (with_reducible repeat (first | apply Kd.R_alloc | apply Kd.R_drewN | apply Kd.R_drew)); exact (Kd.R_mono (Kd.R_far (p := ⟨gb109, 3, none⟩) (Kd.R_far (p := ⟨gb109, 2, none⟩) (Kd.R_far (p := ⟨gb109, 1, none⟩) (Kd.R_far (p := ⟨gb109, 0, none⟩) (Kd.R_types HO108.out BK109.out (by decide)) (fun _ hk => hk.2) (.int .u64 t101)) (fun _ hk => hk.2) (.slice Ao11 t102.length co11)) (fun _ hk => hk.2) (.int .u32 t105)) (fun _ hk => hk.2) (.slice Ao12 t106.length co12)) (fun _ h_ => h_.1))))) (below_size (by repeat (first | (with_reducible first | exact HB.out | apply below_alloc | apply pw_below_drewN | apply below_drew1 | refine below_set ?_ GE109.out) | exact HB.out)))); have n3_ := Aside0.mk (blk_below (g := gb109) (o := .cells #[.int .u64 t101, .slice Ao11 t102.length co11, .int .u32 t105, .slice Ao12 t106.length co12] 29 (0, 0)) (by (with_reducible repeat (first | refine blk_drewN ?_ _ | refine blk_drew ?_ | refine blk_alloc ?_ _)); refine blk_put (cs := #[.int .u64 t101, .slice Ao11 t102.length co11, .int .u32 t105, .slice none 0 0]) ?_ 3 _ rfl; (with_reducible repeat (first | refine blk_drewN ?_ _ | refine blk_drew ?_ | refine blk_alloc ?_ _)); refine blk_put (cs := #[.int .u64 t101, .slice Ao11 t102.length co11, .int .u32 0, .slice none 0 0]) ?_ 2 _ rfl; (with_reducible repeat (first | refine blk_drewN ?_ _ | refine blk_drew ?_ | refine blk_alloc ?_ _)); refine blk_put (cs := #[.int .u64 t101, .slice none 0 0, .int .u32 0, .slice none 0 0]) ?_ 1 _ rfl; (with_reducible repeat (first | refine blk_drewN ?_ _ | refine blk_drew ?_ | refine blk_alloc ?_ _)); refine blk_put (cs := #[.int .u64 0, .slice none 0 0, .int .u32 0, .slice none 0 0]) ?_ 0 _ rfl; (with_reducible repeat (first | refine blk_drewN ?_ _ | refine blk_drew ?_ | refine blk_alloc ?_ _)); exact BK109.out) hb); have n4_ := Aside0.mk (below_step (by repeat (first | (with_reducible first | exact HB.out | apply below_alloc | apply pw_below_drewN | apply below_drew1 | refine below_set ?_ GE109.out) | exact HB.out)) hb); clear HO104; clear HO108; clear BK109; clear HB; have HO104 := n0_; have HO108 := n1_; have HO112 := n2_; have BK109 := n3_; have HB := n4_; clear n0_ n1_ n2_ n3_ n4_; (try clear hb); (try clear hb2); (try clear hk); (try clear hi); (try clear ho0); have hcz14_0 : w13.cell? ⟨gb109, 0, none⟩ = some (.int .u64 t101) := (blk_cell BK109.out 0).trans rfl; have hcz14_1 : w13.cell? ⟨gb109, 1, none⟩ = some (.slice Ao11 t102.length co11) := (blk_cell BK109.out 1).trans rfl; have hcz14_2 : w13.cell? ⟨gb109, 2, none⟩ = some (.int .u32 t105) := (blk_cell BK109.out 2).trans rfl; have hcz14_3 : w13.cell? ⟨gb109, 3, none⟩ = some (.slice Ao12 t106.length co12) := (blk_cell BK109.out 3).trans rfl; have hfz14_0 := blk_frozen BK109.out 0; have hfz14_1 := blk_frozen BK109.out 1; have hfz14_2 := blk_frozen BK109.out 2; have hfz14_3 := blk_frozen BK109.out 3))
 (try simp only [Act.put, List.setIfInBounds_toArray, List.set_cons_zero, List.set_cons_succ])
 go_cut [52] (fun v52 wc => ∃ (kq : Nat) (x52_6 : Bool), v52 = .bool x52_6 ∧ Aside0 (scullerlaw14_TokenForm.j0 kq a0 t110 (t102.length : Int) x52_6 t101 t102 t105 t106 = some r) ∧ Aside0 (kq ≤ k) ∧ Aside0 (Kd.R (Kd.int .u8) 5 wc w.heap.size (fun k_ => some k_ ≠ ((.slice Ao12 t106.length co12) : Value).ownBlock) v111 t110) ∧ Aside0 (Kd.R (Kd.int .i64) 3 wc w.heap.size (fun _ => True) (.slice Ao11 t102.length co11) t102) ∧ Aside0 (Kd.R (Kd.int .u8) 5 wc w.heap.size (fun k_ => some k_ ≠ (v111 : Value).ownBlock) (.slice Ao12 t106.length co12) t106) ∧ Aside0 (wc.heap[gb109]? = some (.cells #[.int .u64 t101, (.slice Ao11 t102.length co11), .int .u32 t105, (.slice Ao12 t106.length co12)] 29 (0, 0))) ∧ Aside0 (Below w.heap.size w wc))
 case first =>
  have H := HC7.out
  clear HC7
  by_cases c15 : t113 = 0
  · rw [if_pos c15] at H
    have c15b0 : (t113 == 0) = true := beq_iff_eq.mpr c15
    have c15b1 : (t113 != 0) = false := bne_eq_false_iff_eq.mpr c15
    clear c15
    (first | rw [c15b0] | (simp only [i64_w, i32_w]; rw [c15b0]) | skip)
    by_cases c16 : (t110.length : Int) = (wrap64 ((wrap64 ((wrap64 (13 + (wrap64 (2 * (t102.length : Int))))) + (t106.length : Int))) + 4))
    · rw [if_pos c16] at H
      have c16b0 : ((t110.length : Int) == (wrap64 ((wrap64 ((wrap64 (13 + (wrap64 (2 * (t102.length : Int))))) + (t106.length : Int))) + 4))) = true := beq_iff_eq.mpr c16
      have c16b1 : ((t110.length : Int) != (wrap64 ((wrap64 ((wrap64 (13 + (wrap64 (2 * (t102.length : Int))))) + (t106.length : Int))) + 4))) = false := bne_eq_false_iff_eq.mpr c16
      clear c16
      by_cases c17 : 12 < (t110.length : Int)
      · rw [if_pos c17] at H
        have c17b0 : decide (12 < (t110.length : Int)) = true := decide_eq_true c17
        have c17b1 : decide (12 < t110.length) = true := decide_eq_true (by omega)
        clear c17
        have H' := Aside0.mk H
        clear H
        obtain ⟨Ao18, co18, eo18⟩ := Kd.R_slice HO112.out
        subst eo18
        have hcz19_0 : w13.cell? ⟨gb109, 0, none⟩ = some (.int .u64 t101) := (blk_cell BK109.out 0).trans rfl
        have hcz19_1 : w13.cell? ⟨gb109, 1, none⟩ = some (.slice Ao11 t102.length co11) := (blk_cell BK109.out 1).trans rfl
        have hcz19_2 : w13.cell? ⟨gb109, 2, none⟩ = some (.int .u32 t105) := (blk_cell BK109.out 2).trans rfl
        have hcz19_3 : w13.cell? ⟨gb109, 3, none⟩ = some (.slice Ao12 t106.length co12) := (blk_cell BK109.out 3).trans rfl
        have hfz19_0 := blk_frozen BK109.out 0
        have hfz19_1 := blk_frozen BK109.out 1
        have hfz19_2 := blk_frozen BK109.out 2
        have hfz19_3 := blk_frozen BK109.out 3
        have p114 : 0 ≤ (12 : Int) := (by omega)
        have q114 : 12 < (t110.length : Int) := of_decide_eq_true (by first | (with_reducible assumption) | assumption)
        (try (obtain ⟨Az114, cz114, ez114⟩ := Kd.R_slice HO112.out; subst ez114))
        obtain ⟨ad114, e114, hx114_0⟩ := Kd.at_int (Kd.R_reads' HO112.out).2.2 12 p114 q114
        cases e114
        (try simp only [show (12 : Int).toNat = 12 from rfl, Nat.reduceMul, Nat.reduceEqDiff, Go.Addr.add, ↓reduceIte] at hx114_0)
        have qi114 : (12 < t110.length) = True := eq_true (by omega)
        (try rw [show ((12 : Int)).toNat = 12 from rfl] at hx114_0)
        replace p114 := eq_true p114
        replace q114 := eq_true q114
        go_wp2
        go_meet
        case rel => exact ⟨_, (((wrap64 (rd t110 12)) != (t102.length : Int))), (by first | rfl | (simp; done) | (simp [*]; done)), H', ⟨by first | omega | exact Nat.le_refl _⟩, ⟨by (with_reducible repeat (first | apply Kd.R_alloc | apply Kd.R_drewN | apply Kd.R_drew)); exact Kd.R_mono HO112.out (fun _ hk => hk.2)⟩, ⟨by (with_reducible repeat (first | apply Kd.R_alloc | apply Kd.R_drewN | apply Kd.R_drew)); exact HO104.out⟩, ⟨by (with_reducible repeat (first | apply Kd.R_alloc | apply Kd.R_drewN | apply Kd.R_drew)); exact Kd.R_mono HO108.out (fun _ hk => hk.2)⟩, ⟨by (with_reducible repeat (first | refine blk_drewN ?_ _ | refine blk_drew ?_ | refine blk_alloc ?_ _)); exact BK109.out⟩, ⟨by repeat (first | (with_reducible first | exact HB.out | apply below_alloc | apply pw_below_drewN | apply below_drew1 | refine below_set ?_ GE109.out) | exact HB.out)⟩⟩
      · rw [if_neg c17] at H
        exact absurd H (by simp)
    · rw [if_neg c16] at H
      have c16b0 : ((t110.length : Int) == (wrap64 ((wrap64 ((wrap64 (13 + (wrap64 (2 * (t102.length : Int))))) + (t106.length : Int))) + 4))) = false := beq_eq_false_iff_ne.mpr c16
      have c16b1 : ((t110.length : Int) != (wrap64 ((wrap64 ((wrap64 (13 + (wrap64 (2 * (t102.length : Int))))) + (t106.length : Int))) + 4))) = true := bne_iff_ne.mpr c16
      have H' := Aside0.mk H
      clear H
      obtain ⟨Ao20, co20, eo20⟩ := Kd.R_slice HO112.out
      subst eo20
      have hcz21_0 : w13.cell? ⟨gb109, 0, none⟩ = some (.int .u64 t101) := (blk_cell BK109.out 0).trans rfl
      have hcz21_1 : w13.cell? ⟨gb109, 1, none⟩ = some (.slice Ao11 t102.length co11) := (blk_cell BK109.out 1).trans rfl
      have hcz21_2 : w13.cell? ⟨gb109, 2, none⟩ = some (.int .u32 t105) := (blk_cell BK109.out 2).trans rfl
      have hcz21_3 : w13.cell? ⟨gb109, 3, none⟩ = some (.slice Ao12 t106.length co12) := (blk_cell BK109.out 3).trans rfl
      have hfz21_0 := blk_frozen BK109.out 0
      have hfz21_1 := blk_frozen BK109.out 1
      have hfz21_2 := blk_frozen BK109.out 2
      have hfz21_3 := blk_frozen BK109.out 3
      go_wp2
      go_meet
      case rel => exact ⟨_, (true), (by first | rfl | (simp; done) | (simp [*]; done)), H', ⟨by first | omega | exact Nat.le_refl _⟩, ⟨by (with_reducible repeat (first | apply Kd.R_alloc | apply Kd.R_drewN | apply Kd.R_drew)); exact Kd.R_mono HO112.out (fun _ hk => hk.2)⟩, ⟨by (with_reducible repeat (first | apply Kd.R_alloc | apply Kd.R_drewN | apply Kd.R_drew)); exact HO104.out⟩, ⟨by (with_reducible repeat (first | apply Kd.R_alloc | apply Kd.R_drewN | apply Kd.R_drew)); exact Kd.R_mono HO108.out (fun _ hk => hk.2)⟩, ⟨by (with_reducible repeat (first | refine blk_drewN ?_ _ | refine blk_drew ?_ | refine blk_alloc ?_ _)); exact BK109.out⟩, ⟨by repeat (first | (with_reducible first | exact HB.out | apply below_alloc | apply pw_below_drewN | apply below_drew1 | refine below_set ?_ GE109.out) | exact HB.out)⟩⟩
  · rw [if_neg c15] at H
    have c15b0 : (t113 == 0) = false := beq_eq_false_iff_ne.mpr c15
    have c15b1 : (t113 != 0) = true := bne_iff_ne.mpr c15
    (first | rw [c15b0] | (simp only [i64_w, i32_w]; rw [c15b0]) | skip)
    have H' := Aside0.mk H
    clear H
    go_wp2
    go_meet
    case rel => exact ⟨_, (true), (by first | rfl | (simp; done) | (simp [*]; done)), H', ⟨by first | omega | exact Nat.le_refl _⟩, ⟨by (with_reducible repeat (first | apply Kd.R_alloc | apply Kd.R_drewN | apply Kd.R_drew)); exact Kd.R_mono HO112.out (fun _ hk => hk.2)⟩, ⟨by (with_reducible repeat (first | apply Kd.R_alloc | apply Kd.R_drewN | apply Kd.R_drew)); exact HO104.out⟩, ⟨by (with_reducible repeat (first | apply Kd.R_alloc | apply Kd.R_drewN | apply Kd.R_drew)); exact Kd.R_mono HO108.out (fun _ hk => hk.2)⟩, ⟨by (with_reducible repeat (first | refine blk_drewN ?_ _ | refine blk_drew ?_ | refine blk_alloc ?_ _)); exact BK109.out⟩, ⟨by repeat (first | (with_reducible first | exact HB.out | apply below_alloc | apply pw_below_drewN | apply below_drew1 | refine below_set ?_ GE109.out) | exact HB.out)⟩⟩
 case rest =>
  clear HC7
  try clear c1
  try clear p1
  try clear q1
  try clear hx1
  try clear qi1
  try clear p2
  try clear p6
  try clear c7
  try clear p11
  try clear q11
  try clear hx11
  try clear qi11
  try clear c12
  try clear c15
  try clear c15b0
  try clear c15b1
  try clear c16
  try clear c16b0
  try clear c16b1
  try clear c17
  try clear c17b0
  try clear c17b1
  try clear c19
  try clear hcz10_0
  try clear hcz10_1
  try clear hcz10_2
  try clear hcz10_3
  try clear hcz14_0
  try clear hcz14_1
  try clear hcz14_2
  try clear hcz14_3
  try clear hcz19_0
  try clear hcz19_1
  try clear hcz19_2
  try clear hcz19_3
  try clear hcz21_0
  try clear hcz21_1
  try clear hcz21_2
  try clear hcz21_3
  try clear hfz10_0
  try clear hfz10_1
  try clear hfz10_2
  try clear hfz10_3
  try clear hfz14_0
  try clear hfz14_1
  try clear hfz14_2
  try clear hfz14_3
  try clear hfz19_0
  try clear hfz19_1
  try clear hfz19_2
  try clear hfz19_3
  try clear hfz21_0
  try clear hfz21_1
  try clear hfz21_2
  try clear hfz21_3
  try clear hx114_0
  try clear p114
  try clear q114
  obtain ⟨kq, x52_6, rfl, HA, HJ6, HO_10, HO_110001, HO_110003, BK109, HB⟩ := hcut
  cases kq with
  | zero => exact absurd HA.out (by simp [scullerlaw14_TokenForm.j0])
  | succ kj6 =>
   have H := HA.out
   clear HA
   simp only [scullerlaw14_TokenForm.j0] at H
   by_cases c22 : x52_6 = true
   · subst c22
     have H1 : (some false) = some r := by rw [if_pos rfl] at H; exact H
     clear H
     have H := H1
     clear H1
     exact absurd H (by rw [hr_.out]; simp)
   · replace c22 := Bool.eq_false_iff.mpr c22
     subst c22
     have H1 : (scullerlaw14_TokenForm.l0 kj6 a0 t110 (t102.length : Int) 0 7 t101 t102 t105 t106) = some r := by rw [if_neg (show ¬ (false = true) by decide)] at H; exact H
     clear H
     have H := H1
     clear H1
     have H' := Aside0.mk H
     clear H
     go_wp2
     go_loopg [13, 14] kj6 (fun kq v13 v14 w' => ∃ (x13_2 : Int) (x14_2 : Int), v13 = .int .u64 x13_2 ∧ v14 = .int .i64 x14_2 ∧ Aside0 (scullerlaw14_TokenForm.l0 kq a0 t110 (t102.length : Int) x13_2 x14_2 t101 t102 t105 t106 = some r) ∧ Aside0 (kq ≤ kj6) ∧ Aside0 (Kd.R (Kd.int .u8) 5 w' w.heap.size (fun k_ => some k_ ≠ ((.slice Ao12 t106.length co12) : Value).ownBlock) v111 t110) ∧ Aside0 (Kd.R (Kd.int .i64) 3 w' w.heap.size (fun _ => True) (.slice Ao11 t102.length co11) t102) ∧ Aside0 (Kd.R (Kd.int .u8) 5 w' w.heap.size (fun k_ => some k_ ≠ (v111 : Value).ownBlock) (.slice Ao12 t106.length co12) t106) ∧ Aside0 (w'.heap[gb109]? = some (.cells #[.int .u64 t101, (.slice Ao11 t102.length co11), .int .u32 t105, (.slice Ao12 t106.length co12)] 29 (0, 0))) ∧ Aside0 (Below w.heap.size w w'))
     case atStart => exact ⟨(0), (7), (by first | rfl | (simp; done) | (simp [*]; done)), (by first | rfl | (simp; done) | (simp [*]; done)), H', ⟨Nat.le_refl _⟩, ⟨by (with_reducible repeat (first | apply Kd.R_alloc | apply Kd.R_drewN | apply Kd.R_drew)); exact HO_10.out⟩, ⟨by (with_reducible repeat (first | apply Kd.R_alloc | apply Kd.R_drewN | apply Kd.R_drew)); exact HO_110001.out⟩, ⟨by (with_reducible repeat (first | apply Kd.R_alloc | apply Kd.R_drewN | apply Kd.R_drew)); exact HO_110003.out⟩, ⟨by (with_reducible repeat (first | refine blk_drewN ?_ _ | refine blk_drew ?_ | refine blk_alloc ?_ _)); exact BK109.out⟩, ⟨by repeat (first | (with_reducible first | exact HB.out | apply below_alloc | apply pw_below_drewN | apply below_drew1 | refine below_set ?_ GE109.out) | exact HB.out)⟩⟩
     case round =>
      clear H'
      try clear c1
      try clear p1
      try clear q1
      try clear hx1
      try clear qi1
      try clear c2
      try clear p2
      try clear p6
      try clear c7
      try clear p11
      try clear q11
      try clear hx11
      try clear qi11
      try clear c12
      try clear c15
      try clear c15b0
      try clear c15b1
      try clear c16
      try clear c16b0
      try clear c16b1
      try clear c17
      try clear c17b0
      try clear c17b1
      try clear c19
      try clear c22
      try clear hcz10_0
      try clear hcz10_1
      try clear hcz10_2
      try clear hcz10_3
      try clear hcz14_0
      try clear hcz14_1
      try clear hcz14_2
      try clear hcz14_3
      try clear hcz19_0
      try clear hcz19_1
      try clear hcz19_2
      try clear hcz19_3
      try clear hcz21_0
      try clear hcz21_1
      try clear hcz21_2
      try clear hcz21_3
      try clear hfz10_0
      try clear hfz10_1
      try clear hfz10_2
      try clear hfz10_3
      try clear hfz14_0
      try clear hfz14_1
      try clear hfz14_2
      try clear hfz14_3
      try clear hfz19_0
      try clear hfz19_1
      try clear hfz19_2
      try clear hfz19_3
      try clear hfz21_0
      try clear hfz21_1
      try clear hfz21_2
      try clear hfz21_3
      try clear hx114_0
      try clear p1
      try clear p11
      try clear p114
      try clear p2
      try clear p6
      try clear q1
      try clear q11
      try clear q114
      obtain ⟨x13_2, x14_2, rfl, rfl, HA, HK2, HO_10, HO_110001, HO_110003, BK109, HB⟩ := hrel
      cases gk with
      | zero => exact absurd HA.out (by simp [scullerlaw14_TokenForm.l0])
      | succ k2 =>
       have H := HA.out
       clear HA
       simp only [scullerlaw14_TokenForm.l0] at H
       by_cases c23 : x14_2 ≥ 0
       · rw [if_pos c23] at H
         have c23b0 : decide (0 ≤ x14_2) = true := decide_eq_true c23
         clear c23
         by_cases c24 : 0 ≤ x14_2
         · rw [if_pos c24] at H
           have c24b0 : decide (0 ≤ x14_2) = true := decide_eq_true c24
           clear c24
           by_cases c25 : x14_2 < (t110.length : Int)
           · rw [if_pos c25] at H
             have c25b0 : decide (x14_2 < (t110.length : Int)) = true := decide_eq_true c25
             clear c25
             have H' := Aside0.mk H
             clear H
             obtain ⟨Ao26, co26, eo26⟩ := Kd.R_slice HO_10.out
             subst eo26
             have p115 : 0 ≤ (x14_2 : Int) := of_decide_eq_true (by first | (with_reducible assumption) | assumption)
             have q115 : x14_2 < (t110.length : Int) := of_decide_eq_true (by first | (with_reducible assumption) | assumption)
             (try (obtain ⟨Az115, cz115, ez115⟩ := Kd.R_slice HO_10.out; subst ez115))
             obtain ⟨ad115, e115, hx115_0⟩ := Kd.at_int (Kd.R_reads' HO_10.out).2.2 x14_2 p115 q115
             cases e115
             replace p115 := eq_true p115
             replace q115 := eq_true q115
             go_wp2
             go_roundg k2
             case measure => have := HJ6.out; have := HK2.out; omega
             case rel => exact ⟨(IntKind.u64.wrap ((IntKind.u64.wrap (256 * x13_2)) + (IntKind.u64.wrap (rd t110 x14_2)))), (wrap64 (x14_2 - 1)), (by first | rfl | (simp; done) | (simp [*]; done)), (by first | rfl | (simp; done) | (simp [*]; done)), H', ⟨by have := HJ6.out; have := HK2.out; omega⟩, ⟨by (with_reducible repeat (first | apply Kd.R_alloc | apply Kd.R_drewN | apply Kd.R_drew)); exact HO_10.out⟩, ⟨by (with_reducible repeat (first | apply Kd.R_alloc | apply Kd.R_drewN | apply Kd.R_drew)); exact HO_110001.out⟩, ⟨by (with_reducible repeat (first | apply Kd.R_alloc | apply Kd.R_drewN | apply Kd.R_drew)); exact HO_110003.out⟩, ⟨by (with_reducible repeat (first | refine blk_drewN ?_ _ | refine blk_drew ?_ | refine blk_alloc ?_ _)); exact BK109.out⟩, ⟨by repeat (first | (with_reducible first | exact HB.out | apply below_alloc | apply pw_below_drewN | apply below_drew1 | refine below_set ?_ GE109.out) | exact HB.out)⟩⟩
           · rw [if_neg c25] at H
             exact absurd H (by simp)
         · rw [if_neg c24] at H
           exact absurd H (by simp)
       · rw [if_neg c23] at H
         have c23b0 : decide (0 ≤ x14_2) = false := decide_eq_false c23
         clear c23
         have H' := Aside0.mk H
         clear H
         go_wp2
         go_loopg [15] k2 (fun kq v15 w' => ∃ (x15_3 : Int), v15 = .int .i64 x15_3 ∧ Aside0 (scullerlaw14_TokenForm.l1 kq a0 t110 (t102.length : Int) x13_2 x15_3 t101 t102 t105 t106 = some r) ∧ Aside0 (kq ≤ k2) ∧ Aside0 (Kd.R (Kd.int .u8) 5 w' w.heap.size (fun k_ => some k_ ≠ ((.slice Ao12 t106.length co12) : Value).ownBlock) v111 t110) ∧ Aside0 (Kd.R (Kd.int .i64) 3 w' w.heap.size (fun _ => True) (.slice Ao11 t102.length co11) t102) ∧ Aside0 (Kd.R (Kd.int .u8) 5 w' w.heap.size (fun k_ => some k_ ≠ (v111 : Value).ownBlock) (.slice Ao12 t106.length co12) t106) ∧ Aside0 (w'.heap[gb109]? = some (.cells #[.int .u64 t101, (.slice Ao11 t102.length co11), .int .u32 t105, (.slice Ao12 t106.length co12)] 29 (0, 0))) ∧ Aside0 (Below w.heap.size w w'))
         case atStart => exact ⟨(0), (by first | rfl | (simp; done) | (simp [*]; done)), H', ⟨Nat.le_refl _⟩, ⟨by (with_reducible repeat (first | apply Kd.R_alloc | apply Kd.R_drewN | apply Kd.R_drew)); exact HO_10.out⟩, ⟨by (with_reducible repeat (first | apply Kd.R_alloc | apply Kd.R_drewN | apply Kd.R_drew)); exact HO_110001.out⟩, ⟨by (with_reducible repeat (first | apply Kd.R_alloc | apply Kd.R_drewN | apply Kd.R_drew)); exact HO_110003.out⟩, ⟨by (with_reducible repeat (first | refine blk_drewN ?_ _ | refine blk_drew ?_ | refine blk_alloc ?_ _)); exact BK109.out⟩, ⟨by repeat (first | (with_reducible first | exact HB.out | apply below_alloc | apply pw_below_drewN | apply below_drew1 | refine below_set ?_ GE109.out) | exact HB.out)⟩⟩
         case round =>
          clear H'
          try clear c1
          try clear p1
          try clear q1
          try clear hx1
          try clear qi1
          try clear c2
          try clear p2
          try clear p6
          try clear c7
          try clear p11
          try clear q11
          try clear hx11
          try clear qi11
          try clear c12
          try clear c15
          try clear c15b0
          try clear c15b1
          try clear c16
          try clear c16b0
          try clear c16b1
          try clear c17
          try clear c17b0
          try clear c17b1
          try clear c19
          try clear c22
          try clear c23
          try clear c23b0
          try clear c24
          try clear c24b0
          try clear c25
          try clear c25b0
          try clear hcz10_0
          try clear hcz10_1
          try clear hcz10_2
          try clear hcz10_3
          try clear hcz14_0
          try clear hcz14_1
          try clear hcz14_2
          try clear hcz14_3
          try clear hcz19_0
          try clear hcz19_1
          try clear hcz19_2
          try clear hcz19_3
          try clear hcz21_0
          try clear hcz21_1
          try clear hcz21_2
          try clear hcz21_3
          try clear hfz10_0
          try clear hfz10_1
          try clear hfz10_2
          try clear hfz10_3
          try clear hfz14_0
          try clear hfz14_1
          try clear hfz14_2
          try clear hfz14_3
          try clear hfz19_0
          try clear hfz19_1
          try clear hfz19_2
          try clear hfz19_3
          try clear hfz21_0
          try clear hfz21_1
          try clear hfz21_2
          try clear hfz21_3
          try clear hx114_0
          try clear hx115_0
          try clear p1
          try clear p11
          try clear p114
          try clear p115
          try clear p2
          try clear p6
          try clear q1
          try clear q11
          try clear q114
          try clear q115
          obtain ⟨x15_3, rfl, HA, HK3, HO_10, HO_110001, HO_110003, BK109, HB⟩ := hrel
          cases gk with
          | zero => exact absurd HA.out (by simp [scullerlaw14_TokenForm.l1])
          | succ k3 =>
           have H := HA.out
           clear HA
           simp only [scullerlaw14_TokenForm.l1] at H
           by_cases c27 : x15_3 < (t102.length : Int)
           · rw [if_pos c27] at H
             have c27b0 : decide (x15_3 < (t102.length : Int)) = true := decide_eq_true c27
             clear c27
             obtain ⟨ji28, hji28⟩ : ∃ j_ : Int, (wrap64 (13 + (wrap64 (2 * x15_3)))) = j_ := ⟨_, rfl⟩
             replace H : (if 0 ≤ (ji28) then (if (ji28) < (t110.length : Int) then (if 0 ≤ (wrap64 (14 + (wrap64 (2 * x15_3)))) then (if (wrap64 (14 + (wrap64 (2 * x15_3)))) < (t110.length : Int) then (if 0 ≤ x15_3 then (if x15_3 < (t102.length : Int) then (if (wrap64 ((wrap64 (rd t110 (ji28))) + (wrap64 (256 * (wrap64 (rd t110 (wrap64 (14 + (wrap64 (2 * x15_3)))))))))) = (rd t102 x15_3) then (scullerlaw14_TokenForm.l1 k3 a0 t110 (t102.length : Int) x13_2 (wrap64 (x15_3 + 1)) t101 t102 t105 t106) else (some false)) else (none)) else (none)) else (none)) else (none)) else (none)) else (none)) = some r := by first | (rw [hji28] at H; exact H) | (simp only [hji28] at H ⊢; exact H)
             have hji28w : (IntKind.i64.wrap (13 + (wrap64 (2 * x15_3)))) = ji28 := (i64_w _).trans hji28
             by_cases c29 : 0 ≤ (ji28)
             · rw [if_pos c29] at H
               have c29b0 : decide (0 ≤ (ji28)) = true := decide_eq_true c29
               clear c29
               by_cases c30 : (ji28) < (t110.length : Int)
               · rw [if_pos c30] at H
                 have c30b0 : decide ((ji28) < (t110.length : Int)) = true := decide_eq_true c30
                 clear c30
                 obtain ⟨ji31, hji31⟩ : ∃ j_ : Int, (wrap64 (14 + (wrap64 (2 * x15_3)))) = j_ := ⟨_, rfl⟩
                 replace H : (if 0 ≤ (ji31) then (if (ji31) < (t110.length : Int) then (if 0 ≤ x15_3 then (if x15_3 < (t102.length : Int) then (if (wrap64 ((wrap64 (rd t110 (ji28))) + (wrap64 (256 * (wrap64 (rd t110 (ji31))))))) = (rd t102 x15_3) then (scullerlaw14_TokenForm.l1 k3 a0 t110 (t102.length : Int) x13_2 (wrap64 (x15_3 + 1)) t101 t102 t105 t106) else (some false)) else (none)) else (none)) else (none)) else (none)) = some r := by first | (rw [hji31] at H; exact H) | (simp only [hji31] at H ⊢; exact H)
                 have hji31w : (IntKind.i64.wrap (14 + (wrap64 (2 * x15_3)))) = ji31 := (i64_w _).trans hji31
                 by_cases c32 : 0 ≤ (ji31)
                 · rw [if_pos c32] at H
                   have c32b0 : decide (0 ≤ (ji31)) = true := decide_eq_true c32
                   clear c32
                   by_cases c33 : (ji31) < (t110.length : Int)
                   · rw [if_pos c33] at H
                     have c33b0 : decide ((ji31) < (t110.length : Int)) = true := decide_eq_true c33
                     clear c33
                     by_cases c34 : 0 ≤ x15_3
                     · rw [if_pos c34] at H
                       have c34b0 : decide (0 ≤ x15_3) = true := decide_eq_true c34
                       clear c34
                       by_cases c35 : x15_3 < (t102.length : Int)
                       · rw [if_pos c35] at H
                         have c35b0 : decide (x15_3 < (t102.length : Int)) = true := decide_eq_true c35
                         clear c35
                         by_cases c36 : (wrap64 ((wrap64 (rd t110 (ji28))) + (wrap64 (256 * (wrap64 (rd t110 (ji31))))))) = (rd t102 x15_3)
                         · rw [if_pos c36] at H
                           have c36b0 : ((wrap64 ((wrap64 (rd t110 (ji28))) + (wrap64 (256 * (wrap64 (rd t110 (ji31))))))) == (rd t102 x15_3)) = true := beq_iff_eq.mpr c36
                           have c36b1 : ((wrap64 ((wrap64 (rd t110 (ji28))) + (wrap64 (256 * (wrap64 (rd t110 (ji31))))))) != (rd t102 x15_3)) = false := bne_eq_false_iff_eq.mpr c36
                           clear c36
                           have H' := Aside0.mk H
                           clear H
                           try go_wp2
                           have n0_ := Aside0.mk (Kd.R_drew HO_10.out)
                           have n1_ := Aside0.mk (Kd.R_drew HO_110001.out)
                           have n2_ := Aside0.mk (Kd.R_drew HO_110003.out)
                           have n3_ := Aside0.mk (blk_drew BK109.out)
                           have n4_ := Aside0.mk (below_drew1 HB.out)
                           clear HO_10
                           clear HO_110001
                           clear HO_110003
                           clear BK109
                           clear HB
                           have HO_10 := n0_
                           have HO_110001 := n1_
                           have HO_110003 := n2_
                           have BK109 := n3_
                           have HB := n4_
                           clear n0_ n1_ n2_ n3_ n4_
                           obtain ⟨Ao38, co38, eo38⟩ := Kd.R_slice HO_10.out
                           (first | subst eo38 | (injection eo38 with f1_ f2_ f3_; have f4_ := f1_.symm; have f5_ := f3_.symm; clear f1_ f2_ f3_; subst f4_; subst f5_))
                           have p116 : 0 ≤ ((ji28) : Int) := of_decide_eq_true (by first | (with_reducible assumption) | assumption)
                           have q116 : (ji28) < (t110.length : Int) := of_decide_eq_true (by first | (with_reducible assumption) | assumption)
                           (try (obtain ⟨Az116, cz116, ez116⟩ := Kd.R_slice HO_10.out; subst ez116))
                           obtain ⟨ad116, e116, hx116_0⟩ := Kd.at_int (Kd.R_reads' HO_10.out).2.2 (ji28) p116 q116
                           cases e116
                           replace p116 := eq_true p116
                           replace q116 := eq_true q116
                           have p117 : 0 ≤ ((ji31) : Int) := of_decide_eq_true (by first | (with_reducible assumption) | assumption)
                           have q117 : (ji31) < (t110.length : Int) := of_decide_eq_true (by first | (with_reducible assumption) | assumption)
                           (try (obtain ⟨Az117, cz117, ez117⟩ := Kd.R_slice HO_10.out; subst ez117))
                           obtain ⟨ad117, e117, hx117_0⟩ := Kd.at_int (Kd.R_reads' HO_10.out).2.2 (ji31) p117 q117
                           obtain rfl : ad116 = ad117 := (by injection e117)
                           replace p117 := eq_true p117
                           replace q117 := eq_true q117
                           have p118 : 0 ≤ (x15_3 : Int) := of_decide_eq_true (by first | (with_reducible assumption) | assumption)
                           have q118 : x15_3 < (t102.length : Int) := of_decide_eq_true (by first | (with_reducible assumption) | assumption)
                           (try (obtain ⟨Az118, cz118, ez118⟩ := Kd.R_slice HO_110001.out; subst ez118))
                           obtain ⟨ad118, e118, hx118_0⟩ := Kd.at_int (Kd.R_reads' HO_110001.out).2.2 x15_3 p118 q118
                           cases e118
                           replace p118 := eq_true p118
                           replace q118 := eq_true q118
                           refine start_ (n := 23) (S := fun w' => w'.cell? ⟨gb109, 0, none⟩ = some (.int .u64 t101) ∧ w'.cell? ⟨gb109, 1, none⟩ = some (.slice (some ad118) t102.length co11) ∧ w'.cell? ⟨gb109, 2, none⟩ = some (.int .u32 t105) ∧ w'.cell? ⟨gb109, 3, none⟩ = some (.slice Ao12 t106.length co12) ∧ w'.cell? (ad116.add ((ji28)).toNat) = some (.int .u8 (rd t110 (ji28))) ∧ w'.cell? (ad116.add ((ji31)).toNat) = some (.int .u8 (rd t110 (ji31))) ∧ w'.cell? (ad118.add (x15_3).toNat) = some (.int .i64 (rd t102 x15_3))) (ds := []) #[false, false, false, false, false, false, false, false, false, false, false, false, false, false, false, false, false, false, false, false, false, false, false] (by kernel_rfl) rfl rfl ⟨(blk_cell BK109.out 0).trans rfl, (blk_cell BK109.out 1).trans rfl, (blk_cell BK109.out 2).trans rfl, (blk_cell BK109.out 3).trans rfl, hx116_0, hx117_0, hx118_0⟩ (fun hHeld => ?_); refine with_tabW scullerlaw14_TokenForm.tab14 scullerlaw14_TokenForm.bits14 (fun HT_ HW_ => ?_)
                           generalize wr.drew = w37 at HO_10 HO_110001 HO_110003 BK109 HB hx116_0 hx117_0 hx118_0 hHeld ⊢
                           refine pure_ (i := 0) (N := some 70) (v := ?_) (a' := ?_) #[true, false, false, false, false, false, false, false, false, false, false, false, false, false, false, false, false, false, false, false, false, false, false] rfl rfl (any_of HT_.out (by kernel_rfl)) (fun _ _ _ h => h) (Or.inl ⟨by rfl, ?_⟩) ?_ ?_
                           rotate_left
                           · intro w'
                             go_simp
                             with_reducible rfl
                           rotate_left
                           · simp only [Act.put, List.setIfInBounds_toArray, List.set_cons_zero, List.set_cons_succ, i64_w, i32_w]
                             rfl
                           refine pure_ (i := 1) (N := some 71) (v := ?_) (a' := ?_) #[true, true, false, false, false, false, false, false, false, false, false, false, false, false, false, false, false, false, false, false, false, false, false] rfl rfl (any_of HT_.out (by kernel_rfl)) (fun _ _ _ h => h) (Or.inl ⟨by rfl, ?_⟩) ?_ ?_
                           rotate_left
                           · intro w'
                             go_simp
                             with_reducible rfl
                           rotate_left
                           · simp only [Act.put, List.setIfInBounds_toArray, List.set_cons_zero, List.set_cons_succ, i64_w, i32_w]
                             rfl
                           refine pure_ (i := 2) (N := some 72) (v := ?_) (a' := ?_) #[true, true, true, false, false, false, false, false, false, false, false, false, false, false, false, false, false, false, false, false, false, false, false] rfl rfl (any_of HT_.out (by kernel_rfl)) (fun _ _ _ h => h) (Or.inl ⟨by rfl, ?_⟩) ?_ ?_
                           rotate_left
                           · intro w'
                             go_simp
                             with_reducible rfl
                           rotate_left
                           · simp only [Act.put, List.setIfInBounds_toArray, List.set_cons_zero, List.set_cons_succ, i64_w, i32_w]
                             rfl
                           refine pure_ (i := 3) (N := some 73) (v := ?_) (a' := ?_) #[true, true, true, true, false, false, false, false, false, false, false, false, false, false, false, false, false, false, false, false, false, false, false] rfl rfl (any_of HT_.out (by kernel_rfl)) (fun _ _ _ h => h) (Or.inl ⟨by rfl, ?_⟩) ?_ ?_
                           rotate_left
                           · intro w'
                             go_simp
                             with_reducible rfl
                           rotate_left
                           · simp only [Act.put, List.setIfInBounds_toArray, List.set_cons_zero, List.set_cons_succ, i64_w, i32_w]
                             rfl
                           refine pure_ (i := 4) (N := some 74) (v := ?_) (a' := ?_) #[true, true, true, true, true, false, false, false, false, false, false, false, false, false, false, false, false, false, false, false, false, false, false] rfl rfl (any_of HT_.out (by kernel_rfl)) (fun _ _ _ h => h) (Or.inl ⟨by rfl, ?_⟩) ?_ ?_
                           rotate_left
                           · intro w'
                             go_simp
                             with_reducible rfl
                           rotate_left
                           · simp only [Act.put, List.setIfInBounds_toArray, List.set_cons_zero, List.set_cons_succ, i64_w, i32_w]
                             rfl
                           refine pure_ (i := 7) (N := some 77) (v := ?_) (a' := ?_) #[true, true, true, true, true, false, false, true, false, false, false, false, false, false, false, false, false, false, false, false, false, false, false] rfl rfl (any_of HT_.out (by kernel_rfl)) (fun _ _ _ h => h) (Or.inl ⟨by rfl, ?_⟩) ?_ ?_
                           rotate_left
                           · intro w'
                             go_simp
                             with_reducible rfl
                           rotate_left
                           · simp only [Act.put, List.setIfInBounds_toArray, List.set_cons_zero, List.set_cons_succ, i64_w, i32_w]
                             rfl
                           refine pure_ (i := 8) (N := some 78) (v := ?_) (a' := ?_) #[true, true, true, true, true, false, false, true, true, false, false, false, false, false, false, false, false, false, false, false, false, false, false] rfl rfl (any_of HT_.out (by kernel_rfl)) (fun _ _ _ h => h) (Or.inl ⟨by rfl, ?_⟩) ?_ ?_
                           rotate_left
                           · intro w'
                             go_simp
                             with_reducible rfl
                           rotate_left
                           · simp only [Act.put, List.setIfInBounds_toArray, List.set_cons_zero, List.set_cons_succ, i64_w, i32_w]
                             rfl
                           refine pure_ (i := 9) (N := some 79) (v := ?_) (a' := ?_) #[true, true, true, true, true, false, false, true, true, true, false, false, false, false, false, false, false, false, false, false, false, false, false] rfl rfl (any_of HT_.out (by kernel_rfl)) (fun _ _ _ h => h) (Or.inl ⟨by rfl, ?_⟩) ?_ ?_
                           rotate_left
                           · intro w'
                             go_simp
                             with_reducible rfl
                           rotate_left
                           · simp only [Act.put, List.setIfInBounds_toArray, List.set_cons_zero, List.set_cons_succ, i64_w, i32_w]
                             rfl
                           refine pure_ (i := 10) (N := some 80) (v := ?_) (a' := ?_) #[true, true, true, true, true, false, false, true, true, true, true, false, false, false, false, false, false, false, false, false, false, false, false] rfl rfl (any_of HT_.out (by kernel_rfl)) (fun _ _ _ h => h) (Or.inl ⟨by rfl, ?_⟩) ?_ ?_
                           rotate_left
                           · intro w'
                             go_simp
                             with_reducible rfl
                           rotate_left
                           · simp only [Act.put, List.setIfInBounds_toArray, List.set_cons_zero, List.set_cons_succ, i64_w, i32_w]
                             rfl
                           refine pure_ (i := 11) (N := some 81) (v := ?_) (a' := ?_) #[true, true, true, true, true, false, false, true, true, true, true, true, false, false, false, false, false, false, false, false, false, false, false] rfl rfl (any_of HT_.out (by kernel_rfl)) (fun _ _ _ h => h) (Or.inl ⟨by rfl, ?_⟩) ?_ ?_
                           rotate_left
                           · intro w'
                             go_simp
                             with_reducible rfl
                           rotate_left
                           · simp only [Act.put, List.setIfInBounds_toArray, List.set_cons_zero, List.set_cons_succ, i64_w, i32_w]
                             rfl
                           refine pure_ (i := 16) (N := some 86) (v := ?_) (a' := ?_) #[true, true, true, true, true, false, false, true, true, true, true, true, false, false, false, false, true, false, false, false, false, false, false] rfl rfl (any_of HT_.out (by kernel_rfl)) (fun _ _ _ h => h) (Or.inl ⟨by rfl, ?_⟩) ?_ ?_
                           rotate_left
                           · intro w'
                             go_simp
                             with_reducible rfl
                           rotate_left
                           · simp only [Act.put, List.setIfInBounds_toArray, List.set_cons_zero, List.set_cons_succ, i64_w, i32_w]
                             rfl
                           refine pure_ (i := 17) (N := some 87) (v := ?_) (a' := ?_) #[true, true, true, true, true, false, false, true, true, true, true, true, false, false, false, false, true, true, false, false, false, false, false] rfl rfl (any_of HT_.out (by kernel_rfl)) (fun _ _ _ h => h) (Or.inl ⟨by rfl, ?_⟩) ?_ ?_
                           rotate_left
                           · intro w'
                             go_simp
                             with_reducible rfl
                           rotate_left
                           · simp only [Act.put, List.setIfInBounds_toArray, List.set_cons_zero, List.set_cons_succ, i64_w, i32_w]
                             rfl
                           refine pure_ (i := 19) (N := some 89) (v := ?_) (a' := ?_) #[true, true, true, true, true, false, false, true, true, true, true, true, false, false, false, false, true, true, false, true, false, false, false] rfl rfl (any_of HT_.out (by kernel_rfl)) (fun _ _ _ h => h) (Or.inl ⟨by rfl, ?_⟩) ?_ ?_
                           rotate_left
                           · intro w'
                             go_simp
                             with_reducible rfl
                           rotate_left
                           · simp only [Act.put, List.setIfInBounds_toArray, List.set_cons_zero, List.set_cons_succ, i64_w, i32_w]
                             rfl
                           refine take_ (i := 5) (N := some 75) (v := ?_) (a' := ?_) #[true, true, true, true, true, true, false, true, true, true, true, true, false, false, false, false, true, true, false, true, false, false, false] rfl rfl (take_ofW HT_.out HW_.out (by kernel_rfl)) (fun _ _ _ h => h) (Or.inl ⟨by rfl, ?_⟩) hHeld ?_ ?_
                           rotate_left
                           · rintro w' ⟨s0, s1, s2, s3, s4, s5, s6⟩
                             go_simp
                             with_reducible rfl
                           rotate_left
                           · simp only [Act.put, List.setIfInBounds_toArray, List.set_cons_zero, List.set_cons_succ, i64_w, i32_w]
                             rfl
                           refine pure_ (i := 6) (N := some 76) (v := ?_) (a' := ?_) #[true, true, true, true, true, true, true, true, true, true, true, true, false, false, false, false, true, true, false, true, false, false, false] rfl rfl (any_of HT_.out (by kernel_rfl)) (fun _ _ _ h => h) (Or.inl ⟨by rfl, ?_⟩) ?_ ?_
                           rotate_left
                           · intro w'
                             go_simp
                             with_reducible rfl
                           rotate_left
                           · simp only [Act.put, List.setIfInBounds_toArray, List.set_cons_zero, List.set_cons_succ, i64_w, i32_w]
                             rfl
                           refine take_ (i := 12) (N := some 82) (v := ?_) (a' := ?_) #[true, true, true, true, true, true, true, true, true, true, true, true, true, false, false, false, true, true, false, true, false, false, false] rfl rfl (take_ofW HT_.out HW_.out (by kernel_rfl)) (fun _ _ _ h => h) (Or.inl ⟨by rfl, ?_⟩) hHeld ?_ ?_
                           rotate_left
                           · rintro w' ⟨s0, s1, s2, s3, s4, s5, s6⟩
                             go_simp
                             with_reducible rfl
                           rotate_left
                           · simp only [Act.put, List.setIfInBounds_toArray, List.set_cons_zero, List.set_cons_succ, i64_w, i32_w]
                             rfl
                           refine pure_ (i := 13) (N := some 83) (v := ?_) (a' := ?_) #[true, true, true, true, true, true, true, true, true, true, true, true, true, true, false, false, true, true, false, true, false, false, false] rfl rfl (any_of HT_.out (by kernel_rfl)) (fun _ _ _ h => h) (Or.inl ⟨by rfl, ?_⟩) ?_ ?_
                           rotate_left
                           · intro w'
                             go_simp
                             with_reducible rfl
                           rotate_left
                           · simp only [Act.put, List.setIfInBounds_toArray, List.set_cons_zero, List.set_cons_succ, i64_w, i32_w]
                             rfl
                           refine pure_ (i := 14) (N := some 84) (v := ?_) (a' := ?_) #[true, true, true, true, true, true, true, true, true, true, true, true, true, true, true, false, true, true, false, true, false, false, false] rfl rfl (any_of HT_.out (by kernel_rfl)) (fun _ _ _ h => h) (Or.inl ⟨by rfl, ?_⟩) ?_ ?_
                           rotate_left
                           · intro w'
                             go_simp
                             with_reducible rfl
                           rotate_left
                           · simp only [Act.put, List.setIfInBounds_toArray, List.set_cons_zero, List.set_cons_succ, i64_w, i32_w]
                             rfl
                           refine pure_ (i := 15) (N := some 85) (v := ?_) (a' := ?_) #[true, true, true, true, true, true, true, true, true, true, true, true, true, true, true, true, true, true, false, true, false, false, false] rfl rfl (any_of HT_.out (by kernel_rfl)) (fun _ _ _ h => h) (Or.inl ⟨by rfl, ?_⟩) ?_ ?_
                           rotate_left
                           · intro w'
                             go_simp
                             with_reducible rfl
                           rotate_left
                           · simp only [Act.put, List.setIfInBounds_toArray, List.set_cons_zero, List.set_cons_succ, i64_w, i32_w]
                             rfl
                           refine take_ (i := 18) (N := some 88) (v := ?_) (a' := ?_) #[true, true, true, true, true, true, true, true, true, true, true, true, true, true, true, true, true, true, true, true, false, false, false] rfl rfl (take_ofW HT_.out HW_.out (by kernel_rfl)) (fun _ _ _ h => h) (Or.inl ⟨by rfl, ?_⟩) hHeld ?_ ?_
                           rotate_left
                           · rintro w' ⟨s0, s1, s2, s3, s4, s5, s6⟩
                             go_simp
                             with_reducible rfl
                           rotate_left
                           · simp only [Act.put, List.setIfInBounds_toArray, List.set_cons_zero, List.set_cons_succ, i64_w, i32_w]
                             rfl
                           refine pure_ (i := 20) (N := some 90) (v := ?_) (a' := ?_) #[true, true, true, true, true, true, true, true, true, true, true, true, true, true, true, true, true, true, true, true, true, false, false] rfl rfl (any_of HT_.out (by kernel_rfl)) (fun _ _ _ h => h) (Or.inl ⟨by rfl, ?_⟩) ?_ ?_
                           rotate_left
                           · intro w'
                             go_simp
                             with_reducible rfl
                           rotate_left
                           · simp only [Act.put, List.setIfInBounds_toArray, List.set_cons_zero, List.set_cons_succ, i64_w, i32_w]
                             rfl
                           refine take_ (i := 21) (N := some 91) (v := ?_) (a' := ?_) #[true, true, true, true, true, true, true, true, true, true, true, true, true, true, true, true, true, true, true, true, true, true, false] rfl rfl (take_ofW HT_.out HW_.out (by kernel_rfl)) (fun _ _ _ h => h) (Or.inl ⟨by rfl, ?_⟩) hHeld ?_ ?_
                           rotate_left
                           · rintro w' ⟨s0, s1, s2, s3, s4, s5, s6⟩
                             go_simp
                             with_reducible rfl
                           rotate_left
                           · simp only [Act.put, List.setIfInBounds_toArray, List.set_cons_zero, List.set_cons_succ, i64_w, i32_w]
                             rfl
                           refine pure_ (i := 22) (N := some 92) (v := ?_) (a' := ?_) #[true, true, true, true, true, true, true, true, true, true, true, true, true, true, true, true, true, true, true, true, true, true, true] rfl rfl (any_of HT_.out (by kernel_rfl)) (fun _ _ _ h => h) (Or.inl ⟨by rfl, ?_⟩) ?_ ?_
                           rotate_left
                           · intro w'
                             go_simp
                             with_reducible rfl
                           rotate_left
                           · simp only [Act.put, List.setIfInBounds_toArray, List.set_cons_zero, List.set_cons_succ, i64_w, i32_w]
                             rfl
                           refine done_ (done_of HT_.out (by kernel_rfl)) ?_
                           try go_wp2
                           go_roundg k3
                           case measure => have := HJ6.out; have := HK2.out; have := HK3.out; omega
                           case rel => exact ⟨(wrap64 (x15_3 + 1)), (by first | rfl | (simp; done) | (simp [*]; done)), H', ⟨by have := HJ6.out; have := HK2.out; have := HK3.out; omega⟩, ⟨by (with_reducible repeat (first | apply Kd.R_alloc | apply Kd.R_drewN | apply Kd.R_drew)); exact HO_10.out⟩, ⟨by (with_reducible repeat (first | apply Kd.R_alloc | apply Kd.R_drewN | apply Kd.R_drew)); exact HO_110001.out⟩, ⟨by (with_reducible repeat (first | apply Kd.R_alloc | apply Kd.R_drewN | apply Kd.R_drew)); exact HO_110003.out⟩, ⟨by (with_reducible repeat (first | refine blk_drewN ?_ _ | refine blk_drew ?_ | refine blk_alloc ?_ _)); exact BK109.out⟩, ⟨by repeat (first | (with_reducible first | exact HB.out | apply below_alloc | apply pw_below_drewN | apply below_drew1 | refine below_set ?_ GE109.out) | exact HB.out)⟩⟩
                         · rw [if_neg c36] at H
                           have c36b0 : ((wrap64 ((wrap64 (rd t110 (ji28))) + (wrap64 (256 * (wrap64 (rd t110 (ji31))))))) == (rd t102 x15_3)) = false := beq_eq_false_iff_ne.mpr c36
                           have c36b1 : ((wrap64 ((wrap64 (rd t110 (ji28))) + (wrap64 (256 * (wrap64 (rd t110 (ji31))))))) != (rd t102 x15_3)) = true := bne_iff_ne.mpr c36
                           exact absurd H (by rw [hr_.out]; simp)
                       · rw [if_neg c35] at H
                         exact absurd H (by simp)
                     · rw [if_neg c34] at H
                       exact absurd H (by simp)
                   · rw [if_neg c33] at H
                     exact absurd H (by simp)
                 · rw [if_neg c32] at H
                   exact absurd H (by simp)
               · rw [if_neg c30] at H
                 exact absurd H (by simp)
             · rw [if_neg c29] at H
               exact absurd H (by simp)
           · rw [if_neg c27] at H
             have c27b0 : decide (x15_3 < (t102.length : Int)) = false := decide_eq_false c27
             clear c27
             replace H := Option.bind_eq_some_iff.mp H
             obtain ⟨t119, A410, H⟩ := H
             replace H : (if t119 = true then (if x13_2 = a0 then (if 8 < (t110.length : Int) then (if 9 < (t110.length : Int) then (if 10 < (t110.length : Int) then (if 11 < (t110.length : Int) then (some (((((((((rd t110 8) % 4294967296) + ((((rd t110 9) % 4294967296) * 256) % 4294967296)) % 4294967296) + ((((rd t110 10) % 4294967296) * 65536) % 4294967296)) % 4294967296) + ((((rd t110 11) % 4294967296) * 16777216) % 4294967296)) % 4294967296) == t105)) else (none)) else (none)) else (none)) else (none)) else (some false)) else (some false)) = some r := H
             have A41 := Aside0.mk A410
             clear A410
             by_cases c42 : t119 = true
             · subst c42
               have H1 : (if x13_2 = a0 then (if 8 < (t110.length : Int) then (if 9 < (t110.length : Int) then (if 10 < (t110.length : Int) then (if 11 < (t110.length : Int) then (some (((((((((rd t110 8) % 4294967296) + ((((rd t110 9) % 4294967296) * 256) % 4294967296)) % 4294967296) + ((((rd t110 10) % 4294967296) * 65536) % 4294967296)) % 4294967296) + ((((rd t110 11) % 4294967296) * 16777216) % 4294967296)) % 4294967296) == t105)) else (none)) else (none)) else (none)) else (none)) else (some false)) = some r := by rw [if_pos rfl] at H; exact H
               clear H
               have H := H1
               clear H1
               by_cases c43 : x13_2 = a0
               · rw [if_pos c43] at H
                 have c43b0 : (x13_2 == a0) = true := beq_iff_eq.mpr c43
                 have c43b1 : (x13_2 != a0) = false := bne_eq_false_iff_eq.mpr c43
                 clear c43
                 by_cases c44 : 8 < (t110.length : Int)
                 · rw [if_pos c44] at H
                   have c44b0 : decide (8 < (t110.length : Int)) = true := decide_eq_true c44
                   have c44b1 : decide (8 < t110.length) = true := decide_eq_true (by omega)
                   clear c44
                   by_cases c45 : 9 < (t110.length : Int)
                   · rw [if_pos c45] at H
                     have c45b0 : decide (9 < (t110.length : Int)) = true := decide_eq_true c45
                     have c45b1 : decide (9 < t110.length) = true := decide_eq_true (by omega)
                     clear c45
                     by_cases c46 : 10 < (t110.length : Int)
                     · rw [if_pos c46] at H
                       have c46b0 : decide (10 < (t110.length : Int)) = true := decide_eq_true c46
                       have c46b1 : decide (10 < t110.length) = true := decide_eq_true (by omega)
                       clear c46
                       by_cases c47 : 11 < (t110.length : Int)
                       · rw [if_pos c47] at H
                         have c47b0 : decide (11 < (t110.length : Int)) = true := decide_eq_true c47
                         have c47b1 : decide (11 < t110.length) = true := decide_eq_true (by omega)
                         clear c47
                         obtain rfl := Option.some.inj H
                         try go_wp2
                         have n0_ := Aside0.mk (Kd.R_drew HO_10.out)
                         have n1_ := Aside0.mk (Kd.R_drew HO_110001.out)
                         have n2_ := Aside0.mk (Kd.R_drew HO_110003.out)
                         have n3_ := Aside0.mk (blk_drew BK109.out)
                         have n4_ := Aside0.mk (below_drew1 HB.out)
                         clear HO_10
                         clear HO_110001
                         clear HO_110003
                         clear BK109
                         clear HB
                         have HO_10 := n0_
                         have HO_110001 := n1_
                         have HO_110003 := n2_
                         have BK109 := n3_
                         have HB := n4_
                         clear n0_ n1_ n2_ n3_ n4_
                         have p120 : 0 ≤ (8 : Int) := (by omega)
                         have q120 : 8 < (t110.length : Int) := of_decide_eq_true (by first | (with_reducible assumption) | assumption)
                         (try (obtain ⟨Az120, cz120, ez120⟩ := Kd.R_slice HO_10.out; subst ez120))
                         obtain ⟨ad120, e120, hx120_0⟩ := Kd.at_int (Kd.R_reads' HO_10.out).2.2 8 p120 q120
                         cases e120
                         (try simp only [show (8 : Int).toNat = 8 from rfl, Nat.reduceMul, Nat.reduceEqDiff, Go.Addr.add, ↓reduceIte] at hx120_0)
                         have qi120 : (8 < t110.length) = True := eq_true (by omega)
                         (try rw [show ((8 : Int)).toNat = 8 from rfl] at hx120_0)
                         replace p120 := eq_true p120
                         replace q120 := eq_true q120
                         have p121 : 0 ≤ (9 : Int) := (by omega)
                         have q121 : 9 < (t110.length : Int) := of_decide_eq_true (by first | (with_reducible assumption) | assumption)
                         (try (obtain ⟨Az121, cz121, ez121⟩ := Kd.R_slice HO_10.out; subst ez121))
                         obtain ⟨ad121, e121, hx121_0⟩ := Kd.at_int (Kd.R_reads' HO_10.out).2.2 9 p121 q121
                         obtain rfl : ad120 = ad121 := (by injection e121)
                         (try simp only [show (9 : Int).toNat = 9 from rfl, Nat.reduceMul, Nat.reduceEqDiff, Go.Addr.add, ↓reduceIte] at hx121_0)
                         have qi121 : (9 < t110.length) = True := eq_true (by omega)
                         (try rw [show ((9 : Int)).toNat = 9 from rfl] at hx121_0)
                         replace p121 := eq_true p121
                         replace q121 := eq_true q121
                         have p122 : 0 ≤ (10 : Int) := (by omega)
                         have q122 : 10 < (t110.length : Int) := of_decide_eq_true (by first | (with_reducible assumption) | assumption)
                         (try (obtain ⟨Az122, cz122, ez122⟩ := Kd.R_slice HO_10.out; subst ez122))
                         obtain ⟨ad122, e122, hx122_0⟩ := Kd.at_int (Kd.R_reads' HO_10.out).2.2 10 p122 q122
                         obtain rfl : ad120 = ad122 := (by injection e122)
                         (try simp only [show (10 : Int).toNat = 10 from rfl, Nat.reduceMul, Nat.reduceEqDiff, Go.Addr.add, ↓reduceIte] at hx122_0)
                         have qi122 : (10 < t110.length) = True := eq_true (by omega)
                         (try rw [show ((10 : Int)).toNat = 10 from rfl] at hx122_0)
                         replace p122 := eq_true p122
                         replace q122 := eq_true q122
                         have p123 : 0 ≤ (11 : Int) := (by omega)
                         have q123 : 11 < (t110.length : Int) := of_decide_eq_true (by first | (with_reducible assumption) | assumption)
                         (try (obtain ⟨Az123, cz123, ez123⟩ := Kd.R_slice HO_10.out; subst ez123))
                         obtain ⟨ad123, e123, hx123_0⟩ := Kd.at_int (Kd.R_reads' HO_10.out).2.2 11 p123 q123
                         obtain rfl : ad120 = ad123 := (by injection e123)
                         (try simp only [show (11 : Int).toNat = 11 from rfl, Nat.reduceMul, Nat.reduceEqDiff, Go.Addr.add, ↓reduceIte] at hx123_0)
                         have qi123 : (11 < t110.length) = True := eq_true (by omega)
                         (try rw [show ((11 : Int)).toNat = 11 from rfl] at hx123_0)
                         replace p123 := eq_true p123
                         replace q123 := eq_true q123
                         refine start_ (n := 35) (S := fun w' => w'.cell? ⟨gb109, 0, none⟩ = some (.int .u64 t101) ∧ w'.cell? ⟨gb109, 1, none⟩ = some (.slice Ao11 t102.length co11) ∧ w'.cell? ⟨gb109, 2, none⟩ = some (.int .u32 t105) ∧ w'.cell? ⟨gb109, 3, none⟩ = some (.slice Ao12 t106.length co12) ∧ w'.cell? ⟨ad120.block, ad120.off + 8, none⟩ = some (.int .u8 (rd t110 8)) ∧ w'.cell? ⟨ad120.block, ad120.off + 9, none⟩ = some (.int .u8 (rd t110 9)) ∧ w'.cell? ⟨ad120.block, ad120.off + 10, none⟩ = some (.int .u8 (rd t110 10)) ∧ w'.cell? ⟨ad120.block, ad120.off + 11, none⟩ = some (.int .u8 (rd t110 11))) (ds := []) #[false, false, false, false, false, false, false, false, false, false, false, false, false, false, false, false, false, false, false, false, false, false, false, false, false, false, false, false, false, false, false, false, false, false, false] (by kernel_rfl) rfl rfl ⟨(blk_cell BK109.out 0).trans rfl, (blk_cell BK109.out 1).trans rfl, (blk_cell BK109.out 2).trans rfl, (blk_cell BK109.out 3).trans rfl, hx120_0, hx121_0, hx122_0, hx123_0⟩ (fun hHeld => ?_); refine with_tabW scullerlaw14_TokenForm.tab16 scullerlaw14_TokenForm.bits16 (fun HT_ HW_ => ?_)
                         generalize wr.drew = w48 at HO_10 HO_110001 HO_110003 BK109 HB hx120_0 hx121_0 hx122_0 hx123_0 hHeld ⊢
                         refine one_ (i := 0) (N := some 93) #[true, false, false, false, false, false, false, false, false, false, false, false, false, false, false, false, false, false, false, false, false, false, false, false, false, false, false, false, false, false, false, false, false, false, false] rfl rfl (one_of HT_.out (by kernel_rfl)) (by decide) (fun K hK => ?_)
                         refine goes_ Try.func11 (by kernel_rfl) rfl #[] (by rfl) rfl rfl (by (try simp only [List.map_toArray, List.map_cons, List.map_nil]); first | done | rfl | (simp only [List.length_drop, List.length_take]; rfl)) ?_
                         with_reducible refine (scullerlaw14_known_c.calls  true _ A41.out).mono ?_
                         rintro e w49 ⟨rfl, hb⟩
                         have HS4_ := (hb.cell (World.block_lt_of_cell? _ _ (hHeld.2.2.2.2.1))).trans (hHeld.2.2.2.2.1)
                         have HS5_ := (hb.cell (World.block_lt_of_cell? _ _ (hHeld.2.2.2.2.2.1))).trans (hHeld.2.2.2.2.2.1)
                         have HS6_ := (hb.cell (World.block_lt_of_cell? _ _ (hHeld.2.2.2.2.2.2.1))).trans (hHeld.2.2.2.2.2.2.1)
                         have HS7_ := (hb.cell (World.block_lt_of_cell? _ _ (hHeld.2.2.2.2.2.2.2))).trans (hHeld.2.2.2.2.2.2.2)
                         refine ⟨_, rfl, ?_⟩
                         have n0_ := Aside0.mk (Kd.R_below (by (with_reducible repeat (first | apply Kd.R_alloc | apply Kd.R_drewN | apply Kd.R_drew)); exact HO_10.out) hb)
                         have n1_ := Aside0.mk (Kd.R_below (by (with_reducible repeat (first | apply Kd.R_alloc | apply Kd.R_drewN | apply Kd.R_drew)); exact HO_110001.out) hb)
                         have n2_ := Aside0.mk (Kd.R_below (by (with_reducible repeat (first | apply Kd.R_alloc | apply Kd.R_drewN | apply Kd.R_drew)); exact HO_110003.out) hb)
                         have n3_ := Aside0.mk (blk_below (g := gb109) (o := .cells #[.int .u64 t101, .slice Ao11 t102.length co11, .int .u32 t105, .slice Ao12 t106.length co12] 29 (0, 0)) (by (with_reducible repeat (first | refine blk_drewN ?_ _ | refine blk_drew ?_ | refine blk_alloc ?_ _)); exact BK109.out) hb)
                         have n4_ := Aside0.mk (below_step (by repeat (first | (with_reducible first | exact HB.out | apply below_alloc | apply pw_below_drewN | apply below_drew1 | refine below_set ?_ GE109.out) | exact HB.out)) hb)
                         clear HO_10
                         clear HO_110001
                         clear HO_110003
                         clear BK109
                         clear HB
                         have HO_10 := n0_
                         have HO_110001 := n1_
                         have HO_110003 := n2_
                         have BK109 := n3_
                         have HB := n4_
                         clear n0_ n1_ n2_ n3_ n4_
                         (try clear hb)
                         (try clear hb2)
                         (try clear hk)
                         (try clear hi)
                         obtain ⟨Ao50, co50, eo50⟩ := Kd.R_slice HO_10.out
                         (first | subst eo50 | (injection eo50 with f1_ f2_ f3_; have f4_ := f1_.symm; have f5_ := f3_.symm; clear f1_ f2_ f3_; subst f4_; subst f5_))
                         refine hK.out _ _ ⟨(blk_cell BK109.out 0).trans rfl, (blk_cell BK109.out 1).trans rfl, (blk_cell BK109.out 2).trans rfl, (blk_cell BK109.out 3).trans rfl, HS4_, HS5_, HS6_, HS7_⟩ (fun hHeld => ?_)
                         clear hK K
                         refine norm_ (a' := ?_) ?_ ?_
                         rotate_left
                         · show Act.put _ (some 93) _ = _
                           simp only [Act.put, List.setIfInBounds_toArray, List.set_cons_zero, List.set_cons_succ, i64_w, i32_w]
                           rfl
                         refine pure_ (i := 1) (N := some 94) (v := ?_) (a' := ?_) #[true, true, false, false, false, false, false, false, false, false, false, false, false, false, false, false, false, false, false, false, false, false, false, false, false, false, false, false, false, false, false, false, false, false, false] rfl rfl (any_of HT_.out (by kernel_rfl)) (fun _ _ _ h => h) (Or.inl ⟨by rfl, ?_⟩) ?_ ?_
                         rotate_left
                         · intro w'
                           go_simp
                           with_reducible rfl
                         rotate_left
                         · simp only [Act.put, List.setIfInBounds_toArray, List.set_cons_zero, List.set_cons_succ, i64_w, i32_w]
                           rfl
                         refine pure_ (i := 2) (N := some 95) (v := ?_) (a' := ?_) #[true, true, true, false, false, false, false, false, false, false, false, false, false, false, false, false, false, false, false, false, false, false, false, false, false, false, false, false, false, false, false, false, false, false, false] rfl rfl (any_of HT_.out (by kernel_rfl)) (fun _ _ _ h => h) (Or.inl ⟨by rfl, ?_⟩) ?_ ?_
                         rotate_left
                         · intro w'
                           go_simp
                           with_reducible rfl
                         rotate_left
                         · simp only [Act.put, List.setIfInBounds_toArray, List.set_cons_zero, List.set_cons_succ, i64_w, i32_w]
                           rfl
                         refine pure_ (i := 3) (N := some 96) (v := ?_) (a' := ?_) #[true, true, true, true, false, false, false, false, false, false, false, false, false, false, false, false, false, false, false, false, false, false, false, false, false, false, false, false, false, false, false, false, false, false, false] rfl rfl (any_of HT_.out (by kernel_rfl)) (fun _ _ _ h => h) (Or.inl ⟨by rfl, ?_⟩) ?_ ?_
                         rotate_left
                         · intro w'
                           go_simp
                           with_reducible rfl
                         rotate_left
                         · simp only [Act.put, List.setIfInBounds_toArray, List.set_cons_zero, List.set_cons_succ, i64_w, i32_w]
                           rfl
                         refine pure_ (i := 4) (N := some 97) (v := ?_) (a' := ?_) #[true, true, true, true, true, false, false, false, false, false, false, false, false, false, false, false, false, false, false, false, false, false, false, false, false, false, false, false, false, false, false, false, false, false, false] rfl rfl (any_of HT_.out (by kernel_rfl)) (fun _ _ _ h => h) (Or.inl ⟨by rfl, ?_⟩) ?_ ?_
                         rotate_left
                         · intro w'
                           go_simp
                           with_reducible rfl
                         rotate_left
                         · simp only [Act.put, List.setIfInBounds_toArray, List.set_cons_zero, List.set_cons_succ, i64_w, i32_w]
                           rfl
                         refine pure_ (i := 5) (N := some 98) (v := ?_) (a' := ?_) #[true, true, true, true, true, true, false, false, false, false, false, false, false, false, false, false, false, false, false, false, false, false, false, false, false, false, false, false, false, false, false, false, false, false, false] rfl rfl (any_of HT_.out (by kernel_rfl)) (fun _ _ _ h => h) (Or.inl ⟨by rfl, ?_⟩) ?_ ?_
                         rotate_left
                         · intro w'
                           go_simp
                           with_reducible rfl
                         rotate_left
                         · simp only [Act.put, List.setIfInBounds_toArray, List.set_cons_zero, List.set_cons_succ, i64_w, i32_w]
                           rfl
                         refine pure_ (i := 6) (N := some 99) (v := ?_) (a' := ?_) #[true, true, true, true, true, true, true, false, false, false, false, false, false, false, false, false, false, false, false, false, false, false, false, false, false, false, false, false, false, false, false, false, false, false, false] rfl rfl (any_of HT_.out (by kernel_rfl)) (fun _ _ _ h => h) (Or.inl ⟨by rfl, ?_⟩) ?_ ?_
                         rotate_left
                         · intro w'
                           go_simp
                           with_reducible rfl
                         rotate_left
                         · simp only [Act.put, List.setIfInBounds_toArray, List.set_cons_zero, List.set_cons_succ, i64_w, i32_w]
                           rfl
                         refine pure_ (i := 7) (N := some 100) (v := ?_) (a' := ?_) #[true, true, true, true, true, true, true, true, false, false, false, false, false, false, false, false, false, false, false, false, false, false, false, false, false, false, false, false, false, false, false, false, false, false, false] rfl rfl (any_of HT_.out (by kernel_rfl)) (fun _ _ _ h => h) (Or.inl ⟨by rfl, ?_⟩) ?_ ?_
                         rotate_left
                         · intro w'
                           go_simp
                           with_reducible rfl
                         rotate_left
                         · simp only [Act.put, List.setIfInBounds_toArray, List.set_cons_zero, List.set_cons_succ, i64_w, i32_w]
                           rfl
                         refine pure_ (i := 8) (N := some 101) (v := ?_) (a' := ?_) #[true, true, true, true, true, true, true, true, true, false, false, false, false, false, false, false, false, false, false, false, false, false, false, false, false, false, false, false, false, false, false, false, false, false, false] rfl rfl (any_of HT_.out (by kernel_rfl)) (fun _ _ _ h => h) (Or.inl ⟨by rfl, ?_⟩) ?_ ?_
                         rotate_left
                         · intro w'
                           go_simp
                           with_reducible rfl
                         rotate_left
                         · simp only [Act.put, List.setIfInBounds_toArray, List.set_cons_zero, List.set_cons_succ, i64_w, i32_w]
                           rfl
                         refine pure_ (i := 11) (N := some 104) (v := ?_) (a' := ?_) #[true, true, true, true, true, true, true, true, true, false, false, true, false, false, false, false, false, false, false, false, false, false, false, false, false, false, false, false, false, false, false, false, false, false, false] rfl rfl (any_of HT_.out (by kernel_rfl)) (fun _ _ _ h => h) (Or.inl ⟨by rfl, ?_⟩) ?_ ?_
                         rotate_left
                         · intro w'
                           go_simp
                           with_reducible rfl
                         rotate_left
                         · simp only [Act.put, List.setIfInBounds_toArray, List.set_cons_zero, List.set_cons_succ, i64_w, i32_w]
                           rfl
                         refine pure_ (i := 12) (N := some 105) (v := ?_) (a' := ?_) #[true, true, true, true, true, true, true, true, true, false, false, true, true, false, false, false, false, false, false, false, false, false, false, false, false, false, false, false, false, false, false, false, false, false, false] rfl rfl (any_of HT_.out (by kernel_rfl)) (fun _ _ _ h => h) (Or.inl ⟨by rfl, ?_⟩) ?_ ?_
                         rotate_left
                         · intro w'
                           go_simp
                           with_reducible rfl
                         rotate_left
                         · simp only [Act.put, List.setIfInBounds_toArray, List.set_cons_zero, List.set_cons_succ, i64_w, i32_w]
                           rfl
                         refine pure_ (i := 17) (N := some 110) (v := ?_) (a' := ?_) #[true, true, true, true, true, true, true, true, true, false, false, true, true, false, false, false, false, true, false, false, false, false, false, false, false, false, false, false, false, false, false, false, false, false, false] rfl rfl (any_of HT_.out (by kernel_rfl)) (fun _ _ _ h => h) (Or.inl ⟨by rfl, ?_⟩) ?_ ?_
                         rotate_left
                         · intro w'
                           go_simp
                           with_reducible rfl
                         rotate_left
                         · simp only [Act.put, List.setIfInBounds_toArray, List.set_cons_zero, List.set_cons_succ, i64_w, i32_w]
                           rfl
                         refine pure_ (i := 18) (N := some 111) (v := ?_) (a' := ?_) #[true, true, true, true, true, true, true, true, true, false, false, true, true, false, false, false, false, true, true, false, false, false, false, false, false, false, false, false, false, false, false, false, false, false, false] rfl rfl (any_of HT_.out (by kernel_rfl)) (fun _ _ _ h => h) (Or.inl ⟨by rfl, ?_⟩) ?_ ?_
                         rotate_left
                         · intro w'
                           go_simp
                           with_reducible rfl
                         rotate_left
                         · simp only [Act.put, List.setIfInBounds_toArray, List.set_cons_zero, List.set_cons_succ, i64_w, i32_w]
                           rfl
                         refine pure_ (i := 23) (N := some 116) (v := ?_) (a' := ?_) #[true, true, true, true, true, true, true, true, true, false, false, true, true, false, false, false, false, true, true, false, false, false, false, true, false, false, false, false, false, false, false, false, false, false, false] rfl rfl (any_of HT_.out (by kernel_rfl)) (fun _ _ _ h => h) (Or.inl ⟨by rfl, ?_⟩) ?_ ?_
                         rotate_left
                         · intro w'
                           go_simp
                           with_reducible rfl
                         rotate_left
                         · simp only [Act.put, List.setIfInBounds_toArray, List.set_cons_zero, List.set_cons_succ, i64_w, i32_w]
                           rfl
                         refine pure_ (i := 24) (N := some 117) (v := ?_) (a' := ?_) #[true, true, true, true, true, true, true, true, true, false, false, true, true, false, false, false, false, true, true, false, false, false, false, true, true, false, false, false, false, false, false, false, false, false, false] rfl rfl (any_of HT_.out (by kernel_rfl)) (fun _ _ _ h => h) (Or.inl ⟨by rfl, ?_⟩) ?_ ?_
                         rotate_left
                         · intro w'
                           go_simp
                           with_reducible rfl
                         rotate_left
                         · simp only [Act.put, List.setIfInBounds_toArray, List.set_cons_zero, List.set_cons_succ, i64_w, i32_w]
                           rfl
                         refine pure_ (i := 29) (N := some 122) (v := ?_) (a' := ?_) #[true, true, true, true, true, true, true, true, true, false, false, true, true, false, false, false, false, true, true, false, false, false, false, true, true, false, false, false, false, true, false, false, false, false, false] rfl rfl (any_of HT_.out (by kernel_rfl)) (fun _ _ _ h => h) (Or.inl ⟨by rfl, ?_⟩) ?_ ?_
                         rotate_left
                         · intro w'
                           go_simp
                           with_reducible rfl
                         rotate_left
                         · simp only [Act.put, List.setIfInBounds_toArray, List.set_cons_zero, List.set_cons_succ, i64_w, i32_w]
                           rfl
                         refine pure_ (i := 30) (N := some 123) (v := ?_) (a' := ?_) #[true, true, true, true, true, true, true, true, true, false, false, true, true, false, false, false, false, true, true, false, false, false, false, true, true, false, false, false, false, true, true, false, false, false, false] rfl rfl (any_of HT_.out (by kernel_rfl)) (fun _ _ _ h => h) (Or.inl ⟨by rfl, ?_⟩) ?_ ?_
                         rotate_left
                         · intro w'
                           go_simp
                           with_reducible rfl
                         rotate_left
                         · simp only [Act.put, List.setIfInBounds_toArray, List.set_cons_zero, List.set_cons_succ, i64_w, i32_w]
                           rfl
                         refine take_ (i := 9) (N := some 102) (v := ?_) (a' := ?_) #[true, true, true, true, true, true, true, true, true, true, false, true, true, false, false, false, false, true, true, false, false, false, false, true, true, false, false, false, false, true, true, false, false, false, false] rfl rfl (take_ofW HT_.out HW_.out (by kernel_rfl)) (fun _ _ _ h => h) (Or.inl ⟨by rfl, ?_⟩) hHeld ?_ ?_
                         rotate_left
                         · rintro w' ⟨s0, s1, s2, s3, s4, s5, s6, s7⟩
                           go_simp
                           with_reducible rfl
                         rotate_left
                         · simp only [Act.put, List.setIfInBounds_toArray, List.set_cons_zero, List.set_cons_succ, i64_w, i32_w]
                           rfl
                         refine pure_ (i := 10) (N := some 103) (v := ?_) (a' := ?_) #[true, true, true, true, true, true, true, true, true, true, true, true, true, false, false, false, false, true, true, false, false, false, false, true, true, false, false, false, false, true, true, false, false, false, false] rfl rfl (any_of HT_.out (by kernel_rfl)) (fun _ _ _ h => h) (Or.inl ⟨by rfl, ?_⟩) ?_ ?_
                         rotate_left
                         · intro w'
                           go_simp
                           with_reducible rfl
                         rotate_left
                         · simp only [Act.put, List.setIfInBounds_toArray, List.set_cons_zero, List.set_cons_succ, i64_w, i32_w]
                           rfl
                         refine take_ (i := 13) (N := some 106) (v := ?_) (a' := ?_) #[true, true, true, true, true, true, true, true, true, true, true, true, true, true, false, false, false, true, true, false, false, false, false, true, true, false, false, false, false, true, true, false, false, false, false] rfl rfl (take_ofW HT_.out HW_.out (by kernel_rfl)) (fun _ _ _ h => h) (Or.inl ⟨by rfl, ?_⟩) hHeld ?_ ?_
                         rotate_left
                         · rintro w' ⟨s0, s1, s2, s3, s4, s5, s6, s7⟩
                           go_simp
                           with_reducible rfl
                         rotate_left
                         · simp only [Act.put, List.setIfInBounds_toArray, List.set_cons_zero, List.set_cons_succ, i64_w, i32_w]
                           rfl
                         refine pure_ (i := 14) (N := some 107) (v := ?_) (a' := ?_) #[true, true, true, true, true, true, true, true, true, true, true, true, true, true, true, false, false, true, true, false, false, false, false, true, true, false, false, false, false, true, true, false, false, false, false] rfl rfl (any_of HT_.out (by kernel_rfl)) (fun _ _ _ h => h) (Or.inl ⟨by rfl, ?_⟩) ?_ ?_
                         rotate_left
                         · intro w'
                           go_simp
                           with_reducible rfl
                         rotate_left
                         · simp only [Act.put, List.setIfInBounds_toArray, List.set_cons_zero, List.set_cons_succ, i64_w, i32_w]
                           rfl
                         refine pure_ (i := 15) (N := some 108) (v := ?_) (a' := ?_) #[true, true, true, true, true, true, true, true, true, true, true, true, true, true, true, true, false, true, true, false, false, false, false, true, true, false, false, false, false, true, true, false, false, false, false] rfl rfl (any_of HT_.out (by kernel_rfl)) (fun _ _ _ h => h) (Or.inl ⟨by rfl, ?_⟩) ?_ ?_
                         rotate_left
                         · intro w'
                           go_simp
                           with_reducible rfl
                         rotate_left
                         · simp only [Act.put, List.setIfInBounds_toArray, List.set_cons_zero, List.set_cons_succ, i64_w, i32_w]
                           rfl
                         refine pure_ (i := 16) (N := some 109) (v := ?_) (a' := ?_) #[true, true, true, true, true, true, true, true, true, true, true, true, true, true, true, true, true, true, true, false, false, false, false, true, true, false, false, false, false, true, true, false, false, false, false] rfl rfl (any_of HT_.out (by kernel_rfl)) (fun _ _ _ h => h) (Or.inl ⟨by rfl, ?_⟩) ?_ ?_
                         rotate_left
                         · intro w'
                           go_simp
                           with_reducible rfl
                         rotate_left
                         · simp only [Act.put, List.setIfInBounds_toArray, List.set_cons_zero, List.set_cons_succ, i64_w, i32_w]
                           rfl
                         refine take_ (i := 19) (N := some 112) (v := ?_) (a' := ?_) #[true, true, true, true, true, true, true, true, true, true, true, true, true, true, true, true, true, true, true, true, false, false, false, true, true, false, false, false, false, true, true, false, false, false, false] rfl rfl (take_ofW HT_.out HW_.out (by kernel_rfl)) (fun _ _ _ h => h) (Or.inl ⟨by rfl, ?_⟩) hHeld ?_ ?_
                         rotate_left
                         · rintro w' ⟨s0, s1, s2, s3, s4, s5, s6, s7⟩
                           go_simp
                           with_reducible rfl
                         rotate_left
                         · simp only [Act.put, List.setIfInBounds_toArray, List.set_cons_zero, List.set_cons_succ, i64_w, i32_w]
                           rfl
                         refine pure_ (i := 20) (N := some 113) (v := ?_) (a' := ?_) #[true, true, true, true, true, true, true, true, true, true, true, true, true, true, true, true, true, true, true, true, true, false, false, true, true, false, false, false, false, true, true, false, false, false, false] rfl rfl (any_of HT_.out (by kernel_rfl)) (fun _ _ _ h => h) (Or.inl ⟨by rfl, ?_⟩) ?_ ?_
                         rotate_left
                         · intro w'
                           go_simp
                           with_reducible rfl
                         rotate_left
                         · simp only [Act.put, List.setIfInBounds_toArray, List.set_cons_zero, List.set_cons_succ, i64_w, i32_w]
                           rfl
                         refine pure_ (i := 21) (N := some 114) (v := ?_) (a' := ?_) #[true, true, true, true, true, true, true, true, true, true, true, true, true, true, true, true, true, true, true, true, true, true, false, true, true, false, false, false, false, true, true, false, false, false, false] rfl rfl (any_of HT_.out (by kernel_rfl)) (fun _ _ _ h => h) (Or.inl ⟨by rfl, ?_⟩) ?_ ?_
                         rotate_left
                         · intro w'
                           go_simp
                           with_reducible rfl
                         rotate_left
                         · simp only [Act.put, List.setIfInBounds_toArray, List.set_cons_zero, List.set_cons_succ, i64_w, i32_w]
                           rfl
                         refine pure_ (i := 22) (N := some 115) (v := ?_) (a' := ?_) #[true, true, true, true, true, true, true, true, true, true, true, true, true, true, true, true, true, true, true, true, true, true, true, true, true, false, false, false, false, true, true, false, false, false, false] rfl rfl (any_of HT_.out (by kernel_rfl)) (fun _ _ _ h => h) (Or.inl ⟨by rfl, ?_⟩) ?_ ?_
                         rotate_left
                         · intro w'
                           go_simp
                           with_reducible rfl
                         rotate_left
                         · simp only [Act.put, List.setIfInBounds_toArray, List.set_cons_zero, List.set_cons_succ, i64_w, i32_w]
                           rfl
                         refine take_ (i := 25) (N := some 118) (v := ?_) (a' := ?_) #[true, true, true, true, true, true, true, true, true, true, true, true, true, true, true, true, true, true, true, true, true, true, true, true, true, true, false, false, false, true, true, false, false, false, false] rfl rfl (take_ofW HT_.out HW_.out (by kernel_rfl)) (fun _ _ _ h => h) (Or.inl ⟨by rfl, ?_⟩) hHeld ?_ ?_
                         rotate_left
                         · rintro w' ⟨s0, s1, s2, s3, s4, s5, s6, s7⟩
                           go_simp
                           with_reducible rfl
                         rotate_left
                         · simp only [Act.put, List.setIfInBounds_toArray, List.set_cons_zero, List.set_cons_succ, i64_w, i32_w]
                           rfl
                         refine pure_ (i := 26) (N := some 119) (v := ?_) (a' := ?_) #[true, true, true, true, true, true, true, true, true, true, true, true, true, true, true, true, true, true, true, true, true, true, true, true, true, true, true, false, false, true, true, false, false, false, false] rfl rfl (any_of HT_.out (by kernel_rfl)) (fun _ _ _ h => h) (Or.inl ⟨by rfl, ?_⟩) ?_ ?_
                         rotate_left
                         · intro w'
                           go_simp
                           with_reducible rfl
                         rotate_left
                         · simp only [Act.put, List.setIfInBounds_toArray, List.set_cons_zero, List.set_cons_succ, i64_w, i32_w]
                           rfl
                         refine pure_ (i := 27) (N := some 120) (v := ?_) (a' := ?_) #[true, true, true, true, true, true, true, true, true, true, true, true, true, true, true, true, true, true, true, true, true, true, true, true, true, true, true, true, false, true, true, false, false, false, false] rfl rfl (any_of HT_.out (by kernel_rfl)) (fun _ _ _ h => h) (Or.inl ⟨by rfl, ?_⟩) ?_ ?_
                         rotate_left
                         · intro w'
                           go_simp
                           with_reducible rfl
                         rotate_left
                         · simp only [Act.put, List.setIfInBounds_toArray, List.set_cons_zero, List.set_cons_succ, i64_w, i32_w]
                           rfl
                         refine pure_ (i := 28) (N := some 121) (v := ?_) (a' := ?_) #[true, true, true, true, true, true, true, true, true, true, true, true, true, true, true, true, true, true, true, true, true, true, true, true, true, true, true, true, true, true, true, false, false, false, false] rfl rfl (any_of HT_.out (by kernel_rfl)) (fun _ _ _ h => h) (Or.inl ⟨by rfl, ?_⟩) ?_ ?_
                         rotate_left
                         · intro w'
                           go_simp
                           with_reducible rfl
                         rotate_left
                         · simp only [Act.put, List.setIfInBounds_toArray, List.set_cons_zero, List.set_cons_succ, i64_w, i32_w]
                           rfl
                         refine take_ (i := 31) (N := some 124) (v := ?_) (a' := ?_) #[true, true, true, true, true, true, true, true, true, true, true, true, true, true, true, true, true, true, true, true, true, true, true, true, true, true, true, true, true, true, true, true, false, false, false] rfl rfl (take_ofW HT_.out HW_.out (by kernel_rfl)) (fun _ _ _ h => h) (Or.inl ⟨by rfl, ?_⟩) hHeld ?_ ?_
                         rotate_left
                         · rintro w' ⟨s0, s1, s2, s3, s4, s5, s6, s7⟩
                           go_simp
                           with_reducible rfl
                         rotate_left
                         · simp only [Act.put, List.setIfInBounds_toArray, List.set_cons_zero, List.set_cons_succ, i64_w, i32_w]
                           rfl
                         refine pure_ (i := 32) (N := some 125) (v := ?_) (a' := ?_) #[true, true, true, true, true, true, true, true, true, true, true, true, true, true, true, true, true, true, true, true, true, true, true, true, true, true, true, true, true, true, true, true, true, false, false] rfl rfl (any_of HT_.out (by kernel_rfl)) (fun _ _ _ h => h) (Or.inl ⟨by rfl, ?_⟩) ?_ ?_
                         rotate_left
                         · intro w'
                           go_simp
                           with_reducible rfl
                         rotate_left
                         · simp only [Act.put, List.setIfInBounds_toArray, List.set_cons_zero, List.set_cons_succ, i64_w, i32_w]
                           rfl
                         refine pure_ (i := 33) (N := some 126) (v := ?_) (a' := ?_) #[true, true, true, true, true, true, true, true, true, true, true, true, true, true, true, true, true, true, true, true, true, true, true, true, true, true, true, true, true, true, true, true, true, true, false] rfl rfl (any_of HT_.out (by kernel_rfl)) (fun _ _ _ h => h) (Or.inl ⟨by rfl, ?_⟩) ?_ ?_
                         rotate_left
                         · intro w'
                           go_simp
                           with_reducible rfl
                         rotate_left
                         · simp only [Act.put, List.setIfInBounds_toArray, List.set_cons_zero, List.set_cons_succ, i64_w, i32_w]
                           rfl
                         refine pure_ (i := 34) (N := some 8) (v := ?_) (a' := ?_) #[true, true, true, true, true, true, true, true, true, true, true, true, true, true, true, true, true, true, true, true, true, true, true, true, true, true, true, true, true, true, true, true, true, true, true] rfl rfl (any_of HT_.out (by kernel_rfl)) (fun _ _ _ h => h) (Or.inl ⟨by rfl, ?_⟩) ?_ ?_
                         rotate_left
                         · intro w'
                           go_simp
                           with_reducible rfl
                         rotate_left
                         · simp only [Act.put, List.setIfInBounds_toArray, List.set_cons_zero, List.set_cons_succ, i64_w, i32_w]
                           rfl
                         refine done_ (done_of HT_.out (by kernel_rfl)) ?_
                         try go_wp2
                         go_ret
                         exact ⟨by first | rfl | (simp [errW_none, errW_some] <;> rfl) | (simp [*, errW_none, errW_some] <;> rfl) | (refine congrArg Ending.returned (congrArg Value.bool ?_); simp only [(show ∀ z_ : Int, IntKind.u32.wrap z_ = z_ % 4294967296 from fun z_ => by simp only [IntKind.wrap, IntKind.signed, IntKind.bits]; simp)]; congr 1; omega), by repeat (first | (with_reducible first | exact HB.out | apply below_alloc | apply pw_below_drewN | apply below_drew1 | refine below_set ?_ GE109.out) | exact HB.out)⟩
                       · rw [if_neg c47] at H
                         exact absurd H (by simp)
                     · rw [if_neg c46] at H
                       exact absurd H (by simp)
                   · rw [if_neg c45] at H
                     exact absurd H (by simp)
                 · rw [if_neg c44] at H
                   exact absurd H (by simp)
               · rw [if_neg c43] at H
                 have c43b0 : (x13_2 == a0) = false := beq_eq_false_iff_ne.mpr c43
                 have c43b1 : (x13_2 != a0) = true := bne_iff_ne.mpr c43
                 exact absurd H (by rw [hr_.out]; simp)
             · replace c42 := Bool.eq_false_iff.mpr c42
               subst c42
               have H1 : (some false) = some r := by rw [if_neg (show ¬ (false = true) by decide)] at H; exact H
               clear H
               have H := H1
               clear H1
               exact absurd H (by rw [hr_.out]; simp)

/-- THE ONE PURE STATEMENT of scullerlaw14_TokenForm: yours. -/
def scullerlaw14_TokenForm.Pure : Prop := ∀ (a0 : Int) (l1 : List Int) (a2 : Int) (a3 : Int), (Lit.int .u64 a0).wf = true → l1.length ≤ maxLen → l1.length * 1 ≤ 140737488351232 → (∀ x ∈ l1, (Lit.int .u8 x).wf = true) → (Lit.int .u8 a2).wf = true → (Lit.int .u8 a3).wf = true → ∃ k, scullerlaw14_TokenForm.f k a0 l1 a2 a3 = some true
theorem scullerlaw14_TokenForm.walk (P : scullerlaw14_TokenForm.Pure) (a0 : Int) (a1 : Option Addr) (len1 cap1 : Nat) (z1 : List Int) (a2 : Int) (a3 : Int) (w : World) (w0 : (Lit.int .u64 a0).wf = true) (w1 : (a1 = none ∧ len1 = 0 ∧ cap1 = 0 ∧ z1 = []) ∨ ∃ x, a1 = some x ∧ len1 ≤ cap1 ∧ cap1 ≤ maxLen ∧ z1.length = cap1 ∧ (∀ i, i < z1.length → w.cell? (x.add i) = some (.int .u8 (z1.getD i 0))) ∧ ∀ n ∈ z1, (Lit.int .u8 n).wf = true) (y1 : len1 * 1 ≤ 140737488351232) (w2 : (Lit.int .u8 a2).wf = true) (w3 : (Lit.int .u8 a3).wf = true) :
 Calls Try.prog 7 #[.int .u64 a0, .slice a1 len1 cap1, .int .u8 a2, .int .u8 a3] w fun e w' => e = .returned (.bool true) ∧ Below w.heap.size w w' := by
 obtain ⟨l1, rfl, hr1, hm1, hw1, hc1⟩ := ReadsInt.ofRowC w1
 obtain ⟨k, h⟩ := P a0 l1 a2 a3 w0 hm1 y1 hw1 w2 w3
 refine (scullerlaw14_TokenForm.calls k a0 _ _ l1 a2 a3 true w (Kd.C_of_reads (d := (0 : Int)) (h1 := fun _ => rfl) hr1) hc1 h ⟨rfl⟩).mono ?_
 rintro e w' ⟨rfl, hd⟩
 exact ⟨rfl, hd⟩

end Go.Proofs.Ytbijnfhcbanhdaa.F
end

section
/- Numbers in the bounds of their kinds. -/
namespace Go.Proofs.Ytbijnfhcbanhdaa.Pure
open Go.RowKit Go.Proofs.Ytbijnfhcbanhdaa.H
theorem byte_wf {x : Int} (h : (Lit.int .u8 x).wf = true) : 0 ≤ x ∧ x ≤ 255 := by
 simp [Lit.wf, IntKind.min, IntKind.max, IntKind.signed, IntKind.bits] at h
 omega
theorem bytes_wf {l : List Int} (h : ∀ x ∈ l, (Lit.int .u8 x).wf = true) : bytesB l = true := bytesB_of fun x hx => byte_wf (h x hx)
end Go.Proofs.Ytbijnfhcbanhdaa.Pure
end

section
/- What a token's bytes are read back as. -/
namespace Go.Proofs.Ytbijnfhcbanhdaa.Pure
set_option linter.unusedVariables false
open Go.RowKit Go.Proofs.Ytbijnfhcbanhdaa.F Go.Proofs.Ytbijnfhcbanhdaa.H Go.Proofs.YtbijnfhcbanhdaaW.PrintWords Go.Proofs.YtbijnfhcbanhdaaW.PrintLast Go.Proofs.YtbijnfhcbanhdaaW.PrintMore
theorem known14 : scullerlaw14_known_c.f = some true := rfl
theorem tokenB_eq (s : Int) (sizes : List Int) (sum : Int) (known : List Int) : tokenB s sizes sum known = putL s 8 ++ (putL sum 4 ++ (putL sizes.length 1 ++ ((sizes.flatMap fun n => putL n 2) ++ known))) := by
 unfold tokenB tokenH
 rw [List.take_length]
 simp only [List.append_assoc]
theorem tokenB_length (s : Int) (sizes : List Int) (sum : Int) (known : List Int) : (tokenB s sizes sum known).length = 13 + 2 * sizes.length + known.length := by
 unfold tokenB
 rw [List.length_append, tokenH_length, List.take_length]
theorem tokenB_byte (s : Int) (sizes : List Int) (sum : Int) (known : List Int) (h : bytesB known = true) : bytesB (tokenB s sizes sum known) = true := by
 unfold tokenB
 rw [bytesB_append, tokenH_byte, h]
 rfl
theorem fits_small {sizes : List Int} (h : fitsB sizes = true) : sizes.length ≤ 255 ∧ ∀ x ∈ sizes, 0 ≤ x ∧ x ≤ 65535 := by
 obtain ⟨h1, h2, h3, h4, h5⟩ := fitsB_at h
 refine ⟨by omega, fun x hx => ⟨h4 x hx, ?_⟩⟩
 obtain ⟨i, hi, rfl⟩ := List.getElem_of_mem hx
 have := mem_le_sum h4 i hi
 omega
theorem rightT_fits {sizes known : List Int} (h : rightT sizes known = true) : fitsB sizes = true := by
 unfold rightT at h
 rw [Bool.and_eq_true] at h
 exact h.1
/-- The statements' token: what it is. -/
structure TokOk (s : Int) (sizes : List Int) (sum : Int) (known : List Int) : Prop where
 u : u64B s = true
 m : 0 ≤ sum ∧ sum < 4294967296
 r : rightT sizes known = true
 k : bytesB known = true
 l : known.length ≤ 64
theorem TokOk.fits {s : Int} {sizes : List Int} {sum : Int} {known : List Int} (h : TokOk s sizes sum known) : fitsB sizes = true := rightT_fits h.r
theorem TokOk.enc {s : Int} {sizes : List Int} {sum : Int} {known : List Int} (h : TokOk s sizes sum known) : token_Encode_c.f s sizes sum known = some (sealL (tokenB s sizes sum known), 0) := by
 rw [token_Encode_c.f, if_pos ⟨h.k, by have := h.l; omega, h.m.1, h.m.2⟩, encodeL, if_pos h.r]
theorem TokOk.len {s : Int} {sizes : List Int} {sum : Int} {known : List Int} (h : TokOk s sizes sum known) : (known.length : Int) = ((wordsM sizes + 7) / 8 + 7) / 8 := by
 have h2 := h.r
 unfold rightT at h2
 rw [Bool.and_eq_true] at h2
 exact rightBits_length h2.2
theorem TokOk.size {s : Int} {sizes : List Int} {sum : Int} {known : List Int} (h : TokOk s sizes sum known) : (sealL (tokenB s sizes sum known)).length = 17 + 2 * sizes.length + known.length := by
 rw [sealL_length, tokenB_length]; omega
theorem TokOk.byte {s : Int} {sizes : List Int} {sum : Int} {known : List Int} (h : TokOk s sizes sum known) : bytesB (sealL (tokenB s sizes sum known)) = true := sealL_byte _ (tokenB_byte s sizes sum known h.k)
theorem tokenC_ok {s : Int} (hs : u64B s = true) {c : List Int} (hc : bytesB c = true) {n m : Int} (hn : 0 ≤ n) (hm : 0 ≤ m) : TokOk (tokenC s c n m).1 (tokenC s c n m).2.1 (tokenC s c n m).2.2.1 (tokenC s c n m).2.2.2 := by
 have hk := knownL_right hc (chunksL_range (arena12L c n m)).1
 have hr := chunksL_range (arena12L c n m)
 refine ⟨hs, moreL_range 0 _ (by omega) (by rw [bytesB_append, ofBytes_byte, bytesB_of (bytesL_byte _)]; rfl), tokenC_right hc hn hm, hk.1, ?_⟩
 have := rightBits_length hk.2
 show (knownL c (chunksL (arena12L c n m))).length ≤ 64
 omega
theorem token_is {s : Int} (hs : u64B s = true) {c : List Int} (hc : bytesB c = true) (hl : c.length ≤ 140737488351232) {n m : Int} (hn : 0 ≤ n) (hn1 : n ≤ 255) (hm : 0 ≤ m) (hm1 : m ≤ 255) :
 scullerlaw14_Token_c.f s c n m = some (tokenC s c n m) := if_pos ⟨hs, hc, hl, hn, hn1, hm, hm1⟩
theorem u64_wf {x : Int} (h : (Lit.int .u64 x).wf = true) : u64B x = true := by
 simp [Lit.wf, IntKind.min, IntKind.max, IntKind.signed, IntKind.bits] at h
 exact u64B_mk (by omega) (by omega)
end Go.Proofs.Ytbijnfhcbanhdaa.Pure
end

section
/- A token's bytes, one by one. -/
namespace Go.Proofs.Ytbijnfhcbanhdaa.Pure
set_option linter.unusedVariables false
open Go.RowKit Go.Proofs.Ytbijnfhcbanhdaa.F Go.Proofs.Ytbijnfhcbanhdaa.H Go.Proofs.YtbijnfhcbanhdaaW.PrintWords Go.Proofs.YtbijnfhcbanhdaaW.PrintLast Go.Proofs.YtbijnfhcbanhdaaW.PrintMore
theorem getD_put (x : Int) (m j : Nat) (h : j < m) (r : List Int) : (putL x m ++ r).getD j 0 = x / 2 ^ (8 * j) % 256 := by
 rw [List.getD_eq_getElem?_getD, List.getElem?_append_left (by rw [putL_length]; exact h), putL_at x m j h]
 rfl
theorem getD_behind (x : Int) (m j : Nat) (r : List Int) : (putL x m ++ r).getD (m + j) 0 = r.getD j 0 := by
 rw [List.getD_eq_getElem?_getD, List.getElem?_append_right (by rw [putL_length]; omega), putL_length, show m + j - m = j from by omega, ← List.getD_eq_getElem?_getD]
theorem getD_flat : ∀ (sizes r : List Int) (i : Nat) (h : i < sizes.length), ((sizes.flatMap fun n => putL n 2) ++ r).getD (2 * i) 0 = sizes[i] % 256 ∧ ((sizes.flatMap fun n => putL n 2) ++ r).getD (2 * i + 1) 0 = sizes[i] / 256 % 256
 | x :: sizes, r, 0, h => by
  rw [List.flatMap_cons, List.append_assoc, getD_put x 2 0 (by omega), getD_put x 2 1 (by omega)]
  simp
 | x :: sizes, r, i + 1, h => by
  rw [List.flatMap_cons, List.append_assoc, show 2 * (i + 1) = 2 + 2 * i from by omega, show 2 + 2 * i + 1 = 2 + (2 * i + 1) from by omega, getD_behind, getD_behind]
  exact getD_flat sizes r i (by simpa using h)
/-- What the statement asks of a token's bytes. -/
structure FormOk (s : Int) (sizes : List Int) (sum : Int) (b : List Int) : Prop where
 s8 : ∀ j, j < 8 → b.getD j 0 = s / 2 ^ (8 * j) % 256
 s4 : ∀ j, j < 4 → b.getD (8 + j) 0 = sum / 2 ^ (8 * j) % 256
 n : b.getD 12 0 = sizes.length % 256
 z : ∀ i (h : i < sizes.length), b.getD (13 + 2 * i) 0 = sizes[i] % 256 ∧ b.getD (14 + 2 * i) 0 = sizes[i] / 256 % 256
theorem form_ok (s : Int) (sizes : List Int) (sum : Int) (known : List Int) : FormOk s sizes sum (sealL (tokenB s sizes sum known)) := by
 unfold sealL
 rw [tokenB_eq]
 simp only [List.append_assoc]
 refine ⟨fun j hj => getD_put _ _ _ hj _, fun j hj => ?_, ?_, fun i h => ⟨?_, ?_⟩⟩
 · rw [getD_behind, getD_put _ _ _ hj]
 · rw [show 12 = 8 + (4 + 0) from rfl, getD_behind, getD_behind, getD_put _ _ _ (by omega)]
   simp
 · rw [show 13 + 2 * i = 8 + (4 + (1 + 2 * i)) from by omega, getD_behind, getD_behind, getD_behind]
   exact (getD_flat sizes _ i h).1
 · rw [show 14 + 2 * i = 8 + (4 + (1 + (2 * i + 1))) from by omega, getD_behind, getD_behind, getD_behind]
   exact (getD_flat sizes _ i h).2
theorem rd_nat (b : List Int) (j : Nat) : rd b (j : Int) = b.getD j 0 := by unfold rd; rw [Int.toNat_natCast]
theorem sum4_is (a b c d : Int) (ha : 0 ≤ a ∧ a ≤ 255) (hb : 0 ≤ b ∧ b ≤ 255) (hc : 0 ≤ c ∧ c ≤ 255) (hd : 0 ≤ d ∧ d ≤ 255) :
 ((((a % 4294967296 + b % 4294967296 * 256 % 4294967296) % 4294967296 + c % 4294967296 * 65536 % 4294967296) % 4294967296 + d % 4294967296 * 16777216 % 4294967296) % 4294967296) = a + b * 256 + c * 65536 + d * 16777216 := by
 have e1 : a % 4294967296 = a := by omega
 have e2 : b % 4294967296 * 256 % 4294967296 = b * 256 := by omega
 have e3 : c % 4294967296 * 65536 % 4294967296 = c * 65536 := by omega
 have e4 : d % 4294967296 * 16777216 % 4294967296 = d * 16777216 := by omega
 rw [e1, e2, e3, e4]
 have e5 : (a + b * 256) % 4294967296 = a + b * 256 := by omega
 have e6 : (a + b * 256 + c * 65536) % 4294967296 = a + b * 256 + c * 65536 := by omega
 rw [e5, e6]
 omega
theorem w_is (z : Int) (h : 0 ≤ z ∧ z ≤ 100000000) : wrap64 z = z := by unfold wrap64; omega
theorem two_is (x : Int) (hx : 0 ≤ x ∧ x ≤ 65535) : wrap64 (wrap64 (x % 256) + wrap64 (256 * wrap64 (x / 256 % 256))) = x := by
 rw [w_is (x % 256) (by omega), w_is (x / 256 % 256) (by omega), w_is (256 * (x / 256 % 256)) (by omega), w_is _ (by omega)]
 omega
theorem w13_nat (c i : Nat) (hc : c ≤ 20) (hi : i ≤ 1000) : wrap64 ((c : Int) + wrap64 (2 * (i : Int))) = ((c + 2 * i : Nat) : Int) := by
 rw [w_is (2 * (i : Int)) (by omega), w_is _ (by omega)]
 omega
theorem w1_nat (i : Nat) (hi : i ≤ 1000) : wrap64 ((i : Int) + 1) = ((i + 1 : Nat) : Int) := by
 rw [w_is _ (by omega)]
 omega
theorem len_is (n k : Nat) (hn : n ≤ 1000) (hk : k ≤ 1000) : wrap64 (wrap64 (wrap64 (13 + wrap64 (2 * (n : Int))) + (k : Int)) + 4) = ((17 + 2 * n + k : Nat) : Int) := by
 rw [w_is (2 * (n : Int)) (by omega), w_is (13 + 2 * (n : Int)) (by omega), w_is (13 + 2 * (n : Int) + (k : Int)) (by omega), w_is _ (by omega)]
 omega
theorem n12_is (n : Nat) (hn : n ≤ 255) : (wrap64 ((n : Int) % 256) != (n : Int)) = false := by
 rw [w_is _ (by omega)]
 simp
 omega
theorem four_is (n : Int) (h : 0 ≤ n ∧ n < 4294967296) : n % 256 + n / 256 % 256 * 256 + n / 65536 % 256 * 65536 + n / 16777216 % 256 * 16777216 = n := by omega
theorem tokenform_l1 (s : Int) (hs : u64B s = true) (sizes : List Int) (sum : Int) (hm : 0 ≤ sum ∧ sum < 4294967296) (known b : List Int) (hz : ∀ x ∈ sizes, 0 ≤ x ∧ x ≤ 65535) (hn : sizes.length ≤ 255) (hl : 17 + 2 * sizes.length ≤ b.length) (hb : b.length ≤ 1000000) (hf : FormOk s sizes sum b) :
 ∀ (d i : Nat), sizes.length - i = d → i ≤ sizes.length → ∃ k, scullerlaw14_TokenForm.l1 k s b sizes.length s i s sizes sum known = some true
 | 0, i, hd, hi => by
  refine ⟨1, ?_⟩
  have h0 := hf.s4 0 (by omega)
  have h1 := hf.s4 1 (by omega)
  have h2 := hf.s4 2 (by omega)
  have h3 := hf.s4 3 (by omega)
  simp only [Nat.mul_zero, Int.pow_zero, Int.ediv_one, Nat.add_zero, Nat.mul_one] at h0 h1 h2 h3
  rw [show (2 : Int) ^ 8 = 256 from rfl] at h1
  rw [show (2 : Int) ^ (8 * 2) = 65536 from rfl] at h2
  rw [show (2 : Int) ^ (8 * 3) = 16777216 from rfl] at h3
  have r0 : rd b 8 = b.getD 8 0 := rd_nat b 8
  have r1 : rd b 9 = b.getD 9 0 := rd_nat b 9
  have r2 : rd b 10 = b.getD 10 0 := rd_nat b 10
  have r3 : rd b 11 = b.getD 11 0 := rd_nat b 11
  rw [h0] at r0
  rw [h1] at r1
  rw [h2] at r2
  rw [h3] at r3
  rw [scullerlaw14_TokenForm.l1, if_neg (by omega), known14, Option.bind_some, if_pos rfl, if_pos rfl, if_pos (by omega), if_pos (by omega), if_pos (by omega), if_pos (by omega), r0, r1, r2, r3,
   sum4_is _ _ _ _ (by omega) (by omega) (by omega) (by omega), four_is sum hm]
  simp
 | d + 1, i, hd, hi => by
  have hlt : i < sizes.length := by omega
  obtain ⟨k, hk⟩ := tokenform_l1 s hs sizes sum hm known b hz hn hl hb hf d (i + 1) (by omega) (by omega)
  refine ⟨k + 1, ?_⟩
  have hx := hz _ (List.getElem_mem hlt)
  have hzz := hf.z i hlt
  have er : rd sizes (i : Int) = sizes[i] := getD_toNat sizes 0 i hlt
  have c1 : ((13 + 2 * i : Nat) : Int) < (b.length : Int) := by omega
  have c2 : ((14 + 2 * i : Nat) : Int) < (b.length : Int) := by omega
  have c3 : (i : Int) < (sizes.length : Int) := by omega
  have hi3 : i ≤ 1000 := by omega
  have e1 : wrap64 (13 + wrap64 (2 * (i : Int))) = ((13 + 2 * i : Nat) : Int) := w13_nat 13 i (by decide) hi3
  have e2 : wrap64 (14 + wrap64 (2 * (i : Int))) = ((14 + 2 * i : Nat) : Int) := w13_nat 14 i (by decide) hi3
  have e3 := two_is sizes[i] hx
  have e4 := w1_nat i hi3
  rw [scullerlaw14_TokenForm.l1, if_pos c3, e1, e2, if_pos (Int.natCast_nonneg _), if_pos c1, if_pos (Int.natCast_nonneg _), if_pos c2, if_pos (Int.natCast_nonneg _), if_pos c3, rd_nat, rd_nat, hzz.1, hzz.2, er, e3, if_pos rfl, e4]
  exact hk
theorem tokenform_l0 (s : Int) (hs : 0 ≤ s ∧ s < 18446744073709551616) (sizes : List Int) (sum : Int) (known b : List Int) (h8 : ∀ j, j < 8 → b.getD j 0 = s / 2 ^ (8 * j) % 256) (hl : 17 ≤ b.length) (n : Int) (k0 : Nat) (hk0 : scullerlaw14_TokenForm.l1 k0 s b n s 0 s sizes sum known = some true) :
 ∀ (j : Nat), j ≤ 8 → ∃ k, scullerlaw14_TokenForm.l0 k s b n (s / 2 ^ (8 * j)) ((j : Int) - 1) s sizes sum known = some true
 | 0, _ => by
  refine ⟨k0 + 1, ?_⟩
  rw [scullerlaw14_TokenForm.l0, if_neg (by omega), Nat.mul_zero, Int.pow_zero, Int.ediv_one]
  exact hk0
 | j + 1, hj => by
  obtain ⟨k, hk⟩ := tokenform_l0 s hs sizes sum known b h8 hl n k0 hk0 j (by omega)
  refine ⟨k + 1, ?_⟩
  have e : ((j + 1 : Nat) : Int) - 1 = (j : Int) := by omega
  have e2 : s / 2 ^ (8 * (j + 1)) = s / 2 ^ (8 * j) / 256 := by
   rw [pow8, Int.mul_comm, Int.ediv_ediv_of_nonneg (Int.le_of_lt (Int.pow_pos (by omega)))]
  have hq0 : 0 ≤ s / 2 ^ (8 * j) := Int.ediv_nonneg hs.1 (Int.le_of_lt (Int.pow_pos (by omega)))
  have hq1 : s / 2 ^ (8 * j) ≤ s := Int.ediv_le_self _ hs.1
  have e3 : IntKind.u64.wrap (IntKind.u64.wrap (256 * (s / 2 ^ (8 * j) / 256)) + IntKind.u64.wrap (s / 2 ^ (8 * j) % 256)) = s / 2 ^ (8 * j) := by
   generalize s / 2 ^ (8 * j) = q at hq0 hq1
   have hu : ∀ z : Int, 0 ≤ z → z < 18446744073709551616 → IntKind.u64.wrap z = z := fun z h0 h1 => by
    simp only [IntKind.wrap, IntKind.signed, IntKind.bits]; simp; omega
   rw [hu (256 * (q / 256)) (by omega) (by omega), hu (q % 256) (by omega) (by omega), hu _ (by omega) (by omega)]
   omega
  rw [e, scullerlaw14_TokenForm.l0, if_pos (by omega), if_pos (by omega), if_pos (by omega), rd_nat, h8 j (by omega), e2, e3, show wrap64 ((j : Int) - 1) = (j : Int) - 1 from by unfold wrap64; omega]
  exact hk
theorem TokenForm : scullerlaw14_TokenForm.Pure := by
 intro a0 l1 a2 a3 h0 h1 h2 h3 h4 h5
 have hs := u64_wf h0
 have hb := bytes_wf h3
 have hn := byte_wf h4
 have hm := byte_wf h5
 have hok := tokenC_ok hs hb hn.1 hm.1
 have htk := token_is hs hb (by omega) hn.1 hn.2 hm.1 hm.2
 have hfst : (tokenC a0 l1 a2 a3).1 = a0 := rfl
 generalize tokenC a0 l1 a2 a3 = t at hok htk hfst
 obtain ⟨s, sizes, sum, known⟩ := t
 dsimp only at hok hfst
 subst hfst
 have hsz := hok.size
 have h16 := (fitsB_at hok.fits).2.1
 have hz := fits_small hok.fits
 have hl64 := hok.l
 have hf := form_ok s sizes sum known
 have henc := hok.enc
 generalize sealL (tokenB s sizes sum known) = b at *
 have hs2 := hs
 simp only [u64B, Bool.and_eq_true, decide_eq_true_eq] at hs2
 obtain ⟨k1, hk1⟩ := tokenform_l1 s hs sizes sum hok.m known b hz.2 hz.1 (by omega) (by omega) hf sizes.length 0 (by omega) (by omega)
 obtain ⟨k, hk⟩ := tokenform_l0 s hs2 sizes sum known b hf.s8 (by omega) sizes.length k1 hk1 8 (by omega)
 refine ⟨k + 1, ?_⟩
 have e0 : s / 2 ^ (8 * 8) = 0 := Int.ediv_eq_zero_of_lt hs2.1 (by omega)
 rw [e0, show ((8 : Nat) : Int) - 1 = 7 from rfl] at hk
 have e12 : rd b 12 = b.getD 12 0 := rd_nat b 12
 rw [scullerlaw14_TokenForm.f, htk, Option.bind_some]
 dsimp only
 rw [henc, Option.bind_some]
 dsimp only
 have c12 : (12 : Int) < (b.length : Int) := by omega
 have hlb : (b.length : Int) = ((17 + 2 * sizes.length + known.length : Nat) : Int) := by rw [hsz]
 rw [if_pos rfl, len_is _ _ (by omega) (by omega), if_pos hlb, if_pos c12, e12, hf.n, n12_is _ (by omega), scullerlaw14_TokenForm.j0, if_neg (by decide)]
 exact hk
end Go.Proofs.Ytbijnfhcbanhdaa.Pure
end
