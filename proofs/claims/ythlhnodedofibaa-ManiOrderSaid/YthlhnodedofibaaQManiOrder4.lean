/- Proved: at every input in bounds the statement ManiOrder of the manifest layer answers yes, pages that are not whole or are none are joined to nothing.
Text 4 of 6; functions told as plain ones, with the contracts of their calls. -/
import Derived.Test.YthlhnodedofibaaQManiOrder1
import Derived.Test.YthlhnodedofibaaQManiOrder3
import Derived.Deep.LoopGhost
section
namespace Go.Proofs.Ythlhnodedofibaa.F
open Go.RowKit Go.Proofs.YthlhnodedofibaaW.PrintWords Go.Proofs.YthlhnodedofibaaW.PrintLast Go.Proofs.YthlhnodedofibaaW.PrintMore
attribute [local go_sem] max2_int min2_int max_two min_two max_three min_three max_four min_four   -- for this text's walks alone
set_option linter.unusedVariables false
set_option linter.unusedSimpArgs false

open Go.Shelf Go.Proofs.Ythlhnodedofibaa.H
attribute [local go_sem] Oper.semAt_some
/-! ### mani_piece_int: given -/
def mani_piece_int.f (l0 : List Int) (a1 a2 : Int) : Option (List Int) := if l0.length ≤ 1000000 ∧ 1 ≤ a1 ∧ a1 ≤ 1000 then some (pieceL l0 a1 a2) else none
def mani_piece_int.at_ (l : List Int) (m : Nat) (s : List Nat) : List Int := (l.drop (m * s.getLastD 0)).take m
theorem mani_piece_int.read {W : World} {A : Option Addr} {l : List Int} (h : Kd.C (Kd.int .i64) W A l.length l) (ad : Addr) (hA : 0 < l.length → A = some ad) (m x : Nat) :
    Kd.C (Kd.int .i64) W (some (ad.add (m * x))) (chunkE m l.length x) ((l.drop (m * x)).take m) ∧ ((l.drop (m * x)).take m).length = chunkE m l.length x := by
  have hl : ((l.drop (m * x)).take m).length = chunkE m l.length x := by simp [chunkE]
  have hl2 := h.2.1
  have hle : chunkE m l.length x ≤ l.length - m * x := by unfold chunkE; omega
  refine ⟨⟨hl, by omega, fun h0 => ⟨_, rfl, fun j p hj => ?_⟩⟩, hl⟩
  obtain ⟨ad2, e2, hc⟩ := h.2.2 (by omega)
  have e3 := hA (by omega)
  rw [e2] at e3
  cases e3
  have hjl : j < chunkE m l.length x := by rw [← hl]; exact (List.getElem?_eq_some_iff.1 hj).1
  have hjm : j < m := by unfold chunkE at hjl; omega
  rw [List.getElem?_take, if_pos hjm, List.getElem?_drop] at hj
  obtain ⟨c, h1, h3, h4⟩ := hc _ p hj
  refine ⟨c, h1, h3, fun i u hu => ?_⟩
  have h5 := h4 i u hu
  have e5 : (ad.add (m * x)).add (j * (Kd.int .i64).sz + i) = ad.add ((m * x + j) * (Kd.int .i64).sz + i) := by
    rw [Addr.add_add]
    show ad.add (m * x + (j * 1 + i)) = ad.add ((m * x + j) * 1 + i)
    congr 1
    omega
  rw [e5]
  exact h5
set_option maxHeartbeats 4000000 in
set_option maxRecDepth 100000 in
theorem mani_piece_int.calls (A0 : Option Addr) (c0 : Nat) (l0 : List Int) (a1 a2 : Int) (r : List Int) (w : World) (hr0 : Kd.C (Kd.int .i64) w A0 l0.length l0) (hc0 : l0.length ≤ c0) (h : mani_piece_int.f l0 a1 a2 = some r) :
    Calls Try.prog 63 #[.slice A0 l0.length c0, .int .i64 a1, .int .i64 a2] w fun e w' => ∃ v0_ : Value, e = .returned (v0_) ∧ Kd.R (Kd.int .i64) 3 w' w.heap.size (fun _ => True) v0_ r ∧ Below w.heap.size w w' := by
  unfold mani_piece_int.f at h
  split at h
  case isFalse => cases h
  case isTrue hb =>
  obtain rfl := Option.some.inj h
  clear h
  obtain ⟨ha, h1, h2⟩ := hb
  obtain ⟨m, rfl⟩ := Int.eq_ofNat_of_zero_le (show 0 ≤ a1 by omega)
  obtain ⟨ad, hA⟩ : ∃ ad : Addr, 0 < l0.length → A0 = some ad := by
    by_cases h0 : 0 < l0.length
    · obtain ⟨ad, e, _⟩ := hr0.2.2 h0
      exact ⟨ad, fun _ => e⟩
    · exact ⟨⟨0, 0, none⟩, fun h => absurd h h0⟩
  refine (callsIn_wide (n := 10)).1 ?_
  refine callsIn_of_wp_marks Try.func63 rfl trivial ?_ rfl
  simp only [Try.ntmps63, List.size_toArray, List.length_cons, List.length_nil, Nat.reduceAdd, Nat.reduceSub, Array.replicate_succ, Array.replicate_zero, List.push_toArray, List.append_toArray, List.nil_append, List.cons_append]
  gi_wp2_with (refine ⟨trivial, ?_⟩; gi_at_call 76; refine (chunkI_in _ _ _ m (by omega) _).mono ?_; rintro e w' ⟨rfl, rfl⟩)
  have b0 := Boxed.new w 3 (.int .i64 a2)
  have b1 := Boxed.new (w.alloc (.cells #[.int .i64 a2] 3)) 22 (.slice none 0 0)
  have b2 := Boxed.new ((w.alloc (.cells #[.int .i64 a2] 3)).alloc (.cells #[.slice none 0 0] 22)) 3 (.int .i64 0)
  have b3 := Boxed.new (((w.alloc (.cells #[.int .i64 a2] 3)).alloc (.cells #[.slice none 0 0] 22)).alloc (.cells #[.int .i64 0] 3)) 22 (.slice A0 l0.length c0)
  have b4 := Boxed.new ((((w.alloc (.cells #[.int .i64 a2] 3)).alloc (.cells #[.slice none 0 0] 22)).alloc (.cells #[.int .i64 0] 3)).alloc (.cells #[.slice A0 l0.length c0] 22)) 3 (.int .i64 m)
  have hB5 : Below w.heap.size w (((((w.alloc (.cells #[.int .i64 a2] 3)).alloc (.cells #[.slice none 0 0] 22)).alloc (.cells #[.int .i64 0] 3)).alloc (.cells #[.slice A0 l0.length c0] 22)).alloc (.cells #[.int .i64 m] 3)) :=
    (((((Below.refl _ w).alloc (Nat.le_refl _) _).alloc (by simp) _).alloc (by simp; omega) _).alloc (by simp; omega) _).alloc (by simp; omega) _
  replace b3 := b3.alloc (.cells #[.int .i64 m] 3)
  replace b2 := (b2.alloc (.cells #[.slice A0 l0.length c0] 22)).alloc (.cells #[.int .i64 m] 3)
  replace b1 := ((b1.alloc (.cells #[.int .i64 0] 3)).alloc (.cells #[.slice A0 l0.length c0] 22)).alloc (.cells #[.int .i64 m] 3)
  replace b0 := (((b0.alloc (.cells #[.slice none 0 0] 22)).alloc (.cells #[.int .i64 0] 3)).alloc (.cells #[.slice A0 l0.length c0] 22)).alloc (.cells #[.int .i64 m] 3)
  have hs5 : (((((w.alloc (.cells #[.int .i64 a2] 3)).alloc (.cells #[.slice none 0 0] 22)).alloc (.cells #[.int .i64 0] 3)).alloc (.cells #[.slice A0 l0.length c0] 22)).alloc (.cells #[.int .i64 m] 3)).heap.size = w.heap.size + 5 := by simp
  simp only [World.size_alloc] at b0 b1 b2 b3 b4
  obtain ⟨B, hB⟩ : ∃ B, w.heap.size = B := ⟨_, rfl⟩
  obtain ⟨w5, hw5⟩ : ∃ w5, (((((w.alloc (.cells #[.int .i64 a2] 3)).alloc (.cells #[.slice none 0 0] 22)).alloc (.cells #[.int .i64 0] 3)).alloc (.cells #[.slice A0 l0.length c0] 22)).alloc (.cells #[.int .i64 m] 3)) = w5 := ⟨_, rfl⟩
  rw [hw5] at hB5 b0 b1 b2 b3 b4 hs5 ⊢
  rw [hB] at hB5 b0 b1 b2 b3 b4 hs5 ⊢
  refine wpIn_rangeFunc_ownG (F := Fence.wide) (n := 10) rfl (by omega) (gf := 83) (lb := #[.pointer (some ⟨B + 1 + 1 + 1, 0, none⟩), .pointer (some ⟨B + 1 + 1 + 1 + 1, 0, none⟩)]) rfl trivial (enters_of Try.func83 (by kernel_rfl) rfl)
    (encs := fun x : Nat => #[chunkV ad m l0.length x]) (Kp := Kset (B + 5) (fun k => k = B + 1 ∨ k = B + 1 + 1)) (S := fun ys => ys = List.range (chunkN m l0.length)) (Sp := fun ys => ∃ k, k ≤ chunkN m l0.length ∧ ys = List.range k) (N := chunkN m l0.length)
    (w0 := w5) ?seq ksetK_t (ksetK_b (by omega)) (Below.refl _ _) (fun _ => rfl)
    (fun pre W => Boxed W B 3 (.int .i64 a2) ∧ Boxed W (B + 1) 22 (.slice none 0 0) ∧ Boxed W (B + 1 + 1) 3 (.int .i64 (pre.length : Nat)) ∧ (∀ k : Nat, k < pre.length → (k : Int) ≠ a2) ∧ Kset (B + 5) (fun k => k = B + 1 ∨ k = B + 1 + 1) w5 W)
    (fun c xs W => (∃ v, Boxed W (B + 1) 22 v ∧ W.ownsRow (B + 5) 3 1 v (mani_piece_int.at_ l0 m xs).length (nums .i64 (mani_piece_int.at_ l0 m xs)) ∧ True) ∧ (c = .ret ∧ 0 ≤ a2 ∧ (xs.length : Int) = a2 + 1) ∧ Kset (B + 5) (fun k => k = B + 1 ∨ k = B + 1 + 1) w5 W) ?own ?ownx ?start
    (fun x => { tmps := #[.slice A0 l0.length c0, .int .i64 m, .int .i64 a2, undef, undef, .pointer (some ⟨B, 0, none⟩), .pointer (some ⟨B + 1, 0, none⟩), .pointer (some ⟨B + 1 + 1, 0, none⟩), chunkV ad m l0.length x, .slice A0 l0.length c0, .int .i64 m, .func (.func 83) #[] #[.pointer (some ⟨B + 1 + 1 + 1, 0, none⟩), .pointer (some ⟨B + 1 + 1 + 1 + 1, 0, none⟩)], chunkV ad m l0.length x, undef, undef, undef, undef, undef, undef, undef], defers := [] }) ?assign ?body ?done ?stop
  case seq =>
    intro l J Jx W hW hJ hJx hY h0
    refine (chunkI1_in l (B + 1 + 1 + 1) (B + 1 + 1 + 1 + 1) (B + 5) (fun k => k = B + 1 ∨ k = B + 1 + 1) A0 ad c0 l0.length m hA (by omega) (by omega) ha hc0 J Jx (fun ys X n hx => hJ ys X _ none hx ⟨rfl, rfl, rfl, Nat.le_refl _, fun _ _ _ => rfl⟩ (fun r e => by cases e)) hY W
      ((hW.cell (p := ⟨B + 1 + 1 + 1, 0, none⟩) (by simp; omega)).trans b3.cell) ((hW.cell (p := ⟨B + 1 + 1 + 1 + 1, 0, none⟩) (by simp; omega)).trans b4.cell) (by omega) (by omega) (by omega) (by omega) h0).mono ?_
    rintro e W' ⟨he, ⟨ys, rfl, hj⟩ | ⟨pre, hp, hj⟩⟩
    · exact ⟨he, .inl ⟨_, rfl, hj⟩⟩
    · exact ⟨he, .inr ⟨_, hp, hj⟩⟩
  case own => exact OwnFrom.and (Own.from (boxed_own _ _ _) _) (OwnFrom.and (Own.from (boxed_own _ _ _) _) (OwnFrom.and (Own.from (boxed_own _ _ _) _) (OwnFrom.and (fun _ _ _ _ hs _ _ => hs) (ownFrom_kset (by omega) (by omega)))))
  case ownx => exact fun c => OwnFrom.and (Own.from (holdsRow_own _ _ _ _ _ _ _ _) _) (OwnFrom.and (fun _ _ _ _ hs _ _ => hs) (ownFrom_kset (by omega) (by omega)))
  case start => exact ⟨b0, b1, b2, by simp, Kset.refl _ _ _⟩
  case assign =>
    intro l x W K hK
    gi_wp2
    exact hK
  case body =>
    rintro l pre x W ⟨h0, h1', h2', hne, hk⟩ hlen
    have hc0' := h0.cell
    have hc1' := h1'.cell
    have hc2' := h2'.cell
    have hf1' := h1'.frozen
    have hf2' := h2'.frozen
    have hV : chunkV ad m l0.length x = .slice (some (ad.add (m * x))) (chunkE m l0.length x) (chunkE m l0.length x) := rfl
    rw [hV]
    obtain ⟨hCp, hlp⟩ := mani_piece_int.read hr0 ad hA m x
    obtain ⟨p, hp⟩ : ∃ p, (l0.drop (m * x)).take m = p := ⟨_, rfl⟩
    obtain ⟨e, he⟩ : ∃ e, chunkE m l0.length x = e := ⟨_, rfl⟩
    rw [hp] at hCp hlp
    rw [he] at hCp hlp ⊢
    subst hlp
    obtain ⟨j, hj⟩ : ∃ j, pre.length = j := ⟨_, rfl⟩
    rw [hj] at h2' hc2' hne hlen
    have HJ : Hid _ := hj
    have HP : Hid _ := hp
    clear hj hp he
    have hjb : j ≤ 1000000 := by
      have : m * j < l0.length := (chunkN_lt (by omega)).1 hlen
      have : j ≤ m * j := Nat.le_mul_of_pos_left _ (by omega)
      omega
    have hpl : p.length < 17592186044416 := by have := hCp.2.1; rw [← HP.out, List.length_take, List.length_drop]; omega
    by_cases hja : (j : Int) = a2
    · have hjb2 : ((j : Int) == a2) = true := by simpa using hja
      have hclone : slices_Clone_int_int.f p = some p := if_pos hpl
      gi_wp2
      refine ⟨trivial, CallsIn.inRound l (CallsIn.mono (callsIn_wide.2 (slices_Clone_int_int.calls _ _ p p _ (C_kset hCp (hB ▸ hB5) hk (by omega) (by omega)) (Nat.le_refl _) hclone)) ?_)⟩
      rintro e2 W2 ⟨v2, rfl, ho2, hb2⟩
      have h1b : Boxed W2 (B + 1) 22 (.slice none 0 0) := (hb2.block _ h1'.lt).trans h1'
      have hc1b := h1b.cell
      have hf1b := h1b.frozen
      have hsz : B + 5 ≤ W.heap.size := by have := hk.size; omega
      have hk2 : Kset (B + 5) (fun k => k = B + 1 ∨ k = B + 1 + 1) W W2 := Kset.of_below (hb2.mono hsz)
      obtain ⟨A3, c3, e3⟩ := Kd.R_slice ho2
      have ho3 := Aside0.mk (Kd.own_of_R (Kd.R_lower ho2 hsz))
      have HB2 := Aside0.mk hb2
      have HH1 := Aside0.mk h1b
      subst e3
      clear ho2 hb2 h1b
      gi_wp2
      refine ⟨((keepsOthers_below HB2.out).trans (KeepsOthers.setCell _ _ _)).from _, ⟨_, HH1.out.set _, ?_, trivial⟩, ⟨rfl, by omega, ?_⟩, (hk.trans hk2).setCell (p := ⟨B + 1, 0, none⟩) (.inl (.inl rfl)) _⟩
      · have e4 : mani_piece_int.at_ l0 m (pre ++ [x]) = p := by rw [← HP.out]; simp [mani_piece_int.at_]
        rw [e4]
        exact ho3.out.kept (grownBy_setCell' _ _ _) (.inr (HH1.out.not_row (by decide) ho3.out).symm)
      · rw [List.length_append, HJ.out, List.length_singleton]; omega
    · have hjb2 : ((j : Int) == a2) = false := by simpa using hja
      have hj1 : (j : Int) + 1 = ((j + 1 : Nat) : Int) := by omega
      obtain ⟨j1, hj1'⟩ : ∃ j1, j + 1 = j1 := ⟨_, rfl⟩
      rw [hj1'] at hj1
      gi_wp2
      refine ⟨(KeepsOthers.setCell _ _ _).from _, Kset.setCell (Kset.refl _ _ _) (p := ⟨B + 1 + 1, 0, none⟩) (.inl (.inr rfl)) _, h0.other (by omega) _, h1'.other (by omega) _, ?_, ?_, hk.setCell (p := ⟨B + 1 + 1, 0, none⟩) (.inl (.inr rfl)) _⟩
      · rw [List.length_append, HJ.out, List.length_singleton, hj1']; exact h2'.set _
      · intro k hk2
        rw [List.length_append, HJ.out, List.length_singleton] at hk2
        by_cases e4 : k = j
        · subst e4; exact hja
        · exact hne k (by omega)
  case done =>
    rintro D ys W hD rfl ⟨h0, h1', h2', hne, hk⟩ hK
    have hc1' := h1'.cell
    have hf1' := h1'.frozen
    have hres : pieceL l0 m a2 = [] := by
      unfold pieceL
      rw [if_neg]
      rintro ⟨h3, h4⟩
      obtain ⟨q, rfl⟩ := Int.eq_ofNat_of_zero_le h3
      refine hne q ?_ rfl
      rw [List.length_range]
      refine (chunkN_lt (by omega)).2 ?_
      have : ((m * q : Nat) : Int) = (m : Int) * (q : Int) := by simp
      omega
    have HRES := Aside0.mk hres
    clear hres
    gi_wp2
    have hK2 : (W.setCell ⟨B + 1, 0, none⟩ (.slice none 0 0)).heap[D]? = some (.deferred (some [])) := (Below.heap_setCell W ⟨B + 1, 0, none⟩ _ D (by show D ≠ B + 1; omega)).trans hK
    refine ⟨by simp, .inl ⟨_, _, rfl, run_takeDeferred hK2, ?_⟩⟩
    have hb9 := (h1'.set (.slice none 0 0)).kept (grownBy_putObj' _ D (.deferred none)) (by simp; omega)
    refine ⟨_, results_cell1 rfl _ _ (B + 1) _ rfl hb9.cell Try.underlying22, _, rfl, ?_, ?_⟩
    · rw [HRES.out]; exact Kd.R_nil _ _ _ _ _
    · have hks := hk.setCell (p := ⟨B + 1, 0, none⟩) (.inl (.inl rfl)) (.slice none 0 0)
      rw [hB]
      exact (hB5.trans (hks.below (by omega) (fun k e => by omega))).trans (belowK_b (w := w) (Nat.le_of_eq hB.symm) _ D _ _ (by omega) hK2 rfl rfl)
  case stop =>
    rintro D c pre W hD ⟨k, hkc, rfl⟩ ⟨⟨v, h1', ho, -⟩, ⟨rfl, ha20, hlen⟩, hk⟩ hK
    rw [List.length_range] at hlen
    obtain ⟨q, rfl⟩ : ∃ q : Nat, a2 = q := ⟨k - 1, by omega⟩
    obtain rfl : k = q + 1 := by omega
    have hres : pieceL l0 m q = mani_piece_int.at_ l0 m (List.range (q + 1)) := by
      have hlt := (chunkN_lt (m := m) (L := l0.length) (k := q) (by omega)).1 (by omega)
      have e1 : ((m * q : Nat) : Int) = (m : Int) * (q : Int) := by simp
      unfold pieceL mani_piece_int.at_
      rw [if_pos ⟨by omega, by omega⟩, ← e1, Int.toNat_natCast, Int.toNat_natCast, List.range_succ]
      simp
    have HRES := Aside0.mk hres
    clear hres
    gi_wp2
    refine ⟨by simp, .inl ⟨_, _, rfl, run_takeDeferred hK, ?_⟩⟩
    have hb9 := h1'.kept (grownBy_putObj' _ D (.deferred none)) (by simp; omega)
    refine ⟨_, results_cell1 rfl _ _ (B + 1) _ rfl hb9.cell Try.underlying22, _, rfl, ?_, ?_⟩
    · rw [HRES.out]
      have ho' := ownsRow_putObj ho (.deferred none) hK rfl
      exact Kd.R_lower (Kd.R_of_own (enc := Value.int .i64) (by simpa [nums, encs] using ho') (fun _ _ => trivial)) (by omega)
    · rw [hB]
      exact (hB5.trans (hk.below (by omega) (fun k e => by omega))).trans (belowK_b (w := w) (Nat.le_of_eq hB.symm) _ D _ _ (by omega) hK rfl rfl)

end Go.Proofs.Ythlhnodedofibaa.F
end

section
namespace Go.Proofs.Ythlhnodedofibaa.F
open Go.RowKit Go.Proofs.YthlhnodedofibaaW.PrintWords Go.Proofs.YthlhnodedofibaaW.PrintLast Go.Proofs.YthlhnodedofibaaW.PrintMore
attribute [local go_sem] max2_int min2_int max_two min_two max_three min_three max_four min_four   -- for this text's walks alone
set_option linter.unusedVariables false
set_option linter.unusedSimpArgs false

/-! ### mani_Page: function 37 -/
def mani_Page.f (a0_0 : Int) (l0_1 : List Int) (a0_2 : Int) (a1 : Int) : Option (List Int) := (mani_Right.f a0_0 l0_1 a0_2).bind fun t102 => (if t102 = true then ((mani_piece_int.f l0_1 4 a1).bind fun t103 => (some t103)) else (some ([] : List Int)))
set_option maxHeartbeats 8000000 in
set_option maxRecDepth 100000 in
theorem mani_Page.calls (a0_0 : Int) (A0_1 : Option Addr) (c0_1 : Nat) (l0_1 : List Int) (a0_2 : Int) (a1 : Int) (r : List Int) (w : World) (hr0_1 : Kd.C (Kd.int .i64) w A0_1 l0_1.length l0_1) (hc0_1 : l0_1.length ≤ c0_1) (h : mani_Page.f a0_0 l0_1 a0_2 a1 = some r) :
    Calls Try.prog 37 #[.agg #[.int .u64 a0_0, .slice A0_1 l0_1.length c0_1, .int .u32 a0_2], .int .i64 a1] w fun e w' => ∃ v0_ : Value, e = .returned (v0_) ∧ Kd.R (Kd.int .i64) 3 w' w.heap.size (fun _ => True) v0_ r ∧ Below w.heap.size w w' := by
  have hu46 := Try.underlying46
  have HR0_1 := Aside0.mk hr0_1
  have HC0_1 := Aside0.mk hc0_1
  clear hr0_1 hc0_1
  have HB := Aside0.mk (Below.refl w.heap.size w)
  have H : ((mani_Right.f a0_0 l0_1 a0_2).bind fun t102 => (if t102 = true then ((mani_piece_int.f l0_1 4 a1).bind fun t103 => (some t103)) else (some ([] : List Int)))) = some r := h
  clear h
  replace H := Option.bind_eq_some_iff.mp H
  obtain ⟨t102, A30, H⟩ := H
  replace H : (if t102 = true then ((mani_piece_int.f l0_1 4 a1).bind fun t103 => (some t103)) else (some ([] : List Int))) = some r := H
  have A3 := Aside0.mk A30
  clear A30
  by_cases c4 : t102 = true
  · subst c4
    have H1 : ((mani_piece_int.f l0_1 4 a1).bind fun t103 => (some t103)) = some r := by rw [if_pos rfl] at H; exact H
    clear H
    have H := H1
    clear H1
    replace H := Option.bind_eq_some_iff.mp H
    obtain ⟨t103, A50, H⟩ := H
    replace H : (some t103) = some r := H
    have A5 := Aside0.mk A50
    clear A50
    obtain rfl := Option.some.inj H
    go_enter Try.func37, Try.ntmps37
    go_wp2_with (first | ((with_reducible refine gate_dst (N := 2) rfl ?_); refine box_event ?hg (N := 2) ?hd (cs := #[.int .u64 a0_0, .slice A0_1 l0_1.length c0_1, .int .u32 a0_2]) (t := 46) ?hr ?_; (case hd => rfl); (case hg => rfl); (case hr => first | (go_simp; done) | (go_simp; rfl)); intro gb101 hg w6 hbox hb; have n0_ := Aside0.mk (below_step (by repeat (first | (with_reducible first | exact HB.out | apply below_alloc | apply pw_below_drewN | apply below_drew1) | exact HB.out)) hb); have n1_ := Aside0.mk (hbox); have n2_ := Aside0.mk ((by rw [hg]; exact (below_size (by repeat (first | (with_reducible first | exact HB.out | apply below_alloc | apply pw_below_drewN | apply below_drew1) | exact HB.out))) : w.heap.size ≤ gb101)); have n3_ := Aside0.mk ((by rw [hg]; exact (below_size (by repeat (first | (with_reducible first | exact HB.out | apply below_alloc | apply pw_below_drewN | apply below_drew1) | exact HB.out))) : w.heap.size ≤ gb101)); clear HB; have HB := n0_; have BK101 := n1_; have GW101 := n2_; have GE101 := n3_; clear n0_ n1_ n2_ n3_; clear hb hbox hg; have hcz7_0 : w6.cell? ⟨gb101, 0, none⟩ = some (.int .u64 a0_0) := (blk_cell BK101.out 0).trans rfl; have hcz7_1 : w6.cell? ⟨gb101, 1, none⟩ = some (.slice A0_1 l0_1.length c0_1) := (blk_cell BK101.out 1).trans rfl; have hcz7_2 : w6.cell? ⟨gb101, 2, none⟩ = some (.int .u32 a0_2) := (blk_cell BK101.out 2).trans rfl; have hfz7_0 := blk_frozen BK101.out 0; have hfz7_1 := blk_frozen BK101.out 1; have hfz7_2 := blk_frozen BK101.out 2) | ((with_reducible refine gate_callee (f := 30) rfl ?_); refine goesL_ (some 6) rfl rfl Try.func30 (by kernel_rfl) rfl #[.agg #[.int .u64 a0_0, .slice A0_1 l0_1.length c0_1, .int .u32 a0_2]] rfl (by (try simp only [List.map_toArray, List.map_cons, List.map_nil]); first | done | rfl | (simp only [List.length_drop, List.length_take]; rfl)) ?_; (with_reducible refine (mani_Right.calls a0_0 _ _ l0_1 a0_2 true _ ?side1 ?side2 A3.out).mono ?_); (case side1 => repeat (first | exact (Kd.C_below HR0_1.out HB.out) | (with_reducible refine Kd.C_alloc ?_ _) | (with_reducible refine Kd.C_drewN ?_ _) | (with_reducible refine Kd.C_drew ?_))); (case side2 => exact HC0_1.out); rintro e w8 ⟨rfl, hb⟩; refine ⟨_, rfl, ?_⟩; have n0_ := Aside0.mk (blk_below (g := gb101) (o := .cells #[.int .u64 a0_0, .slice A0_1 l0_1.length c0_1, .int .u32 a0_2] 46 (0, 0)) (by (with_reducible repeat (first | refine blk_drewN ?_ _ | refine blk_drew ?_ | refine blk_alloc ?_ _)); exact BK101.out) hb); have n1_ := Aside0.mk (below_step (by repeat (first | (with_reducible first | exact HB.out | apply below_alloc | apply pw_below_drewN | apply below_drew1 | refine below_set ?_ GE101.out) | exact HB.out)) hb); clear BK101; clear HB; have BK101 := n0_; have HB := n1_; clear n0_ n1_; (try clear hb); (try clear hb2); (try clear hk); (try clear hi); have hcz9_0 : w8.cell? ⟨gb101, 0, none⟩ = some (.int .u64 a0_0) := (blk_cell BK101.out 0).trans rfl; have hcz9_1 : w8.cell? ⟨gb101, 1, none⟩ = some (.slice A0_1 l0_1.length c0_1) := (blk_cell BK101.out 1).trans rfl; have hcz9_2 : w8.cell? ⟨gb101, 2, none⟩ = some (.int .u32 a0_2) := (blk_cell BK101.out 2).trans rfl; have hfz9_0 := blk_frozen BK101.out 0; have hfz9_1 := blk_frozen BK101.out 1; have hfz9_2 := blk_frozen BK101.out 2) | ((with_reducible refine gate_callee (f := 63) rfl ?_); refine goesL_ (some 11) rfl rfl Try.func63 (by kernel_rfl) rfl #[.slice A0_1 l0_1.length c0_1, .int .i64 4, .int .i64 a1] rfl (by (try simp only [List.map_toArray, List.map_cons, List.map_nil]); first | done | rfl | (simp only [List.length_drop, List.length_take]; rfl)) ?_; (with_reducible refine (mani_piece_int.calls _ _ l0_1 4 a1 t103 _ ?side1 ?side2 A5.out).mono ?_); (case side1 => repeat (first | exact (Kd.C_below HR0_1.out HB.out) | (with_reducible refine Kd.C_alloc ?_ _) | (with_reducible refine Kd.C_drewN ?_ _) | (with_reducible refine Kd.C_drew ?_))); (case side2 => exact HC0_1.out); rintro e w10 ⟨v104, rfl, ho0, hb⟩; refine ⟨_, rfl, ?_⟩; have n0_ := Aside0.mk (Kd.R_lower ho0 (below_size (by repeat (first | (with_reducible first | exact HB.out | apply below_alloc | apply pw_below_drewN | apply below_drew1 | refine below_set ?_ GE101.out) | exact HB.out)))); have n1_ := Aside0.mk (blk_below (g := gb101) (o := .cells #[.int .u64 a0_0, .slice A0_1 l0_1.length c0_1, .int .u32 a0_2] 46 (0, 0)) (by (with_reducible repeat (first | refine blk_drewN ?_ _ | refine blk_drew ?_ | refine blk_alloc ?_ _)); exact BK101.out) hb); have n2_ := Aside0.mk (below_step (by repeat (first | (with_reducible first | exact HB.out | apply below_alloc | apply pw_below_drewN | apply below_drew1 | refine below_set ?_ GE101.out) | exact HB.out)) hb); clear BK101; clear HB; have HO105 := n0_; have BK101 := n1_; have HB := n2_; clear n0_ n1_ n2_; (try clear hb); (try clear hb2); (try clear hk); (try clear hi); (try clear ho0)))
    go_ret
    exact ⟨_, by first | rfl | (simp [errW_none, errW_some] <;> rfl) | (simp [*, errW_none, errW_some] <;> rfl), by (with_reducible repeat (first | apply Kd.R_alloc | apply Kd.R_drewN | apply Kd.R_drew)); exact HO105.out, by repeat (first | (with_reducible first | exact HB.out | apply below_alloc | apply pw_below_drewN | apply below_drew1 | refine below_set ?_ GE101.out) | exact HB.out)⟩
  · replace c4 := Bool.eq_false_iff.mpr c4
    subst c4
    have H1 : (some ([] : List Int)) = some r := by rw [if_neg (show ¬ (false = true) by decide)] at H; exact H
    clear H
    have H := H1
    clear H1
    obtain rfl := Option.some.inj H
    go_enter Try.func37, Try.ntmps37
    go_wp2_with (first | ((with_reducible refine gate_dst (N := 2) rfl ?_); refine box_event ?hg (N := 2) ?hd (cs := #[.int .u64 a0_0, .slice A0_1 l0_1.length c0_1, .int .u32 a0_2]) (t := 46) ?hr ?_; (case hd => rfl); (case hg => rfl); (case hr => first | (go_simp; done) | (go_simp; rfl)); intro gb101 hg w11 hbox hb; have n0_ := Aside0.mk (below_step (by repeat (first | (with_reducible first | exact HB.out | apply below_alloc | apply pw_below_drewN | apply below_drew1) | exact HB.out)) hb); have n1_ := Aside0.mk (hbox); have n2_ := Aside0.mk ((by rw [hg]; exact (below_size (by repeat (first | (with_reducible first | exact HB.out | apply below_alloc | apply pw_below_drewN | apply below_drew1) | exact HB.out))) : w.heap.size ≤ gb101)); have n3_ := Aside0.mk ((by rw [hg]; exact (below_size (by repeat (first | (with_reducible first | exact HB.out | apply below_alloc | apply pw_below_drewN | apply below_drew1) | exact HB.out))) : w.heap.size ≤ gb101)); clear HB; have HB := n0_; have BK101 := n1_; have GW101 := n2_; have GE101 := n3_; clear n0_ n1_ n2_ n3_; clear hb hbox hg; have hcz12_0 : w11.cell? ⟨gb101, 0, none⟩ = some (.int .u64 a0_0) := (blk_cell BK101.out 0).trans rfl; have hcz12_1 : w11.cell? ⟨gb101, 1, none⟩ = some (.slice A0_1 l0_1.length c0_1) := (blk_cell BK101.out 1).trans rfl; have hcz12_2 : w11.cell? ⟨gb101, 2, none⟩ = some (.int .u32 a0_2) := (blk_cell BK101.out 2).trans rfl; have hfz12_0 := blk_frozen BK101.out 0; have hfz12_1 := blk_frozen BK101.out 1; have hfz12_2 := blk_frozen BK101.out 2) | ((with_reducible refine gate_callee (f := 30) rfl ?_); refine goesL_ (some 6) rfl rfl Try.func30 (by kernel_rfl) rfl #[.agg #[.int .u64 a0_0, .slice A0_1 l0_1.length c0_1, .int .u32 a0_2]] rfl (by (try simp only [List.map_toArray, List.map_cons, List.map_nil]); first | done | rfl | (simp only [List.length_drop, List.length_take]; rfl)) ?_; (with_reducible refine (mani_Right.calls a0_0 _ _ l0_1 a0_2 false _ ?side1 ?side2 A3.out).mono ?_); (case side1 => repeat (first | exact (Kd.C_below HR0_1.out HB.out) | (with_reducible refine Kd.C_alloc ?_ _) | (with_reducible refine Kd.C_drewN ?_ _) | (with_reducible refine Kd.C_drew ?_))); (case side2 => exact HC0_1.out); rintro e w13 ⟨rfl, hb⟩; refine ⟨_, rfl, ?_⟩; have n0_ := Aside0.mk (blk_below (g := gb101) (o := .cells #[.int .u64 a0_0, .slice A0_1 l0_1.length c0_1, .int .u32 a0_2] 46 (0, 0)) (by (with_reducible repeat (first | refine blk_drewN ?_ _ | refine blk_drew ?_ | refine blk_alloc ?_ _)); exact BK101.out) hb); have n1_ := Aside0.mk (below_step (by repeat (first | (with_reducible first | exact HB.out | apply below_alloc | apply pw_below_drewN | apply below_drew1 | refine below_set ?_ GE101.out) | exact HB.out)) hb); clear BK101; clear HB; have BK101 := n0_; have HB := n1_; clear n0_ n1_; (try clear hb); (try clear hb2); (try clear hk); (try clear hi)))
    go_ret
    exact ⟨_, by first | rfl | (simp [errW_none, errW_some] <;> rfl) | (simp [*, errW_none, errW_some] <;> rfl), by first | exact Kd.R_nil _ _ _ _ _ | exact Kd.N_nil _ _ _ _ _ | exact Kd.V_nil _ _ _ _ _ | exact Kd.Q_nil _ _ _ _ _ | exact Kd.S_nil _ _ _ _ _, by repeat (first | (with_reducible first | exact HB.out | apply below_alloc | apply pw_below_drewN | apply below_drew1 | refine below_set ?_ GE101.out) | exact HB.out)⟩

end Go.Proofs.Ythlhnodedofibaa.F
end

section
namespace Go.Proofs.Ythlhnodedofibaa.F
open Go.RowKit Go.Proofs.YthlhnodedofibaaW.PrintWords Go.Proofs.YthlhnodedofibaaW.PrintLast Go.Proofs.YthlhnodedofibaaW.PrintMore
attribute [local go_sem] max2_int min2_int max_two min_two max_three min_three max_four min_four   -- for this text's walks alone
set_option linter.unusedVariables false
set_option linter.unusedSimpArgs false

/-! ### scullerlaw07_Arena: function 13 -/
mutual
def scullerlaw07_Arena.l0 : Nat → List Int → Int → List (List Int) → Int → Int → Option ((List (List Int)))
  | 0, _, _, _, _, _ => none
  | k + 1, x0, x1, x5, x6, x7 => if x7 < (wrap64 (1 + (wrap64 (Int.tmod x1 5)))) then (if x7 < (x0.length : Int) then (if 0 ≤ x7 then (scullerlaw07_Arena.j1 k x0 x1 x5 x6 x7 ([] : List Int) (wrap64 (Int.tmod (rd x0 x7) 12))) else (none)) else (scullerlaw07_Arena.j1 k x0 x1 x5 x6 x7 ([] : List Int) 1)) else (some x5)
def scullerlaw07_Arena.j1 : Nat → List Int → Int → List (List Int) → Int → Int → List Int → Int → Option ((List (List Int)))
  | 0, _, _, _, _, _, _, _ => none
  | k + 1, x0, x1, x5, x6, x7, x8, x9 => if x7 = 0 then (scullerlaw07_Arena.j2 k x0 x1 x5 x6 x7 x8 (wrap64 (x9 + 1))) else (scullerlaw07_Arena.j2 k x0 x1 x5 x6 x7 x8 x9)
def scullerlaw07_Arena.j2 : Nat → List Int → Int → List (List Int) → Int → Int → List Int → Int → Option ((List (List Int)))
  | 0, _, _, _, _, _, _, _ => none
  | k + 1, x0, x1, x5, x6, x7, x8, x9 => scullerlaw07_Arena.l1 k x0 x1 x5 x6 x7 x8 x9 0
def scullerlaw07_Arena.l1 : Nat → List Int → Int → List (List Int) → Int → Int → List Int → Int → Int → Option ((List (List Int)))
  | 0, _, _, _, _, _, _, _, _ => none
  | k + 1, x0, x1, x5, x6, x7, x8, x9, x10 => if x10 < x9 then (if (x0.length : Int) > 0 then (if (x0.length : Int) = 0 then (none) else (if 0 ≤ (Int.tmod x6 (x0.length : Int)) then (if (Int.tmod x6 (x0.length : Int)) < (x0.length : Int) then (if x8.length < 17592186044416 then (scullerlaw07_Arena.l1 k x0 x1 x5 (wrap64 (x6 + 1)) x7 (x8 ++ [IntKind.u64.wrap ((IntKind.u64.wrap ((IntKind.u64.wrap (rd x0 (Int.tmod x6 (x0.length : Int)))) * 4311810305)) + (IntKind.u64.wrap (x6)))]) x9 (wrap64 (x10 + 1))) else (none)) else (none)) else (none))) else (if x8.length < 17592186044416 then (scullerlaw07_Arena.l1 k x0 x1 x5 (wrap64 (x6 + 1)) x7 (x8 ++ [IntKind.u64.wrap (x6)]) x9 (wrap64 (x10 + 1))) else (none))) else (if x5.length < 5864062014805 then (scullerlaw07_Arena.l0 k x0 x1 (x5 ++ [x8]) x6 (wrap64 (x7 + 1))) else (none))
end
def scullerlaw07_Arena.f (k : Nat) (l0 : List Int) (a1 : Int) : Option ((List (List Int))) := scullerlaw07_Arena.l0 k l0 a1 ([] : List (List Int)) 0 0
theorem scullerlaw07_Arena.mono_l : ∀ k, (∀ y0 y1 y2 y3 y4, LeO (scullerlaw07_Arena.l0 k y0 y1 y2 y3 y4) (scullerlaw07_Arena.l0 (k + 1) y0 y1 y2 y3 y4)) ∧ (∀ y0 y1 y2 y3 y4 y5 y6, LeO (scullerlaw07_Arena.j1 k y0 y1 y2 y3 y4 y5 y6) (scullerlaw07_Arena.j1 (k + 1) y0 y1 y2 y3 y4 y5 y6)) ∧ (∀ y0 y1 y2 y3 y4 y5 y6, LeO (scullerlaw07_Arena.j2 k y0 y1 y2 y3 y4 y5 y6) (scullerlaw07_Arena.j2 (k + 1) y0 y1 y2 y3 y4 y5 y6)) ∧ (∀ y0 y1 y2 y3 y4 y5 y6 y7, LeO (scullerlaw07_Arena.l1 k y0 y1 y2 y3 y4 y5 y6 y7) (scullerlaw07_Arena.l1 (k + 1) y0 y1 y2 y3 y4 y5 y6 y7))
  | 0 => ⟨fun _ _ _ _ _ r h => by simp [scullerlaw07_Arena.l0] at h, fun _ _ _ _ _ _ _ r h => by simp [scullerlaw07_Arena.j1] at h, fun _ _ _ _ _ _ _ r h => by simp [scullerlaw07_Arena.j2] at h, fun _ _ _ _ _ _ _ _ r h => by simp [scullerlaw07_Arena.l1] at h⟩
  | k + 1 => by
    obtain ⟨ih0, ih1, ih2, ih3⟩ := scullerlaw07_Arena.mono_l k
    refine ⟨?_, ?_, ?_, ?_⟩
    · intro y0 y1 y2 y3 y4
      unfold scullerlaw07_Arena.l0
      repeat' first
      | (with_reducible exact ih0 _ _ _ _ _)
      | (with_reducible exact ih1 _ _ _ _ _ _ _)
      | (with_reducible exact ih2 _ _ _ _ _ _ _)
      | (with_reducible exact ih3 _ _ _ _ _ _ _ _)
      | (with_reducible exact LeO.refl _)
      | (with_reducible exact LeO.none _)
      | (with_reducible refine LeO.ite ?_ ?_)
      | (with_reducible refine LeO.bind ?_ (fun _ => ?_))
      | exact ih0 _ _ _ _ _
      | exact ih1 _ _ _ _ _ _ _
      | exact ih2 _ _ _ _ _ _ _
      | exact ih3 _ _ _ _ _ _ _ _
      | exact LeO.none _
      | refine LeO.ite ?_ ?_
      | refine LeO.bind ?_ (fun _ => ?_)
    · intro y0 y1 y2 y3 y4 y5 y6
      unfold scullerlaw07_Arena.j1
      repeat' first
      | (with_reducible exact ih0 _ _ _ _ _)
      | (with_reducible exact ih1 _ _ _ _ _ _ _)
      | (with_reducible exact ih2 _ _ _ _ _ _ _)
      | (with_reducible exact ih3 _ _ _ _ _ _ _ _)
      | (with_reducible exact LeO.refl _)
      | (with_reducible exact LeO.none _)
      | (with_reducible refine LeO.ite ?_ ?_)
      | (with_reducible refine LeO.bind ?_ (fun _ => ?_))
      | exact ih0 _ _ _ _ _
      | exact ih1 _ _ _ _ _ _ _
      | exact ih2 _ _ _ _ _ _ _
      | exact ih3 _ _ _ _ _ _ _ _
      | exact LeO.none _
      | refine LeO.ite ?_ ?_
      | refine LeO.bind ?_ (fun _ => ?_)
    · intro y0 y1 y2 y3 y4 y5 y6
      unfold scullerlaw07_Arena.j2
      repeat' first
      | (with_reducible exact ih0 _ _ _ _ _)
      | (with_reducible exact ih1 _ _ _ _ _ _ _)
      | (with_reducible exact ih2 _ _ _ _ _ _ _)
      | (with_reducible exact ih3 _ _ _ _ _ _ _ _)
      | (with_reducible exact LeO.refl _)
      | (with_reducible exact LeO.none _)
      | (with_reducible refine LeO.ite ?_ ?_)
      | (with_reducible refine LeO.bind ?_ (fun _ => ?_))
      | exact ih0 _ _ _ _ _
      | exact ih1 _ _ _ _ _ _ _
      | exact ih2 _ _ _ _ _ _ _
      | exact ih3 _ _ _ _ _ _ _ _
      | exact LeO.none _
      | refine LeO.ite ?_ ?_
      | refine LeO.bind ?_ (fun _ => ?_)
    · intro y0 y1 y2 y3 y4 y5 y6 y7
      unfold scullerlaw07_Arena.l1
      repeat' first
      | (with_reducible exact ih0 _ _ _ _ _)
      | (with_reducible exact ih1 _ _ _ _ _ _ _)
      | (with_reducible exact ih2 _ _ _ _ _ _ _)
      | (with_reducible exact ih3 _ _ _ _ _ _ _ _)
      | (with_reducible exact LeO.refl _)
      | (with_reducible exact LeO.none _)
      | (with_reducible refine LeO.ite ?_ ?_)
      | (with_reducible refine LeO.bind ?_ (fun _ => ?_))
      | exact ih0 _ _ _ _ _
      | exact ih1 _ _ _ _ _ _ _
      | exact ih2 _ _ _ _ _ _ _
      | exact ih3 _ _ _ _ _ _ _ _
      | exact LeO.none _
      | refine LeO.ite ?_ ?_
      | refine LeO.bind ?_ (fun _ => ?_)
theorem scullerlaw07_Arena.mono : ∀ a0 a1 k, LeO (scullerlaw07_Arena.f k a0 a1) (scullerlaw07_Arena.f (k + 1) a0 a1) := by
  intro a0 a1 k
  obtain ⟨ih0, ih1, ih2, ih3⟩ := scullerlaw07_Arena.mono_l k
  unfold scullerlaw07_Arena.f
  repeat' first
      | (with_reducible exact ih0 _ _ _ _ _)
      | (with_reducible exact ih1 _ _ _ _ _ _ _)
      | (with_reducible exact ih2 _ _ _ _ _ _ _)
      | (with_reducible exact ih3 _ _ _ _ _ _ _ _)
      | (with_reducible exact LeO.refl _)
      | (with_reducible exact LeO.none _)
      | (with_reducible refine LeO.ite ?_ ?_)
      | (with_reducible refine LeO.bind ?_ (fun _ => ?_))
      | exact ih0 _ _ _ _ _
      | exact ih1 _ _ _ _ _ _ _
      | exact ih2 _ _ _ _ _ _ _
      | exact ih3 _ _ _ _ _ _ _ _
      | exact LeO.none _
      | refine LeO.ite ?_ ?_
      | refine LeO.bind ?_ (fun _ => ?_)
set_option maxHeartbeats 8000000 in
set_option maxRecDepth 100000 in
theorem scullerlaw07_Arena.calls (k : Nat) (A0 : Option Addr) (c0 : Nat) (l0 : List Int) (a1 : Int) (r : List (List Int)) (w : World) (hr0 : Kd.C (Kd.int .u8) w A0 l0.length l0) (hc0 : l0.length ≤ c0) (h : scullerlaw07_Arena.f k l0 a1 = some r) :
    Calls Try.prog 13 #[.slice A0 l0.length c0, .int .u8 a1] w fun e w' => ∃ v0_ : Value, e = .returned (v0_) ∧ Kd.S (Kd.slice 42 (Kd.int .u64)) 37 w' w.heap.size (fun _ => True) v0_ r ∧ Below w.heap.size w w' := by
  have HR0 := Aside0.mk hr0
  have HC0 := Aside0.mk hc0
  clear hr0 hc0
  have HB := Aside0.mk (Below.refl w.heap.size w)
  have H : (scullerlaw07_Arena.l0 k l0 a1 ([] : List (List Int)) 0 0) = some r := h
  clear h
  have H' := Aside0.mk H
  clear H
  go_enter Try.func13, Try.ntmps13
  go_wp2
  go_loopg [5, 6, 7] k (fun kq v5 v6 v7 w' => ∃ (x5_1 : List (List Int)) (x6_1 : Int) (x7_1 : Int), v6 = .int .i64 x6_1 ∧ v7 = .int .i64 x7_1 ∧ Aside0 (scullerlaw07_Arena.l0 kq l0 a1 x5_1 x6_1 x7_1 = some r) ∧ Aside0 (kq ≤ k) ∧ Aside0 (Kd.S (Kd.slice 42 (Kd.int .u64)) 37 w' w.heap.size (fun _ => True) v5 x5_1) ∧ Aside0 (Below w.heap.size w w'))
  case atStart => exact ⟨(([] : List (List Int))), (0), (0), (by first | rfl | (simp; done) | (simp [*]; done)), (by first | rfl | (simp; done) | (simp [*]; done)), H', ⟨Nat.le_refl _⟩, ⟨by first | exact Kd.S_nil _ _ _ _ _ | exact Kd.N_nil _ _ _ _ _ | exact Kd.V_nil _ _ _ _ _ | exact Kd.Q_nil _ _ _ _ _ | exact Kd.R_nil _ _ _ _ _⟩, ⟨by repeat (first | (with_reducible first | exact HB.out | apply below_alloc | apply pw_below_drewN | apply below_drew1) | exact HB.out)⟩⟩
  case round =>
    clear H'
    try clear c1
    try clear p2
    obtain ⟨x5_1, x6_1, x7_1, rfl, rfl, HA, HK1, HO_5, HB⟩ := hrel
    cases gk with
    | zero => exact absurd HA.out (by simp [scullerlaw07_Arena.l0])
    | succ k1 =>
      have H := HA.out
      clear HA
      simp only [scullerlaw07_Arena.l0] at H
      by_cases c3 : x7_1 < (wrap64 (1 + (wrap64 (Int.tmod a1 5))))
      · rw [if_pos c3] at H
        have c3b0 : decide (x7_1 < (wrap64 (1 + (wrap64 (Int.tmod a1 5))))) = true := decide_eq_true c3
        clear c3
        have HC4 := Aside0.mk H
        clear H
        go_upto_if 23 with (fail)
        go_cut [9] (fun v9 wc => ∃ (kq : Nat) (x9_3 : Int), v9 = .int .i64 x9_3 ∧ Aside0 (scullerlaw07_Arena.j1 kq l0 a1 x5_1 x6_1 x7_1 ([] : List Int) x9_3 = some r) ∧ Aside0 (kq ≤ k1) ∧ Aside0 (Kd.S (Kd.slice 42 (Kd.int .u64)) 37 wc w.heap.size (fun k_ => some k_ ≠ ((.slice none 0 0) : Value).ownBlock) u5 x5_1) ∧ Aside0 (Kd.R (Kd.int .u64) 42 wc w.heap.size (fun _ => True) (.slice none 0 0) ([] : List Int)) ∧ Aside0 (Below w.heap.size w wc))
        case first =>
          have H := HC4.out
          clear HC4
          by_cases c5 : x7_1 < (l0.length : Int)
          · rw [if_pos c5] at H
            have c5b0 : decide (x7_1 < (l0.length : Int)) = true := decide_eq_true c5
            clear c5
            (first | rw [c5b0] | (simp only [i64_w, i32_w]; rw [c5b0]) | skip)
            by_cases c6 : 0 ≤ x7_1
            · rw [if_pos c6] at H
              have c6b0 : decide (0 ≤ x7_1) = true := decide_eq_true c6
              clear c6
              have H' := Aside0.mk H
              clear H
              have p101 : 0 ≤ (x7_1 : Int) := of_decide_eq_true (by first | (with_reducible assumption) | assumption)
              have q101 : x7_1 < (l0.length : Int) := of_decide_eq_true (by first | (with_reducible assumption) | assumption)
              obtain ⟨ad101, e101, hx101_0⟩ := Kd.at_int HR0.out x7_1 p101 q101
              cases e101
              replace hx101_0 := (HB.out.cell (World.block_lt_of_cell? w _ hx101_0)).trans hx101_0
              replace p101 := eq_true p101
              replace q101 := eq_true q101
              go_wp2
              go_meet
              case rel => exact ⟨_, (wrap64 (Int.tmod (rd l0 x7_1) 12)), (by first | rfl | (simp; done) | (simp [*]; done)), H', ⟨by have := HK1.out; first | omega | exact Nat.le_refl _⟩, ⟨by (with_reducible repeat (first | apply Kd.S_alloc | apply Kd.S_drewN | apply Kd.S_drew)); exact Kd.S_mono HO_5.out (fun _ hk => (by simp [Value.ownBlock]))⟩, ⟨by first | exact Kd.R_nil _ _ _ _ _ | exact Kd.N_nil _ _ _ _ _ | exact Kd.V_nil _ _ _ _ _ | exact Kd.Q_nil _ _ _ _ _ | exact Kd.S_nil _ _ _ _ _⟩, ⟨by repeat (first | (with_reducible first | exact HB.out | apply below_alloc | apply pw_below_drewN | apply below_drew1) | exact HB.out)⟩⟩
            · rw [if_neg c6] at H
              exact absurd H (by simp)
          · rw [if_neg c5] at H
            have c5b0 : decide (x7_1 < (l0.length : Int)) = false := decide_eq_false c5
            clear c5
            (first | rw [c5b0] | (simp only [i64_w, i32_w]; rw [c5b0]) | skip)
            have H' := Aside0.mk H
            clear H
            go_wp2
            go_meet
            case rel => exact ⟨_, (1), (by first | rfl | (simp; done) | (simp [*]; done)), H', ⟨by have := HK1.out; first | omega | exact Nat.le_refl _⟩, ⟨by (with_reducible repeat (first | apply Kd.S_alloc | apply Kd.S_drewN | apply Kd.S_drew)); exact Kd.S_mono HO_5.out (fun _ hk => (by simp [Value.ownBlock]))⟩, ⟨by first | exact Kd.R_nil _ _ _ _ _ | exact Kd.N_nil _ _ _ _ _ | exact Kd.V_nil _ _ _ _ _ | exact Kd.Q_nil _ _ _ _ _ | exact Kd.S_nil _ _ _ _ _⟩, ⟨by repeat (first | (with_reducible first | exact HB.out | apply below_alloc | apply pw_below_drewN | apply below_drew1) | exact HB.out)⟩⟩
        case rest =>
          clear HC4
          try clear c1
          try clear p1
          try clear q1
          try clear hx1
          try clear p2
          try clear c3
          try clear c3b0
          try clear c5
          try clear c5b0
          try clear c6
          try clear c6b0
          try clear p6
          try clear hx101_0
          try clear p101
          try clear p2
          try clear q101
          obtain ⟨kq, x9_3, rfl, HA, HJ3, HO_5, HO_8, HB⟩ := hcut
          cases kq with
          | zero => exact absurd HA.out (by simp [scullerlaw07_Arena.j1])
          | succ kj3 =>
            have H := HA.out
            clear HA
            simp only [scullerlaw07_Arena.j1] at H
            have HC7 := Aside0.mk H
            clear H
            go_upto_if 31 with (fail)
            go_cut [9] (fun v9 wc => ∃ (kq : Nat) (x9_6 : Int), v9 = .int .i64 x9_6 ∧ Aside0 (scullerlaw07_Arena.j2 kq l0 a1 x5_1 x6_1 x7_1 ([] : List Int) x9_6 = some r) ∧ Aside0 (kq ≤ kj3) ∧ Aside0 (Kd.S (Kd.slice 42 (Kd.int .u64)) 37 wc w.heap.size (fun k_ => some k_ ≠ ((.slice none 0 0) : Value).ownBlock) u5 x5_1) ∧ Aside0 (Kd.R (Kd.int .u64) 42 wc w.heap.size (fun _ => True) (.slice none 0 0) ([] : List Int)) ∧ Aside0 (Below w.heap.size w wc))
            case first =>
              have H := HC7.out
              clear HC7
              by_cases c8 : x7_1 = 0
              · rw [if_pos c8] at H
                have c8b0 : (x7_1 == 0) = true := beq_iff_eq.mpr c8
                have c8b1 : (x7_1 != 0) = false := bne_eq_false_iff_eq.mpr c8
                clear c8
                (first | rw [c8b0] | (simp only [i64_w, i32_w]; rw [c8b0]) | skip)
                have H' := Aside0.mk H
                clear H
                go_wp2
                go_meet
                case rel => exact ⟨_, (wrap64 (x9_3 + 1)), (by first | rfl | (simp; done) | (simp [*]; done)), H', ⟨by have := HK1.out; have := HJ3.out; first | omega | exact Nat.le_refl _⟩, ⟨by (with_reducible repeat (first | apply Kd.S_alloc | apply Kd.S_drewN | apply Kd.S_drew)); exact HO_5.out⟩, ⟨by (with_reducible repeat (first | apply Kd.R_alloc | apply Kd.R_drewN | apply Kd.R_drew)); exact HO_8.out⟩, ⟨by repeat (first | (with_reducible first | exact HB.out | apply below_alloc | apply pw_below_drewN | apply below_drew1) | exact HB.out)⟩⟩
              · rw [if_neg c8] at H
                have c8b0 : (x7_1 == 0) = false := beq_eq_false_iff_ne.mpr c8
                have c8b1 : (x7_1 != 0) = true := bne_iff_ne.mpr c8
                (first | rw [c8b0] | (simp only [i64_w, i32_w]; rw [c8b0]) | skip)
                have H' := Aside0.mk H
                clear H
                go_wp2
                go_meet
                case rel => exact ⟨_, (x9_3), (by first | rfl | (simp; done) | (simp [*]; done)), H', ⟨by have := HK1.out; have := HJ3.out; first | omega | exact Nat.le_refl _⟩, ⟨by (with_reducible repeat (first | apply Kd.S_alloc | apply Kd.S_drewN | apply Kd.S_drew)); exact HO_5.out⟩, ⟨by (with_reducible repeat (first | apply Kd.R_alloc | apply Kd.R_drewN | apply Kd.R_drew)); exact HO_8.out⟩, ⟨by repeat (first | (with_reducible first | exact HB.out | apply below_alloc | apply pw_below_drewN | apply below_drew1) | exact HB.out)⟩⟩
            case rest =>
              clear HC7
              try clear c1
              try clear p1
              try clear q1
              try clear hx1
              try clear p2
              try clear c3
              try clear c3b0
              try clear c5
              try clear c5b0
              try clear c6
              try clear c6b0
              try clear p6
              try clear c8
              try clear c8b0
              try clear c8b1
              try clear hx101_0
              try clear p1
              try clear p101
              try clear p2
              try clear p6
              try clear q1
              try clear q101
              obtain ⟨kq, x9_6, rfl, HA, HJ6, HO_5, HO_8, HB⟩ := hcut
              cases kq with
              | zero => exact absurd HA.out (by simp [scullerlaw07_Arena.j2])
              | succ kj6 =>
                have H := HA.out
                clear HA
                simp only [scullerlaw07_Arena.j2] at H
                have H' := Aside0.mk H
                clear H
                go_wp2
                go_loopg [6, 8, 10] kj6 (fun kq v6 v8 v10 w' => ∃ (x6_4 : Int) (x8_4 : List Int) (x10_4 : Int), v6 = .int .i64 x6_4 ∧ v10 = .int .i64 x10_4 ∧ Aside0 (scullerlaw07_Arena.l1 kq l0 a1 x5_1 x6_4 x7_1 x8_4 x9_6 x10_4 = some r) ∧ Aside0 (kq ≤ kj6) ∧ Aside0 (Kd.S (Kd.slice 42 (Kd.int .u64)) 37 w' w.heap.size (fun k_ => some k_ ≠ (v8 : Value).ownBlock) u5 x5_1) ∧ Aside0 (Kd.R (Kd.int .u64) 42 w' w.heap.size (fun _ => True) v8 x8_4) ∧ Aside0 (Below w.heap.size w w'))
                case atStart => exact ⟨(x6_1), (([] : List Int)), (0), (by first | rfl | (simp; done) | (simp [*]; done)), (by first | rfl | (simp; done) | (simp [*]; done)), H', ⟨Nat.le_refl _⟩, ⟨by (with_reducible repeat (first | apply Kd.S_alloc | apply Kd.S_drewN | apply Kd.S_drew)); exact HO_5.out⟩, ⟨by (with_reducible repeat (first | apply Kd.R_alloc | apply Kd.R_drewN | apply Kd.R_drew)); exact HO_8.out⟩, ⟨by repeat (first | (with_reducible first | exact HB.out | apply below_alloc | apply pw_below_drewN | apply below_drew1) | exact HB.out)⟩⟩
                case round =>
                  clear H'
                  try clear c1
                  try clear p1
                  try clear q1
                  try clear hx1
                  try clear p2
                  try clear c3
                  try clear c3b0
                  try clear c5
                  try clear c5b0
                  try clear c6
                  try clear c6b0
                  try clear p6
                  try clear c8
                  try clear c8b0
                  try clear c8b1
                  try clear hx101_0
                  try clear p1
                  try clear p101
                  try clear p2
                  try clear p6
                  try clear q1
                  try clear q101
                  obtain ⟨x6_4, x8_4, x10_4, rfl, rfl, HA, HK4, HO_5, HO_8, HB⟩ := hrel
                  cases gk with
                  | zero => exact absurd HA.out (by simp [scullerlaw07_Arena.l1])
                  | succ k4 =>
                    have H := HA.out
                    clear HA
                    simp only [scullerlaw07_Arena.l1] at H
                    by_cases c9 : x10_4 < x9_6
                    · rw [if_pos c9] at H
                      have c9b0 : decide (x10_4 < x9_6) = true := decide_eq_true c9
                      clear c9
                      by_cases c10 : (l0.length : Int) > 0
                      · rw [if_pos c10] at H
                        have c10b0 : decide (0 < (l0.length : Int)) = true := decide_eq_true c10
                        have c10b1 : decide (0 < l0.length) = true := decide_eq_true (by omega)
                        clear c10
                        by_cases c11 : (l0.length : Int) = 0
                        · rw [if_pos c11] at H
                          exact absurd H (by simp)
                        · rw [if_neg c11] at H
                          have c11b0 : ((l0.length : Int) == 0) = false := beq_eq_false_iff_ne.mpr c11
                          have c11b1 : ((l0.length : Int) != 0) = true := bne_iff_ne.mpr c11
                          have c11b2 : ¬ (l0 = []) := fun h_ => c11 (by rw [h_]; rfl)
                          obtain ⟨ji12, hji12⟩ : ∃ j_ : Int, (Int.tmod x6_4 (l0.length : Int)) = j_ := ⟨_, rfl⟩
                          replace H : (if 0 ≤ (ji12) then (if (ji12) < (l0.length : Int) then (if x8_4.length < 17592186044416 then (scullerlaw07_Arena.l1 k4 l0 a1 x5_1 (wrap64 (x6_4 + 1)) x7_1 (x8_4 ++ [IntKind.u64.wrap ((IntKind.u64.wrap ((IntKind.u64.wrap (rd l0 (ji12))) * 4311810305)) + (IntKind.u64.wrap (x6_4)))]) x9_6 (wrap64 (x10_4 + 1))) else (none)) else (none)) else (none)) = some r := by first | (rw [hji12] at H; exact H) | (simp only [hji12] at H ⊢; exact H)
                          by_cases c13 : 0 ≤ (ji12)
                          · rw [if_pos c13] at H
                            have c13b0 : decide (0 ≤ (ji12)) = true := decide_eq_true c13
                            clear c13
                            by_cases c14 : (ji12) < (l0.length : Int)
                            · rw [if_pos c14] at H
                              have c14b0 : decide ((ji12) < (l0.length : Int)) = true := decide_eq_true c14
                              clear c14
                              by_cases c15 : x8_4.length < 17592186044416
                              · rw [if_pos c15] at H
                                have LMc15 := Aside0.mk c15
                                clear c15
                                obtain ⟨y103, hy103⟩ : ∃ y_ : List Int, y_ = (x8_4 ++ [IntKind.u64.wrap ((IntKind.u64.wrap ((IntKind.u64.wrap (rd l0 (ji12))) * 4311810305)) + (IntKind.u64.wrap (x6_4)))]) := ⟨_, rfl⟩
                                replace H : (scullerlaw07_Arena.l1 k4 l0 a1 x5_1 (wrap64 (x6_4 + 1)) x7_1 y103 x9_6 (wrap64 (x10_4 + 1))) = some r := by first | (rw [hy103]; with_reducible exact H) | (have H2_ := (Option.bind_some _ _).symm.trans H; rw [hy103]; with_reducible exact H2_) | (have H2_ := (Option.bind_some _ _).symm.trans H; with_reducible exact H2_) | with_reducible exact H | (rw [hy103]; exact H) | exact H
                                have Ny103 := Aside0.mk hy103
                                clear hy103
                                have H' := Aside0.mk H
                                clear H
                                have p102 : 0 ≤ ((ji12) : Int) := of_decide_eq_true (by first | (with_reducible assumption) | assumption)
                                have q102 : (ji12) < (l0.length : Int) := of_decide_eq_true (by first | (with_reducible assumption) | assumption)
                                obtain ⟨ad102, e102, hx102_0⟩ := Kd.at_int HR0.out (ji12) p102 q102
                                cases e102
                                replace hx102_0 := (HB.out.cell (World.block_lt_of_cell? w _ hx102_0)).trans hx102_0
                                replace p102 := eq_true p102
                                replace q102 := eq_true q102
                                go_wp2_with (first | ((with_reducible refine gate_builtin (b := .append) (xs := #[.tmp 56, .tmp 58]) rfl ?_); at_builtin; refine Kd.R_append (Kd.int .u64) (w0 := w) w.heap.size rfl (.tmp 56) (.tmp 58) 37 42 (.int .u64 0) 8 rfl Try.underlying37 info42 rfl (by decide) (by omega) u8 x8_4 (IntKind.u64.wrap ((IntKind.u64.wrap ((IntKind.u64.wrap (rd l0 (ji12))) * 4311810305)) + (IntKind.u64.wrap (x6_4)))) [.int .u64 (IntKind.u64.wrap ((IntKind.u64.wrap ((IntKind.u64.wrap (rd l0 (ji12))) * 4311810305)) + (IntKind.u64.wrap (x6_4))))] (fun _ => True) (fun _ => False) rfl rfl ?aP (fun _ hk => hk.elim) ?aF ?aO ?aB ?aS ?aL ?_; (case aP => exact rfl); (case aB => exact (by repeat (first | (with_reducible first | exact HB.out | apply below_alloc | apply pw_below_drewN | apply below_drew1) | exact HB.out))); (case aF => exact (fun _ _ => trivial)); (case aO => exact (by (with_reducible repeat (first | apply Kd.R_alloc | apply Kd.R_drewN | apply Kd.R_drew)); exact HO_8.out)); (case aS => exact (below_size (by repeat (first | (with_reducible first | exact HB.out | apply below_alloc | apply pw_below_drewN | apply below_drew1) | exact HB.out)))); (case aL => have := LMc15.out; omega); intro v104 w16 ho hb hg hat; rw [← Ny103.out] at ho; have n0_ := Aside0.mk (Kd.S_after (ok := (fun _ => True)) (by (with_reducible repeat (first | apply Kd.S_alloc | apply Kd.S_drewN | apply Kd.S_drew)); exact Kd.S_mono HO_5.out (fun _ hk => ⟨trivial, hk⟩)) hg hat); have n1_ := Aside0.mk (hb); have n2_ := Aside0.mk (ho); clear HO_5; clear HB; clear HO_8; have HO_5 := n0_; have HB := n1_; have HO105 := n2_; clear n0_ n1_ n2_; clear ho hb hg hat))
                                go_roundg k4
                                case measure => have := HK1.out; have := HJ3.out; have := HJ6.out; have := HK4.out; omega
                                case rel => exact ⟨(wrap64 (x6_4 + 1)), (y103), (wrap64 (x10_4 + 1)), (by first | rfl | (simp; done) | (simp [*]; done)), (by first | rfl | (simp; done) | (simp [*]; done)), H', ⟨by have := HK1.out; have := HJ3.out; have := HJ6.out; have := HK4.out; omega⟩, ⟨by (with_reducible repeat (first | apply Kd.S_alloc | apply Kd.S_drewN | apply Kd.S_drew)); exact Kd.S_mono HO_5.out (fun _ hk => hk.2)⟩, ⟨by (with_reducible repeat (first | apply Kd.R_alloc | apply Kd.R_drewN | apply Kd.R_drew)); exact HO105.out⟩, ⟨by repeat (first | (with_reducible first | exact HB.out | apply below_alloc | apply pw_below_drewN | apply below_drew1) | exact HB.out)⟩⟩
                              · rw [if_neg c15] at H
                                exact absurd H (by simp)
                            · rw [if_neg c14] at H
                              exact absurd H (by simp)
                          · rw [if_neg c13] at H
                            exact absurd H (by simp)
                      · rw [if_neg c10] at H
                        have c10b0 : decide (0 < (l0.length : Int)) = false := decide_eq_false c10
                        have c10b1 : decide (0 < l0.length) = false := decide_eq_false (by omega)
                        clear c10
                        by_cases c17 : x8_4.length < 17592186044416
                        · rw [if_pos c17] at H
                          have LMc17 := Aside0.mk c17
                          clear c17
                          obtain ⟨y106, hy106⟩ : ∃ y_ : List Int, y_ = (x8_4 ++ [IntKind.u64.wrap (x6_4)]) := ⟨_, rfl⟩
                          replace H : (scullerlaw07_Arena.l1 k4 l0 a1 x5_1 (wrap64 (x6_4 + 1)) x7_1 y106 x9_6 (wrap64 (x10_4 + 1))) = some r := by first | (rw [hy106]; with_reducible exact H) | (have H2_ := (Option.bind_some _ _).symm.trans H; rw [hy106]; with_reducible exact H2_) | (have H2_ := (Option.bind_some _ _).symm.trans H; with_reducible exact H2_) | with_reducible exact H | (rw [hy106]; exact H) | exact H
                          have Ny106 := Aside0.mk hy106
                          clear hy106
                          have H' := Aside0.mk H
                          clear H
                          go_wp2_with (first | ((with_reducible refine gate_builtin (b := .append) (xs := #[.tmp 56, .tmp 58]) rfl ?_); at_builtin; refine Kd.R_append (Kd.int .u64) (w0 := w) w.heap.size rfl (.tmp 56) (.tmp 58) 37 42 (.int .u64 0) 8 rfl Try.underlying37 info42 rfl (by decide) (by omega) u8 x8_4 (IntKind.u64.wrap (x6_4)) [.int .u64 (IntKind.u64.wrap (x6_4))] (fun _ => True) (fun _ => False) rfl rfl ?aP (fun _ hk => hk.elim) ?aF ?aO ?aB ?aS ?aL ?_; (case aP => exact rfl); (case aB => exact (by repeat (first | (with_reducible first | exact HB.out | apply below_alloc | apply pw_below_drewN | apply below_drew1) | exact HB.out))); (case aF => exact (fun _ _ => trivial)); (case aO => exact (by (with_reducible repeat (first | apply Kd.R_alloc | apply Kd.R_drewN | apply Kd.R_drew)); exact HO_8.out)); (case aS => exact (below_size (by repeat (first | (with_reducible first | exact HB.out | apply below_alloc | apply pw_below_drewN | apply below_drew1) | exact HB.out)))); (case aL => have := LMc17.out; omega); intro v107 w18 ho hb hg hat; rw [← Ny106.out] at ho; have n0_ := Aside0.mk (Kd.S_after (ok := (fun _ => True)) (by (with_reducible repeat (first | apply Kd.S_alloc | apply Kd.S_drewN | apply Kd.S_drew)); exact Kd.S_mono HO_5.out (fun _ hk => ⟨trivial, hk⟩)) hg hat); have n1_ := Aside0.mk (hb); have n2_ := Aside0.mk (ho); clear HO_5; clear HB; clear HO_8; have HO_5 := n0_; have HB := n1_; have HO108 := n2_; clear n0_ n1_ n2_; clear ho hb hg hat))
                          go_roundg k4
                          case measure => have := HK1.out; have := HJ3.out; have := HJ6.out; have := HK4.out; omega
                          case rel => exact ⟨(wrap64 (x6_4 + 1)), (y106), (wrap64 (x10_4 + 1)), (by first | rfl | (simp; done) | (simp [*]; done)), (by first | rfl | (simp; done) | (simp [*]; done)), H', ⟨by have := HK1.out; have := HJ3.out; have := HJ6.out; have := HK4.out; omega⟩, ⟨by (with_reducible repeat (first | apply Kd.S_alloc | apply Kd.S_drewN | apply Kd.S_drew)); exact Kd.S_mono HO_5.out (fun _ hk => hk.2)⟩, ⟨by (with_reducible repeat (first | apply Kd.R_alloc | apply Kd.R_drewN | apply Kd.R_drew)); exact HO108.out⟩, ⟨by repeat (first | (with_reducible first | exact HB.out | apply below_alloc | apply pw_below_drewN | apply below_drew1) | exact HB.out)⟩⟩
                        · rw [if_neg c17] at H
                          exact absurd H (by simp)
                    · rw [if_neg c9] at H
                      have c9b0 : decide (x10_4 < x9_6) = false := decide_eq_false c9
                      clear c9
                      by_cases c19 : x5_1.length < 5864062014805
                      · rw [if_pos c19] at H
                        have LMc19 := Aside0.mk c19
                        clear c19
                        obtain ⟨y109, hy109⟩ : ∃ y_ : List (List Int), y_ = (x5_1 ++ [x8_4]) := ⟨_, rfl⟩
                        replace H : (scullerlaw07_Arena.l0 k4 l0 a1 y109 x6_4 (wrap64 (x7_1 + 1))) = some r := by first | (rw [hy109]; with_reducible exact H) | (have H2_ := (Option.bind_some _ _).symm.trans H; rw [hy109]; with_reducible exact H2_) | (have H2_ := (Option.bind_some _ _).symm.trans H; with_reducible exact H2_) | with_reducible exact H | (rw [hy109]; exact H) | exact H
                        have Ny109 := Aside0.mk hy109
                        clear hy109
                        have H' := Aside0.mk H
                        clear H
                        obtain ⟨Ao21, co21, eo21⟩ := Kd.R_slice HO_8.out
                        subst eo21
                        go_wp2_with (first | ((with_reducible refine gate_builtin (b := .append) (xs := #[.tmp 62, .tmp 64]) rfl ?_); at_builtin; refine Kd.S_append (Kd.slice 42 (Kd.int .u64)) (w0 := w) w.heap.size rfl (.tmp 62) (.tmp 64) 26 37 (.slice none 0 0) 24 rfl Try.underlying26 info37 rfl (by decide) (by omega) u5 x5_1 x8_4 [.slice Ao21 x8_4.length co21] (fun _ => True) (fun k_ => some k_ = (.slice Ao21 x8_4.length co21 : Value).ownBlock) rfl rfl ?aP (fun k_ hk_ => ((Kd.R_mono (ok' := fun k_ => ((fun _ => True)) k_ ∧ some k_ ≠ (u5 : Value).ownBlock) (Kd.R_apart' (HO_8.out) (Kd.S_typed HO_5.out) (by decide)) (fun k_ hk => ⟨trivial, hk.2⟩))).1 k_ hk_.symm) ?aF ?aO ?aB ?aS ?aL ?_; (case aP => exact Kd.M_row (Kd.R_mono (Kd.R_tight rfl (Kd.R_mono (ok' := fun k_ => ((fun _ => True)) k_ ∧ some k_ ≠ (u5 : Value).ownBlock) (Kd.R_apart' (HO_8.out) (Kd.S_typed HO_5.out) (by decide)) (fun k_ hk => ⟨trivial, hk.2⟩))) (fun _ h_ => h_))); (case aB => exact (by repeat (first | (with_reducible first | exact HB.out | apply below_alloc | apply pw_below_drewN | apply below_drew1) | exact HB.out))); (case aF => exact (fun _ _ => trivial)); (case aO => exact (by (with_reducible repeat (first | apply Kd.S_alloc | apply Kd.S_drewN | apply Kd.S_drew)); exact Kd.S_mono HO_5.out (fun k_ hk => ⟨trivial, fun e_ => hk e_⟩))); (case aS => exact (below_size (by repeat (first | (with_reducible first | exact HB.out | apply below_alloc | apply pw_below_drewN | apply below_drew1) | exact HB.out)))); (case aL => have := LMc19.out; omega); intro v110 w20 ho hb hg hat; rw [← Ny109.out] at ho; have n0_ := Aside0.mk (hb); have n1_ := Aside0.mk (ho); clear HB; clear HO_5; clear HO_8; have HB := n0_; have HO111 := n1_; clear n0_ n1_; clear ho hb hg hat))
                        go_roundg k4
                        case measure => have := HK1.out; have := HJ3.out; have := HJ6.out; have := HK4.out; omega
                        case rel => exact ⟨(y109), (x6_4), (wrap64 (x7_1 + 1)), (by first | rfl | (simp; done) | (simp [*]; done)), (by first | rfl | (simp; done) | (simp [*]; done)), H', ⟨by have := HK1.out; have := HJ3.out; have := HJ6.out; have := HK4.out; omega⟩, ⟨by (with_reducible repeat (first | apply Kd.S_alloc | apply Kd.S_drewN | apply Kd.S_drew)); exact HO111.out⟩, ⟨by repeat (first | (with_reducible first | exact HB.out | apply below_alloc | apply pw_below_drewN | apply below_drew1) | exact HB.out)⟩⟩
                      · rw [if_neg c19] at H
                        exact absurd H (by simp)
      · rw [if_neg c3] at H
        have c3b0 : decide (x7_1 < (wrap64 (1 + (wrap64 (Int.tmod a1 5))))) = false := decide_eq_false c3
        clear c3
        obtain rfl := Option.some.inj H
        go_wp2
        go_ret
        exact ⟨_, by first | rfl | (simp [errW_none, errW_some] <;> rfl) | (simp [*, errW_none, errW_some] <;> rfl), by (with_reducible repeat (first | apply Kd.S_alloc | apply Kd.S_drewN | apply Kd.S_drew)); exact HO_5.out, by repeat (first | (with_reducible first | exact HB.out | apply below_alloc | apply pw_below_drewN | apply below_drew1) | exact HB.out)⟩

end Go.Proofs.Ythlhnodedofibaa.F
end

section
namespace Go.Proofs.Ythlhnodedofibaa.F
open Go.RowKit Go.Proofs.YthlhnodedofibaaW.PrintWords Go.Proofs.YthlhnodedofibaaW.PrintLast Go.Proofs.YthlhnodedofibaaW.PrintMore
attribute [local go_sem] max2_int min2_int max_two min_two max_three min_three max_four min_four   -- for this text's walks alone
set_option linter.unusedVariables false
set_option linter.unusedSimpArgs false

open Go.Proofs.Ythlhnodedofibaa.H
def scullerlaw07_Arena_c.f (l0 : List Int) (a1 : Int) : Option (List (List Int)) := if bytesB l0 = true ∧ l0.length ≤ 140737488351232 ∧ 0 ≤ a1 ∧ a1 ≤ 255 then some (arenaL l0 a1) else none
theorem wrapu {z : Int} (hz : 0 ≤ z) (hz2 : z < 18446744073709551616) : IntKind.u64.wrap z = z := by
  simp [IntKind.wrap, IntKind.signed, IntKind.bits]
  omega
theorem scullerlaw07_Arena.l1_to (c : List Int) (hc : ∀ x ∈ c, 0 ≤ x ∧ x ≤ 255) (hcl : c.length ≤ 140737488351232) (n : Int) (acc : List (List Int)) (hacc : acc.length ≤ 100) (i k0 size : Nat) (hi : i ≤ 100) (hk0 : k0 ≤ 1000) (hsz : size ≤ 13) (R : Option (List (List Int)))
    (K : ∃ k, scullerlaw07_Arena.l0 k c n (acc ++ [segC c k0 size]) ((k0 + size : Nat) : Int) ((i + 1 : Nat) : Int) = R) :
    ∀ (d j : Nat), size - j = d → j ≤ size → ∃ k, scullerlaw07_Arena.l1 k c n acc ((k0 + j : Nat) : Int) (i : Int) (segC c k0 j) (size : Int) (j : Int) = R
  | 0, j, hd, hj => by
    obtain rfl : j = size := by omega
    obtain ⟨k, hk⟩ := K
    refine ⟨k + 1, ?_⟩
    simp only [scullerlaw07_Arena.l1]
    rw [if_neg (by omega), if_pos (by omega), show wrap64 ((i : Int) + 1) = ((i + 1 : Nat) : Int) from by unfold wrap64; omega, hk]
  | d + 1, j, hd, hj => by
    obtain ⟨k, hk⟩ := scullerlaw07_Arena.l1_to c hc hcl n acc hacc i k0 size hi hk0 hsz R K d (j + 1) (by omega) (by omega)
    refine ⟨k + 1, ?_⟩
    simp only [scullerlaw07_Arena.l1]
    have e1 : wrap64 (((k0 + j : Nat) : Int) + 1) = ((k0 + (j + 1) : Nat) : Int) := by unfold wrap64; omega
    have e2 : wrap64 ((j : Int) + 1) = ((j + 1 : Nat) : Int) := by unfold wrap64; omega
    rw [if_pos (by omega)]
    by_cases hc0 : (c.length : Int) > 0
    · have ht : Int.tmod ((k0 + j : Nat) : Int) (c.length : Int) = (((k0 + j) % c.length : Nat) : Int) := by
        rw [Int.tmod_eq_emod_of_nonneg (by omega)]; omega
      have hm : (k0 + j) % c.length < c.length := Nat.mod_lt _ (by omega)
      have hr : rd c (((k0 + j) % c.length : Nat) : Int) = c.getD ((k0 + j) % c.length) 0 := rfl
      have hx : 0 ≤ c.getD ((k0 + j) % c.length) 0 ∧ c.getD ((k0 + j) % c.length) 0 ≤ 255 := by
        rw [List.getD_eq_getElem?_getD, List.getElem?_eq_getElem hm]; exact hc _ (List.getElem_mem hm)
      rw [if_pos hc0, if_neg (by omega), ht, if_pos (by omega), if_pos (by omega), if_pos (by rw [segC_length]; omega), hr, wrapu hx.1 (by omega), wrapu (z := ((k0 + j : Nat) : Int)) (by omega) (by omega), wrapu (z := c.getD ((k0 + j) % c.length) 0 * 4311810305) (by omega) (by omega), wrapu (by omega) (by omega), e1, e2]
      rw [segC_succ] at hk
      exact hk
    · have hnil : c = [] := List.eq_nil_of_length_eq_zero (by omega)
      rw [if_neg hc0, if_pos (by rw [segC_length]; omega), wrapu (z := ((k0 + j : Nat) : Int)) (by omega) (by omega), e1, e2]
      rw [segC_succ] at hk
      have : wordC c (k0 + j) = ((k0 + j : Nat) : Int) := by simp [wordC, hnil]
      rw [this] at hk
      exact hk
theorem scullerlaw07_Arena.l0_to (c : List Int) (hc : ∀ x ∈ c, 0 ≤ x ∧ x ≤ 255) (hcl : c.length ≤ 140737488351232) (n : Int) (hn0 : 0 ≤ n) (hn : n ≤ 255) : ∀ (m i k0 : Nat) (acc : List (List Int)), i + m = (1 + n % 5).toNat → acc.length = i → k0 ≤ 13 * i →
    ∃ k, scullerlaw07_Arena.l0 k c n acc (k0 : Int) (i : Int) = some (acc ++ arenaC c m i k0)
  | 0, i, k0, acc, hm, ha, hk0 => ⟨1, by
    simp only [scullerlaw07_Arena.l0, arenaC, List.append_nil]
    rw [if_neg (by rw [Int.tmod_eq_emod_of_nonneg hn0]; unfold wrap64; omega)]⟩
  | m + 1, i, k0, acc, hm, ha, hk0 => by
    have hs := sizeC_le c i
    obtain ⟨k, hk⟩ := scullerlaw07_Arena.l0_to c hc hcl n hn0 hn m (i + 1) (k0 + sizeC c i) (acc ++ [segC c k0 (sizeC c i)]) (by omega) (by simp [ha]) (by omega)
    obtain ⟨k1, hk1⟩ := scullerlaw07_Arena.l1_to c hc hcl n acc (by omega) i k0 (sizeC c i) (by omega) (by omega) (by omega) _ ⟨k, hk⟩ (sizeC c i) 0 (by omega) (by omega)
    have hfin : ∃ q, scullerlaw07_Arena.j1 q c n acc (k0 : Int) (i : Int) [] (if i < c.length then c.getD i 0 % 12 else 1) = some (acc ++ arenaC c (m + 1) i k0) := by
      refine ⟨k1 + 1 + 1, ?_⟩
      have hnn : 0 ≤ (if i < c.length then c.getD i 0 % 12 else 1) ∧ (if i < c.length then c.getD i 0 % 12 else 1) < 12 := by split <;> omega
      have hsz : (sizeC c i : Int) = (if i < c.length then c.getD i 0 % 12 else 1) + (if i = 0 then 1 else 0) := by
        unfold sizeC; split <;> split <;> omega
      have hsz0 : i = 0 → (sizeC c i : Int) = (if i < c.length then c.getD i 0 % 12 else 1) + 1 := fun e => by rw [hsz, if_pos e]
      have hsz1 : ¬ i = 0 → (sizeC c i : Int) = (if i < c.length then c.getD i 0 % 12 else 1) := fun e => by rw [hsz, if_neg e]; omega
      clear hsz
      generalize (if i < c.length then c.getD i 0 % 12 else 1) = q0 at *
      simp only [scullerlaw07_Arena.j1, scullerlaw07_Arena.j2]
      rw [show segC c k0 0 = [] from rfl, List.append_assoc] at hk1
      by_cases e : (i : Int) = 0
      · rw [if_pos e, show wrap64 (q0 + 1) = (sizeC c i : Int) from by rw [hsz0 (by omega)]; unfold wrap64; omega]
        exact hk1
      · rw [if_neg e, show q0 = (sizeC c i : Int) from (hsz1 (by omega)).symm]
        exact hk1
    obtain ⟨q, hq⟩ := hfin
    refine ⟨q + 1, ?_⟩
    simp only [scullerlaw07_Arena.l0]
    rw [if_pos (by rw [Int.tmod_eq_emod_of_nonneg hn0]; unfold wrap64; omega)]
    by_cases hlt : (i : Int) < (c.length : Int)
    · have hr : rd c i = c.getD i 0 := rfl
      have hx : 0 ≤ c.getD i 0 ∧ c.getD i 0 ≤ 255 := by
        rw [List.getD_eq_getElem?_getD, List.getElem?_eq_getElem (show i < c.length by omega)]; exact hc _ (List.getElem_mem _)
      rw [if_pos hlt, if_pos (by omega), hr, Int.tmod_eq_emod_of_nonneg hx.1, show wrap64 (c.getD i 0 % 12) = c.getD i 0 % 12 from by unfold wrap64; omega]
      rw [if_pos (by omega)] at hq
      exact hq
    · rw [if_neg hlt]
      rw [if_neg (by omega)] at hq
      exact hq
theorem scullerlaw07_Arena_c.to {l0 : List Int} {a1 : Int} {r : List (List Int)} (h : scullerlaw07_Arena_c.f l0 a1 = some r) : ∃ k, scullerlaw07_Arena.f k l0 a1 = some r := by
  unfold scullerlaw07_Arena_c.f at h
  split at h
  case isFalse => cases h
  case isTrue hl =>
  obtain rfl := Option.some.inj h
  obtain ⟨hb, hl, h0, h1⟩ := hl
  obtain ⟨k, hk⟩ := scullerlaw07_Arena.l0_to l0 (bytesB_at hb) hl a1 h0 h1 (1 + (a1 % 5)).toNat 0 0 [] (by omega) rfl (by omega)
  exact ⟨k, by unfold scullerlaw07_Arena.f; simpa [arenaL] using hk⟩

theorem scullerlaw07_Arena_c.calls (A0 : Option Addr) (c0 : Nat) (l0 : List Int) (a1 : Int) (r : List (List Int)) (w : World) (hr0 : Kd.C (Kd.int .u8) w A0 l0.length l0) (hc0 : l0.length ≤ c0) (h : scullerlaw07_Arena_c.f l0 a1 = some r) :
    Calls Try.prog 13 #[.slice A0 l0.length c0, .int .u8 a1] w fun e w' => ∃ v0_ : Value, e = .returned (v0_) ∧ Kd.S (Kd.slice 42 (Kd.int .u64)) 37 w' w.heap.size (fun _ => True) v0_ r ∧ Below w.heap.size w w' := by
  obtain ⟨k_, hk_⟩ := scullerlaw07_Arena_c.to h
  exact scullerlaw07_Arena.calls k_ A0 c0 l0 a1 r w hr0 hc0 hk_

end Go.Proofs.Ythlhnodedofibaa.F
end

section
namespace Go.Proofs.Ythlhnodedofibaa.F
open Go.RowKit Go.Proofs.YthlhnodedofibaaW.PrintWords Go.Proofs.YthlhnodedofibaaW.PrintLast Go.Proofs.YthlhnodedofibaaW.PrintMore
attribute [local go_sem] max2_int min2_int max_two min_two max_three min_three max_four min_four   -- for this text's walks alone
set_option linter.unusedVariables false
set_option linter.unusedSimpArgs false

/-! ### scullerlaw12_Arena: function 23 -/
mutual
def scullerlaw12_Arena.l0 : Nat → Int → Int → List (List Int) → Int → Option ((List (List Int)))
  | 0, _, _, _, _ => none
  | k + 1, x1, x2, x7, x8 => if x8 < (wrap64 (Int.tmod x2 40)) then (if 0 ≤ (wrap64 ((x7.length : Int) - 1)) then (if (wrap64 ((x7.length : Int) - 1)) < (x7.length : Int) then (if (rd_L3 x7 (wrap64 ((x7.length : Int) - 1))).length < 17592186044416 then (scullerlaw12_Arena.l0 k x1 x2 (x7.set ((wrap64 ((x7.length : Int) - 1)) : Int).toNat ((rd_L3 x7 (wrap64 ((x7.length : Int) - 1))) ++ [IntKind.u64.wrap ((IntKind.u64.wrap (x8)) * (IntKind.u64.wrap (x1)))])) (wrap64 (x8 + 1))) else (none)) else (none)) else (none)) else (scullerlaw12_Arena.l1 k x2 x7 0)
def scullerlaw12_Arena.l1 : Nat → Int → List (List Int) → Int → Option ((List (List Int)))
  | 0, _, _, _ => none
  | k + 1, x2, x7, x9 => if x9 < (wrap64 (Int.tmod x2 7)) then (if 0 ≤ x9 then (if (x9 : Int).toNat ≤ 35184372088832 then (if x7.length < 5864062014805 then (scullerlaw12_Arena.l1 k x2 (x7 ++ [(List.replicate (x9 : Int).toNat 0)]) (wrap64 (x9 + 1))) else (none)) else (none)) else (none)) else (some x7)
end
def scullerlaw12_Arena.f (k : Nat) (l0 : List Int) (a1 : Int) (a2 : Int) : Option ((List (List Int))) := (scullerlaw07_Arena_c.f l0 a1).bind fun t101 => (scullerlaw12_Arena.l0 k a1 a2 t101 0)
theorem scullerlaw12_Arena.mono_l : ∀ k, (∀ y0 y1 y2 y3, LeO (scullerlaw12_Arena.l0 k y0 y1 y2 y3) (scullerlaw12_Arena.l0 (k + 1) y0 y1 y2 y3)) ∧ (∀ y0 y1 y2, LeO (scullerlaw12_Arena.l1 k y0 y1 y2) (scullerlaw12_Arena.l1 (k + 1) y0 y1 y2))
  | 0 => ⟨fun _ _ _ _ r h => by simp [scullerlaw12_Arena.l0] at h, fun _ _ _ r h => by simp [scullerlaw12_Arena.l1] at h⟩
  | k + 1 => by
    obtain ⟨ih0, ih1⟩ := scullerlaw12_Arena.mono_l k
    refine ⟨?_, ?_⟩
    · intro y0 y1 y2 y3
      unfold scullerlaw12_Arena.l0
      repeat' first
      | (with_reducible exact ih0 _ _ _ _)
      | (with_reducible exact ih1 _ _ _)
      | (with_reducible exact LeO.refl _)
      | (with_reducible exact LeO.none _)
      | (with_reducible refine LeO.ite ?_ ?_)
      | (with_reducible refine LeO.bind ?_ (fun _ => ?_))
      | exact ih0 _ _ _ _
      | exact ih1 _ _ _
      | exact LeO.none _
      | refine LeO.ite ?_ ?_
      | refine LeO.bind ?_ (fun _ => ?_)
    · intro y0 y1 y2
      unfold scullerlaw12_Arena.l1
      repeat' first
      | (with_reducible exact ih0 _ _ _ _)
      | (with_reducible exact ih1 _ _ _)
      | (with_reducible exact LeO.refl _)
      | (with_reducible exact LeO.none _)
      | (with_reducible refine LeO.ite ?_ ?_)
      | (with_reducible refine LeO.bind ?_ (fun _ => ?_))
      | exact ih0 _ _ _ _
      | exact ih1 _ _ _
      | exact LeO.none _
      | refine LeO.ite ?_ ?_
      | refine LeO.bind ?_ (fun _ => ?_)
theorem scullerlaw12_Arena.mono : ∀ a0 a1 a2 k, LeO (scullerlaw12_Arena.f k a0 a1 a2) (scullerlaw12_Arena.f (k + 1) a0 a1 a2) := by
  intro a0 a1 a2 k
  obtain ⟨ih0, ih1⟩ := scullerlaw12_Arena.mono_l k
  unfold scullerlaw12_Arena.f
  repeat' first
      | (with_reducible exact ih0 _ _ _ _)
      | (with_reducible exact ih1 _ _ _)
      | (with_reducible exact LeO.refl _)
      | (with_reducible exact LeO.none _)
      | (with_reducible refine LeO.ite ?_ ?_)
      | (with_reducible refine LeO.bind ?_ (fun _ => ?_))
      | exact ih0 _ _ _ _
      | exact ih1 _ _ _
      | exact LeO.none _
      | refine LeO.ite ?_ ?_
      | refine LeO.bind ?_ (fun _ => ?_)
set_option maxHeartbeats 8000000 in
set_option maxRecDepth 100000 in
theorem scullerlaw12_Arena.calls (k : Nat) (A0 : Option Addr) (c0 : Nat) (l0 : List Int) (a1 : Int) (a2 : Int) (r : List (List Int)) (w : World) (hr0 : Kd.C (Kd.int .u8) w A0 l0.length l0) (hc0 : l0.length ≤ c0) (h : scullerlaw12_Arena.f k l0 a1 a2 = some r) :
    Calls Try.prog 23 #[.slice A0 l0.length c0, .int .u8 a1, .int .u8 a2] w fun e w' => ∃ v0_ : Value, e = .returned (v0_) ∧ Kd.S (Kd.slice 42 (Kd.int .u64)) 37 w' w.heap.size (fun _ => True) v0_ r ∧ Below w.heap.size w w' := by
  have HR0 := Aside0.mk hr0
  have HC0 := Aside0.mk hc0
  clear hr0 hc0
  have HB := Aside0.mk (Below.refl w.heap.size w)
  have H : ((scullerlaw07_Arena_c.f l0 a1).bind fun t101 => (scullerlaw12_Arena.l0 k a1 a2 t101 0)) = some r := h
  clear h
  replace H := Option.bind_eq_some_iff.mp H
  obtain ⟨t101, A40, H⟩ := H
  replace H : (scullerlaw12_Arena.l0 k a1 a2 t101 0) = some r := H
  have A4 := Aside0.mk A40
  clear A40
  have H' := Aside0.mk H
  clear H
  go_enter Try.func23, Try.ntmps23
  go_wp2_with (first | ((with_reducible refine gate_callee (f := 13) rfl ?_); refine goesL_ (some 12) rfl rfl Try.func13 (by kernel_rfl) rfl #[.slice A0 l0.length c0, .int .u8 a1] rfl (by (try simp only [List.map_toArray, List.map_cons, List.map_nil]); first | done | rfl | (simp only [List.length_drop, List.length_take]; rfl)) ?_; (with_reducible refine (scullerlaw07_Arena_c.calls _ _ l0 a1 t101 _ ?side1 ?side2 A4.out).mono ?_); (case side1 => repeat (first | exact HR0.out | (with_reducible refine Kd.C_alloc ?_ _) | (with_reducible refine Kd.C_drewN ?_ _) | (with_reducible refine Kd.C_drew ?_))); (case side2 => exact HC0.out); rintro e w5 ⟨v102, rfl, ho0, hb⟩; refine ⟨_, rfl, ?_⟩; have n0_ := Aside0.mk (Kd.S_lower ho0 (below_size (by repeat (first | (with_reducible first | exact HB.out | apply below_alloc | apply pw_below_drewN | apply below_drew1) | exact HB.out)))); have n1_ := Aside0.mk (below_step (by repeat (first | (with_reducible first | exact HB.out | apply below_alloc | apply pw_below_drewN | apply below_drew1) | exact HB.out)) hb); clear HB; have HO103 := n0_; have HB := n1_; clear n0_ n1_; (try clear hb); (try clear hb2); (try clear hk); (try clear hi); (try clear ho0)))
  go_loopg [8] k (fun kq v8 w' => ∃ (x7_1 : List (List Int)) (x8_1 : Int), v8 = .int .i64 x8_1 ∧ Aside0 (scullerlaw12_Arena.l0 kq a1 a2 x7_1 x8_1 = some r) ∧ Aside0 (kq ≤ k) ∧ Aside0 (Kd.S (Kd.slice 42 (Kd.int .u64)) 37 w' w.heap.size (fun _ => True) v102 x7_1) ∧ Aside0 (Below w.heap.size w w'))
  case atStart => exact ⟨(t101), (0), (by first | rfl | (simp; done) | (simp [*]; done)), H', ⟨Nat.le_refl _⟩, ⟨by (with_reducible repeat (first | apply Kd.S_alloc | apply Kd.S_drewN | apply Kd.S_drew)); exact HO103.out⟩, ⟨by repeat (first | (with_reducible first | exact HB.out | apply below_alloc | apply pw_below_drewN | apply below_drew1) | exact HB.out)⟩⟩
  case round =>
    clear H'
    try clear c1
    try clear c2
    try clear p2
    obtain ⟨x7_1, x8_1, rfl, HA, HK1, HO_7, HB⟩ := hrel
    cases gk with
    | zero => exact absurd HA.out (by simp [scullerlaw12_Arena.l0])
    | succ k1 =>
      have H := HA.out
      clear HA
      simp only [scullerlaw12_Arena.l0] at H
      by_cases c6 : x8_1 < (wrap64 (Int.tmod a2 40))
      · rw [if_pos c6] at H
        have c6b0 : decide (x8_1 < (wrap64 (Int.tmod a2 40))) = true := decide_eq_true c6
        clear c6
        obtain ⟨ji7, hji7⟩ : ∃ j_ : Int, (wrap64 ((x7_1.length : Int) - 1)) = j_ := ⟨_, rfl⟩
        replace H : (if 0 ≤ (ji7) then (if (ji7) < (x7_1.length : Int) then (if (rd_L3 x7_1 (ji7)).length < 17592186044416 then (scullerlaw12_Arena.l0 k1 a1 a2 (x7_1.set ((ji7) : Int).toNat ((rd_L3 x7_1 (ji7)) ++ [IntKind.u64.wrap ((IntKind.u64.wrap (x8_1)) * (IntKind.u64.wrap (a1)))])) (wrap64 (x8_1 + 1))) else (none)) else (none)) else (none)) = some r := by first | (rw [hji7] at H; exact H) | (simp only [hji7] at H ⊢; exact H)
        have hji7w : (IntKind.i64.wrap ((x7_1.length : Int) - 1)) = ji7 := (i64_w _).trans hji7
        by_cases c8 : 0 ≤ (ji7)
        · rw [if_pos c8] at H
          have c8b0 : decide (0 ≤ (ji7)) = true := decide_eq_true c8
          clear c8
          by_cases c9 : (ji7) < (x7_1.length : Int)
          · rw [if_pos c9] at H
            have c9b0 : decide ((ji7) < (x7_1.length : Int)) = true := decide_eq_true c9
            clear c9
            by_cases c10 : (rd_L3 x7_1 (ji7)).length < 17592186044416
            · rw [if_pos c10] at H
              have LMc10 := Aside0.mk c10
              clear c10
              obtain ⟨y105, hy105⟩ : ∃ y_ : List Int, y_ = ((rd_L3 x7_1 (ji7)) ++ [IntKind.u64.wrap ((IntKind.u64.wrap (x8_1)) * (IntKind.u64.wrap (a1)))]) := ⟨_, rfl⟩
              replace H : (scullerlaw12_Arena.l0 k1 a1 a2 (x7_1.set ((ji7) : Int).toNat y105) (wrap64 (x8_1 + 1))) = some r := by first | (rw [hy105]; with_reducible exact H) | (have H2_ := (Option.bind_some _ _).symm.trans H; rw [hy105]; with_reducible exact H2_) | (have H2_ := (Option.bind_some _ _).symm.trans H; with_reducible exact H2_) | with_reducible exact H | (rw [hy105]; exact H) | exact H
              have Ny105 := Aside0.mk hy105
              clear hy105
              obtain ⟨y108, hy108⟩ : ∃ y_ : List (List Int), y_ = (x7_1.set ((ji7) : Int).toNat y105) := ⟨_, rfl⟩
              replace H : (scullerlaw12_Arena.l0 k1 a1 a2 y108 (wrap64 (x8_1 + 1))) = some r := by first | (rw [hy108]; with_reducible exact H) | (have H2_ := (Option.bind_some _ _).symm.trans H; rw [hy108]; with_reducible exact H2_) | (have H2_ := (Option.bind_some _ _).symm.trans H; with_reducible exact H2_) | with_reducible exact H | (rw [hy108]; exact H) | exact H
              have Ny108 := Aside0.mk hy108
              clear hy108
              have H' := Aside0.mk H
              clear H
              obtain ⟨Ao12, co12, eo12⟩ := Kd.S_slice HO_7.out
              subst eo12
              have p104 : 0 ≤ ((ji7) : Int) := of_decide_eq_true (by first | (with_reducible assumption) | assumption)
              have q104 : (ji7) < (x7_1.length : Int) := of_decide_eq_true (by first | (with_reducible assumption) | assumption)
              obtain ⟨ad104, A104_0, c104_0, e104, hx104_0, hl104_0, hi104_0⟩ := at_L3 (Kd.S_reads' HO_7.out).2.2 (ji7) p104 q104
              cases e104
              obtain ⟨ce104, hce104, hMe104, hcc104⟩ := Kd.S_get HO_7.out [] (ji7) p104 (by first | exact q104 | exact of_decide_eq_true (by first | (with_reducible assumption) | assumption) | (have e_ := (Kd.S_reads' HO_7.out).1; omega))
              obtain ⟨ve104_0, rfl, ge104_0⟩ := hMe104
              have hv104_0 := hcc104 0 _ rfl
              rw [Nat.add_zero, show ((Kd.slice 42 (Kd.int .u64))).sz = 1 from rfl, Nat.mul_one] at hv104_0
              replace hv104_0 := Option.some.inj (hv104_0.symm.trans hx104_0)
              rw [hv104_0] at ge104_0
              have HL104_0 := Aside0.mk (show Kd.R (Kd.int .u64) 42 _ _ _ _ (rd_L3 x7_1 (ji7)) from ge104_0)
              clear hv104_0 ge104_0
              have HX104_0 := Aside0.mk hx104_0
              clear hcc104 hce104
              have HR104_0 := Aside0.mk hi104_0
              have HC104_0 := Aside0.mk hl104_0
              clear hi104_0 hl104_0
              replace p104 := eq_true p104
              replace q104 := eq_true q104
              obtain ⟨go13, co13, eo13, gb13, gl13, cl13, HG13⟩ := Kd.S_form HO_7.out (by have h_ : ((ji7) : Int) < ((x7_1.length : Int) : Int) := of_decide_eq_true (by first | (with_reducible assumption) | assumption); have h2_ : 0 ≤ ((ji7) : Int) := (of_decide_eq_true (by first | (with_reducible assumption) | assumption)); omega)
              (first | cases eo13 | (injection eo13 with ea_ en_ ec_; (first | subst ea_ | (injection ea_ with ea_; subst ea_)); subst ec_; clear en_))
              have GB13 := Aside0.mk gb13
              have GG13 := Aside0.mk HG13
              clear gb13 gl13 HG13
              (first | simp only [add_plain] at hx104_0 | skip)
              obtain ⟨oki13, ce13, hcl13, hM13, hcc13, _, _, hH13⟩ := Kd.S_elem HO_7.out [] ((ji7) : Int) (of_decide_eq_true (by first | (with_reducible assumption) | assumption)) (by have h_ : ((ji7) : Int) < ((x7_1.length : Int) : Int) := of_decide_eq_true (by first | (with_reducible assumption) | assumption); first | exact h_ | (have e_ := (Kd.S_reads' HO_7.out).1; omega) | simpa using h_)
              obtain ⟨ve13_0, rfl, ge13_0⟩ := hM13
              have hv13 := hcc13 0 _ rfl
              have hX13 := HX104_0.out
              (try simp only [add_plain] at hX13)
              (try simp only [Nat.add_zero] at hv13)
              (try rw [show ((Kd.slice 42 (Kd.int .u64))).sz = 1 from rfl, Nat.mul_one] at hv13)
              replace hv13 := Option.some.inj (hv13.symm.trans hX13)
              subst hv13
              clear hX13 hcc13 hcl13
              have UU13 := Aside0.mk (show Kd.R (Kd.int .u64) 42 _ w.heap.size oki13 (.slice A104_0 (rd_L3 x7_1 (ji7)).length c104_0) (rd_L3 x7_1 (ji7)) from ge13_0)
              have HH13 := Aside0.mk hH13
              have HN13 := Aside0.mk (Kd.S_reads' HO_7.out).1
              clear hH13 ge13_0
              go_wp2_with (first | ((with_reducible refine gate_builtin (b := .append) (xs := #[.tmp 29, .tmp 35]) rfl ?_); at_builtin; refine Kd.R_append (Kd.int .u64) (w0 := w) w.heap.size rfl (.tmp 29) (.tmp 35) 37 42 (.int .u64 0) 8 rfl Try.underlying37 info42 rfl (by decide) (by omega) (.slice A104_0 (rd_L3 x7_1 (ji7)).length c104_0) (rd_L3 x7_1 (ji7)) (IntKind.u64.wrap ((IntKind.u64.wrap (x8_1)) * (IntKind.u64.wrap (a1)))) [.int .u64 (IntKind.u64.wrap ((IntKind.u64.wrap (x8_1)) * (IntKind.u64.wrap (a1))))] (fun k_ => oki13 k_ ∨ ((fun _ => True)) k_ ∧ wr.heap.size ≤ k_) (fun _ => False) rfl rfl ?aP (fun _ hk => hk.elim) ?aF ?aO ?aB ?aS ?aL ?_; (case aP => exact rfl); (case aB => exact (by repeat (first | (with_reducible first | exact HB.out | apply below_alloc | apply pw_below_drewN | apply below_drew1) | exact HB.out))); (case aF => exact (fun k_ hk => .inr ⟨trivial, hk⟩)); (case aO => exact (by (with_reducible repeat (first | apply Kd.R_alloc | apply Kd.R_drewN | apply Kd.R_drew)); exact Kd.R_mono UU13.out (fun _ hk => .inl hk))); (case aS => exact (below_size (by repeat (first | (with_reducible first | exact HB.out | apply below_alloc | apply pw_below_drewN | apply below_drew1) | exact HB.out)))); (case aL => have := LMc10.out; omega); intro v106 w14 ho hb hg hat; rw [← Ny105.out] at ho; have n0_ := Aside0.mk (hb); have n1_ := Aside0.mk (Kd.H_grown (Kd.H_widen (by repeat (first | exact HH13.out | refine Kd.H_alloc ?_ _ | refine Kd.H_drewN ?_ _ | refine Kd.H_drew ?_))) hg (fun k_ e_ => .inl (UU13.out.1 k_ e_))); have n2_ := Aside0.mk (ho); clear HB; clear HH13; clear HO_7; clear UU13; clear HL104_0; have HB := n0_; have HH13 := n1_; have HO107 := n2_; clear n0_ n1_ n2_; clear ho hb hg hat; have p11 : 0 ≤ ((ji7) : Int) := of_decide_eq_true (by first | (with_reducible assumption) | assumption); have q11 : ((ji7) : Int) < ((x7_1.length : Int) : Int) := of_decide_eq_true (by first | (with_reducible assumption) | assumption); replace p11 := eq_true p11; replace q11 := eq_true q11; obtain ⟨Ao17, co17, eo17⟩ := Kd.R_slice HO107.out; subst eo17; obtain ⟨_, _, hraw15, _, _, hcc15, _⟩ := Kd.H_raw HH13.out (of_decide_eq_true (by first | (with_reducible assumption) | assumption)) (by have h_ : ((ji7) : Int) < ((x7_1.length : Int) : Int) := of_decide_eq_true (by first | (with_reducible assumption) | assumption); first | exact h_ | (have e_ := (HN13.out); omega) | simpa using h_); obtain ⟨_, hfr15⟩ := Kd.H_at HH13.out (of_decide_eq_true (by first | (with_reducible assumption) | assumption)) (by have h_ : ((ji7) : Int) < ((x7_1.length : Int) : Int) := of_decide_eq_true (by first | (with_reducible assumption) | assumption); first | exact h_ | (have e_ := (HN13.out); omega) | simpa using h_); have hx15_0 := hcc15 0 _ rfl; have hf15_0 := hfr15 0; (try simp only [Nat.add_zero] at hx15_0 hf15_0); (try rw [show ((Kd.slice 42 (Kd.int .u64))).sz = 1 from rfl, Nat.mul_one] at hx15_0); (try rw [show ((Kd.slice 42 (Kd.int .u64))).sz = 1 from rfl, Nat.mul_one] at hf15_0); have HP15 := Kd.S_seg0 HH13.out (of_decide_eq_true (by first | (with_reducible assumption) | assumption)) (by have h_ : ((ji7) : Int) < ((x7_1.length : Int) : Int) := of_decide_eq_true (by first | (with_reducible assumption) | assumption); first | exact h_ | (have e_ := (HN13.out); omega) | simpa using h_) (seg := [.slice Ao17 y105.length co17]) (j := 0) (show 1 ≤ 1 from by decide) (x' := y105) (Kd.M_row HO107.out) (fun _ hk => hk); (try simp only [show ((Kd.slice 42 (Kd.int .u64))).sz = 1 from rfl, Nat.mul_one, Nat.add_zero] at HP15); clear hcc15 hfr15) | ((with_reducible refine gate_store (t := 37) (p := 37) rfl ?_); refine store_event (t := 37) (p := 37) (v := ?vo_w16) (w1 := (w14.setCell ⟨go13, ((ji7) : Int).toNat, none⟩ (.slice Ao17 y105.length co17))) ?hg ?ho ?hn ?hr ?_; (case ho => rfl); (case hg => rfl); (case hn => rfl); (case hr => first | (go_simp; done) | (go_simp; rfl)); intro w16 hw; have hg : w14.grownBy w16 (some go13) := (by rw [hw]; exact HP15.2); have hp_ : Kd.S (Kd.slice 42 (Kd.int .u64)) 37 w16 w.heap.size (fun _ => True) (.slice (some ⟨go13, 0, none⟩) x7_1.length co12) y108 := (by rw [hw, Ny108.out]; exact HP15.1); clear HP15; have n0_ := Aside0.mk ((by rw [hw]; exact below_set HB.out GB13.out : Below w.heap.size w w16)); have n1_ := Aside0.mk (hp_); clear HB; clear HO107; clear HH13; have HB := n0_; have HO_7 := n1_; clear n0_ n1_; clear hg hw hp_ hraw15))
              go_roundg k1
              case measure => have := HK1.out; omega
              case rel => exact ⟨(y108), (wrap64 (x8_1 + 1)), (by first | rfl | (simp; done) | (simp [*]; done)), H', ⟨by have := HK1.out; omega⟩, ⟨by (with_reducible repeat (first | apply Kd.S_alloc | apply Kd.S_drewN | apply Kd.S_drew)); exact HO_7.out⟩, ⟨by repeat (first | (with_reducible first | exact HB.out | apply below_alloc | apply pw_below_drewN | apply below_drew1) | exact HB.out)⟩⟩
            · rw [if_neg c10] at H
              exact absurd H (by simp)
          · rw [if_neg c9] at H
            exact absurd H (by simp)
        · rw [if_neg c8] at H
          exact absurd H (by simp)
      · rw [if_neg c6] at H
        have c6b0 : decide (x8_1 < (wrap64 (Int.tmod a2 40))) = false := decide_eq_false c6
        clear c6
        have H' := Aside0.mk H
        clear H
        go_wp2
        go_loopg [7, 9] k1 (fun kq v7 v9 w' => ∃ (x7_2 : List (List Int)) (x9_2 : Int), v9 = .int .i64 x9_2 ∧ Aside0 (scullerlaw12_Arena.l1 kq a2 x7_2 x9_2 = some r) ∧ Aside0 (kq ≤ k1) ∧ Aside0 (Kd.S (Kd.slice 42 (Kd.int .u64)) 37 w' w.heap.size (fun _ => True) v7 x7_2) ∧ Aside0 (Below w.heap.size w w'))
        case atStart => exact ⟨(x7_1), (0), (by first | rfl | (simp; done) | (simp [*]; done)), H', ⟨Nat.le_refl _⟩, ⟨by (with_reducible repeat (first | apply Kd.S_alloc | apply Kd.S_drewN | apply Kd.S_drew)); exact HO_7.out⟩, ⟨by repeat (first | (with_reducible first | exact HB.out | apply below_alloc | apply pw_below_drewN | apply below_drew1) | exact HB.out)⟩⟩
        case round =>
          clear H'
          try clear c1
          try clear p1
          try clear q1
          try clear hx1
          try clear c2
          try clear p2
          try clear c6
          try clear c6b0
          try clear p6
          try clear c8
          try clear c8b0
          try clear c9
          try clear c9b0
          try clear c10
          try clear p10
          try clear q10
          try clear hx10
          try clear p11
          try clear q11
          try clear c13
          try clear c15
          try clear hx15
          try clear hf15
          try clear hx104_0
          try clear hx15_0
          try clear p104
          try clear p11
          try clear p2
          try clear q104
          try clear q11
          obtain ⟨x7_2, x9_2, rfl, HA, HK2, HO_7, HB⟩ := hrel
          cases gk with
          | zero => exact absurd HA.out (by simp [scullerlaw12_Arena.l1])
          | succ k2 =>
            have H := HA.out
            clear HA
            simp only [scullerlaw12_Arena.l1] at H
            by_cases c18 : x9_2 < (wrap64 (Int.tmod a2 7))
            · rw [if_pos c18] at H
              have c18b0 : decide (x9_2 < (wrap64 (Int.tmod a2 7))) = true := decide_eq_true c18
              clear c18
              by_cases c19 : 0 ≤ x9_2
              · rw [if_pos c19] at H
                have c19b0 := eq_true c19
                have c19b1 : decide (0 ≤ x9_2) = true := decide_eq_true c19
                clear c19
                by_cases c20 : (x9_2 : Int).toNat ≤ 35184372088832
                · rw [if_pos c20] at H
                  have c20b0 := eq_true c20
                  have c20b1 : decide ((x9_2 : Int).toNat ≤ 35184372088832) = true := decide_eq_true c20
                  clear c20
                  obtain ⟨y109, hy109⟩ : ∃ y_ : List Int, y_ = (List.replicate (x9_2 : Int).toNat 0) := ⟨_, rfl⟩
                  replace H : (if x7_2.length < 5864062014805 then (scullerlaw12_Arena.l1 k2 a2 (x7_2 ++ [y109]) (wrap64 (x9_2 + 1))) else (none)) = some r := by first | (rw [hy109]; with_reducible exact H) | (have H2_ := (Option.bind_some _ _).symm.trans H; rw [hy109]; with_reducible exact H2_) | (have H2_ := (Option.bind_some _ _).symm.trans H; with_reducible exact H2_) | with_reducible exact H | (rw [hy109]; exact H) | exact H
                  have Ny109 := Aside0.mk hy109
                  clear hy109
                  by_cases c21 : x7_2.length < 5864062014805
                  · rw [if_pos c21] at H
                    have LMc21 := Aside0.mk c21
                    clear c21
                    obtain ⟨y112, hy112⟩ : ∃ y_ : List (List Int), y_ = (x7_2 ++ [y109]) := ⟨_, rfl⟩
                    replace H : (scullerlaw12_Arena.l1 k2 a2 y112 (wrap64 (x9_2 + 1))) = some r := by first | (rw [hy112]; with_reducible exact H) | (have H2_ := (Option.bind_some _ _).symm.trans H; rw [hy112]; with_reducible exact H2_) | (have H2_ := (Option.bind_some _ _).symm.trans H; with_reducible exact H2_) | with_reducible exact H | (rw [hy112]; exact H) | exact H
                    have Ny112 := Aside0.mk hy112
                    clear hy112
                    have H' := Aside0.mk H
                    clear H
                    go_wp2_with (first | ((with_reducible refine gate_dst (N := 47) rfl ?_); refine Kd.R_make (Kd.int .u64) _ 42 rfl (N := 47) rfl 37 _ _ rfl x9_2 rfl rfl Try.underlying37 (.int .u64 0) 8 info42 rfl (by decide) (by omega) 0 (ok := fun _ => True) (okp := fun _ => True) rfl (fun _ hk => hk) trivial (of_decide_eq_true (by first | (with_reducible assumption) | assumption)) (Nat.le_trans (Nat.mul_le_mul_right _ (of_decide_eq_true (by first | (with_reducible assumption) | assumption) : x9_2.toNat ≤ 35184372088832)) (by omega)) (Below.refl _ _) (Nat.le_refl _) ?_; intro v110 w22 ho23 hb hg_ hnew_; clear hg_ hnew_; (first | rw [← Ny109.out] at ho23 | (simp only [Int.reduceToNat] at ho23; rw [← Ny109.out] at ho23)); have n0_ := Aside0.mk (Kd.S_elder' (by (with_reducible repeat (first | apply Kd.S_alloc | apply Kd.S_drewN | apply Kd.S_drew)); exact HO_7.out) (Kd.R_base ho23) hb); have n1_ := Aside0.mk (Kd.R_lower ho23 (below_size (by repeat (first | (with_reducible first | exact HB.out | apply below_alloc | apply pw_below_drewN | apply below_drew1) | exact HB.out)))); have n2_ := Aside0.mk (below_step (by repeat (first | (with_reducible first | exact HB.out | apply below_alloc | apply pw_below_drewN | apply below_drew1) | exact HB.out)) hb); clear HO_7; clear HB; have HO_7 := n0_; have HO111 := n1_; have HB := n2_; clear n0_ n1_ n2_; clear hb ho23; obtain ⟨Ao25, co25, eo25⟩ := Kd.R_slice HO111.out; subst eo25) | ((with_reducible refine gate_builtin (b := .append) (xs := #[.tmp 45, .tmp 48]) rfl ?_); at_builtin; refine Kd.S_append (Kd.slice 42 (Kd.int .u64)) (w0 := w) w.heap.size rfl (.tmp 45) (.tmp 48) 26 37 (.slice none 0 0) 24 rfl Try.underlying26 info37 rfl (by decide) (by omega) u7 x7_2 y109 [.slice Ao25 y109.length co25] (fun _ => True) (fun k_ => some k_ = (.slice Ao25 y109.length co25 : Value).ownBlock) rfl rfl ?aP (fun k_ hk_ => ((Kd.R_mono (ok' := fun k_ => ((fun _ => True)) k_ ∧ some k_ ≠ (u7 : Value).ownBlock) (Kd.R_apart' (HO111.out) (Kd.S_typed HO_7.out) (by decide)) (fun k_ hk => ⟨trivial, hk.2⟩))).1 k_ hk_.symm) ?aF ?aO ?aB ?aS ?aL ?_; (case aP => exact Kd.M_row (Kd.R_mono (Kd.R_tight rfl (Kd.R_mono (ok' := fun k_ => ((fun _ => True)) k_ ∧ some k_ ≠ (u7 : Value).ownBlock) (Kd.R_apart' (HO111.out) (Kd.S_typed HO_7.out) (by decide)) (fun k_ hk => ⟨trivial, hk.2⟩))) (fun _ h_ => h_))); (case aB => exact (by repeat (first | (with_reducible first | exact HB.out | apply below_alloc | apply pw_below_drewN | apply below_drew1) | exact HB.out))); (case aF => exact (fun _ _ => trivial)); (case aO => exact (by (with_reducible repeat (first | apply Kd.S_alloc | apply Kd.S_drewN | apply Kd.S_drew)); exact Kd.S_mono HO_7.out (fun k_ hk => ⟨trivial, fun e_ => hk.2 e_⟩))); (case aS => exact (below_size (by repeat (first | (with_reducible first | exact HB.out | apply below_alloc | apply pw_below_drewN | apply below_drew1) | exact HB.out)))); (case aL => have := LMc21.out; omega); intro v113 w24 ho hb hg hat; rw [← Ny112.out] at ho; have n0_ := Aside0.mk (hb); have n1_ := Aside0.mk (ho); clear HB; clear HO_7; clear HO111; have HB := n0_; have HO114 := n1_; clear n0_ n1_; clear ho hb hg hat))
                    go_roundg k2
                    case measure => have := HK1.out; have := HK2.out; omega
                    case rel => exact ⟨(y112), (wrap64 (x9_2 + 1)), (by first | rfl | (simp; done) | (simp [*]; done)), H', ⟨by have := HK1.out; have := HK2.out; omega⟩, ⟨by (with_reducible repeat (first | apply Kd.S_alloc | apply Kd.S_drewN | apply Kd.S_drew)); exact HO114.out⟩, ⟨by repeat (first | (with_reducible first | exact HB.out | apply below_alloc | apply pw_below_drewN | apply below_drew1) | exact HB.out)⟩⟩
                  · rw [if_neg c21] at H
                    exact absurd H (by simp)
                · rw [if_neg c20] at H
                  exact absurd H (by simp)
              · rw [if_neg c19] at H
                exact absurd H (by simp)
            · rw [if_neg c18] at H
              have c18b0 : decide (x9_2 < (wrap64 (Int.tmod a2 7))) = false := decide_eq_false c18
              clear c18
              obtain rfl := Option.some.inj H
              go_wp2
              go_ret
              exact ⟨_, by first | rfl | (simp [errW_none, errW_some] <;> rfl) | (simp [*, errW_none, errW_some] <;> rfl), by (with_reducible repeat (first | apply Kd.S_alloc | apply Kd.S_drewN | apply Kd.S_drew)); exact HO_7.out, by repeat (first | (with_reducible first | exact HB.out | apply below_alloc | apply pw_below_drewN | apply below_drew1) | exact HB.out)⟩

end Go.Proofs.Ythlhnodedofibaa.F
end

section
/- The statements' own arenas of chapter 12: they fit. No program in sight. -/
namespace Go.Proofs.Ythlhnodedofibaa.H
set_option linter.unusedVariables false
set_option linter.unusedSimpArgs false
def addC (n : Int) (k : Nat) : List Int := (List.range k).map fun (i : Nat) => (i : Int) * n
def zerosC (k : Nat) : List (List Int) := (List.range k).map fun i => List.replicate i (0 : Int)
def arena12L (c : List Int) (n m : Int) : List (List Int) :=
  (arenaL c n).dropLast ++ [(arenaL c n).getLastD [] ++ addC n (m % 40).toNat] ++ zerosC (m % 7).toNat
theorem addC_succ (n : Int) (k : Nat) : addC n (k + 1) = addC n k ++ [(k : Int) * n] := by simp [addC, List.range_succ]
theorem addC_length (n : Int) (k : Nat) : (addC n k).length = k := by simp [addC]
theorem zerosC_succ (k : Nat) : zerosC (k + 1) = zerosC k ++ [List.replicate k 0] := by simp [zerosC, List.range_succ]
theorem zerosC_length (k : Nat) : (zerosC k).length = k := by simp [zerosC]
theorem wordsL_append (a b : List (List Int)) : wordsL (a ++ b) = wordsL a + wordsL b := by simp [wordsL]
theorem wordsL_one (s : List Int) : wordsL [s] = s.length := by simp [wordsL]
theorem wordsL_zeros : ∀ k, k ≤ 7 → wordsL (zerosC k) ≤ 6 * k
  | 0, _ => by simp [zerosC, wordsL]
  | k + 1, h => by
    have := wordsL_zeros k (by omega)
    rw [zerosC_succ, wordsL_append, wordsL_one, List.length_replicate]; omega
theorem arenaL_last (c : List Int) {n : Int} (h0 : 0 ≤ n) : (arenaL c n).dropLast ++ [(arenaL c n).getLastD []] = arenaL c n := by
  have h := arenaL_length c h0
  generalize arenaL c n = a at *
  have hne : a ≠ [] := by rintro rfl; simp at h
  rw [List.getLastD_eq_getLast?, List.getLast?_eq_some_getLast hne]
  simpa using List.dropLast_concat_getLast hne
theorem arena12L_length (c : List Int) {n m : Int} (h0 : 0 ≤ n) (hm : 0 ≤ m) : 1 ≤ (arena12L c n m).length ∧ (arena12L c n m).length ≤ 11 := by
  have h := arenaL_length c h0
  unfold arena12L
  simp only [List.length_append, List.length_dropLast, List.length_singleton, zerosC_length]
  omega
theorem arena12L_words (c : List Int) {n m : Int} (h0 : 0 ≤ n) (hm : 0 ≤ m) : wordsL (arena12L c n m) ≤ 141 := by
  have h := arenaL_words c h0
  have hz := wordsL_zeros (m % 7).toNat (by omega)
  rw [← arenaL_last c h0, wordsL_append, wordsL_one] at h
  unfold arena12L
  rw [wordsL_append, wordsL_append, wordsL_one, List.length_append, addC_length]
  omega
theorem u64B_mk {x : Int} (h0 : 0 ≤ x) (h1 : x < 18446744073709551616) : u64B x = true := by
  have e : u64B x = (decide (0 ≤ x) && decide (x < 18446744073709551616)) := rfl
  rw [e, decide_eq_true h0, decide_eq_true h1]
  rfl
theorem arena12L_u64 {c : List Int} (hc : bytesB c = true) {n m : Int} (h0 : 0 ≤ n) (h1 : n ≤ 255) (hm : 0 ≤ m) : ∀ s ∈ arena12L c n m, ∀ x ∈ s, u64B x = true := by
  have hu := arenaL_u64 hc h0
  rw [← arenaL_last c h0] at hu
  intro s hs x hx
  simp only [arena12L, List.mem_append, List.mem_singleton] at hs
  rcases hs with (hs | rfl) | hs
  · exact hu s (by simp [hs]) x hx
  · rcases List.mem_append.1 hx with hx | hx
    · exact hu _ (by simp) x hx
    · simp only [addC, List.mem_map, List.mem_range] at hx
      obtain ⟨i, hi, rfl⟩ := hx
      have h2 : (i : Int) * n ≤ 40 * 255 := Int.mul_le_mul (by omega) (by omega) (by omega) (by omega)
      have h3 : 0 ≤ (i : Int) * n := Int.mul_nonneg (by omega) (by omega)
      exact u64B_mk h3 (by omega)
  · simp only [zerosC, List.mem_map, List.mem_range] at hs
    obtain ⟨i, hi, rfl⟩ := hs
    rw [(List.mem_replicate.1 hx).2]
    rfl
theorem arena12L_first (c : List Int) {n m : Int} (h0 : 0 ≤ n) (hm : 0 ≤ m) : 1 ≤ (sizesL (arena12L c n m)).getD 0 0 := by
  have h := arenaL_first c h0
  have hlen := arenaL_length c h0
  rw [← arenaL_last c h0] at h
  unfold arena12L
  generalize (arenaL c n).dropLast = d at *
  generalize (arenaL c n).getLastD [] = e at *
  match d with
  | [] => simp [sizesL] at h ⊢; omega
  | s :: d => simpa [sizesL] using h
theorem arena12L_fits (c : List Int) {n m : Int} (h0 : 0 ≤ n) (hm : 0 ≤ m) : fitsB (sizesL (arena12L c n m)) = true := by
  have h1 := arena12L_length c h0 hm
  have h2 := arena12L_words c h0 hm
  exact fitsB_of (by rw [sizesL_length]; omega) (by rw [sizesL_length]; omega) (arena12L_first c h0 hm) (sizesL_nonneg _) (by rw [sizesL_sum]; omega)
theorem arena12L_ok {c : List Int} (hc : bytesB c = true) {n m : Int} (h0 : 0 ≤ n) (h1 : n ≤ 255) (hm : 0 ≤ m) : okA (arena12L c n m) = true :=
  okA_of (by have := arena12L_length c h0 hm; omega) (by have := arena12L_words c h0 hm; omega) (arena12L_u64 hc h0 h1 hm)
theorem arena12L_small (c : List Int) {n m : Int} (h0 : 0 ≤ n) (hm : 0 ≤ m) : smallA (arena12L c n m) = true := by
  have h1 := arena12L_length c h0 hm
  have h2 := arena12L_words c h0 hm
  simp only [smallA, Bool.and_eq_true, decide_eq_true_eq, List.all_eq_true]
  exact ⟨by omega, fun s hs => by have := mem_wordsL hs; omega⟩
end Go.Proofs.Ythlhnodedofibaa.H
end

section
namespace Go.Proofs.Ythlhnodedofibaa.F
open Go.RowKit Go.Proofs.YthlhnodedofibaaW.PrintWords Go.Proofs.YthlhnodedofibaaW.PrintLast Go.Proofs.YthlhnodedofibaaW.PrintMore
attribute [local go_sem] max2_int min2_int max_two min_two max_three min_three max_four min_four   -- for this text's walks alone
set_option linter.unusedVariables false
set_option linter.unusedSimpArgs false

open Go.Proofs.Ythlhnodedofibaa.H
def scullerlaw12_Arena_c.f (l0 : List Int) (a1 : Int) (a2 : Int) : Option (List (List Int)) := if bytesB l0 = true ∧ l0.length ≤ 140737488351232 ∧ 0 ≤ a1 ∧ a1 ≤ 255 ∧ 0 ≤ a2 ∧ a2 ≤ 255 then some (arena12L l0 a1 a2) else none
theorem scullerlaw12_Arena.l1_to (m : Int) (hm0 : 0 ≤ m) (hm : m ≤ 255) (x : List (List Int)) (hx : x.length ≤ 100) : ∀ (d i : Nat), (m % 7).toNat - i = d → i ≤ (m % 7).toNat → ∃ k, scullerlaw12_Arena.l1 k m (x ++ zerosC i) (i : Int) = some (x ++ zerosC (m % 7).toNat)
  | 0, i, hd, hi => ⟨1, by
    obtain rfl : i = (m % 7).toNat := by omega
    rw [scullerlaw12_Arena.l1, Int.tmod_eq_emod_of_nonneg hm0, if_neg (by unfold wrap64; omega)]⟩
  | d + 1, i, hd, hi => by
    obtain ⟨k, hk⟩ := scullerlaw12_Arena.l1_to m hm0 hm x hx d (i + 1) (by omega) (by omega)
    refine ⟨k + 1, ?_⟩
    rw [zerosC_succ] at hk
    rw [scullerlaw12_Arena.l1, Int.tmod_eq_emod_of_nonneg hm0, if_pos (by unfold wrap64; omega), if_pos (by omega), if_pos (by omega), if_pos (by rw [List.length_append, zerosC_length]; omega), List.append_assoc, Int.toNat_natCast, show wrap64 ((i : Int) + 1) = ((i + 1 : Nat) : Int) from by unfold wrap64; omega]
    exact hk
theorem scullerlaw12_Arena.l0_to (n m : Int) (hn0 : 0 ≤ n) (hn : n ≤ 255) (hm0 : 0 ≤ m) (hm : m ≤ 255) (x : List (List Int)) (e : List Int) (hx : x.length ≤ 50) (he : e.length ≤ 1000) : ∀ (d i : Nat), (m % 40).toNat - i = d → i ≤ (m % 40).toNat →
    ∃ k, scullerlaw12_Arena.l0 k n m (x ++ [e ++ addC n i]) (i : Int) = some (x ++ [e ++ addC n (m % 40).toNat] ++ zerosC (m % 7).toNat)
  | 0, i, hd, hi => by
    obtain rfl : i = (m % 40).toNat := by omega
    obtain ⟨k, hk⟩ := scullerlaw12_Arena.l1_to m hm0 hm (x ++ [e ++ addC n (m % 40).toNat]) (by simp; omega) (m % 7).toNat 0 (by omega) (by omega)
    refine ⟨k + 1, ?_⟩
    rw [scullerlaw12_Arena.l0, Int.tmod_eq_emod_of_nonneg hm0, if_neg (by unfold wrap64; omega)]
    rw [show zerosC 0 = [] from rfl, List.append_nil] at hk
    exact hk
  | d + 1, i, hd, hi => by
    obtain ⟨k, hk⟩ := scullerlaw12_Arena.l0_to n m hn0 hn hm0 hm x e hx he d (i + 1) (by omega) (by omega)
    refine ⟨k + 1, ?_⟩
    have hl : (x ++ [e ++ addC n i]).length = x.length + 1 := by simp
    have e1 : wrap64 (((x ++ [e ++ addC n i]).length : Int) - 1) = (x.length : Int) := by rw [hl]; unfold wrap64; omega
    have hr : rd_L3 (x ++ [e ++ addC n i]) (x.length : Int) = e ++ addC n i := by
      unfold rd_L3
      rw [getD_toNat _ _ x.length (by simp)]
      simp
    have h2 : (i : Int) * n ≤ 40 * 255 := Int.mul_le_mul (by omega) (by omega) (by omega) (by omega)
    have h3 : 0 ≤ (i : Int) * n := Int.mul_nonneg (by omega) (by omega)
    have wu : ∀ z : Int, 0 ≤ z → z < 18446744073709551616 → IntKind.u64.wrap z = z := fun z hz hz2 => wrapu hz hz2
    rw [addC_succ] at hk
    rw [scullerlaw12_Arena.l0, Int.tmod_eq_emod_of_nonneg hm0, if_pos (by unfold wrap64; omega), e1, if_pos (by omega), if_pos (by rw [hl]; omega), hr, if_pos (by rw [List.length_append, addC_length]; omega), wu (i : Int) (by omega) (by omega), wu n hn0 (by omega), wu _ h3 (by omega), Int.toNat_natCast,
      List.set_append_right _ _ (Nat.le_refl _), Nat.sub_self, List.set_cons_zero, List.append_assoc, show wrap64 ((i : Int) + 1) = ((i + 1 : Nat) : Int) from by unfold wrap64; omega]
    exact hk
theorem scullerlaw12_Arena_c.to {l0 : List Int} {a1 a2 : Int} {r : List (List Int)} (h : scullerlaw12_Arena_c.f l0 a1 a2 = some r) : ∃ k, scullerlaw12_Arena.f k l0 a1 a2 = some r := by
  unfold scullerlaw12_Arena_c.f at h
  split at h
  case isFalse => cases h
  case isTrue hb =>
  obtain rfl := Option.some.inj h
  obtain ⟨h0, h1, h2, h3, h4, h5⟩ := hb
  have hl := arenaL_length l0 h2
  have hw := arenaL_words l0 h2
  have hlast := arenaL_last l0 h2
  have he : ((arenaL l0 a1).getLastD []).length ≤ 1000 := by
    rw [← hlast, wordsL_append, wordsL_one] at hw
    omega
  obtain ⟨k, hk⟩ := scullerlaw12_Arena.l0_to a1 a2 h2 h3 h4 h5 (arenaL l0 a1).dropLast ((arenaL l0 a1).getLastD []) (by simp; omega) he (a2 % 40).toNat 0 (by omega) (by omega)
  refine ⟨k, ?_⟩
  rw [show addC a1 0 = [] from rfl, List.append_nil, hlast] at hk
  rw [scullerlaw12_Arena.f, scullerlaw07_Arena_c.f, if_pos ⟨h0, h1, h2, h3⟩, Option.bind_some]
  exact hk

theorem scullerlaw12_Arena_c.calls (A0 : Option Addr) (c0 : Nat) (l0 : List Int) (a1 : Int) (a2 : Int) (r : List (List Int)) (w : World) (hr0 : Kd.C (Kd.int .u8) w A0 l0.length l0) (hc0 : l0.length ≤ c0) (h : scullerlaw12_Arena_c.f l0 a1 a2 = some r) :
    Calls Try.prog 23 #[.slice A0 l0.length c0, .int .u8 a1, .int .u8 a2] w fun e w' => ∃ v0_ : Value, e = .returned (v0_) ∧ Kd.S (Kd.slice 42 (Kd.int .u64)) 37 w' w.heap.size (fun _ => True) v0_ r ∧ Below w.heap.size w w' := by
  obtain ⟨k_, hk_⟩ := scullerlaw12_Arena_c.to h
  exact scullerlaw12_Arena.calls k_ A0 c0 l0 a1 a2 r w hr0 hc0 hk_

end Go.Proofs.Ythlhnodedofibaa.F
end

section
namespace Go.Proofs.Ythlhnodedofibaa.F
open Go.RowKit Go.Proofs.YthlhnodedofibaaW.PrintWords Go.Proofs.YthlhnodedofibaaW.PrintLast Go.Proofs.YthlhnodedofibaaW.PrintMore
attribute [local go_sem] max2_int min2_int max_two min_two max_three min_three max_four min_four   -- for this text's walks alone
set_option linter.unusedVariables false
set_option linter.unusedSimpArgs false

open Go.Proofs.Ythlhnodedofibaa.H
/-! ### slices_Concat_int_int: given -/
def slices_Concat_int_int.f (l0 : List (List Int)) : Option (List Int) := if l0.length ≤ 1000000 ∧ l0.flatten.length ≤ 1000000 then some l0.flatten else none
set_option maxHeartbeats 1000000 in
set_option maxRecDepth 100000 in
theorem slices_Grow_int.calls (n : Nat) (hn : n ≤ 1000000) (w : World) :
    Calls Try.prog 78 #[.slice none 0 0, .int .i64 n] w fun e w' => ∃ v, e = .returned v ∧ Kd.R (Kd.int .i64) 3 w' w.heap.size (fun _ => True) v [] ∧ Below w.heap.size w w' := by
  by_cases h0 : 0 < n
  · have h1 : ¬ ((n : Int) < 0) := by omega
    have h2 : (0 : Int) < (n : Int) := by omega
    go_enter Try.func78, Try.ntmps78
    go_wp2_with (at_builtin; refine Kd.R_append_zeros (Kd.int .i64) (w0 := w) w.heap.size rfl (.tmp 20) (.tmp 21) 22 3 3 (.int .i64 0) 8 rfl Try.underlying22 Try.underlying3 info3 rfl (by decide) (by omega) (.slice none 0 0) ([] : List Int) 0 (n : Int) (fun _ => True) rfl rfl rfl (fun _ _ => trivial) (Kd.R_nil _ _ _ _ _) (by omega) (Below.refl _ _) (Nat.le_refl _) (by simp; omega) ?_; intro v1 w1 ho1 hb1 hg1 hn1; have HO1 := Aside0.mk ho1; have HB1 := Aside0.mk hb1; clear ho1 hb1 hg1 hn1; obtain ⟨A1, c1, e1⟩ := Kd.R_slice HO1.out; subst e1)
    go_ret
    exact ⟨_, rfl, by have h := Kd.R_take (m := 0) HO1.out (Nat.zero_le _); simpa using h, HB1.out⟩
  · obtain rfl : n = 0 := by omega
    go_enter Try.func78, Try.ntmps78
    go_wp2
    go_ret
    exact ⟨_, rfl, Kd.R_nil _ _ _ _ _, Below.refl _ _⟩
set_option maxHeartbeats 1000000 in
set_option maxRecDepth 100000 in
theorem slices_Concat_int_int.calls (A0 : Option Addr) (c0 : Nat) (l0 : List (List Int)) (r : List Int) (w : World) (hr0 : Kd.C (Kd.slice 3 (Kd.int .i64)) w A0 l0.length l0) (hc0 : l0.length ≤ c0) (h : slices_Concat_int_int.f l0 = some r) :
    Calls Try.prog 64 #[.slice A0 l0.length c0] w fun e w' => ∃ v0_ : Value, e = .returned (v0_) ∧ Kd.R (Kd.int .i64) 3 w' w.heap.size (fun _ => True) v0_ r ∧ Below w.heap.size w w' := by
  unfold slices_Concat_int_int.f at h
  split at h
  case isFalse => cases h
  case isTrue hb =>
  obtain rfl := Option.some.inj h
  obtain ⟨ha, hf⟩ := hb
  have hpre : ∀ k, (l0.take k).flatten.length ≤ l0.flatten.length := fun k => by
    have e : l0.flatten = (l0.take k).flatten ++ (l0.drop k).flatten := by rw [← List.flatten_append, List.take_append_drop]
    rw [e, List.length_append]; omega
  have hsucc : ∀ k, (hk : k < l0.length) → (l0.take (k + 1)).flatten = (l0.take k).flatten ++ l0[k] := fun k hk => by rw [take_at l0 k hk, List.flatten_append]; simp
  have HF0 : Hid _ := hf
  have HP : Hid _ := hpre
  have HS : Hid _ := hsucc
  clear h hpre hsucc hf
  go_enter Try.func64, Try.ntmps64
  go_wp2
  go_loopg [3, 11] l0.length (fun g v3 v11 wr => ∃ k : Nat, k + g = l0.length ∧ v11 = .int .i64 k ∧ v3 = .int .i64 ((l0.take k).flatten.length : Nat) ∧ w = wr)
  case atStart => exact ⟨0, by omega, rfl, rfl, rfl⟩
  case round =>
    obtain ⟨k, hk, rfl, rfl, rfl⟩ := hrel
    have HK : Hid _ := hk
    by_cases hlt : k < l0.length
    · obtain ⟨ad, B0, d0, e0, hcc, hl0, hC0⟩ := at_L6 hr0 (k : Int) (by omega) (by omega)
      have er : rd_L6 l0 k = l0[k] := getD_toNat l0 [] k hlt
      rw [er] at hcc hC0 hl0
      have h1 := HP.out (k + 1)
      have hf := HF0.out
      have h2 := HS.out k hlt
      have h3 : (l0.take k).flatten.length + l0[k].length = (l0.take (k + 1)).flatten.length := by rw [h2, List.length_append]
      obtain ⟨s, hs⟩ : ∃ s, l0[k] = s := ⟨_, rfl⟩
      obtain ⟨x, hx⟩ : ∃ x, (l0.take k).flatten.length = x := ⟨_, rfl⟩
      obtain ⟨y, hy⟩ : ∃ y, (l0.take (k + 1)).flatten.length = y := ⟨_, rfl⟩
      rw [hs] at hcc hC0 hl0 h3
      rw [hx, hy] at h3
      rw [hy] at h1
      rw [hx]
      rw [Int.toNat_natCast] at hcc
      subst e0
      have h4 : (x : Int) + (s.length : Int) = (y : Int) := by omega
      have h5 : ¬ ((y : Int) < 0) := by omega
      have h6 : y ≤ 1000000 := by omega
      have HY : Hid _ := hy
      clear h2 h3 er hs hx hy hk h1 hf
      go_wp2
      go_roundg (gk - 1)
      case measure => have := HK.out; omega
      case rel => exact ⟨k + 1, by have := HK.out; omega, by go_num, by rw [HY.out], rfl⟩
    · obtain rfl : k = l0.length := by omega
      rw [List.take_length]
      obtain ⟨n, hn⟩ : ∃ n, l0.flatten.length = n := ⟨_, rfl⟩
      have hf := HF0.out
      have hf2 := hf
      rw [hn] at hf2 ⊢
      have HF : Hid _ := hf
      clear hk hn hf
      go_wp2_with (go_at_call 78; refine (slices_Grow_int.calls n hf2 _).mono ?_; rintro e w1 ⟨v1, rfl, ho1, hb1⟩; have HO1 := Aside0.mk ho1; have HB1 := Aside0.mk hb1; clear ho1 hb1)
      go_loopg [6, 27] l0.length (fun g v6 v27 w2 => ∃ k : Nat, k + g = l0.length ∧ v27 = .int .i64 k ∧ Aside0 (Kd.R (Kd.int .i64) 3 w2 w.heap.size (fun _ => True) v6 (l0.take k).flatten) ∧ Aside0 (Below w.heap.size w w2))
      case atStart => exact ⟨0, by omega, rfl, HO1, HB1⟩
      case round =>
        clear HO1 HB1
        obtain ⟨k, hk, rfl, HO, HB⟩ := hrel
        have HK2 : Hid _ := hk
        by_cases hlt : k < l0.length
        · obtain ⟨ad, B0, d0, e0, hcc, hl0, hC0⟩ := at_L6 (Kd.C_below hr0 HB.out) (k : Int) (by omega) (by omega)
          have er : rd_L6 l0 k = l0[k] := getD_toNat l0 [] k hlt
          rw [er] at hcc hC0 hl0
          have h1 := HP.out (k + 1)
          have hf := HF.out
          have h2 := HS.out k hlt
          have h3 : (l0.take k).flatten.length + l0[k].length = (l0.take (k + 1)).flatten.length := by rw [h2, List.length_append]
          obtain ⟨s, hs⟩ : ∃ s, l0[k] = s := ⟨_, rfl⟩
          rw [hs] at hcc hC0 hl0 h3 h2
          rw [Int.toNat_natCast] at hcc
          subst e0
          obtain ⟨acc, hacc⟩ : ∃ acc, (l0.take k).flatten = acc := ⟨_, rfl⟩
          rw [hacc] at h2 h3 HO
          have hlim : (acc.length + s.length) * 8 ≤ 140737488355328 := by omega
          have HA : Hid _ := h2
          clear h1 h2 h3 er hs hacc hk hf
          go_wp2_with (at_builtin; refine Kd.R_append_rows (Kd.int .i64) (w0 := w) w.heap.size rfl (.tmp 31) (.tmp 32) 22 3 (.int .i64 0) 8 rfl Try.underlying22 info3 rfl (by decide) (by omega) u6 acc s B0 _ _ (fun _ => True) (fun _ => False) rfl rfl HO.out ?aR (fun _ _ h => h) (fun _ h => h.elim) (fun _ _ => trivial) HB.out ?aS hlim ?_; (case aR => exact hC0); (case aS => exact HB.out.size); intro v2 w3 ho2 hb2 hg2 hat2; have HO2 := Aside0.mk ho2; have HB2 := Aside0.mk hb2; clear ho2 hb2 hg2 hat2)
          go_roundg (gk - 1)
          case measure => have := HK2.out; omega
          case rel => exact ⟨k + 1, by have := HK2.out; omega, by go_num, ⟨by rw [HA.out]; exact HO2.out⟩, HB2⟩
        · obtain rfl : k = l0.length := by omega
          have HO9 : Aside0 (Kd.R (Kd.int .i64) 3 wr w.heap.size (fun _ => True) u6 l0.flatten) := ⟨by have h := HO.out; rw [List.take_length] at h; exact h⟩
          clear hk
          go_wp2
          go_ret
          exact ⟨_, rfl, HO9.out, HB.out⟩

end Go.Proofs.Ythlhnodedofibaa.F
end

section
namespace Go.Proofs.Ythlhnodedofibaa.F
open Go.RowKit Go.Proofs.YthlhnodedofibaaW.PrintWords Go.Proofs.YthlhnodedofibaaW.PrintLast Go.Proofs.YthlhnodedofibaaW.PrintMore
attribute [local go_sem] max2_int min2_int max_two min_two max_three min_three max_four min_four   -- for this text's walks alone
set_option linter.unusedVariables false
set_option linter.unusedSimpArgs false

/-! ### mani_Join: function 38 -/
def mani_Join.l0 : Nat → List (List Int) → List (List Int) → Int → Int → Option (List Int × Bool)
  | 0, _, _, _, _ => none
  | k + 1, x0, x7, x8, x9 => if x9 < x8 then (if 0 ≤ x9 then (if x9 < (x7.length : Int) then (if ((rd_L6 x7 x9).length : Int) < 1 then (some (([] : List Int), false)) else (if ((rd_L6 x7 x9).length : Int) > 4 then (some (([] : List Int), false)) else (if x9 < (wrap64 ((x0.length : Int) - 1)) then (if ((rd_L6 x7 x9).length : Int) < 4 then (some (([] : List Int), false)) else (mani_Join.l0 k x0 x7 x8 (wrap64 (x9 + 1)))) else (mani_Join.l0 k x0 x7 x8 (wrap64 (x9 + 1)))))) else (none)) else (none)) else ((slices_Concat_int_int.f x0).bind fun t102 => ((arena_Fits_c.f t102).bind fun t105 => (if t105 = true then (some (t102, true)) else (some (([] : List Int), false)))))
def mani_Join.f (k : Nat) (l0 : List (List Int)) : Option (List Int × Bool) := mani_Join.l0 k l0 l0 (l0.length : Int) 0
theorem mani_Join.mono_l : ∀ k, (∀ y0 y1 y2 y3, LeO (mani_Join.l0 k y0 y1 y2 y3) (mani_Join.l0 (k + 1) y0 y1 y2 y3))
  | 0 => fun _ _ _ _ r h => by simp [mani_Join.l0] at h
  | k + 1 => by
    have ih0 := mani_Join.mono_l k
    · intro y0 y1 y2 y3
      unfold mani_Join.l0
      repeat' first
      | (with_reducible exact ih0 _ _ _ _)
      | (with_reducible exact LeO.refl _)
      | (with_reducible exact LeO.none _)
      | (with_reducible refine LeO.ite ?_ ?_)
      | (with_reducible refine LeO.bind ?_ (fun _ => ?_))
      | exact ih0 _ _ _ _
      | exact LeO.none _
      | refine LeO.ite ?_ ?_
      | refine LeO.bind ?_ (fun _ => ?_)
theorem mani_Join.mono : ∀ a0 k, LeO (mani_Join.f k a0) (mani_Join.f (k + 1) a0) := by
  intro a0 k
  have ih0 := mani_Join.mono_l k
  unfold mani_Join.f
  repeat' first
      | (with_reducible exact ih0 _ _ _ _)
      | (with_reducible exact LeO.refl _)
      | (with_reducible exact LeO.none _)
      | (with_reducible refine LeO.ite ?_ ?_)
      | (with_reducible refine LeO.bind ?_ (fun _ => ?_))
      | exact ih0 _ _ _ _
      | exact LeO.none _
      | refine LeO.ite ?_ ?_
      | refine LeO.bind ?_ (fun _ => ?_)
set_option maxHeartbeats 8000000 in
set_option maxRecDepth 100000 in
theorem mani_Join.calls (k : Nat) (A0 : Option Addr) (c0 : Nat) (l0 : List (List Int)) (r1 : List Int) (r2 : Bool) (w : World) (hr0 : Kd.C (Kd.slice 3 (Kd.int .i64)) w A0 l0.length l0) (hc0 : l0.length ≤ c0) (h : mani_Join.f k l0 = some (r1, r2)) :
    Calls Try.prog 38 #[.slice A0 l0.length c0] w fun e w' => ∃ v0_ : Value, e = .returned (.tuple #[v0_, .bool r2]) ∧ Kd.R (Kd.int .i64) 3 w' w.heap.size (fun _ => True) v0_ r1 ∧ Below w.heap.size w w' := by
  have HR0 := Aside0.mk hr0
  have HC0 := Aside0.mk hc0
  clear hr0 hc0
  have HB := Aside0.mk (Below.refl w.heap.size w)
  have H : (mani_Join.l0 k l0 l0 (l0.length : Int) 0) = some (r1, r2) := h
  clear h
  have H' := Aside0.mk H
  clear H
  go_enter Try.func38, Try.ntmps38
  go_wp2
  go_loopg [9] k (fun kq v9 w' => ∃ (x9_1 : Int), v9 = .int .i64 x9_1 ∧ Aside0 (mani_Join.l0 kq l0 l0 (l0.length : Int) x9_1 = some (r1, r2)) ∧ Aside0 (kq ≤ k) ∧ Aside0 (Below w.heap.size w w'))
  case atStart => exact ⟨(0), (by first | rfl | (simp; done) | (simp [*]; done)), H', ⟨Nat.le_refl _⟩, ⟨by repeat (first | (with_reducible first | exact HB.out | apply below_alloc | apply pw_below_drewN | apply below_drew1) | exact HB.out)⟩⟩
  case round =>
    clear H'
    obtain ⟨x9_1, rfl, HA, HK1, HB⟩ := hrel
    cases gk with
    | zero => exact absurd HA.out (by simp [mani_Join.l0])
    | succ k1 =>
      have H := HA.out
      clear HA
      simp only [mani_Join.l0] at H
      by_cases c2 : x9_1 < (l0.length : Int)
      · rw [if_pos c2] at H
        have c2b0 : decide (x9_1 < (l0.length : Int)) = true := decide_eq_true c2
        clear c2
        by_cases c3 : 0 ≤ x9_1
        · rw [if_pos c3] at H
          have c3b0 : decide (0 ≤ x9_1) = true := decide_eq_true c3
          clear c3
          by_cases c4 : x9_1 < (l0.length : Int)
          · rw [if_pos c4] at H
            have c4b0 : decide (x9_1 < (l0.length : Int)) = true := decide_eq_true c4
            clear c4
            by_cases c5 : ((rd_L6 l0 x9_1).length : Int) < 1
            · rw [if_pos c5] at H
              have c5b0 : decide (((rd_L6 l0 x9_1).length : Int) < 1) = true := decide_eq_true c5
              have c5b1 : decide ((rd_L6 l0 x9_1).length < 1) = true := decide_eq_true (by omega)
              clear c5
              simp only [Option.some.injEq, Prod.mk.injEq] at H
              obtain ⟨rfl, rfl⟩ := H
              have p101 : 0 ≤ (x9_1 : Int) := of_decide_eq_true (by first | (with_reducible assumption) | assumption)
              have q101 : x9_1 < (l0.length : Int) := of_decide_eq_true (by first | (with_reducible assumption) | assumption)
              obtain ⟨ad101, A101_0, c101_0, e101, hx101_0, hl101_0, hi101_0⟩ := at_L6 HR0.out x9_1 p101 q101
              cases e101
              replace hx101_0 := (HB.out.cell (World.block_lt_of_cell? w _ hx101_0)).trans hx101_0
              have HR101_0 := Aside0.mk hi101_0
              have HC101_0 := Aside0.mk hl101_0
              clear hi101_0 hl101_0
              replace p101 := eq_true p101
              replace q101 := eq_true q101
              go_wp2
              go_ret2
              exact ⟨_, by first | rfl | (simp [errW_none, errW_some] <;> rfl) | (simp [*, errW_none, errW_some] <;> rfl), by first | exact Kd.R_nil _ _ _ _ _ | exact Kd.N_nil _ _ _ _ _ | exact Kd.V_nil _ _ _ _ _ | exact Kd.Q_nil _ _ _ _ _ | exact Kd.S_nil _ _ _ _ _, by repeat (first | (with_reducible first | exact HB.out | apply below_alloc | apply pw_below_drewN | apply below_drew1) | exact HB.out)⟩
            · rw [if_neg c5] at H
              have c5b0 : decide (((rd_L6 l0 x9_1).length : Int) < 1) = false := decide_eq_false c5
              have c5b1 : decide ((rd_L6 l0 x9_1).length < 1) = false := decide_eq_false (by omega)
              clear c5
              by_cases c6 : ((rd_L6 l0 x9_1).length : Int) > 4
              · rw [if_pos c6] at H
                have c6b0 : decide (4 < ((rd_L6 l0 x9_1).length : Int)) = true := decide_eq_true c6
                have c6b1 : decide (4 < (rd_L6 l0 x9_1).length) = true := decide_eq_true (by omega)
                clear c6
                simp only [Option.some.injEq, Prod.mk.injEq] at H
                obtain ⟨rfl, rfl⟩ := H
                have p101 : 0 ≤ (x9_1 : Int) := of_decide_eq_true (by first | (with_reducible assumption) | assumption)
                have q101 : x9_1 < (l0.length : Int) := of_decide_eq_true (by first | (with_reducible assumption) | assumption)
                obtain ⟨ad101, A101_0, c101_0, e101, hx101_0, hl101_0, hi101_0⟩ := at_L6 HR0.out x9_1 p101 q101
                cases e101
                replace hx101_0 := (HB.out.cell (World.block_lt_of_cell? w _ hx101_0)).trans hx101_0
                have HR101_0 := Aside0.mk hi101_0
                have HC101_0 := Aside0.mk hl101_0
                clear hi101_0 hl101_0
                replace p101 := eq_true p101
                replace q101 := eq_true q101
                go_wp2
                go_ret2
                exact ⟨_, by first | rfl | (simp [errW_none, errW_some] <;> rfl) | (simp [*, errW_none, errW_some] <;> rfl), by first | exact Kd.R_nil _ _ _ _ _ | exact Kd.N_nil _ _ _ _ _ | exact Kd.V_nil _ _ _ _ _ | exact Kd.Q_nil _ _ _ _ _ | exact Kd.S_nil _ _ _ _ _, by repeat (first | (with_reducible first | exact HB.out | apply below_alloc | apply pw_below_drewN | apply below_drew1) | exact HB.out)⟩
              · rw [if_neg c6] at H
                have c6b0 : decide (4 < ((rd_L6 l0 x9_1).length : Int)) = false := decide_eq_false c6
                have c6b1 : decide (4 < (rd_L6 l0 x9_1).length) = false := decide_eq_false (by omega)
                clear c6
                by_cases c7 : x9_1 < (wrap64 ((l0.length : Int) - 1))
                · rw [if_pos c7] at H
                  have c7b0 : decide (x9_1 < (wrap64 ((l0.length : Int) - 1))) = true := decide_eq_true c7
                  clear c7
                  by_cases c8 : ((rd_L6 l0 x9_1).length : Int) < 4
                  · rw [if_pos c8] at H
                    have c8b0 : decide (((rd_L6 l0 x9_1).length : Int) < 4) = true := decide_eq_true c8
                    have c8b1 : decide ((rd_L6 l0 x9_1).length < 4) = true := decide_eq_true (by omega)
                    clear c8
                    simp only [Option.some.injEq, Prod.mk.injEq] at H
                    obtain ⟨rfl, rfl⟩ := H
                    have p101 : 0 ≤ (x9_1 : Int) := of_decide_eq_true (by first | (with_reducible assumption) | assumption)
                    have q101 : x9_1 < (l0.length : Int) := of_decide_eq_true (by first | (with_reducible assumption) | assumption)
                    obtain ⟨ad101, A101_0, c101_0, e101, hx101_0, hl101_0, hi101_0⟩ := at_L6 HR0.out x9_1 p101 q101
                    cases e101
                    replace hx101_0 := (HB.out.cell (World.block_lt_of_cell? w _ hx101_0)).trans hx101_0
                    have HR101_0 := Aside0.mk hi101_0
                    have HC101_0 := Aside0.mk hl101_0
                    clear hi101_0 hl101_0
                    replace p101 := eq_true p101
                    replace q101 := eq_true q101
                    go_wp2
                    go_ret2
                    exact ⟨_, by first | rfl | (simp [errW_none, errW_some] <;> rfl) | (simp [*, errW_none, errW_some] <;> rfl), by first | exact Kd.R_nil _ _ _ _ _ | exact Kd.N_nil _ _ _ _ _ | exact Kd.V_nil _ _ _ _ _ | exact Kd.Q_nil _ _ _ _ _ | exact Kd.S_nil _ _ _ _ _, by repeat (first | (with_reducible first | exact HB.out | apply below_alloc | apply pw_below_drewN | apply below_drew1) | exact HB.out)⟩
                  · rw [if_neg c8] at H
                    have c8b0 : decide (((rd_L6 l0 x9_1).length : Int) < 4) = false := decide_eq_false c8
                    have c8b1 : decide ((rd_L6 l0 x9_1).length < 4) = false := decide_eq_false (by omega)
                    clear c8
                    have H' := Aside0.mk H
                    clear H
                    have p101 : 0 ≤ (x9_1 : Int) := of_decide_eq_true (by first | (with_reducible assumption) | assumption)
                    have q101 : x9_1 < (l0.length : Int) := of_decide_eq_true (by first | (with_reducible assumption) | assumption)
                    obtain ⟨ad101, A101_0, c101_0, e101, hx101_0, hl101_0, hi101_0⟩ := at_L6 HR0.out x9_1 p101 q101
                    cases e101
                    replace hx101_0 := (HB.out.cell (World.block_lt_of_cell? w _ hx101_0)).trans hx101_0
                    have HR101_0 := Aside0.mk hi101_0
                    have HC101_0 := Aside0.mk hl101_0
                    clear hi101_0 hl101_0
                    replace p101 := eq_true p101
                    replace q101 := eq_true q101
                    go_wp2
                    go_roundg k1
                    case measure => have := HK1.out; omega
                    case rel => exact ⟨(wrap64 (x9_1 + 1)), (by first | rfl | (simp; done) | (simp [*]; done)), H', ⟨by have := HK1.out; omega⟩, ⟨by repeat (first | (with_reducible first | exact HB.out | apply below_alloc | apply pw_below_drewN | apply below_drew1) | exact HB.out)⟩⟩
                · rw [if_neg c7] at H
                  have c7b0 : decide (x9_1 < (wrap64 ((l0.length : Int) - 1))) = false := decide_eq_false c7
                  clear c7
                  have H' := Aside0.mk H
                  clear H
                  have p101 : 0 ≤ (x9_1 : Int) := of_decide_eq_true (by first | (with_reducible assumption) | assumption)
                  have q101 : x9_1 < (l0.length : Int) := of_decide_eq_true (by first | (with_reducible assumption) | assumption)
                  obtain ⟨ad101, A101_0, c101_0, e101, hx101_0, hl101_0, hi101_0⟩ := at_L6 HR0.out x9_1 p101 q101
                  cases e101
                  replace hx101_0 := (HB.out.cell (World.block_lt_of_cell? w _ hx101_0)).trans hx101_0
                  have HR101_0 := Aside0.mk hi101_0
                  have HC101_0 := Aside0.mk hl101_0
                  clear hi101_0 hl101_0
                  replace p101 := eq_true p101
                  replace q101 := eq_true q101
                  go_wp2
                  go_roundg k1
                  case measure => have := HK1.out; omega
                  case rel => exact ⟨(wrap64 (x9_1 + 1)), (by first | rfl | (simp; done) | (simp [*]; done)), H', ⟨by have := HK1.out; omega⟩, ⟨by repeat (first | (with_reducible first | exact HB.out | apply below_alloc | apply pw_below_drewN | apply below_drew1) | exact HB.out)⟩⟩
          · rw [if_neg c4] at H
            exact absurd H (by simp)
        · rw [if_neg c3] at H
          exact absurd H (by simp)
      · rw [if_neg c2] at H
        have c2b0 : decide (x9_1 < (l0.length : Int)) = false := decide_eq_false c2
        clear c2
        replace H := Option.bind_eq_some_iff.mp H
        obtain ⟨t102, A90, H⟩ := H
        replace H : ((arena_Fits_c.f t102).bind fun t105 => (if t105 = true then (some (t102, true)) else (some (([] : List Int), false)))) = some (r1, r2) := H
        have A9 := Aside0.mk A90
        clear A90
        replace H := Option.bind_eq_some_iff.mp H
        obtain ⟨t105, A100, H⟩ := H
        replace H : (if t105 = true then (some (t102, true)) else (some (([] : List Int), false))) = some (r1, r2) := H
        have A10 := Aside0.mk A100
        clear A100
        by_cases c11 : t105 = true
        · subst c11
          have H1 : (some (t102, true)) = some (r1, r2) := by rw [if_pos rfl] at H; exact H
          clear H
          have H := H1
          clear H1
          simp only [Option.some.injEq, Prod.mk.injEq] at H
          obtain ⟨rfl, rfl⟩ := H
          go_wp2_with (first | ((with_reducible refine gate_callee (f := 64) rfl ?_); refine goesL_ (some 36) rfl rfl Try.func64 (by kernel_rfl) rfl #[.slice A0 l0.length c0] rfl (by (try simp only [List.map_toArray, List.map_cons, List.map_nil]); first | done | rfl | (simp only [List.length_drop, List.length_take]; rfl)) ?_; (with_reducible refine (slices_Concat_int_int.calls _ _ l0 t102 _ ?side1 ?side2 A9.out).mono ?_); (case side1 => repeat (first | exact (Kd.C_below HR0.out HB.out) | (with_reducible refine Kd.C_alloc ?_ _) | (with_reducible refine Kd.C_drewN ?_ _) | (with_reducible refine Kd.C_drew ?_))); (case side2 => exact HC0.out); rintro e w12 ⟨v103, rfl, ho0, hb⟩; refine ⟨_, rfl, ?_⟩; have n0_ := Aside0.mk (Kd.R_lower ho0 (below_size (by repeat (first | (with_reducible first | exact HB.out | apply below_alloc | apply pw_below_drewN | apply below_drew1) | exact HB.out)))); have n1_ := Aside0.mk (below_step (by repeat (first | (with_reducible first | exact HB.out | apply below_alloc | apply pw_below_drewN | apply below_drew1) | exact HB.out)) hb); clear HB; have HO104 := n0_; have HB := n1_; clear n0_ n1_; (try clear hb); (try clear hb2); (try clear hk); (try clear hi); (try clear ho0); obtain ⟨Ao13, co13, eo13⟩ := Kd.R_slice HO104.out; subst eo13) | ((with_reducible refine gate_callee (f := 20) rfl ?_); refine goesL_ (some 38) rfl rfl Try.func20 (by kernel_rfl) rfl #[.slice Ao13 t102.length co13] rfl (by (try simp only [List.map_toArray, List.map_cons, List.map_nil]); first | done | rfl | (simp only [List.length_drop, List.length_take]; rfl)) ?_; (with_reducible refine (arena_Fits_c.calls _ _ t102 true _ ?side1 ?side2 A10.out).mono ?_); (case side1 => repeat (first | exact (Kd.R_reads' HO104.out).2.2 | (with_reducible refine Kd.C_alloc ?_ _) | (with_reducible refine Kd.C_drewN ?_ _) | (with_reducible refine Kd.C_drew ?_))); (case side2 => exact (Kd.R_reads' HO104.out).2.1); rintro e w14 ⟨rfl, hb⟩; refine ⟨_, rfl, ?_⟩; have n0_ := Aside0.mk (Kd.R_below (by (with_reducible repeat (first | apply Kd.R_alloc | apply Kd.R_drewN | apply Kd.R_drew)); exact HO104.out) hb); have n1_ := Aside0.mk (below_step (by repeat (first | (with_reducible first | exact HB.out | apply below_alloc | apply pw_below_drewN | apply below_drew1) | exact HB.out)) hb); clear HO104; clear HB; have HO104 := n0_; have HB := n1_; clear n0_ n1_; (try clear hb); (try clear hb2); (try clear hk); (try clear hi)))
          go_ret2
          exact ⟨_, by first | rfl | (simp [errW_none, errW_some] <;> rfl) | (simp [*, errW_none, errW_some] <;> rfl), by (with_reducible repeat (first | apply Kd.R_alloc | apply Kd.R_drewN | apply Kd.R_drew)); exact HO104.out, by repeat (first | (with_reducible first | exact HB.out | apply below_alloc | apply pw_below_drewN | apply below_drew1) | exact HB.out)⟩
        · replace c11 := Bool.eq_false_iff.mpr c11
          subst c11
          have H1 : (some (([] : List Int), false)) = some (r1, r2) := by rw [if_neg (show ¬ (false = true) by decide)] at H; exact H
          clear H
          have H := H1
          clear H1
          simp only [Option.some.injEq, Prod.mk.injEq] at H
          obtain ⟨rfl, rfl⟩ := H
          go_wp2_with (first | ((with_reducible refine gate_callee (f := 64) rfl ?_); refine goesL_ (some 36) rfl rfl Try.func64 (by kernel_rfl) rfl #[.slice A0 l0.length c0] rfl (by (try simp only [List.map_toArray, List.map_cons, List.map_nil]); first | done | rfl | (simp only [List.length_drop, List.length_take]; rfl)) ?_; (with_reducible refine (slices_Concat_int_int.calls _ _ l0 t102 _ ?side1 ?side2 A9.out).mono ?_); (case side1 => repeat (first | exact (Kd.C_below HR0.out HB.out) | (with_reducible refine Kd.C_alloc ?_ _) | (with_reducible refine Kd.C_drewN ?_ _) | (with_reducible refine Kd.C_drew ?_))); (case side2 => exact HC0.out); rintro e w15 ⟨v103, rfl, ho0, hb⟩; refine ⟨_, rfl, ?_⟩; have n0_ := Aside0.mk (Kd.R_lower ho0 (below_size (by repeat (first | (with_reducible first | exact HB.out | apply below_alloc | apply pw_below_drewN | apply below_drew1) | exact HB.out)))); have n1_ := Aside0.mk (below_step (by repeat (first | (with_reducible first | exact HB.out | apply below_alloc | apply pw_below_drewN | apply below_drew1) | exact HB.out)) hb); clear HB; have HO104 := n0_; have HB := n1_; clear n0_ n1_; (try clear hb); (try clear hb2); (try clear hk); (try clear hi); (try clear ho0); obtain ⟨Ao16, co16, eo16⟩ := Kd.R_slice HO104.out; subst eo16) | ((with_reducible refine gate_callee (f := 20) rfl ?_); refine goesL_ (some 38) rfl rfl Try.func20 (by kernel_rfl) rfl #[.slice Ao16 t102.length co16] rfl (by (try simp only [List.map_toArray, List.map_cons, List.map_nil]); first | done | rfl | (simp only [List.length_drop, List.length_take]; rfl)) ?_; (with_reducible refine (arena_Fits_c.calls _ _ t102 false _ ?side1 ?side2 A10.out).mono ?_); (case side1 => repeat (first | exact (Kd.R_reads' HO104.out).2.2 | (with_reducible refine Kd.C_alloc ?_ _) | (with_reducible refine Kd.C_drewN ?_ _) | (with_reducible refine Kd.C_drew ?_))); (case side2 => exact (Kd.R_reads' HO104.out).2.1); rintro e w17 ⟨rfl, hb⟩; refine ⟨_, rfl, ?_⟩; have n0_ := Aside0.mk (Kd.R_below (by (with_reducible repeat (first | apply Kd.R_alloc | apply Kd.R_drewN | apply Kd.R_drew)); exact HO104.out) hb); have n1_ := Aside0.mk (below_step (by repeat (first | (with_reducible first | exact HB.out | apply below_alloc | apply pw_below_drewN | apply below_drew1) | exact HB.out)) hb); clear HO104; clear HB; have HO104 := n0_; have HB := n1_; clear n0_ n1_; (try clear hb); (try clear hb2); (try clear hk); (try clear hi)))
          go_ret2
          exact ⟨_, by first | rfl | (simp [errW_none, errW_some] <;> rfl) | (simp [*, errW_none, errW_some] <;> rfl), by first | exact Kd.R_nil _ _ _ _ _ | exact Kd.N_nil _ _ _ _ _ | exact Kd.V_nil _ _ _ _ _ | exact Kd.Q_nil _ _ _ _ _ | exact Kd.S_nil _ _ _ _ _, by repeat (first | (with_reducible first | exact HB.out | apply below_alloc | apply pw_below_drewN | apply below_drew1) | exact HB.out)⟩

end Go.Proofs.Ythlhnodedofibaa.F
end

section
namespace Go.Proofs.Ythlhnodedofibaa.F
open Go.RowKit Go.Proofs.YthlhnodedofibaaW.PrintWords Go.Proofs.YthlhnodedofibaaW.PrintLast Go.Proofs.YthlhnodedofibaaW.PrintMore
attribute [local go_sem] max2_int min2_int max_two min_two max_three min_three max_four min_four   -- for this text's walks alone
set_option linter.unusedVariables false
set_option linter.unusedSimpArgs false

open Go.Proofs.Ythlhnodedofibaa.H
def mani_Join_c.f (l0 : List (List Int)) : Option (List Int × Bool) := if l0.length ≤ 1000000 ∧ l0.flatten.length ≤ 1000000 then some (joinL l0) else none
theorem mani_Join.l0_to (p : List (List Int)) (hl : p.length ≤ 1000000) (hf : p.flatten.length ≤ 1000000) : ∀ (d i : Nat), p.length - i = d → i ≤ p.length →
    ∃ k, mani_Join.l0 k p p (p.length : Int) (i : Int) = some (if wholeB (p.drop i) = true ∧ fitsB p.flatten = true then (p.flatten, true) else ([], false))
  | 0, i, hd, hi => by
    refine ⟨1, ?_⟩
    rw [mani_Join.l0, if_neg (by omega), slices_Concat_int_int.f, if_pos ⟨hl, hf⟩, Option.bind_some, arena_Fits_c.f, Option.bind_some, List.drop_of_length_le (by omega)]
    by_cases h : fitsB p.flatten = true
    · rw [if_pos h, if_pos ⟨rfl, h⟩]
    · rw [if_neg h, if_neg (fun h2 => h h2.2)]
  | d + 1, i, hd, hi => by
    have hlt : i < p.length := by omega
    obtain ⟨k, hk⟩ := mani_Join.l0_to p hl hf d (i + 1) (by omega) (by omega)
    refine ⟨k + 1, ?_⟩
    have hr : rd_L6 p (i : Int) = p[i] := getD_toNat p [] i hlt
    have he : (p.drop (i + 1)).isEmpty = decide (p.length ≤ i + 1) := by
      rw [Bool.eq_iff_iff]; simp
    have hw : wholeB (p.drop i) = (decide (1 ≤ p[i].length) && decide (p[i].length ≤ 4) && ((p.drop (i + 1)).isEmpty || decide (4 ≤ p[i].length)) && wholeB (p.drop (i + 1))) := by
      rw [drop_at p i hlt, wholeB]
    have e1 : wrap64 ((i : Int) + 1) = ((i + 1 : Nat) : Int) := by unfold wrap64; omega
    have e2 : wrap64 ((p.length : Int) - 1) = (p.length : Int) - 1 := by unfold wrap64; omega
    rw [mani_Join.l0, if_pos (by omega), if_pos (by omega), if_pos (by omega), hr, e1, e2, hw, he]
    by_cases h1 : (p[i].length : Int) < 1
    · rw [if_pos h1, decide_eq_false (show ¬ 1 ≤ p[i].length by omega)]
      simp
    · rw [if_neg h1, decide_eq_true (show 1 ≤ p[i].length by omega)]
      by_cases h2 : (p[i].length : Int) > 4
      · rw [if_pos h2, decide_eq_false (show ¬ p[i].length ≤ 4 by omega)]
        simp
      · rw [if_neg h2, decide_eq_true (show p[i].length ≤ 4 by omega)]
        by_cases h3 : (i : Int) < (p.length : Int) - 1
        · rw [if_pos h3, decide_eq_false (show ¬ p.length ≤ i + 1 by omega)]
          by_cases h4 : (p[i].length : Int) < 4
          · rw [if_pos h4, decide_eq_false (show ¬ 4 ≤ p[i].length by omega)]
            simp
          · rw [if_neg h4, hk, decide_eq_true (show 4 ≤ p[i].length by omega)]
            simp
        · rw [if_neg h3, hk, decide_eq_true (show p.length ≤ i + 1 by omega)]
          simp
theorem mani_Join_c.to {l0 : List (List Int)} {r : List Int × Bool} (h : mani_Join_c.f l0 = some r) : ∃ k, mani_Join.f k l0 = some r := by
  unfold mani_Join_c.f at h
  split at h
  case isFalse => cases h
  case isTrue hb =>
  obtain rfl := Option.some.inj h
  obtain ⟨k, hk⟩ := mani_Join.l0_to l0 hb.1 hb.2 l0.length 0 (by omega) (by omega)
  exact ⟨k, hk⟩

theorem mani_Join_c.calls (A0 : Option Addr) (c0 : Nat) (l0 : List (List Int)) (r1 : List Int) (r2 : Bool) (w : World) (hr0 : Kd.C (Kd.slice 3 (Kd.int .i64)) w A0 l0.length l0) (hc0 : l0.length ≤ c0) (h : mani_Join_c.f l0 = some (r1, r2)) :
    Calls Try.prog 38 #[.slice A0 l0.length c0] w fun e w' => ∃ v0_ : Value, e = .returned (.tuple #[v0_, .bool r2]) ∧ Kd.R (Kd.int .i64) 3 w' w.heap.size (fun _ => True) v0_ r1 ∧ Below w.heap.size w w' := by
  obtain ⟨k_, hk_⟩ := mani_Join_c.to h
  exact mani_Join.calls k_ A0 c0 l0 r1 r2 w hr0 hc0 hk_

end Go.Proofs.Ythlhnodedofibaa.F
end
