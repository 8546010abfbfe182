/- Proved: at every input in bounds the statement PackFields of the pack layer answers yes: a field that is too great, or that the kind has not, may not be.
Text 4 of 5; functions told as plain ones, with the contracts of their calls. -/
import Derived.Test.YtoooceaoggkeeaaQPackFields1
import Derived.Test.YtoooceaoggkeeaaQPackFields2
import Derived.Test.YtoooceaoggkeeaaQPackFields3
section
namespace Go.Proofs.Ytoooceaoggkeeaa.F
open Go.RowKit Go.Proofs.YtoooceaoggkeeaaW.PrintWords Go.Proofs.YtoooceaoggkeeaaW.PrintLast Go.Proofs.YtoooceaoggkeeaaW.PrintMore
attribute [local go_sem] max2_int min2_int max_two min_two max_three min_three max_four min_four   -- for this text's walks alone
set_option linter.unusedVariables false
set_option linter.unusedSimpArgs false

open Go.Proofs.Ytoooceaoggkeeaa.H
/-! ### scullerlaw13_PackFields: given -/
def scullerlaw13_PackFields.f (a0 : Int) (l1 : List Int) (a2 a3 : Int) : Option Bool :=
 if bytesB l1 = true ∧ l1.length ≤ 140737488351232 ∧ (0 ≤ a2 ∧ a2 ≤ 255) ∧ (0 ≤ a3 ∧ a3 ≤ 255) then some true else none
theorem wrongI (k o : Int) (z b : List Int) : rightG k 65536 o z b = false := by
 unfold rightG
 rw [decide_eq_false (show ¬ (65536 : Int) ≤ 65535 by decide)]
 simp
theorem wrongO (k i : Int) (z b : List Int) : rightG k i (-1) z b = false := by
 unfold rightG
 rw [decide_eq_false (show ¬ (0 : Int) ≤ -1 by decide)]
 simp
theorem wrongZ5 (k i o : Int) (b : List Int) : rightG k i o [1, 1, 1, 1, 1] b = false := by
 have h := kinds_small k
 unfold rightG
 rw [decide_eq_false (show ¬ (([1, 1, 1, 1, 1] : List Int).length : Int) ≤ (hasL k).1 by simp; omega)]
 simp
theorem wrongB (k i o : Int) (z : List Int) : rightG k i o z (List.replicate 65 0) = false := by
 have h := kinds_small k
 unfold rightG
 rw [decide_eq_false (show ¬ ((List.replicate 65 (0 : Int)).length : Int) ≤ (hasL k).2 by rw [List.length_replicate]; omega)]
 simp
theorem wrongK (i o : Int) (z b : List Int) : rightG 9 i o z b = false := by
 have e : isKindB 9 = false := by decide
 unfold rightG
 rw [e]
 simp
theorem wrongZ (k i o : Int) (b : List Int) : rightG k i o [4097] b = false := by
 have e : ([4097] : List Int).any badS = true := by decide
 unfold rightG
 rw [e]
 simp
theorem encWrong {k s i o m : Int} {z b : List Int} (h : rightG k i o z b = false) (hz : z.length ≤ 1000000) (hl : b.length ≤ 1000000) (hb : bytesB b = true) (hm : 0 ≤ m ∧ m < 4294967296) : pack_Encode.f k s i o m z b = some ([], 1) := by
 rw [pack_Encode.f, if_pos ⟨hz, hl, hb, hm.1, hm.2⟩, encodeG, if_neg (by rw [h]; decide)]
theorem gramC_tells (s m i o : Int) (c : List Int) (k : Int) (hb : bytesB c = true) : ∃ (K I : Int) (z b : List Int), gramC s m i o c k = (K, s, I, o, m, z, b) ∧ z.length ≤ 4 ∧ b.length ≤ 64 ∧ bytesB b = true := by
 refine ⟨_, _, _, _, rfl, ?_, ?_, ?_⟩
 · split
   · exact sizesG_length c
   · simp
 · split
   · rw [List.length_take]; omega
   · simp
 · split
   · exact bytesB_take hb 64
   · rfl
theorem nums_C {k : IntKind} {W : World} {g : Nat} {t : TypeId} {cs : Array Value} (l : List Int) (hl : l.length ≤ 1000) (h : W.heap[g]? = some (.cells cs t (0, 0))) (hc : ∀ j, j < l.length → cs[j]? = some (.int k (l.getD j 0))) : Kd.C (Kd.int k) W (some ⟨g, 0, none⟩) l.length l :=
 Kd.C_of_reads (d := (0 : Int)) ⟨rfl, by omega, fun _ => ⟨_, rfl, fun j hj => by rw [add_plain]; exact (blk_cell h j).trans (hc j hj)⟩⟩
set_option maxHeartbeats 4000000 in
set_option maxRecDepth 100000 in
theorem PackFields_0 (a0 : Int) (A1 : Option Addr) (c1 : Nat) (l1 : List Int) (a2 a3 : Int) (w : World) (HR1 : Aside0 (Kd.C (Kd.int .u8) w A1 l1.length l1)) (HC1 : Aside0 (l1.length ≤ c1)) (K I : Int) (z b : List Int)
 (HG : Aside0 (scullerlaw13_Gram_c.f a0 7 1 2 l1 (a2 % 8) = some (K, a0, I, 2, 7, z, b))) (HZL : Aside0 (z.length ≤ 4)) (HBL : Aside0 (b.length ≤ 64)) (HBB : Aside0 (bytesB b = true)) (h2 : 0 ≤ a2 ∧ a2 ≤ 255) (h3 : 0 ≤ a3 ∧ a3 ≤ 255) (hw : a3 % 6 = 0) :
 Calls Try.prog 6 #[.int .u64 a0, .slice A1 l1.length c1, .int .u8 a2, .int .u8 a3] w fun e w' => e = .returned (.bool true) ∧ Below w.heap.size w w' := by
 have hu28 := Try.underlying28
 have HK := Aside0.mk (show scullerlaw13_known_c.f = some true from rfl)
 have b0 : (a3 % 6 == 0) = true := by rw [hw]; decide
 have b1 : (a3 % 6 == 1) = false := by rw [hw]; decide
 have b2 : (a3 % 6 == 2) = false := by rw [hw]; decide
 have b3 : (a3 % 6 == 3) = false := by rw [hw]; decide
 have b4 : (a3 % 6 == 4) = false := by rw [hw]; decide
 have b5 : (a3 % 6 == 5) = false := by rw [hw]; decide
 clear hw
 go_enter Try.func6, Try.ntmps6
 go_upto_region 5 with (first
  | (go_at_call 9; refine (scullerlaw13_Gram_c.calls a0 7 1 2 (fun k_ => k_ < w.heap.size) _ _ l1 (a2 % 8) K a0 I 2 7 z b _ ?side1 HG.out).mono ?_; (case side1 => exact Kd.V_mk HC1.out (Kd.F_below (Kd.C_F (Kd.heap_int .u8) HR1.out) (Below.refl w.heap.size w))); rintro e w1 ⟨vz, vb, rfl, hz, hq, hbl⟩; obtain ⟨Az, cz, ez⟩ := Kd.R_slice hz; subst ez; obtain ⟨Ab, cb, eb⟩ := Kd.R_slice hq; subst eb; have HZ := Aside0.mk (Kd.R_mono (ok' := fun _ => True) hz (fun _ _ => trivial)); have HB := Aside0.mk (Kd.R_mono (ok' := fun _ => True) hq (fun _ _ => trivial)); have HB1 := Aside0.mk hbl; clear hz hq hbl)
  | ((with_reducible refine gate_dst (N := 9) rfl ?_); refine box_event ?hg (N := 9) ?hd (cs := #[.int .i64 0, .int .u64 0, .int .i64 0, .int .i64 0, .int .u32 0, .slice none 0 0, .slice none 0 0]) (t := 28) ?hr ?_; (case hd => rfl); (case hg => rfl); (case hr => first | (go_simp; done) | (go_simp; rfl)); intro g9 hg w2 hbox hb; have BK2 := Aside0.mk hbox; have HZ2 := Aside0.mk (Kd.R_below HZ.out hb); have HB2 := Aside0.mk (Kd.R_below HB.out hb); have BW2 := Aside0.mk (below_then HB1.out HB1.out.size hb); have GE9 := Aside0.mk (show w.heap.size ≤ g9 by rw [hg]; exact HB1.out.size); clear hb hbox hg; have z0 : w2.cell? ⟨g9, 0, none⟩ = _ := (blk_cell BK2.out 0).trans rfl; have zf0 := blk_frozen BK2.out 0; have z1 : w2.cell? ⟨g9, 1, none⟩ = _ := (blk_cell BK2.out 1).trans rfl; have zf1 := blk_frozen BK2.out 1; have z2 : w2.cell? ⟨g9, 2, none⟩ = _ := (blk_cell BK2.out 2).trans rfl; have zf2 := blk_frozen BK2.out 2; have z3 : w2.cell? ⟨g9, 3, none⟩ = _ := (blk_cell BK2.out 3).trans rfl; have zf3 := blk_frozen BK2.out 3; have z4 : w2.cell? ⟨g9, 4, none⟩ = _ := (blk_cell BK2.out 4).trans rfl; have zf4 := blk_frozen BK2.out 4; have z5 : w2.cell? ⟨g9, 5, none⟩ = _ := (blk_cell BK2.out 5).trans rfl; have zf5 := blk_frozen BK2.out 5; have z6 : w2.cell? ⟨g9, 6, none⟩ = _ := (blk_cell BK2.out 6).trans rfl; have zf6 := blk_frozen BK2.out 6))
 have k0 := blk_put (cs := #[.int .i64 0, .int .u64 0, .int .i64 0, .int .i64 0, .int .u32 0, .slice none 0 0, .slice none 0 0]) BK2.out 0 (.int .i64 K) rfl
 have rz0 := Kd.R_set HZ2.out BK2.out (by decide) 0 (.int .i64 K)
 have rb0 := Kd.R_set HB2.out BK2.out (by decide) 0 (.int .i64 K)
 have bw0 := below_set (g := g9) (j := 0) (v := (.int .i64 K)) BW2.out GE9.out
 have k1 := blk_put (cs := #[.int .i64 K, .int .u64 0, .int .i64 0, .int .i64 0, .int .u32 0, .slice none 0 0, .slice none 0 0]) k0 1 (.int .u64 a0) rfl
 have rz1 := Kd.R_set rz0 k0 (by decide) 1 (.int .u64 a0)
 have rb1 := Kd.R_set rb0 k0 (by decide) 1 (.int .u64 a0)
 have bw1 := below_set (g := g9) (j := 1) (v := (.int .u64 a0)) bw0 GE9.out
 have k2 := blk_put (cs := #[.int .i64 K, .int .u64 a0, .int .i64 0, .int .i64 0, .int .u32 0, .slice none 0 0, .slice none 0 0]) k1 2 (.int .i64 I) rfl
 have rz2 := Kd.R_set rz1 k1 (by decide) 2 (.int .i64 I)
 have rb2 := Kd.R_set rb1 k1 (by decide) 2 (.int .i64 I)
 have bw2 := below_set (g := g9) (j := 2) (v := (.int .i64 I)) bw1 GE9.out
 have k3 := blk_put (cs := #[.int .i64 K, .int .u64 a0, .int .i64 I, .int .i64 0, .int .u32 0, .slice none 0 0, .slice none 0 0]) k2 3 (.int .i64 2) rfl
 have rz3 := Kd.R_set rz2 k2 (by decide) 3 (.int .i64 2)
 have rb3 := Kd.R_set rb2 k2 (by decide) 3 (.int .i64 2)
 have bw3 := below_set (g := g9) (j := 3) (v := (.int .i64 2)) bw2 GE9.out
 have k4 := blk_put (cs := #[.int .i64 K, .int .u64 a0, .int .i64 I, .int .i64 2, .int .u32 0, .slice none 0 0, .slice none 0 0]) k3 4 (.int .u32 7) rfl
 have rz4 := Kd.R_set rz3 k3 (by decide) 4 (.int .u32 7)
 have rb4 := Kd.R_set rb3 k3 (by decide) 4 (.int .u32 7)
 have bw4 := below_set (g := g9) (j := 4) (v := (.int .u32 7)) bw3 GE9.out
 have k5 := blk_put (cs := #[.int .i64 K, .int .u64 a0, .int .i64 I, .int .i64 2, .int .u32 7, .slice none 0 0, .slice none 0 0]) k4 5 (.slice Az z.length cz) rfl
 have rz5 := Kd.R_set rz4 k4 (by decide) 5 (.slice Az z.length cz)
 have rb5 := Kd.R_set rb4 k4 (by decide) 5 (.slice Az z.length cz)
 have bw5 := below_set (g := g9) (j := 5) (v := (.slice Az z.length cz)) bw4 GE9.out
 have k6 := blk_put (cs := #[.int .i64 K, .int .u64 a0, .int .i64 I, .int .i64 2, .int .u32 7, .slice Az z.length cz, .slice none 0 0]) k5 6 (.slice Ab b.length cb) rfl
 have rz6 := Kd.R_set rz5 k5 (by decide) 6 (.slice Ab b.length cb)
 have rb6 := Kd.R_set rb5 k5 (by decide) 6 (.slice Ab b.length cb)
 have bw6 := below_set (g := g9) (j := 6) (v := (.slice Ab b.length cb)) bw5 GE9.out
 generalize (World.setCell (World.setCell (World.setCell (World.setCell (World.setCell (World.setCell (World.setCell w2 ⟨g9, 0, none⟩ (.int .i64 K)) ⟨g9, 1, none⟩ (.int .u64 a0)) ⟨g9, 2, none⟩ (.int .i64 I)) ⟨g9, 3, none⟩ (.int .i64 2)) ⟨g9, 4, none⟩ (.int .u32 7)) ⟨g9, 5, none⟩ (.slice Az z.length cz)) ⟨g9, 6, none⟩ (.slice Ab b.length cb)) = W8 at k6 rz6 rb6 bw6 ⊢
 have HK8 := Aside0.mk k6
 have RZ8 := Aside0.mk rz6
 have RB8 := Aside0.mk rb6
 have BW8 := Aside0.mk bw6
 clear k6 rz6 rb6 bw6 k0 rz0 rb0 bw0 k1 rz1 rb1 bw1 k2 rz2 rb2 bw2 k3 rz3 rb3 bw3 k4 rz4 rb4 bw4 k5 rz5 rb5 bw5 z0 zf0 z1 zf1 z2 zf2 z3 zf3 z4 zf4 z5 zf5 z6 zf6
 clear HZ HB HZ2 HB2 BK2 HG HB1 BW2
 have hf : W8.frozen? ⟨g9, 2, none⟩ = false := blk_frozen HK8.out 2
 have hc : W8.cell? ⟨g9, 2, none⟩ = some (.int .i64 I) := (blk_cell HK8.out 2).trans rfl
 go_upto_region 14 with (fail)
 have k9 := blk_put (cs := #[.int .i64 K, .int .u64 a0, .int .i64 I, .int .i64 2, .int .u32 7, .slice Az z.length cz, .slice Ab b.length cb]) HK8.out 2 (.int .i64 65536) rfl
 have rz9 := Kd.R_set RZ8.out HK8.out (by decide) 2 (.int .i64 65536)
 have rb9 := Kd.R_set RB8.out HK8.out (by decide) 2 (.int .i64 65536)
 have bw9 := below_set (g := g9) (j := 2) (v := (.int .i64 65536)) BW8.out GE9.out
 generalize (World.setCell W8 ⟨g9, 2, none⟩ (.int .i64 65536)) = W9 at k9 rz9 rb9 bw9 ⊢
 have HK9 := Aside0.mk k9
 have RZ9 := Aside0.mk rz9
 have RB9 := Aside0.mk rb9
 have BW9 := Aside0.mk bw9
 have y0 : W9.cell? ⟨g9, 0, none⟩ = some (.int .i64 K) := (blk_cell HK9.out 0).trans rfl
 have y1 : W9.cell? ⟨g9, 1, none⟩ = some (.int .u64 a0) := (blk_cell HK9.out 1).trans rfl
 have y2 : W9.cell? ⟨g9, 2, none⟩ = some (.int .i64 65536) := (blk_cell HK9.out 2).trans rfl
 have y3 : W9.cell? ⟨g9, 3, none⟩ = some (.int .i64 2) := (blk_cell HK9.out 3).trans rfl
 have y4 : W9.cell? ⟨g9, 4, none⟩ = some (.int .u32 7) := (blk_cell HK9.out 4).trans rfl
 have y5 : W9.cell? ⟨g9, 5, none⟩ = some (.slice Az z.length cz) := (blk_cell HK9.out 5).trans rfl
 have y6 : W9.cell? ⟨g9, 6, none⟩ = some (.slice Ab b.length cb) := (blk_cell HK9.out 6).trans rfl
 have HEN := Aside0.mk (show pack_Encode.f K a0 65536 2 7 z b = some ([], 1) from encWrong (wrongI _ _ _ _) (by have := HZL.out; omega) (by have := HBL.out; omega) HBB.out (by omega))
 clear k9 rz9 rb9 bw9 HK8 RZ8 RB8 BW8 hf hc
 go_wp2_with (first
  | (go_at_call 10; refine (pack_Encode.calls K a0 65536 2 7 _ _ z _ _ b [] 1 _ (Kd.R_reads' RZ9.out).2.2 (Kd.R_reads' RZ9.out).2.1 (Kd.R_reads' RB9.out).2.2 (Kd.R_reads' RB9.out).2.1 HEN.out).mono ?_; rintro e w10 ⟨v10, rfl, ho, hb⟩; obtain ⟨A10, c10, e10⟩ := Kd.R_slice ho; subst e10; have BW10 := Aside0.mk (below_then BW9.out BW9.out.size hb); clear ho hb)
  | (go_at_call 13; refine (scullerlaw13_known_c.calls true _ HK.out).mono ?_; rintro e w11 ⟨rfl, hb⟩; have BW11 := Aside0.mk (below_then BW10.out BW10.out.size hb); clear hb))
 go_ret
 exact ⟨rfl, BW11.out⟩
set_option maxHeartbeats 4000000 in
set_option maxRecDepth 100000 in
theorem PackFields_1 (a0 : Int) (A1 : Option Addr) (c1 : Nat) (l1 : List Int) (a2 a3 : Int) (w : World) (HR1 : Aside0 (Kd.C (Kd.int .u8) w A1 l1.length l1)) (HC1 : Aside0 (l1.length ≤ c1)) (K I : Int) (z b : List Int)
 (HG : Aside0 (scullerlaw13_Gram_c.f a0 7 1 2 l1 (a2 % 8) = some (K, a0, I, 2, 7, z, b))) (HZL : Aside0 (z.length ≤ 4)) (HBL : Aside0 (b.length ≤ 64)) (HBB : Aside0 (bytesB b = true)) (h2 : 0 ≤ a2 ∧ a2 ≤ 255) (h3 : 0 ≤ a3 ∧ a3 ≤ 255) (hw : a3 % 6 = 1) :
 Calls Try.prog 6 #[.int .u64 a0, .slice A1 l1.length c1, .int .u8 a2, .int .u8 a3] w fun e w' => e = .returned (.bool true) ∧ Below w.heap.size w w' := by
 have hu28 := Try.underlying28
 have HK := Aside0.mk (show scullerlaw13_known_c.f = some true from rfl)
 have b0 : (a3 % 6 == 0) = false := by rw [hw]; decide
 have b1 : (a3 % 6 == 1) = true := by rw [hw]; decide
 have b2 : (a3 % 6 == 2) = false := by rw [hw]; decide
 have b3 : (a3 % 6 == 3) = false := by rw [hw]; decide
 have b4 : (a3 % 6 == 4) = false := by rw [hw]; decide
 have b5 : (a3 % 6 == 5) = false := by rw [hw]; decide
 clear hw
 go_enter Try.func6, Try.ntmps6
 go_upto_region 7 with (first
  | (go_at_call 9; refine (scullerlaw13_Gram_c.calls a0 7 1 2 (fun k_ => k_ < w.heap.size) _ _ l1 (a2 % 8) K a0 I 2 7 z b _ ?side1 HG.out).mono ?_; (case side1 => exact Kd.V_mk HC1.out (Kd.F_below (Kd.C_F (Kd.heap_int .u8) HR1.out) (Below.refl w.heap.size w))); rintro e w1 ⟨vz, vb, rfl, hz, hq, hbl⟩; obtain ⟨Az, cz, ez⟩ := Kd.R_slice hz; subst ez; obtain ⟨Ab, cb, eb⟩ := Kd.R_slice hq; subst eb; have HZ := Aside0.mk (Kd.R_mono (ok' := fun _ => True) hz (fun _ _ => trivial)); have HB := Aside0.mk (Kd.R_mono (ok' := fun _ => True) hq (fun _ _ => trivial)); have HB1 := Aside0.mk hbl; clear hz hq hbl)
  | ((with_reducible refine gate_dst (N := 9) rfl ?_); refine box_event ?hg (N := 9) ?hd (cs := #[.int .i64 0, .int .u64 0, .int .i64 0, .int .i64 0, .int .u32 0, .slice none 0 0, .slice none 0 0]) (t := 28) ?hr ?_; (case hd => rfl); (case hg => rfl); (case hr => first | (go_simp; done) | (go_simp; rfl)); intro g9 hg w2 hbox hb; have BK2 := Aside0.mk hbox; have HZ2 := Aside0.mk (Kd.R_below HZ.out hb); have HB2 := Aside0.mk (Kd.R_below HB.out hb); have BW2 := Aside0.mk (below_then HB1.out HB1.out.size hb); have GE9 := Aside0.mk (show w.heap.size ≤ g9 by rw [hg]; exact HB1.out.size); clear hb hbox hg; have z0 : w2.cell? ⟨g9, 0, none⟩ = _ := (blk_cell BK2.out 0).trans rfl; have zf0 := blk_frozen BK2.out 0; have z1 : w2.cell? ⟨g9, 1, none⟩ = _ := (blk_cell BK2.out 1).trans rfl; have zf1 := blk_frozen BK2.out 1; have z2 : w2.cell? ⟨g9, 2, none⟩ = _ := (blk_cell BK2.out 2).trans rfl; have zf2 := blk_frozen BK2.out 2; have z3 : w2.cell? ⟨g9, 3, none⟩ = _ := (blk_cell BK2.out 3).trans rfl; have zf3 := blk_frozen BK2.out 3; have z4 : w2.cell? ⟨g9, 4, none⟩ = _ := (blk_cell BK2.out 4).trans rfl; have zf4 := blk_frozen BK2.out 4; have z5 : w2.cell? ⟨g9, 5, none⟩ = _ := (blk_cell BK2.out 5).trans rfl; have zf5 := blk_frozen BK2.out 5; have z6 : w2.cell? ⟨g9, 6, none⟩ = _ := (blk_cell BK2.out 6).trans rfl; have zf6 := blk_frozen BK2.out 6))
 have k0 := blk_put (cs := #[.int .i64 0, .int .u64 0, .int .i64 0, .int .i64 0, .int .u32 0, .slice none 0 0, .slice none 0 0]) BK2.out 0 (.int .i64 K) rfl
 have rz0 := Kd.R_set HZ2.out BK2.out (by decide) 0 (.int .i64 K)
 have rb0 := Kd.R_set HB2.out BK2.out (by decide) 0 (.int .i64 K)
 have bw0 := below_set (g := g9) (j := 0) (v := (.int .i64 K)) BW2.out GE9.out
 have k1 := blk_put (cs := #[.int .i64 K, .int .u64 0, .int .i64 0, .int .i64 0, .int .u32 0, .slice none 0 0, .slice none 0 0]) k0 1 (.int .u64 a0) rfl
 have rz1 := Kd.R_set rz0 k0 (by decide) 1 (.int .u64 a0)
 have rb1 := Kd.R_set rb0 k0 (by decide) 1 (.int .u64 a0)
 have bw1 := below_set (g := g9) (j := 1) (v := (.int .u64 a0)) bw0 GE9.out
 have k2 := blk_put (cs := #[.int .i64 K, .int .u64 a0, .int .i64 0, .int .i64 0, .int .u32 0, .slice none 0 0, .slice none 0 0]) k1 2 (.int .i64 I) rfl
 have rz2 := Kd.R_set rz1 k1 (by decide) 2 (.int .i64 I)
 have rb2 := Kd.R_set rb1 k1 (by decide) 2 (.int .i64 I)
 have bw2 := below_set (g := g9) (j := 2) (v := (.int .i64 I)) bw1 GE9.out
 have k3 := blk_put (cs := #[.int .i64 K, .int .u64 a0, .int .i64 I, .int .i64 0, .int .u32 0, .slice none 0 0, .slice none 0 0]) k2 3 (.int .i64 2) rfl
 have rz3 := Kd.R_set rz2 k2 (by decide) 3 (.int .i64 2)
 have rb3 := Kd.R_set rb2 k2 (by decide) 3 (.int .i64 2)
 have bw3 := below_set (g := g9) (j := 3) (v := (.int .i64 2)) bw2 GE9.out
 have k4 := blk_put (cs := #[.int .i64 K, .int .u64 a0, .int .i64 I, .int .i64 2, .int .u32 0, .slice none 0 0, .slice none 0 0]) k3 4 (.int .u32 7) rfl
 have rz4 := Kd.R_set rz3 k3 (by decide) 4 (.int .u32 7)
 have rb4 := Kd.R_set rb3 k3 (by decide) 4 (.int .u32 7)
 have bw4 := below_set (g := g9) (j := 4) (v := (.int .u32 7)) bw3 GE9.out
 have k5 := blk_put (cs := #[.int .i64 K, .int .u64 a0, .int .i64 I, .int .i64 2, .int .u32 7, .slice none 0 0, .slice none 0 0]) k4 5 (.slice Az z.length cz) rfl
 have rz5 := Kd.R_set rz4 k4 (by decide) 5 (.slice Az z.length cz)
 have rb5 := Kd.R_set rb4 k4 (by decide) 5 (.slice Az z.length cz)
 have bw5 := below_set (g := g9) (j := 5) (v := (.slice Az z.length cz)) bw4 GE9.out
 have k6 := blk_put (cs := #[.int .i64 K, .int .u64 a0, .int .i64 I, .int .i64 2, .int .u32 7, .slice Az z.length cz, .slice none 0 0]) k5 6 (.slice Ab b.length cb) rfl
 have rz6 := Kd.R_set rz5 k5 (by decide) 6 (.slice Ab b.length cb)
 have rb6 := Kd.R_set rb5 k5 (by decide) 6 (.slice Ab b.length cb)
 have bw6 := below_set (g := g9) (j := 6) (v := (.slice Ab b.length cb)) bw5 GE9.out
 generalize (World.setCell (World.setCell (World.setCell (World.setCell (World.setCell (World.setCell (World.setCell w2 ⟨g9, 0, none⟩ (.int .i64 K)) ⟨g9, 1, none⟩ (.int .u64 a0)) ⟨g9, 2, none⟩ (.int .i64 I)) ⟨g9, 3, none⟩ (.int .i64 2)) ⟨g9, 4, none⟩ (.int .u32 7)) ⟨g9, 5, none⟩ (.slice Az z.length cz)) ⟨g9, 6, none⟩ (.slice Ab b.length cb)) = W8 at k6 rz6 rb6 bw6 ⊢
 have HK8 := Aside0.mk k6
 have RZ8 := Aside0.mk rz6
 have RB8 := Aside0.mk rb6
 have BW8 := Aside0.mk bw6
 clear k6 rz6 rb6 bw6 k0 rz0 rb0 bw0 k1 rz1 rb1 bw1 k2 rz2 rb2 bw2 k3 rz3 rb3 bw3 k4 rz4 rb4 bw4 k5 rz5 rb5 bw5 z0 zf0 z1 zf1 z2 zf2 z3 zf3 z4 zf4 z5 zf5 z6 zf6
 clear HZ HB HZ2 HB2 BK2 HG HB1 BW2
 have hf : W8.frozen? ⟨g9, 3, none⟩ = false := blk_frozen HK8.out 3
 have hc : W8.cell? ⟨g9, 3, none⟩ = some (.int .i64 2) := (blk_cell HK8.out 3).trans rfl
 go_upto_region 14 with (fail)
 have k9 := blk_put (cs := #[.int .i64 K, .int .u64 a0, .int .i64 I, .int .i64 2, .int .u32 7, .slice Az z.length cz, .slice Ab b.length cb]) HK8.out 3 (.int .i64 (-1)) rfl
 have rz9 := Kd.R_set RZ8.out HK8.out (by decide) 3 (.int .i64 (-1))
 have rb9 := Kd.R_set RB8.out HK8.out (by decide) 3 (.int .i64 (-1))
 have bw9 := below_set (g := g9) (j := 3) (v := (.int .i64 (-1))) BW8.out GE9.out
 generalize (World.setCell W8 ⟨g9, 3, none⟩ (.int .i64 (-1))) = W9 at k9 rz9 rb9 bw9 ⊢
 have HK9 := Aside0.mk k9
 have RZ9 := Aside0.mk rz9
 have RB9 := Aside0.mk rb9
 have BW9 := Aside0.mk bw9
 have y0 : W9.cell? ⟨g9, 0, none⟩ = some (.int .i64 K) := (blk_cell HK9.out 0).trans rfl
 have y1 : W9.cell? ⟨g9, 1, none⟩ = some (.int .u64 a0) := (blk_cell HK9.out 1).trans rfl
 have y2 : W9.cell? ⟨g9, 2, none⟩ = some (.int .i64 I) := (blk_cell HK9.out 2).trans rfl
 have y3 : W9.cell? ⟨g9, 3, none⟩ = some (.int .i64 (-1)) := (blk_cell HK9.out 3).trans rfl
 have y4 : W9.cell? ⟨g9, 4, none⟩ = some (.int .u32 7) := (blk_cell HK9.out 4).trans rfl
 have y5 : W9.cell? ⟨g9, 5, none⟩ = some (.slice Az z.length cz) := (blk_cell HK9.out 5).trans rfl
 have y6 : W9.cell? ⟨g9, 6, none⟩ = some (.slice Ab b.length cb) := (blk_cell HK9.out 6).trans rfl
 have HEN := Aside0.mk (show pack_Encode.f K a0 I (-1) 7 z b = some ([], 1) from encWrong (wrongO _ _ _ _) (by have := HZL.out; omega) (by have := HBL.out; omega) HBB.out (by omega))
 clear k9 rz9 rb9 bw9 HK8 RZ8 RB8 BW8 hf hc
 go_wp2_with (first
  | (go_at_call 10; refine (pack_Encode.calls K a0 I (-1) 7 _ _ z _ _ b [] 1 _ (Kd.R_reads' RZ9.out).2.2 (Kd.R_reads' RZ9.out).2.1 (Kd.R_reads' RB9.out).2.2 (Kd.R_reads' RB9.out).2.1 HEN.out).mono ?_; rintro e w10 ⟨v10, rfl, ho, hb⟩; obtain ⟨A10, c10, e10⟩ := Kd.R_slice ho; subst e10; have BW10 := Aside0.mk (below_then BW9.out BW9.out.size hb); clear ho hb)
  | (go_at_call 13; refine (scullerlaw13_known_c.calls true _ HK.out).mono ?_; rintro e w11 ⟨rfl, hb⟩; have BW11 := Aside0.mk (below_then BW10.out BW10.out.size hb); clear hb))
 go_ret
 exact ⟨rfl, BW11.out⟩
set_option maxHeartbeats 4000000 in
set_option maxRecDepth 100000 in
theorem PackFields_2 (a0 : Int) (A1 : Option Addr) (c1 : Nat) (l1 : List Int) (a2 a3 : Int) (w : World) (HR1 : Aside0 (Kd.C (Kd.int .u8) w A1 l1.length l1)) (HC1 : Aside0 (l1.length ≤ c1)) (K I : Int) (z b : List Int)
 (HG : Aside0 (scullerlaw13_Gram_c.f a0 7 1 2 l1 (a2 % 8) = some (K, a0, I, 2, 7, z, b))) (HZL : Aside0 (z.length ≤ 4)) (HBL : Aside0 (b.length ≤ 64)) (HBB : Aside0 (bytesB b = true)) (h2 : 0 ≤ a2 ∧ a2 ≤ 255) (h3 : 0 ≤ a3 ∧ a3 ≤ 255) (hw : a3 % 6 = 2) :
 Calls Try.prog 6 #[.int .u64 a0, .slice A1 l1.length c1, .int .u8 a2, .int .u8 a3] w fun e w' => e = .returned (.bool true) ∧ Below w.heap.size w w' := by
 have hu28 := Try.underlying28
 have HK := Aside0.mk (show scullerlaw13_known_c.f = some true from rfl)
 have b0 : (a3 % 6 == 0) = false := by rw [hw]; decide
 have b1 : (a3 % 6 == 1) = false := by rw [hw]; decide
 have b2 : (a3 % 6 == 2) = true := by rw [hw]; decide
 have b3 : (a3 % 6 == 3) = false := by rw [hw]; decide
 have b4 : (a3 % 6 == 4) = false := by rw [hw]; decide
 have b5 : (a3 % 6 == 5) = false := by rw [hw]; decide
 clear hw
 go_enter Try.func6, Try.ntmps6
 go_upto_region 9 with (first
  | (go_at_call 9; refine (scullerlaw13_Gram_c.calls a0 7 1 2 (fun k_ => k_ < w.heap.size) _ _ l1 (a2 % 8) K a0 I 2 7 z b _ ?side1 HG.out).mono ?_; (case side1 => exact Kd.V_mk HC1.out (Kd.F_below (Kd.C_F (Kd.heap_int .u8) HR1.out) (Below.refl w.heap.size w))); rintro e w1 ⟨vz, vb, rfl, hz, hq, hbl⟩; obtain ⟨Az, cz, ez⟩ := Kd.R_slice hz; subst ez; obtain ⟨Ab, cb, eb⟩ := Kd.R_slice hq; subst eb; have HZ := Aside0.mk (Kd.R_mono (ok' := fun _ => True) hz (fun _ _ => trivial)); have HB := Aside0.mk (Kd.R_mono (ok' := fun _ => True) hq (fun _ _ => trivial)); have HB1 := Aside0.mk hbl; clear hz hq hbl)
  | ((with_reducible refine gate_dst (N := 9) rfl ?_); refine box_event ?hg (N := 9) ?hd (cs := #[.int .i64 0, .int .u64 0, .int .i64 0, .int .i64 0, .int .u32 0, .slice none 0 0, .slice none 0 0]) (t := 28) ?hr ?_; (case hd => rfl); (case hg => rfl); (case hr => first | (go_simp; done) | (go_simp; rfl)); intro g9 hg w2 hbox hb; have BK2 := Aside0.mk hbox; have HZ2 := Aside0.mk (Kd.R_below HZ.out hb); have HB2 := Aside0.mk (Kd.R_below HB.out hb); have BW2 := Aside0.mk (below_then HB1.out HB1.out.size hb); have GE9 := Aside0.mk (show w.heap.size ≤ g9 by rw [hg]; exact HB1.out.size); clear hb hbox hg; have z0 : w2.cell? ⟨g9, 0, none⟩ = _ := (blk_cell BK2.out 0).trans rfl; have zf0 := blk_frozen BK2.out 0; have z1 : w2.cell? ⟨g9, 1, none⟩ = _ := (blk_cell BK2.out 1).trans rfl; have zf1 := blk_frozen BK2.out 1; have z2 : w2.cell? ⟨g9, 2, none⟩ = _ := (blk_cell BK2.out 2).trans rfl; have zf2 := blk_frozen BK2.out 2; have z3 : w2.cell? ⟨g9, 3, none⟩ = _ := (blk_cell BK2.out 3).trans rfl; have zf3 := blk_frozen BK2.out 3; have z4 : w2.cell? ⟨g9, 4, none⟩ = _ := (blk_cell BK2.out 4).trans rfl; have zf4 := blk_frozen BK2.out 4; have z5 : w2.cell? ⟨g9, 5, none⟩ = _ := (blk_cell BK2.out 5).trans rfl; have zf5 := blk_frozen BK2.out 5; have z6 : w2.cell? ⟨g9, 6, none⟩ = _ := (blk_cell BK2.out 6).trans rfl; have zf6 := blk_frozen BK2.out 6))
 have k0 := blk_put (cs := #[.int .i64 0, .int .u64 0, .int .i64 0, .int .i64 0, .int .u32 0, .slice none 0 0, .slice none 0 0]) BK2.out 0 (.int .i64 K) rfl
 have rz0 := Kd.R_set HZ2.out BK2.out (by decide) 0 (.int .i64 K)
 have rb0 := Kd.R_set HB2.out BK2.out (by decide) 0 (.int .i64 K)
 have bw0 := below_set (g := g9) (j := 0) (v := (.int .i64 K)) BW2.out GE9.out
 have k1 := blk_put (cs := #[.int .i64 K, .int .u64 0, .int .i64 0, .int .i64 0, .int .u32 0, .slice none 0 0, .slice none 0 0]) k0 1 (.int .u64 a0) rfl
 have rz1 := Kd.R_set rz0 k0 (by decide) 1 (.int .u64 a0)
 have rb1 := Kd.R_set rb0 k0 (by decide) 1 (.int .u64 a0)
 have bw1 := below_set (g := g9) (j := 1) (v := (.int .u64 a0)) bw0 GE9.out
 have k2 := blk_put (cs := #[.int .i64 K, .int .u64 a0, .int .i64 0, .int .i64 0, .int .u32 0, .slice none 0 0, .slice none 0 0]) k1 2 (.int .i64 I) rfl
 have rz2 := Kd.R_set rz1 k1 (by decide) 2 (.int .i64 I)
 have rb2 := Kd.R_set rb1 k1 (by decide) 2 (.int .i64 I)
 have bw2 := below_set (g := g9) (j := 2) (v := (.int .i64 I)) bw1 GE9.out
 have k3 := blk_put (cs := #[.int .i64 K, .int .u64 a0, .int .i64 I, .int .i64 0, .int .u32 0, .slice none 0 0, .slice none 0 0]) k2 3 (.int .i64 2) rfl
 have rz3 := Kd.R_set rz2 k2 (by decide) 3 (.int .i64 2)
 have rb3 := Kd.R_set rb2 k2 (by decide) 3 (.int .i64 2)
 have bw3 := below_set (g := g9) (j := 3) (v := (.int .i64 2)) bw2 GE9.out
 have k4 := blk_put (cs := #[.int .i64 K, .int .u64 a0, .int .i64 I, .int .i64 2, .int .u32 0, .slice none 0 0, .slice none 0 0]) k3 4 (.int .u32 7) rfl
 have rz4 := Kd.R_set rz3 k3 (by decide) 4 (.int .u32 7)
 have rb4 := Kd.R_set rb3 k3 (by decide) 4 (.int .u32 7)
 have bw4 := below_set (g := g9) (j := 4) (v := (.int .u32 7)) bw3 GE9.out
 have k5 := blk_put (cs := #[.int .i64 K, .int .u64 a0, .int .i64 I, .int .i64 2, .int .u32 7, .slice none 0 0, .slice none 0 0]) k4 5 (.slice Az z.length cz) rfl
 have rz5 := Kd.R_set rz4 k4 (by decide) 5 (.slice Az z.length cz)
 have rb5 := Kd.R_set rb4 k4 (by decide) 5 (.slice Az z.length cz)
 have bw5 := below_set (g := g9) (j := 5) (v := (.slice Az z.length cz)) bw4 GE9.out
 have k6 := blk_put (cs := #[.int .i64 K, .int .u64 a0, .int .i64 I, .int .i64 2, .int .u32 7, .slice Az z.length cz, .slice none 0 0]) k5 6 (.slice Ab b.length cb) rfl
 have rz6 := Kd.R_set rz5 k5 (by decide) 6 (.slice Ab b.length cb)
 have rb6 := Kd.R_set rb5 k5 (by decide) 6 (.slice Ab b.length cb)
 have bw6 := below_set (g := g9) (j := 6) (v := (.slice Ab b.length cb)) bw5 GE9.out
 generalize (World.setCell (World.setCell (World.setCell (World.setCell (World.setCell (World.setCell (World.setCell w2 ⟨g9, 0, none⟩ (.int .i64 K)) ⟨g9, 1, none⟩ (.int .u64 a0)) ⟨g9, 2, none⟩ (.int .i64 I)) ⟨g9, 3, none⟩ (.int .i64 2)) ⟨g9, 4, none⟩ (.int .u32 7)) ⟨g9, 5, none⟩ (.slice Az z.length cz)) ⟨g9, 6, none⟩ (.slice Ab b.length cb)) = W8 at k6 rz6 rb6 bw6 ⊢
 have HK8 := Aside0.mk k6
 have RZ8 := Aside0.mk rz6
 have RB8 := Aside0.mk rb6
 have BW8 := Aside0.mk bw6
 clear k6 rz6 rb6 bw6 k0 rz0 rb0 bw0 k1 rz1 rb1 bw1 k2 rz2 rb2 bw2 k3 rz3 rb3 bw3 k4 rz4 rb4 bw4 k5 rz5 rb5 bw5 z0 zf0 z1 zf1 z2 zf2 z3 zf3 z4 zf4 z5 zf5 z6 zf6
 clear HZ HB HZ2 HB2 BK2 HG HB1 BW2
 have hf : W8.frozen? ⟨g9, 5, none⟩ = false := blk_frozen HK8.out 5
 have hc : W8.cell? ⟨g9, 5, none⟩ = some (.slice Az z.length cz) := (blk_cell HK8.out 5).trans rfl
 have hn1 : ¬ W8.heap.size = g9 := by have := blk_lt HK8.out; omega
 have hn2 := World.new_ne W8 ⟨g9, 5, none⟩ hc
 have hn3 : g9 < W8.heap.size := blk_lt HK8.out
 go_upto_region 14 with (fail)
 have k9 := blk_alloc (blk_put (cs := #[.int .i64 K, .int .u64 a0, .int .i64 I, .int .i64 2, .int .u32 7, .slice Az z.length cz, .slice Ab b.length cb]) HK8.out 5 (.slice (some ⟨W8.heap.size, 0, none⟩) 5 5) rfl) (.cells #[.int .i64 1, .int .i64 1, .int .i64 1, .int .i64 1, .int .i64 1] 3)
 have rz9 := Kd.R_alloc (Kd.R_set RZ8.out HK8.out (by decide) 5 (.slice (some ⟨W8.heap.size, 0, none⟩) 5 5)) (.cells #[.int .i64 1, .int .i64 1, .int .i64 1, .int .i64 1, .int .i64 1] 3)
 have rb9 := Kd.R_alloc (Kd.R_set RB8.out HK8.out (by decide) 5 (.slice (some ⟨W8.heap.size, 0, none⟩) 5 5)) (.cells #[.int .i64 1, .int .i64 1, .int .i64 1, .int .i64 1, .int .i64 1] 3)
 have bw9 := below_alloc (below_set (g := g9) (j := 5) (v := (.slice (some ⟨W8.heap.size, 0, none⟩) 5 5)) BW8.out GE9.out) (.cells #[.int .i64 1, .int .i64 1, .int .i64 1, .int .i64 1, .int .i64 1] 3)
 have gs9 := blk_new (World.setCell W8 ⟨g9, 5, none⟩ (.slice (some ⟨W8.heap.size, 0, none⟩) 5 5)) (.cells #[.int .i64 1, .int .i64 1, .int .i64 1, .int .i64 1, .int .i64 1] 3)
 rw [show (World.heap (World.setCell W8 ⟨g9, 5, none⟩ (.slice (some ⟨W8.heap.size, 0, none⟩) 5 5))).size = W8.heap.size from by simp [World.setCell]] at gs9
 generalize (World.alloc (World.setCell W8 ⟨g9, 5, none⟩ (.slice (some ⟨W8.heap.size, 0, none⟩) 5 5)) (.cells #[.int .i64 1, .int .i64 1, .int .i64 1, .int .i64 1, .int .i64 1] 3)) = W9 at k9 rz9 rb9 bw9 gs9 ⊢
 clear hn1 hn2 hn3
 generalize W8.heap.size = q at *
 have HK9 := Aside0.mk k9
 have RZ9 := Aside0.mk rz9
 have RB9 := Aside0.mk rb9
 have BW9 := Aside0.mk bw9
 have GS9 := Aside0.mk gs9
 have y0 : W9.cell? ⟨g9, 0, none⟩ = some (.int .i64 K) := (blk_cell HK9.out 0).trans rfl
 have y1 : W9.cell? ⟨g9, 1, none⟩ = some (.int .u64 a0) := (blk_cell HK9.out 1).trans rfl
 have y2 : W9.cell? ⟨g9, 2, none⟩ = some (.int .i64 I) := (blk_cell HK9.out 2).trans rfl
 have y3 : W9.cell? ⟨g9, 3, none⟩ = some (.int .i64 2) := (blk_cell HK9.out 3).trans rfl
 have y4 : W9.cell? ⟨g9, 4, none⟩ = some (.int .u32 7) := (blk_cell HK9.out 4).trans rfl
 have y5 : W9.cell? ⟨g9, 5, none⟩ = some (.slice (some ⟨q, 0, none⟩) 5 5) := (blk_cell HK9.out 5).trans rfl
 have y6 : W9.cell? ⟨g9, 6, none⟩ = some (.slice Ab b.length cb) := (blk_cell HK9.out 6).trans rfl
 have HEN := Aside0.mk (show pack_Encode.f K a0 I 2 7 ([1, 1, 1, 1, 1] : List Int) b = some ([], 1) from encWrong (wrongZ5 _ _ _ _) (by have := HZL.out; simp) (by have := HBL.out; omega) HBB.out (by omega))
 clear k9 rz9 rb9 bw9 HK8 RZ8 RB8 BW8 hf hc gs9
 go_wp2_with (first
  | (go_at_call 10; refine (pack_Encode.calls K a0 I 2 7 _ _ ([1, 1, 1, 1, 1] : List Int) _ _ b [] 1 _ (nums_C _ (by simp) GS9.out (by intro j hj; simp at hj; rcases (show j = 0 ∨ j = 1 ∨ j = 2 ∨ j = 3 ∨ j = 4 by omega) with rfl | rfl | rfl | rfl | rfl <;> rfl)) (by simp) (Kd.R_reads' RB9.out).2.2 (Kd.R_reads' RB9.out).2.1 HEN.out).mono ?_; rintro e w10 ⟨v10, rfl, ho, hb⟩; obtain ⟨A10, c10, e10⟩ := Kd.R_slice ho; subst e10; have BW10 := Aside0.mk (below_then BW9.out BW9.out.size hb); clear ho hb)
  | (go_at_call 13; refine (scullerlaw13_known_c.calls true _ HK.out).mono ?_; rintro e w11 ⟨rfl, hb⟩; have BW11 := Aside0.mk (below_then BW10.out BW10.out.size hb); clear hb))
 go_ret
 exact ⟨rfl, BW11.out⟩
set_option maxHeartbeats 4000000 in
set_option maxRecDepth 100000 in
theorem PackFields_3 (a0 : Int) (A1 : Option Addr) (c1 : Nat) (l1 : List Int) (a2 a3 : Int) (w : World) (HR1 : Aside0 (Kd.C (Kd.int .u8) w A1 l1.length l1)) (HC1 : Aside0 (l1.length ≤ c1)) (K I : Int) (z b : List Int)
 (HG : Aside0 (scullerlaw13_Gram_c.f a0 7 1 2 l1 (a2 % 8) = some (K, a0, I, 2, 7, z, b))) (HZL : Aside0 (z.length ≤ 4)) (HBL : Aside0 (b.length ≤ 64)) (HBB : Aside0 (bytesB b = true)) (h2 : 0 ≤ a2 ∧ a2 ≤ 255) (h3 : 0 ≤ a3 ∧ a3 ≤ 255) (hw : a3 % 6 = 3) :
 Calls Try.prog 6 #[.int .u64 a0, .slice A1 l1.length c1, .int .u8 a2, .int .u8 a3] w fun e w' => e = .returned (.bool true) ∧ Below w.heap.size w w' := by
 have hu28 := Try.underlying28
 have HK := Aside0.mk (show scullerlaw13_known_c.f = some true from rfl)
 have b0 : (a3 % 6 == 0) = false := by rw [hw]; decide
 have b1 : (a3 % 6 == 1) = false := by rw [hw]; decide
 have b2 : (a3 % 6 == 2) = false := by rw [hw]; decide
 have b3 : (a3 % 6 == 3) = true := by rw [hw]; decide
 have b4 : (a3 % 6 == 4) = false := by rw [hw]; decide
 have b5 : (a3 % 6 == 5) = false := by rw [hw]; decide
 clear hw
 go_enter Try.func6, Try.ntmps6
 go_upto_region 11 with (first
  | (go_at_call 9; refine (scullerlaw13_Gram_c.calls a0 7 1 2 (fun k_ => k_ < w.heap.size) _ _ l1 (a2 % 8) K a0 I 2 7 z b _ ?side1 HG.out).mono ?_; (case side1 => exact Kd.V_mk HC1.out (Kd.F_below (Kd.C_F (Kd.heap_int .u8) HR1.out) (Below.refl w.heap.size w))); rintro e w1 ⟨vz, vb, rfl, hz, hq, hbl⟩; obtain ⟨Az, cz, ez⟩ := Kd.R_slice hz; subst ez; obtain ⟨Ab, cb, eb⟩ := Kd.R_slice hq; subst eb; have HZ := Aside0.mk (Kd.R_mono (ok' := fun _ => True) hz (fun _ _ => trivial)); have HB := Aside0.mk (Kd.R_mono (ok' := fun _ => True) hq (fun _ _ => trivial)); have HB1 := Aside0.mk hbl; clear hz hq hbl)
  | ((with_reducible refine gate_dst (N := 9) rfl ?_); refine box_event ?hg (N := 9) ?hd (cs := #[.int .i64 0, .int .u64 0, .int .i64 0, .int .i64 0, .int .u32 0, .slice none 0 0, .slice none 0 0]) (t := 28) ?hr ?_; (case hd => rfl); (case hg => rfl); (case hr => first | (go_simp; done) | (go_simp; rfl)); intro g9 hg w2 hbox hb; have BK2 := Aside0.mk hbox; have HZ2 := Aside0.mk (Kd.R_below HZ.out hb); have HB2 := Aside0.mk (Kd.R_below HB.out hb); have BW2 := Aside0.mk (below_then HB1.out HB1.out.size hb); have GE9 := Aside0.mk (show w.heap.size ≤ g9 by rw [hg]; exact HB1.out.size); clear hb hbox hg; have z0 : w2.cell? ⟨g9, 0, none⟩ = _ := (blk_cell BK2.out 0).trans rfl; have zf0 := blk_frozen BK2.out 0; have z1 : w2.cell? ⟨g9, 1, none⟩ = _ := (blk_cell BK2.out 1).trans rfl; have zf1 := blk_frozen BK2.out 1; have z2 : w2.cell? ⟨g9, 2, none⟩ = _ := (blk_cell BK2.out 2).trans rfl; have zf2 := blk_frozen BK2.out 2; have z3 : w2.cell? ⟨g9, 3, none⟩ = _ := (blk_cell BK2.out 3).trans rfl; have zf3 := blk_frozen BK2.out 3; have z4 : w2.cell? ⟨g9, 4, none⟩ = _ := (blk_cell BK2.out 4).trans rfl; have zf4 := blk_frozen BK2.out 4; have z5 : w2.cell? ⟨g9, 5, none⟩ = _ := (blk_cell BK2.out 5).trans rfl; have zf5 := blk_frozen BK2.out 5; have z6 : w2.cell? ⟨g9, 6, none⟩ = _ := (blk_cell BK2.out 6).trans rfl; have zf6 := blk_frozen BK2.out 6))
 have k0 := blk_put (cs := #[.int .i64 0, .int .u64 0, .int .i64 0, .int .i64 0, .int .u32 0, .slice none 0 0, .slice none 0 0]) BK2.out 0 (.int .i64 K) rfl
 have rz0 := Kd.R_set HZ2.out BK2.out (by decide) 0 (.int .i64 K)
 have rb0 := Kd.R_set HB2.out BK2.out (by decide) 0 (.int .i64 K)
 have bw0 := below_set (g := g9) (j := 0) (v := (.int .i64 K)) BW2.out GE9.out
 have k1 := blk_put (cs := #[.int .i64 K, .int .u64 0, .int .i64 0, .int .i64 0, .int .u32 0, .slice none 0 0, .slice none 0 0]) k0 1 (.int .u64 a0) rfl
 have rz1 := Kd.R_set rz0 k0 (by decide) 1 (.int .u64 a0)
 have rb1 := Kd.R_set rb0 k0 (by decide) 1 (.int .u64 a0)
 have bw1 := below_set (g := g9) (j := 1) (v := (.int .u64 a0)) bw0 GE9.out
 have k2 := blk_put (cs := #[.int .i64 K, .int .u64 a0, .int .i64 0, .int .i64 0, .int .u32 0, .slice none 0 0, .slice none 0 0]) k1 2 (.int .i64 I) rfl
 have rz2 := Kd.R_set rz1 k1 (by decide) 2 (.int .i64 I)
 have rb2 := Kd.R_set rb1 k1 (by decide) 2 (.int .i64 I)
 have bw2 := below_set (g := g9) (j := 2) (v := (.int .i64 I)) bw1 GE9.out
 have k3 := blk_put (cs := #[.int .i64 K, .int .u64 a0, .int .i64 I, .int .i64 0, .int .u32 0, .slice none 0 0, .slice none 0 0]) k2 3 (.int .i64 2) rfl
 have rz3 := Kd.R_set rz2 k2 (by decide) 3 (.int .i64 2)
 have rb3 := Kd.R_set rb2 k2 (by decide) 3 (.int .i64 2)
 have bw3 := below_set (g := g9) (j := 3) (v := (.int .i64 2)) bw2 GE9.out
 have k4 := blk_put (cs := #[.int .i64 K, .int .u64 a0, .int .i64 I, .int .i64 2, .int .u32 0, .slice none 0 0, .slice none 0 0]) k3 4 (.int .u32 7) rfl
 have rz4 := Kd.R_set rz3 k3 (by decide) 4 (.int .u32 7)
 have rb4 := Kd.R_set rb3 k3 (by decide) 4 (.int .u32 7)
 have bw4 := below_set (g := g9) (j := 4) (v := (.int .u32 7)) bw3 GE9.out
 have k5 := blk_put (cs := #[.int .i64 K, .int .u64 a0, .int .i64 I, .int .i64 2, .int .u32 7, .slice none 0 0, .slice none 0 0]) k4 5 (.slice Az z.length cz) rfl
 have rz5 := Kd.R_set rz4 k4 (by decide) 5 (.slice Az z.length cz)
 have rb5 := Kd.R_set rb4 k4 (by decide) 5 (.slice Az z.length cz)
 have bw5 := below_set (g := g9) (j := 5) (v := (.slice Az z.length cz)) bw4 GE9.out
 have k6 := blk_put (cs := #[.int .i64 K, .int .u64 a0, .int .i64 I, .int .i64 2, .int .u32 7, .slice Az z.length cz, .slice none 0 0]) k5 6 (.slice Ab b.length cb) rfl
 have rz6 := Kd.R_set rz5 k5 (by decide) 6 (.slice Ab b.length cb)
 have rb6 := Kd.R_set rb5 k5 (by decide) 6 (.slice Ab b.length cb)
 have bw6 := below_set (g := g9) (j := 6) (v := (.slice Ab b.length cb)) bw5 GE9.out
 generalize (World.setCell (World.setCell (World.setCell (World.setCell (World.setCell (World.setCell (World.setCell w2 ⟨g9, 0, none⟩ (.int .i64 K)) ⟨g9, 1, none⟩ (.int .u64 a0)) ⟨g9, 2, none⟩ (.int .i64 I)) ⟨g9, 3, none⟩ (.int .i64 2)) ⟨g9, 4, none⟩ (.int .u32 7)) ⟨g9, 5, none⟩ (.slice Az z.length cz)) ⟨g9, 6, none⟩ (.slice Ab b.length cb)) = W8 at k6 rz6 rb6 bw6 ⊢
 have HK8 := Aside0.mk k6
 have RZ8 := Aside0.mk rz6
 have RB8 := Aside0.mk rb6
 have BW8 := Aside0.mk bw6
 clear k6 rz6 rb6 bw6 k0 rz0 rb0 bw0 k1 rz1 rb1 bw1 k2 rz2 rb2 bw2 k3 rz3 rb3 bw3 k4 rz4 rb4 bw4 k5 rz5 rb5 bw5 z0 zf0 z1 zf1 z2 zf2 z3 zf3 z4 zf4 z5 zf5 z6 zf6
 clear HZ HB HZ2 HB2 BK2 HG HB1 BW2
 have hf : W8.frozen? ⟨g9, 6, none⟩ = false := blk_frozen HK8.out 6
 have hc : W8.cell? ⟨g9, 6, none⟩ = some (.slice Ab b.length cb) := (blk_cell HK8.out 6).trans rfl
 have hn1 : ¬ W8.heap.size = g9 := by have := blk_lt HK8.out; omega
 have hn2 := World.new_ne W8 ⟨g9, 6, none⟩ hc
 have hn3 : g9 < W8.heap.size := blk_lt HK8.out
 have hmk : ∀ W : World, (Instr.makeSlice 25 (.int .i64 65) (.int .i64 65)).run Try.prog W = .ok (.slice (some ⟨W.heap.size, 0, none⟩) 65 65) (W.alloc (.cells (madeCells #[.int .u8 0] 65) 5)) := print_make 25 5 .u8 1 Try.underlying25 info5 (by decide) 65 (by omega)
 go_upto_region 14 with (fail)
 clear hmk
 have k9 := blk_alloc (blk_put (cs := #[.int .i64 K, .int .u64 a0, .int .i64 I, .int .i64 2, .int .u32 7, .slice Az z.length cz, .slice Ab b.length cb]) HK8.out 6 (.slice (some ⟨W8.heap.size, 0, none⟩) 65 65) rfl) (.cells (madeCells #[.int .u8 0] 65) 5)
 have rz9 := Kd.R_alloc (Kd.R_set RZ8.out HK8.out (by decide) 6 (.slice (some ⟨W8.heap.size, 0, none⟩) 65 65)) (.cells (madeCells #[.int .u8 0] 65) 5)
 have rb9 := Kd.R_alloc (Kd.R_set RB8.out HK8.out (by decide) 6 (.slice (some ⟨W8.heap.size, 0, none⟩) 65 65)) (.cells (madeCells #[.int .u8 0] 65) 5)
 have bw9 := below_alloc (below_set (g := g9) (j := 6) (v := (.slice (some ⟨W8.heap.size, 0, none⟩) 65 65)) BW8.out GE9.out) (.cells (madeCells #[.int .u8 0] 65) 5)
 have gs9 := blk_new (World.setCell W8 ⟨g9, 6, none⟩ (.slice (some ⟨W8.heap.size, 0, none⟩) 65 65)) (.cells (madeCells #[.int .u8 0] 65) 5)
 rw [show (World.heap (World.setCell W8 ⟨g9, 6, none⟩ (.slice (some ⟨W8.heap.size, 0, none⟩) 65 65))).size = W8.heap.size from by simp [World.setCell]] at gs9
 generalize (World.alloc (World.setCell W8 ⟨g9, 6, none⟩ (.slice (some ⟨W8.heap.size, 0, none⟩) 65 65)) (.cells (madeCells #[.int .u8 0] 65) 5)) = W9 at k9 rz9 rb9 bw9 gs9 ⊢
 clear hn1 hn2 hn3
 generalize W8.heap.size = q at *
 have HK9 := Aside0.mk k9
 have RZ9 := Aside0.mk rz9
 have RB9 := Aside0.mk rb9
 have BW9 := Aside0.mk bw9
 have GS9 := Aside0.mk gs9
 have y0 : W9.cell? ⟨g9, 0, none⟩ = some (.int .i64 K) := (blk_cell HK9.out 0).trans rfl
 have y1 : W9.cell? ⟨g9, 1, none⟩ = some (.int .u64 a0) := (blk_cell HK9.out 1).trans rfl
 have y2 : W9.cell? ⟨g9, 2, none⟩ = some (.int .i64 I) := (blk_cell HK9.out 2).trans rfl
 have y3 : W9.cell? ⟨g9, 3, none⟩ = some (.int .i64 2) := (blk_cell HK9.out 3).trans rfl
 have y4 : W9.cell? ⟨g9, 4, none⟩ = some (.int .u32 7) := (blk_cell HK9.out 4).trans rfl
 have y5 : W9.cell? ⟨g9, 5, none⟩ = some (.slice Az z.length cz) := (blk_cell HK9.out 5).trans rfl
 have y6 : W9.cell? ⟨g9, 6, none⟩ = some (.slice (some ⟨q, 0, none⟩) 65 65) := (blk_cell HK9.out 6).trans rfl
 have HEN := Aside0.mk (show pack_Encode.f K a0 I 2 7 z (List.replicate 65 0 : List Int) = some ([], 1) from encWrong (wrongB _ _ _ _) (by have := HZL.out; omega) (by have := HBL.out; simp) (by decide +kernel) (by omega))
 clear k9 rz9 rb9 bw9 HK8 RZ8 RB8 BW8 hf hc gs9
 go_wp2_with (first
  | (go_at_call 10; refine (pack_Encode.calls K a0 I 2 7 _ _ z _ _ (List.replicate 65 0 : List Int) [] 1 _ (Kd.R_reads' RZ9.out).2.2 (Kd.R_reads' RZ9.out).2.1 (nums_C (k := .u8) (List.replicate 65 0) (by simp) GS9.out (by intro j hj; rw [List.length_replicate] at hj; rw [List.getD_eq_getElem?_getD, List.getElem?_replicate, if_pos hj]; simp [madeCells, hj, Nat.mod_one])) (by simp) HEN.out).mono ?_; rintro e w10 ⟨v10, rfl, ho, hb⟩; obtain ⟨A10, c10, e10⟩ := Kd.R_slice ho; subst e10; have BW10 := Aside0.mk (below_then BW9.out BW9.out.size hb); clear ho hb)
  | (go_at_call 13; refine (scullerlaw13_known_c.calls true _ HK.out).mono ?_; rintro e w11 ⟨rfl, hb⟩; have BW11 := Aside0.mk (below_then BW10.out BW10.out.size hb); clear hb))
 go_ret
 exact ⟨rfl, BW11.out⟩
set_option maxHeartbeats 4000000 in
set_option maxRecDepth 100000 in
theorem PackFields_4 (a0 : Int) (A1 : Option Addr) (c1 : Nat) (l1 : List Int) (a2 a3 : Int) (w : World) (HR1 : Aside0 (Kd.C (Kd.int .u8) w A1 l1.length l1)) (HC1 : Aside0 (l1.length ≤ c1)) (K I : Int) (z b : List Int)
 (HG : Aside0 (scullerlaw13_Gram_c.f a0 7 1 2 l1 (a2 % 8) = some (K, a0, I, 2, 7, z, b))) (HZL : Aside0 (z.length ≤ 4)) (HBL : Aside0 (b.length ≤ 64)) (HBB : Aside0 (bytesB b = true)) (h2 : 0 ≤ a2 ∧ a2 ≤ 255) (h3 : 0 ≤ a3 ∧ a3 ≤ 255) (hw : a3 % 6 = 4) :
 Calls Try.prog 6 #[.int .u64 a0, .slice A1 l1.length c1, .int .u8 a2, .int .u8 a3] w fun e w' => e = .returned (.bool true) ∧ Below w.heap.size w w' := by
 have hu28 := Try.underlying28
 have HK := Aside0.mk (show scullerlaw13_known_c.f = some true from rfl)
 have b0 : (a3 % 6 == 0) = false := by rw [hw]; decide
 have b1 : (a3 % 6 == 1) = false := by rw [hw]; decide
 have b2 : (a3 % 6 == 2) = false := by rw [hw]; decide
 have b3 : (a3 % 6 == 3) = false := by rw [hw]; decide
 have b4 : (a3 % 6 == 4) = true := by rw [hw]; decide
 have b5 : (a3 % 6 == 5) = false := by rw [hw]; decide
 clear hw
 go_enter Try.func6, Try.ntmps6
 go_upto_region 13 with (first
  | (go_at_call 9; refine (scullerlaw13_Gram_c.calls a0 7 1 2 (fun k_ => k_ < w.heap.size) _ _ l1 (a2 % 8) K a0 I 2 7 z b _ ?side1 HG.out).mono ?_; (case side1 => exact Kd.V_mk HC1.out (Kd.F_below (Kd.C_F (Kd.heap_int .u8) HR1.out) (Below.refl w.heap.size w))); rintro e w1 ⟨vz, vb, rfl, hz, hq, hbl⟩; obtain ⟨Az, cz, ez⟩ := Kd.R_slice hz; subst ez; obtain ⟨Ab, cb, eb⟩ := Kd.R_slice hq; subst eb; have HZ := Aside0.mk (Kd.R_mono (ok' := fun _ => True) hz (fun _ _ => trivial)); have HB := Aside0.mk (Kd.R_mono (ok' := fun _ => True) hq (fun _ _ => trivial)); have HB1 := Aside0.mk hbl; clear hz hq hbl)
  | ((with_reducible refine gate_dst (N := 9) rfl ?_); refine box_event ?hg (N := 9) ?hd (cs := #[.int .i64 0, .int .u64 0, .int .i64 0, .int .i64 0, .int .u32 0, .slice none 0 0, .slice none 0 0]) (t := 28) ?hr ?_; (case hd => rfl); (case hg => rfl); (case hr => first | (go_simp; done) | (go_simp; rfl)); intro g9 hg w2 hbox hb; have BK2 := Aside0.mk hbox; have HZ2 := Aside0.mk (Kd.R_below HZ.out hb); have HB2 := Aside0.mk (Kd.R_below HB.out hb); have BW2 := Aside0.mk (below_then HB1.out HB1.out.size hb); have GE9 := Aside0.mk (show w.heap.size ≤ g9 by rw [hg]; exact HB1.out.size); clear hb hbox hg; have z0 : w2.cell? ⟨g9, 0, none⟩ = _ := (blk_cell BK2.out 0).trans rfl; have zf0 := blk_frozen BK2.out 0; have z1 : w2.cell? ⟨g9, 1, none⟩ = _ := (blk_cell BK2.out 1).trans rfl; have zf1 := blk_frozen BK2.out 1; have z2 : w2.cell? ⟨g9, 2, none⟩ = _ := (blk_cell BK2.out 2).trans rfl; have zf2 := blk_frozen BK2.out 2; have z3 : w2.cell? ⟨g9, 3, none⟩ = _ := (blk_cell BK2.out 3).trans rfl; have zf3 := blk_frozen BK2.out 3; have z4 : w2.cell? ⟨g9, 4, none⟩ = _ := (blk_cell BK2.out 4).trans rfl; have zf4 := blk_frozen BK2.out 4; have z5 : w2.cell? ⟨g9, 5, none⟩ = _ := (blk_cell BK2.out 5).trans rfl; have zf5 := blk_frozen BK2.out 5; have z6 : w2.cell? ⟨g9, 6, none⟩ = _ := (blk_cell BK2.out 6).trans rfl; have zf6 := blk_frozen BK2.out 6))
 have k0 := blk_put (cs := #[.int .i64 0, .int .u64 0, .int .i64 0, .int .i64 0, .int .u32 0, .slice none 0 0, .slice none 0 0]) BK2.out 0 (.int .i64 K) rfl
 have rz0 := Kd.R_set HZ2.out BK2.out (by decide) 0 (.int .i64 K)
 have rb0 := Kd.R_set HB2.out BK2.out (by decide) 0 (.int .i64 K)
 have bw0 := below_set (g := g9) (j := 0) (v := (.int .i64 K)) BW2.out GE9.out
 have k1 := blk_put (cs := #[.int .i64 K, .int .u64 0, .int .i64 0, .int .i64 0, .int .u32 0, .slice none 0 0, .slice none 0 0]) k0 1 (.int .u64 a0) rfl
 have rz1 := Kd.R_set rz0 k0 (by decide) 1 (.int .u64 a0)
 have rb1 := Kd.R_set rb0 k0 (by decide) 1 (.int .u64 a0)
 have bw1 := below_set (g := g9) (j := 1) (v := (.int .u64 a0)) bw0 GE9.out
 have k2 := blk_put (cs := #[.int .i64 K, .int .u64 a0, .int .i64 0, .int .i64 0, .int .u32 0, .slice none 0 0, .slice none 0 0]) k1 2 (.int .i64 I) rfl
 have rz2 := Kd.R_set rz1 k1 (by decide) 2 (.int .i64 I)
 have rb2 := Kd.R_set rb1 k1 (by decide) 2 (.int .i64 I)
 have bw2 := below_set (g := g9) (j := 2) (v := (.int .i64 I)) bw1 GE9.out
 have k3 := blk_put (cs := #[.int .i64 K, .int .u64 a0, .int .i64 I, .int .i64 0, .int .u32 0, .slice none 0 0, .slice none 0 0]) k2 3 (.int .i64 2) rfl
 have rz3 := Kd.R_set rz2 k2 (by decide) 3 (.int .i64 2)
 have rb3 := Kd.R_set rb2 k2 (by decide) 3 (.int .i64 2)
 have bw3 := below_set (g := g9) (j := 3) (v := (.int .i64 2)) bw2 GE9.out
 have k4 := blk_put (cs := #[.int .i64 K, .int .u64 a0, .int .i64 I, .int .i64 2, .int .u32 0, .slice none 0 0, .slice none 0 0]) k3 4 (.int .u32 7) rfl
 have rz4 := Kd.R_set rz3 k3 (by decide) 4 (.int .u32 7)
 have rb4 := Kd.R_set rb3 k3 (by decide) 4 (.int .u32 7)
 have bw4 := below_set (g := g9) (j := 4) (v := (.int .u32 7)) bw3 GE9.out
 have k5 := blk_put (cs := #[.int .i64 K, .int .u64 a0, .int .i64 I, .int .i64 2, .int .u32 7, .slice none 0 0, .slice none 0 0]) k4 5 (.slice Az z.length cz) rfl
 have rz5 := Kd.R_set rz4 k4 (by decide) 5 (.slice Az z.length cz)
 have rb5 := Kd.R_set rb4 k4 (by decide) 5 (.slice Az z.length cz)
 have bw5 := below_set (g := g9) (j := 5) (v := (.slice Az z.length cz)) bw4 GE9.out
 have k6 := blk_put (cs := #[.int .i64 K, .int .u64 a0, .int .i64 I, .int .i64 2, .int .u32 7, .slice Az z.length cz, .slice none 0 0]) k5 6 (.slice Ab b.length cb) rfl
 have rz6 := Kd.R_set rz5 k5 (by decide) 6 (.slice Ab b.length cb)
 have rb6 := Kd.R_set rb5 k5 (by decide) 6 (.slice Ab b.length cb)
 have bw6 := below_set (g := g9) (j := 6) (v := (.slice Ab b.length cb)) bw5 GE9.out
 generalize (World.setCell (World.setCell (World.setCell (World.setCell (World.setCell (World.setCell (World.setCell w2 ⟨g9, 0, none⟩ (.int .i64 K)) ⟨g9, 1, none⟩ (.int .u64 a0)) ⟨g9, 2, none⟩ (.int .i64 I)) ⟨g9, 3, none⟩ (.int .i64 2)) ⟨g9, 4, none⟩ (.int .u32 7)) ⟨g9, 5, none⟩ (.slice Az z.length cz)) ⟨g9, 6, none⟩ (.slice Ab b.length cb)) = W8 at k6 rz6 rb6 bw6 ⊢
 have HK8 := Aside0.mk k6
 have RZ8 := Aside0.mk rz6
 have RB8 := Aside0.mk rb6
 have BW8 := Aside0.mk bw6
 clear k6 rz6 rb6 bw6 k0 rz0 rb0 bw0 k1 rz1 rb1 bw1 k2 rz2 rb2 bw2 k3 rz3 rb3 bw3 k4 rz4 rb4 bw4 k5 rz5 rb5 bw5 z0 zf0 z1 zf1 z2 zf2 z3 zf3 z4 zf4 z5 zf5 z6 zf6
 clear HZ HB HZ2 HB2 BK2 HG HB1 BW2
 have hf : W8.frozen? ⟨g9, 0, none⟩ = false := blk_frozen HK8.out 0
 have hc : W8.cell? ⟨g9, 0, none⟩ = some (.int .i64 K) := (blk_cell HK8.out 0).trans rfl
 go_upto_region 14 with (fail)
 have k9 := blk_put (cs := #[.int .i64 K, .int .u64 a0, .int .i64 I, .int .i64 2, .int .u32 7, .slice Az z.length cz, .slice Ab b.length cb]) HK8.out 0 (.int .i64 9) rfl
 have rz9 := Kd.R_set RZ8.out HK8.out (by decide) 0 (.int .i64 9)
 have rb9 := Kd.R_set RB8.out HK8.out (by decide) 0 (.int .i64 9)
 have bw9 := below_set (g := g9) (j := 0) (v := (.int .i64 9)) BW8.out GE9.out
 generalize (World.setCell W8 ⟨g9, 0, none⟩ (.int .i64 9)) = W9 at k9 rz9 rb9 bw9 ⊢
 have HK9 := Aside0.mk k9
 have RZ9 := Aside0.mk rz9
 have RB9 := Aside0.mk rb9
 have BW9 := Aside0.mk bw9
 have y0 : W9.cell? ⟨g9, 0, none⟩ = some (.int .i64 9) := (blk_cell HK9.out 0).trans rfl
 have y1 : W9.cell? ⟨g9, 1, none⟩ = some (.int .u64 a0) := (blk_cell HK9.out 1).trans rfl
 have y2 : W9.cell? ⟨g9, 2, none⟩ = some (.int .i64 I) := (blk_cell HK9.out 2).trans rfl
 have y3 : W9.cell? ⟨g9, 3, none⟩ = some (.int .i64 2) := (blk_cell HK9.out 3).trans rfl
 have y4 : W9.cell? ⟨g9, 4, none⟩ = some (.int .u32 7) := (blk_cell HK9.out 4).trans rfl
 have y5 : W9.cell? ⟨g9, 5, none⟩ = some (.slice Az z.length cz) := (blk_cell HK9.out 5).trans rfl
 have y6 : W9.cell? ⟨g9, 6, none⟩ = some (.slice Ab b.length cb) := (blk_cell HK9.out 6).trans rfl
 have HEN := Aside0.mk (show pack_Encode.f 9 a0 I 2 7 z b = some ([], 1) from encWrong (wrongK _ _ _ _) (by have := HZL.out; omega) (by have := HBL.out; omega) HBB.out (by omega))
 clear k9 rz9 rb9 bw9 HK8 RZ8 RB8 BW8 hf hc
 go_wp2_with (first
  | (go_at_call 10; refine (pack_Encode.calls 9 a0 I 2 7 _ _ z _ _ b [] 1 _ (Kd.R_reads' RZ9.out).2.2 (Kd.R_reads' RZ9.out).2.1 (Kd.R_reads' RB9.out).2.2 (Kd.R_reads' RB9.out).2.1 HEN.out).mono ?_; rintro e w10 ⟨v10, rfl, ho, hb⟩; obtain ⟨A10, c10, e10⟩ := Kd.R_slice ho; subst e10; have BW10 := Aside0.mk (below_then BW9.out BW9.out.size hb); clear ho hb)
  | (go_at_call 13; refine (scullerlaw13_known_c.calls true _ HK.out).mono ?_; rintro e w11 ⟨rfl, hb⟩; have BW11 := Aside0.mk (below_then BW10.out BW10.out.size hb); clear hb))
 go_ret
 exact ⟨rfl, BW11.out⟩
set_option maxHeartbeats 4000000 in
set_option maxRecDepth 100000 in
theorem PackFields_5 (a0 : Int) (A1 : Option Addr) (c1 : Nat) (l1 : List Int) (a2 a3 : Int) (w : World) (HR1 : Aside0 (Kd.C (Kd.int .u8) w A1 l1.length l1)) (HC1 : Aside0 (l1.length ≤ c1)) (K I : Int) (z b : List Int)
 (HG : Aside0 (scullerlaw13_Gram_c.f a0 7 1 2 l1 (a2 % 8) = some (K, a0, I, 2, 7, z, b))) (HZL : Aside0 (z.length ≤ 4)) (HBL : Aside0 (b.length ≤ 64)) (HBB : Aside0 (bytesB b = true)) (h2 : 0 ≤ a2 ∧ a2 ≤ 255) (h3 : 0 ≤ a3 ∧ a3 ≤ 255) (hw : a3 % 6 = 5) :
 Calls Try.prog 6 #[.int .u64 a0, .slice A1 l1.length c1, .int .u8 a2, .int .u8 a3] w fun e w' => e = .returned (.bool true) ∧ Below w.heap.size w w' := by
 have hu28 := Try.underlying28
 have HK := Aside0.mk (show scullerlaw13_known_c.f = some true from rfl)
 have b0 : (a3 % 6 == 0) = false := by rw [hw]; decide
 have b1 : (a3 % 6 == 1) = false := by rw [hw]; decide
 have b2 : (a3 % 6 == 2) = false := by rw [hw]; decide
 have b3 : (a3 % 6 == 3) = false := by rw [hw]; decide
 have b4 : (a3 % 6 == 4) = false := by rw [hw]; decide
 have b5 : (a3 % 6 == 5) = true := by rw [hw]; decide
 clear hw
 go_enter Try.func6, Try.ntmps6
 go_upto_region 3 with (first
  | (go_at_call 9; refine (scullerlaw13_Gram_c.calls a0 7 1 2 (fun k_ => k_ < w.heap.size) _ _ l1 (a2 % 8) K a0 I 2 7 z b _ ?side1 HG.out).mono ?_; (case side1 => exact Kd.V_mk HC1.out (Kd.F_below (Kd.C_F (Kd.heap_int .u8) HR1.out) (Below.refl w.heap.size w))); rintro e w1 ⟨vz, vb, rfl, hz, hq, hbl⟩; obtain ⟨Az, cz, ez⟩ := Kd.R_slice hz; subst ez; obtain ⟨Ab, cb, eb⟩ := Kd.R_slice hq; subst eb; have HZ := Aside0.mk (Kd.R_mono (ok' := fun _ => True) hz (fun _ _ => trivial)); have HB := Aside0.mk (Kd.R_mono (ok' := fun _ => True) hq (fun _ _ => trivial)); have HB1 := Aside0.mk hbl; clear hz hq hbl)
  | ((with_reducible refine gate_dst (N := 9) rfl ?_); refine box_event ?hg (N := 9) ?hd (cs := #[.int .i64 0, .int .u64 0, .int .i64 0, .int .i64 0, .int .u32 0, .slice none 0 0, .slice none 0 0]) (t := 28) ?hr ?_; (case hd => rfl); (case hg => rfl); (case hr => first | (go_simp; done) | (go_simp; rfl)); intro g9 hg w2 hbox hb; have BK2 := Aside0.mk hbox; have HZ2 := Aside0.mk (Kd.R_below HZ.out hb); have HB2 := Aside0.mk (Kd.R_below HB.out hb); have BW2 := Aside0.mk (below_then HB1.out HB1.out.size hb); have GE9 := Aside0.mk (show w.heap.size ≤ g9 by rw [hg]; exact HB1.out.size); clear hb hbox hg; have z0 : w2.cell? ⟨g9, 0, none⟩ = _ := (blk_cell BK2.out 0).trans rfl; have zf0 := blk_frozen BK2.out 0; have z1 : w2.cell? ⟨g9, 1, none⟩ = _ := (blk_cell BK2.out 1).trans rfl; have zf1 := blk_frozen BK2.out 1; have z2 : w2.cell? ⟨g9, 2, none⟩ = _ := (blk_cell BK2.out 2).trans rfl; have zf2 := blk_frozen BK2.out 2; have z3 : w2.cell? ⟨g9, 3, none⟩ = _ := (blk_cell BK2.out 3).trans rfl; have zf3 := blk_frozen BK2.out 3; have z4 : w2.cell? ⟨g9, 4, none⟩ = _ := (blk_cell BK2.out 4).trans rfl; have zf4 := blk_frozen BK2.out 4; have z5 : w2.cell? ⟨g9, 5, none⟩ = _ := (blk_cell BK2.out 5).trans rfl; have zf5 := blk_frozen BK2.out 5; have z6 : w2.cell? ⟨g9, 6, none⟩ = _ := (blk_cell BK2.out 6).trans rfl; have zf6 := blk_frozen BK2.out 6))
 have k0 := blk_put (cs := #[.int .i64 0, .int .u64 0, .int .i64 0, .int .i64 0, .int .u32 0, .slice none 0 0, .slice none 0 0]) BK2.out 0 (.int .i64 K) rfl
 have rz0 := Kd.R_set HZ2.out BK2.out (by decide) 0 (.int .i64 K)
 have rb0 := Kd.R_set HB2.out BK2.out (by decide) 0 (.int .i64 K)
 have bw0 := below_set (g := g9) (j := 0) (v := (.int .i64 K)) BW2.out GE9.out
 have k1 := blk_put (cs := #[.int .i64 K, .int .u64 0, .int .i64 0, .int .i64 0, .int .u32 0, .slice none 0 0, .slice none 0 0]) k0 1 (.int .u64 a0) rfl
 have rz1 := Kd.R_set rz0 k0 (by decide) 1 (.int .u64 a0)
 have rb1 := Kd.R_set rb0 k0 (by decide) 1 (.int .u64 a0)
 have bw1 := below_set (g := g9) (j := 1) (v := (.int .u64 a0)) bw0 GE9.out
 have k2 := blk_put (cs := #[.int .i64 K, .int .u64 a0, .int .i64 0, .int .i64 0, .int .u32 0, .slice none 0 0, .slice none 0 0]) k1 2 (.int .i64 I) rfl
 have rz2 := Kd.R_set rz1 k1 (by decide) 2 (.int .i64 I)
 have rb2 := Kd.R_set rb1 k1 (by decide) 2 (.int .i64 I)
 have bw2 := below_set (g := g9) (j := 2) (v := (.int .i64 I)) bw1 GE9.out
 have k3 := blk_put (cs := #[.int .i64 K, .int .u64 a0, .int .i64 I, .int .i64 0, .int .u32 0, .slice none 0 0, .slice none 0 0]) k2 3 (.int .i64 2) rfl
 have rz3 := Kd.R_set rz2 k2 (by decide) 3 (.int .i64 2)
 have rb3 := Kd.R_set rb2 k2 (by decide) 3 (.int .i64 2)
 have bw3 := below_set (g := g9) (j := 3) (v := (.int .i64 2)) bw2 GE9.out
 have k4 := blk_put (cs := #[.int .i64 K, .int .u64 a0, .int .i64 I, .int .i64 2, .int .u32 0, .slice none 0 0, .slice none 0 0]) k3 4 (.int .u32 7) rfl
 have rz4 := Kd.R_set rz3 k3 (by decide) 4 (.int .u32 7)
 have rb4 := Kd.R_set rb3 k3 (by decide) 4 (.int .u32 7)
 have bw4 := below_set (g := g9) (j := 4) (v := (.int .u32 7)) bw3 GE9.out
 have k5 := blk_put (cs := #[.int .i64 K, .int .u64 a0, .int .i64 I, .int .i64 2, .int .u32 7, .slice none 0 0, .slice none 0 0]) k4 5 (.slice Az z.length cz) rfl
 have rz5 := Kd.R_set rz4 k4 (by decide) 5 (.slice Az z.length cz)
 have rb5 := Kd.R_set rb4 k4 (by decide) 5 (.slice Az z.length cz)
 have bw5 := below_set (g := g9) (j := 5) (v := (.slice Az z.length cz)) bw4 GE9.out
 have k6 := blk_put (cs := #[.int .i64 K, .int .u64 a0, .int .i64 I, .int .i64 2, .int .u32 7, .slice Az z.length cz, .slice none 0 0]) k5 6 (.slice Ab b.length cb) rfl
 have rz6 := Kd.R_set rz5 k5 (by decide) 6 (.slice Ab b.length cb)
 have rb6 := Kd.R_set rb5 k5 (by decide) 6 (.slice Ab b.length cb)
 have bw6 := below_set (g := g9) (j := 6) (v := (.slice Ab b.length cb)) bw5 GE9.out
 generalize (World.setCell (World.setCell (World.setCell (World.setCell (World.setCell (World.setCell (World.setCell w2 ⟨g9, 0, none⟩ (.int .i64 K)) ⟨g9, 1, none⟩ (.int .u64 a0)) ⟨g9, 2, none⟩ (.int .i64 I)) ⟨g9, 3, none⟩ (.int .i64 2)) ⟨g9, 4, none⟩ (.int .u32 7)) ⟨g9, 5, none⟩ (.slice Az z.length cz)) ⟨g9, 6, none⟩ (.slice Ab b.length cb)) = W8 at k6 rz6 rb6 bw6 ⊢
 have HK8 := Aside0.mk k6
 have RZ8 := Aside0.mk rz6
 have RB8 := Aside0.mk rb6
 have BW8 := Aside0.mk bw6
 clear k6 rz6 rb6 bw6 k0 rz0 rb0 bw0 k1 rz1 rb1 bw1 k2 rz2 rb2 bw2 k3 rz3 rb3 bw3 k4 rz4 rb4 bw4 k5 rz5 rb5 bw5 z0 zf0 z1 zf1 z2 zf2 z3 zf3 z4 zf4 z5 zf5 z6 zf6
 clear HZ HB HZ2 HB2 BK2 HG HB1 BW2
 have hf : W8.frozen? ⟨g9, 5, none⟩ = false := blk_frozen HK8.out 5
 have hc : W8.cell? ⟨g9, 5, none⟩ = some (.slice Az z.length cz) := (blk_cell HK8.out 5).trans rfl
 have hn1 : ¬ W8.heap.size = g9 := by have := blk_lt HK8.out; omega
 have hn2 := World.new_ne W8 ⟨g9, 5, none⟩ hc
 have hn3 : g9 < W8.heap.size := blk_lt HK8.out
 go_upto_region 14 with (fail)
 have k9 := blk_alloc (blk_put (cs := #[.int .i64 K, .int .u64 a0, .int .i64 I, .int .i64 2, .int .u32 7, .slice Az z.length cz, .slice Ab b.length cb]) HK8.out 5 (.slice (some ⟨W8.heap.size, 0, none⟩) 1 1) rfl) (.cells #[.int .i64 4097] 3)
 have rz9 := Kd.R_alloc (Kd.R_set RZ8.out HK8.out (by decide) 5 (.slice (some ⟨W8.heap.size, 0, none⟩) 1 1)) (.cells #[.int .i64 4097] 3)
 have rb9 := Kd.R_alloc (Kd.R_set RB8.out HK8.out (by decide) 5 (.slice (some ⟨W8.heap.size, 0, none⟩) 1 1)) (.cells #[.int .i64 4097] 3)
 have bw9 := below_alloc (below_set (g := g9) (j := 5) (v := (.slice (some ⟨W8.heap.size, 0, none⟩) 1 1)) BW8.out GE9.out) (.cells #[.int .i64 4097] 3)
 have gs9 := blk_new (World.setCell W8 ⟨g9, 5, none⟩ (.slice (some ⟨W8.heap.size, 0, none⟩) 1 1)) (.cells #[.int .i64 4097] 3)
 rw [show (World.heap (World.setCell W8 ⟨g9, 5, none⟩ (.slice (some ⟨W8.heap.size, 0, none⟩) 1 1))).size = W8.heap.size from by simp [World.setCell]] at gs9
 generalize (World.alloc (World.setCell W8 ⟨g9, 5, none⟩ (.slice (some ⟨W8.heap.size, 0, none⟩) 1 1)) (.cells #[.int .i64 4097] 3)) = W9 at k9 rz9 rb9 bw9 gs9 ⊢
 clear hn1 hn2 hn3
 generalize W8.heap.size = q at *
 have HK9 := Aside0.mk k9
 have RZ9 := Aside0.mk rz9
 have RB9 := Aside0.mk rb9
 have BW9 := Aside0.mk bw9
 have GS9 := Aside0.mk gs9
 have y0 : W9.cell? ⟨g9, 0, none⟩ = some (.int .i64 K) := (blk_cell HK9.out 0).trans rfl
 have y1 : W9.cell? ⟨g9, 1, none⟩ = some (.int .u64 a0) := (blk_cell HK9.out 1).trans rfl
 have y2 : W9.cell? ⟨g9, 2, none⟩ = some (.int .i64 I) := (blk_cell HK9.out 2).trans rfl
 have y3 : W9.cell? ⟨g9, 3, none⟩ = some (.int .i64 2) := (blk_cell HK9.out 3).trans rfl
 have y4 : W9.cell? ⟨g9, 4, none⟩ = some (.int .u32 7) := (blk_cell HK9.out 4).trans rfl
 have y5 : W9.cell? ⟨g9, 5, none⟩ = some (.slice (some ⟨q, 0, none⟩) 1 1) := (blk_cell HK9.out 5).trans rfl
 have y6 : W9.cell? ⟨g9, 6, none⟩ = some (.slice Ab b.length cb) := (blk_cell HK9.out 6).trans rfl
 have HEN := Aside0.mk (show pack_Encode.f K a0 I 2 7 ([4097] : List Int) b = some ([], 1) from encWrong (wrongZ _ _ _ _) (by have := HZL.out; simp) (by have := HBL.out; omega) HBB.out (by omega))
 clear k9 rz9 rb9 bw9 HK8 RZ8 RB8 BW8 hf hc gs9
 go_wp2_with (first
  | (go_at_call 10; refine (pack_Encode.calls K a0 I 2 7 _ _ ([4097] : List Int) _ _ b [] 1 _ (nums_C _ (by simp) GS9.out (by intro j hj; simp at hj; rcases (show j = 0 by omega) with rfl <;> rfl)) (by simp) (Kd.R_reads' RB9.out).2.2 (Kd.R_reads' RB9.out).2.1 HEN.out).mono ?_; rintro e w10 ⟨v10, rfl, ho, hb⟩; obtain ⟨A10, c10, e10⟩ := Kd.R_slice ho; subst e10; have BW10 := Aside0.mk (below_then BW9.out BW9.out.size hb); clear ho hb)
  | (go_at_call 13; refine (scullerlaw13_known_c.calls true _ HK.out).mono ?_; rintro e w11 ⟨rfl, hb⟩; have BW11 := Aside0.mk (below_then BW10.out BW10.out.size hb); clear hb))
 go_ret
 exact ⟨rfl, BW11.out⟩
set_option maxHeartbeats 1000000 in
set_option maxRecDepth 100000 in
theorem scullerlaw13_PackFields.calls (a0 : Int) (A1 : Option Addr) (c1 : Nat) (l1 : List Int) (a2 a3 : Int) (r : Bool) (w : World) (hr1 : Kd.C (Kd.int .u8) w A1 l1.length l1) (hc1 : l1.length ≤ c1) (h : scullerlaw13_PackFields.f a0 l1 a2 a3 = some r) :
 Calls Try.prog 6 #[.int .u64 a0, .slice A1 l1.length c1, .int .u8 a2, .int .u8 a3] w fun e w' => e = .returned (.bool r) ∧ Below w.heap.size w w' := by
 unfold scullerlaw13_PackFields.f at h
 split at h
 case isFalse => cases h
 case isTrue hb =>
 obtain ⟨hbb, hl, h2, h3⟩ := hb
 obtain rfl := Option.some.inj h
 clear h
 have e8 : Int.tmod a2 8 = a2 % 8 := Int.tmod_eq_emod_of_nonneg h2.1
 have HR1 := Aside0.mk hr1
 have HC1 := Aside0.mk hc1
 obtain ⟨K, I, z, b, hgr, hzl, hbl, hbby⟩ := gramC_tells a0 7 1 2 l1 (a2 % 8) hbb
 have HG := Aside0.mk (show scullerlaw13_Gram_c.f a0 7 1 2 l1 (a2 % 8) = some (K, a0, I, 2, 7, z, b) by rw [scullerlaw13_Gram_c.f, if_pos ⟨hbb, hl, by omega, by omega, by omega, by omega, by omega, by omega⟩, hgr])
 have HZL := Aside0.mk hzl
 have HBL := Aside0.mk hbl
 have HBB := Aside0.mk hbby
 clear hr1 hc1 hgr hbb hl e8 hzl hbl hbby
 rcases (show a3 % 6 = 0 ∨ a3 % 6 = 1 ∨ a3 % 6 = 2 ∨ a3 % 6 = 3 ∨ a3 % 6 = 4 ∨ a3 % 6 = 5 by omega) with hw | hw | hw | hw | hw | hw
 · exact PackFields_0 a0 A1 c1 l1 a2 a3 w HR1 HC1 K I z b HG HZL HBL HBB h2 h3 hw
 · exact PackFields_1 a0 A1 c1 l1 a2 a3 w HR1 HC1 K I z b HG HZL HBL HBB h2 h3 hw
 · exact PackFields_2 a0 A1 c1 l1 a2 a3 w HR1 HC1 K I z b HG HZL HBL HBB h2 h3 hw
 · exact PackFields_3 a0 A1 c1 l1 a2 a3 w HR1 HC1 K I z b HG HZL HBL HBB h2 h3 hw
 · exact PackFields_4 a0 A1 c1 l1 a2 a3 w HR1 HC1 K I z b HG HZL HBL HBB h2 h3 hw
 · exact PackFields_5 a0 A1 c1 l1 a2 a3 w HR1 HC1 K I z b HG HZL HBL HBB h2 h3 hw


/-- THE ONE PURE STATEMENT of scullerlaw13_PackFields: yours. -/
def scullerlaw13_PackFields.Pure : Prop := ∀ (a0 : Int) (l1 : List Int) (a2 : Int) (a3 : Int), (Lit.int .u64 a0).wf = true → l1.length ≤ maxLen → l1.length * 1 ≤ 140737488351232 → (∀ x ∈ l1, (Lit.int .u8 x).wf = true) → (Lit.int .u8 a2).wf = true → (Lit.int .u8 a3).wf = true → scullerlaw13_PackFields.f a0 l1 a2 a3 = some true
theorem scullerlaw13_PackFields.walk (P : scullerlaw13_PackFields.Pure) (a0 : Int) (a1 : Option Addr) (len1 cap1 : Nat) (z1 : List Int) (a2 : Int) (a3 : Int) (w : World) (w0 : (Lit.int .u64 a0).wf = true) (w1 : (a1 = none ∧ len1 = 0 ∧ cap1 = 0 ∧ z1 = []) ∨ ∃ x, a1 = some x ∧ len1 ≤ cap1 ∧ cap1 ≤ maxLen ∧ z1.length = cap1 ∧ (∀ i, i < z1.length → w.cell? (x.add i) = some (.int .u8 (z1.getD i 0))) ∧ ∀ n ∈ z1, (Lit.int .u8 n).wf = true) (y1 : len1 * 1 ≤ 140737488351232) (w2 : (Lit.int .u8 a2).wf = true) (w3 : (Lit.int .u8 a3).wf = true) :
 Calls Try.prog 6 #[.int .u64 a0, .slice a1 len1 cap1, .int .u8 a2, .int .u8 a3] w fun e w' => e = .returned (.bool true) ∧ Below w.heap.size w w' := by
 obtain ⟨l1, rfl, hr1, hm1, hw1, hc1⟩ := ReadsInt.ofRowC w1
 have h := P a0 l1 a2 a3 w0 hm1 y1 hw1 w2 w3
 refine (scullerlaw13_PackFields.calls a0 _ _ l1 a2 a3 true w (Kd.C_of_reads (d := (0 : Int)) (h1 := fun _ => rfl) hr1) hc1 h).mono ?_
 rintro e w' ⟨rfl, hd⟩
 exact ⟨rfl, hd⟩

end Go.Proofs.Ytoooceaoggkeeaa.F
end

section
/- The statements' own arenas: they fit, and what is cut from their bytes is they again. No program in sight. -/
namespace Go.Proofs.Ytoooceaoggkeeaa.H
set_option linter.unusedVariables false
set_option linter.unusedSimpArgs false
end Go.Proofs.Ytoooceaoggkeeaa.H
end

section
/- Numbers in the bounds of their kinds. -/
namespace Go.Proofs.Ytoooceaoggkeeaa.Pure
open Go.RowKit Go.Proofs.Ytoooceaoggkeeaa.H
theorem byte_wf {x : Int} (h : (Lit.int .u8 x).wf = true) : 0 ≤ x ∧ x ≤ 255 := by
 simp [Lit.wf, IntKind.min, IntKind.max, IntKind.signed, IntKind.bits] at h
 omega
theorem bytes_wf {l : List Int} (h : ∀ x ∈ l, (Lit.int .u8 x).wf = true) : bytesB l = true := bytesB_of fun x hx => byte_wf (h x hx)
end Go.Proofs.Ytoooceaoggkeeaa.Pure
end

section
/- A field that is too great, or that the kind has not, may not be. -/
namespace Go.Proofs.Ytoooceaoggkeeaa.Pure
open Go.RowKit Go.Proofs.Ytoooceaoggkeeaa.F Go.Proofs.Ytoooceaoggkeeaa.H Go.Proofs.YtoooceaoggkeeaaW.PrintWords Go.Proofs.YtoooceaoggkeeaaW.PrintLast Go.Proofs.YtoooceaoggkeeaaW.PrintMore
theorem PackFields : scullerlaw13_PackFields.Pure := by
 intro a0 l1 a2 a3 h0 hl1 hl1' h1 h2 h3
 exact if_pos ⟨bytes_wf h1, by omega, byte_wf h2, byte_wf h3⟩
end Go.Proofs.Ytoooceaoggkeeaa.Pure
end
