/- Proved: at every input in bounds the statement PackCodes of the pack layer answers yes: Encode, Parse and Same of any datagram and bytes, and of choices, are what the chapter says.
Text 25 of 30; functions told as plain ones, with the contracts of their calls. -/
import Derived.Test.YtoooceaoggkeeaaQPackCodes22
import Derived.Test.YtoooceaoggkeeaaQPackCodes23
import Derived.Test.YtoooceaoggkeeaaQPackCodes24
section
namespace Go.Proofs.Ytoooceaoggkeeaa.F
open Go.RowKit Go.Proofs.YtoooceaoggkeeaaW.PrintWords Go.Proofs.YtoooceaoggkeeaaW.PrintLast Go.Proofs.YtoooceaoggkeeaaW.PrintMore
attribute [local go_sem] max2_int min2_int max_two min_two max_three min_three max_four min_four   -- for this text's walks alone
set_option linter.unusedVariables false
set_option linter.unusedSimpArgs false

open Go.Shelf Go.Proofs.Ytoooceaoggkeeaa.H
attribute [local go_sem] Oper.semAt_some
/-! ### scullerref13_Parse: given -/
def pairsF (l : List Int) (n : Nat) : List Int := (List.range n).map fun k => getL ((l.drop (2 * k)).take 2)
theorem pairsF_snoc (l : List Int) (n : Nat) : pairsF l (n + 1) = pairsF l n ++ [getL ((l.drop (2 * n)).take 2)] := by simp [pairsF, List.range_succ]
theorem pairsF_length (l : List Int) (n : Nat) : (pairsF l n).length = n := by simp [pairsF]
def refE (b : List Int) : Int × Int × Int × Int × Int × List Int × List Int :=
 (b.getD 0 0, getL (midL b 1 9), getL (midL b 9 11), getL (midL b 11 13), getL (midL b 13 17), if b.getD 0 0 = 1 then pairsF (restG b) ((restG b).length / 2) else [], if b.getD 0 0 = 1 then [] else restG b)
def refG (b : List Int) : Int × Int × Int × Int × Int × List Int × List Int × Int :=
 if b.length < 21 then (0, 0, 0, 0, 0, [], [], 10) else if rightC b = true then
  if encodeG (refE b).1 (refE b).2.1 (refE b).2.2.1 (refE b).2.2.2.1 (refE b).2.2.2.2.1 (refE b).2.2.2.2.2.1 (refE b).2.2.2.2.2.2 = (b, 0)
  then ((refE b).1, (refE b).2.1, (refE b).2.2.1, (refE b).2.2.2.1, (refE b).2.2.2.2.1, (refE b).2.2.2.2.2.1, (refE b).2.2.2.2.2.2, 0)
  else (0, 0, 0, 0, 0, [], [], 11)
 else (0, 0, 0, 0, 0, [], [], 12)
theorem encodeG_len {k s i o m : Int} {z b x : List Int} (h : encodeG k s i o m z b = (x, 0)) : x.length = 21 + 2 * z.length + b.length := by
 unfold encodeG at h
 split at h
 · obtain rfl := (congrArg Prod.fst h)
   dsimp only
   rw [sealL, List.length_append, putL_length, gramB, List.length_append, List.length_append, frontG_length, flat2_len]
   omega
 · exact absurd (congrArg Prod.snd h) (by simp)
theorem refG_is (b : List Int) : refG b = parseG b := by
 unfold refG parseG
 by_cases h1 : b.length < 21
 · rw [if_pos h1, if_pos h1]
 rw [if_neg h1, if_neg h1]
 by_cases h2 : rightC b = true
 · rw [if_pos h2, if_pos h2]
   have hr : (restG b).length = b.length - 21 := by
    unfold restG
    rw [midL_length _ _ _ (by omega)]
    omega
   by_cases h3 : b.getD 0 0 = 1
   · by_cases h4 : (restG b).length % 2 = 0
     · have e : pairsF (restG b) ((restG b).length / 2) = pairsL (restG b) := by
        unfold pairsF pairsL
        rw [show chunkN 2 (restG b).length = (restG b).length / 2 from by unfold chunkN; omega]
       have e2 : refE b = parseE b := by unfold refE parseE; rw [e]
       rw [e2]
     · have n1 : ¬ encodeG (refE b).1 (refE b).2.1 (refE b).2.2.1 (refE b).2.2.2.1 (refE b).2.2.2.2.1 (refE b).2.2.2.2.2.1 (refE b).2.2.2.2.2.2 = (b, 0) := by
        intro h
        have h9 := encodeG_len h
        have e1 : (refE b).2.2.2.2.2.1 = pairsF (restG b) ((restG b).length / 2) := if_pos h3
        have e2 : (refE b).2.2.2.2.2.2 = [] := if_pos h3
        rw [e1, e2, pairsF_length, List.length_nil] at h9
        omega
       have n2 : ¬ encodeG (parseE b).1 (parseE b).2.1 (parseE b).2.2.1 (parseE b).2.2.2.1 (parseE b).2.2.2.2.1 (parseE b).2.2.2.2.2.1 (parseE b).2.2.2.2.2.2 = (b, 0) := by
        intro h
        have h9 := encodeG_len h
        have e1 : (parseE b).2.2.2.2.2.1 = pairsL (restG b) := if_pos h3
        have e2 : (parseE b).2.2.2.2.2.2 = [] := if_pos h3
        rw [e1, e2, pairsL, List.length_map, List.length_range, List.length_nil] at h9
        unfold chunkN at h9
        omega
       rw [if_neg n1, if_neg n2]
   · have e2 : refE b = parseE b := by
      unfold refE parseE
      rw [if_neg h3, if_neg h3, if_neg h3]
     rw [e2]
 · rw [if_neg h2, if_neg h2]
theorem refRight_is (b : List Int) (hb : bytesB b = true) (h : 21 ≤ b.length) (hl : b.length ≤ 1000000) : scullerref02_Right.f b = some (rightC b) := by
 have hw : wrap64 ((b.length : Int) - 4) = ((b.length - 4 : Nat) : Int) := by unfold wrap64; omega
 have ht := bytesB_take hb (b.length - 4)
 rw [scullerref02_Right.f, hw, Int.toNat_natCast, if_pos (by omega), if_pos (by omega), if_pos (by omega), refSeal_is _ ht (by rw [List.length_take]; omega), Option.bind_some, strs_beq _ _ (sealL_byte _ ht) hb, rightC, decide_eq_true (show 4 ≤ b.length by omega), Bool.true_and]
theorem refGet_is (b : List Int) (hb : bytesB b = true) (hl : b.length ≤ 1000000) (i n : Nat) (hn : n ≤ 4) (h : i + n ≤ b.length) : scullerref13_get.f b (i : Int) (n : Int) = some (getL (midL b i (i + n))) := by
 have hw : wrap64 ((i : Int) + (n : Int)) = ((i + n : Nat) : Int) := by unfold wrap64; omega
 have hm := midL_length b i (i + n) h
 have hmb := midL_byte hb i (i + n)
 have hg := getL_mid b hb i (i + n) 4 (by omega)
 have e : (b.take (i + n)).drop i = midL b i (i + n) := rfl
 rw [scullerref13_get.f, hw, Int.toNat_natCast, Int.toNat_natCast, if_pos (by omega), if_pos (by omega), if_pos (by omega), e, scullerref01_Get_c.f, List.take_of_length_le (by omega), if_pos ⟨hmb, by omega⟩, Option.bind_some]
 congr 1
 unfold wrap64
 omega
/-- What the document's own Parse holds while it reads: the result's place, the datagram. -/
structure RSt (w0 W : World) (g0 g4 : Nat) (b0 n1 n2 n3 n4 : Int) (V : Value) (sizes : List Int) : Prop where
 k0 : W.heap[g0]? = some (.cells #[.int .i64 0, .int .u64 0, .int .i64 0, .int .i64 0, .int .u32 0, .slice none 0 0, .slice none 0 0] 28 (0, 0))
 k4 : W.heap[g4]? = some (.cells #[.int .i64 b0, .int .u64 n1, .int .i64 n2, .int .i64 n3, .int .u32 n4, V, .slice none 0 0] 28 (0, 0))
 row : Kd.R (Kd.int .i64) 3 W w0.heap.size (fun _ => True) V sizes
 bel : Below w0.heap.size w0 W
 l0 : w0.heap.size ≤ g0
 l4 : w0.heap.size ≤ g4
 ne : g0 ≠ g4
theorem RSt.below {w0 W W' : World} {g0 g4 : Nat} {b0 n1 n2 n3 n4 : Int} {V : Value} {sizes : List Int} (h : RSt w0 W g0 g4 b0 n1 n2 n3 n4 V sizes) (hb : Below W.heap.size W W') : RSt w0 W' g0 g4 b0 n1 n2 n3 n4 V sizes :=
 ⟨blk_below h.k0 hb, blk_below h.k4 hb, Kd.R_below h.row hb, below_then h.bel h.bel.size hb, h.l0, h.l4, h.ne⟩
theorem RSt.app {w0 W : World} {g0 g4 : Nat} {b0 n1 n2 n3 n4 : Int} {V : Value} {sizes : List Int} (h : RSt w0 W g0 g4 b0 n1 n2 n3 n4 V sizes) (W1 : World) (hg : W.grownBy W1 V.ownBlock) (V' : Value) (sizes' : List Int)
 (hr : Kd.R (Kd.int .i64) 3 W1 w0.heap.size (fun _ => True) V' sizes') (hb : Below w0.heap.size w0 W1) : RSt w0 (W1.setCell ⟨g4, 5, none⟩ V') g0 g4 b0 n1 n2 n3 n4 V' sizes' := by
 have k0 := blk_grown h.k0 hg (fun e => Kd.R_ne h.row h.k0 (by decide) e)
 have k4 := blk_grown h.k4 hg (fun e => Kd.R_ne h.row h.k4 (by decide) e)
 refine ⟨blk_far (p := ⟨g4, 5, none⟩) k0 h.ne _, blk_put k4 5 _ rfl, ?_, below_set hb h.l4, h.l0, h.l4, h.ne⟩
 exact Kd.R_mono (Kd.R_far (p := ⟨g4, 5, none⟩) (Kd.R_types hr k4 (by decide)) (fun _ hk => hk.2) _) (fun _ _ => trivial)
set_option maxHeartbeats 40000000 in
set_option maxRecDepth 100000 in
theorem scullerref13_Parse.calls_ (A0 : Option Addr) (c0 : Nat) (l0 : List Int) (r1 r2 r3 r4 r5 : Int) (r6 r7 : List Int) (r8 : Int) (w : World) (hr0 : Kd.C (Kd.int .u8) w A0 l0.length l0) (hc0 : l0.length ≤ c0) (hbb : bytesB l0 = true) (hbl : l0.length ≤ 1000000) (h : refG l0 = (r1, r2, r3, r4, r5, r6, r7, r8)) :
 Calls Try.prog 33 #[.slice A0 l0.length c0] w fun e w' => ∃ (v5_ : Value) (A6_ : Option Addr) (c6_ : Nat), e = .returned (.tuple #[.agg #[.int .i64 r1, .int .u64 r2, .int .i64 r3, .int .i64 r4, .int .u32 r5, v5_, .slice A6_ r7.length c6_], .int .i64 r8]) ∧ Kd.R (Kd.int .i64) 3 w' w.heap.size (fun _ => True) v5_ r6 ∧ Kd.C (Kd.int .u8) w' A6_ r7.length r7 ∧ r7.length ≤ c6_ ∧ Below w.heap.size w w' := by
 have hu28 := Try.underlying28
 have HR0 := Aside0.mk hr0
 have HC0 := Aside0.mk hc0
 have hnilC : ∀ W : World, Kd.C (Kd.int .u8) W none ([] : List Int).length [] := fun W => ⟨rfl, by simp, fun h0 => absurd h0 (by simp)⟩
 clear hr0 hc0
 by_cases h21 : l0.length < 21
 · have h21i : ((l0.length : Int) < 21) := by omega
   rw [refG, if_pos h21] at h
   cases h
   go_enter Try.func33, Try.ntmps33
   go_wp2_with (first
    | ((with_reducible refine gate_dst (N := 2) rfl ?_); refine box_event ?hg (N := 2) ?hd (cs := #[.int .i64 0, .int .u64 0, .int .i64 0, .int .i64 0, .int .u32 0, .slice none 0 0, .slice none 0 0]) (t := 28) ?hr ?_; (case hd => rfl); (case hg => rfl); (case hr => first | (go_simp; done) | (go_simp; rfl)); intro g0 hg w1 hbox hb; have HB1 := Aside0.mk hb; have BK0 := Aside0.mk hbox; have GE0 := Aside0.mk (Nat.le_of_eq hg.symm); clear hb hbox hg; have z0 : w1.cell? ⟨g0, 0, none⟩ = _ := (blk_cell BK0.out 0).trans rfl; have z1 : w1.cell? ⟨g0, 1, none⟩ = _ := (blk_cell BK0.out 1).trans rfl; have z2 : w1.cell? ⟨g0, 2, none⟩ = _ := (blk_cell BK0.out 2).trans rfl; have z3 : w1.cell? ⟨g0, 3, none⟩ = _ := (blk_cell BK0.out 3).trans rfl; have z4 : w1.cell? ⟨g0, 4, none⟩ = _ := (blk_cell BK0.out 4).trans rfl; have z5 : w1.cell? ⟨g0, 5, none⟩ = _ := (blk_cell BK0.out 5).trans rfl; have z6 : w1.cell? ⟨g0, 6, none⟩ = _ := (blk_cell BK0.out 6).trans rfl; have zf0 := blk_frozen BK0.out 0; have zf1 := blk_frozen BK0.out 1; have zf2 := blk_frozen BK0.out 2; have zf3 := blk_frozen BK0.out 3; have zf4 := blk_frozen BK0.out 4; have zf5 := blk_frozen BK0.out 5; have zf6 := blk_frozen BK0.out 6))
   refine bodyPost_ret (results_ct rfl _ _ g0 28 #[.int .i64 0, .int .u64 0, .int .i64 0, .int .i64 0, .int .u32 0, .slice none 0 0, .slice none 0 0] (0, 0) _ rfl (blk_put (cs := #[.int .i64 0, .int .u64 0, .int .i64 0, .int .i64 0, .int .u32 0, .slice none 0 0, .slice none 0 0]) (blk_put (cs := #[.int .i64 0, .int .u64 0, .int .i64 0, .int .i64 0, .int .u32 0, .slice none 0 0, .slice none 0 0]) (blk_put (cs := #[.int .i64 0, .int .u64 0, .int .i64 0, .int .i64 0, .int .u32 0, .slice none 0 0, .slice none 0 0]) (blk_put (cs := #[.int .i64 0, .int .u64 0, .int .i64 0, .int .i64 0, .int .u32 0, .slice none 0 0, .slice none 0 0]) (blk_put (cs := #[.int .i64 0, .int .u64 0, .int .i64 0, .int .i64 0, .int .u32 0, .slice none 0 0, .slice none 0 0]) (blk_put (cs := #[.int .i64 0, .int .u64 0, .int .i64 0, .int .i64 0, .int .u32 0, .slice none 0 0, .slice none 0 0]) (blk_put (cs := #[.int .i64 0, .int .u64 0, .int .i64 0, .int .i64 0, .int .u32 0, .slice none 0 0, .slice none 0 0]) BK0.out 0 (.int .i64 0) rfl) 1 (.int .u64 0) rfl) 2 (.int .i64 0) rfl) 3 (.int .i64 0) rfl) 4 (.int .u32 0) rfl) 5 (.slice none 0 0) rfl) 6 (.slice none 0 0) rfl) Try.underlying28 rfl (by kernel_rfl)) rfl ?_
   exact ⟨_, none, 0, rfl, Kd.R_nil _ _ _ _ _, hnilC _, by simp, (below_set (below_set (below_set (below_set (below_set (below_set (below_set HB1.out GE0.out) GE0.out) GE0.out) GE0.out) GE0.out) GE0.out) GE0.out)⟩
 have h21i : ¬ ((l0.length : Int) < 21) := by omega
 have h21n : 21 ≤ l0.length := by omega
 by_cases hrc : rightC l0 = true
 rotate_left
 · have HRI := Aside0.mk (show scullerref02_Right.f l0 = some false by rw [refRight_is l0 hbb h21n hbl]; simpa using hrc)
   rw [refG, if_neg h21, if_neg hrc] at h
   cases h
   clear hrc h21 h21n
   go_enter Try.func33, Try.ntmps33
   go_wp2_with (first
    | ((with_reducible refine gate_dst (N := 2) rfl ?_); refine box_event ?hg (N := 2) ?hd (cs := #[.int .i64 0, .int .u64 0, .int .i64 0, .int .i64 0, .int .u32 0, .slice none 0 0, .slice none 0 0]) (t := 28) ?hr ?_; (case hd => rfl); (case hg => rfl); (case hr => first | (go_simp; done) | (go_simp; rfl)); intro g0 hg w1 hbox hb; have HB1 := Aside0.mk hb; have BK0 := Aside0.mk hbox; have GE0 := Aside0.mk (Nat.le_of_eq hg.symm); clear hb hbox hg; have z0 : w1.cell? ⟨g0, 0, none⟩ = _ := (blk_cell BK0.out 0).trans rfl; have z1 : w1.cell? ⟨g0, 1, none⟩ = _ := (blk_cell BK0.out 1).trans rfl; have z2 : w1.cell? ⟨g0, 2, none⟩ = _ := (blk_cell BK0.out 2).trans rfl; have z3 : w1.cell? ⟨g0, 3, none⟩ = _ := (blk_cell BK0.out 3).trans rfl; have z4 : w1.cell? ⟨g0, 4, none⟩ = _ := (blk_cell BK0.out 4).trans rfl; have z5 : w1.cell? ⟨g0, 5, none⟩ = _ := (blk_cell BK0.out 5).trans rfl; have z6 : w1.cell? ⟨g0, 6, none⟩ = _ := (blk_cell BK0.out 6).trans rfl; have zf0 := blk_frozen BK0.out 0; have zf1 := blk_frozen BK0.out 1; have zf2 := blk_frozen BK0.out 2; have zf3 := blk_frozen BK0.out 3; have zf4 := blk_frozen BK0.out 4; have zf5 := blk_frozen BK0.out 5; have zf6 := blk_frozen BK0.out 6)
    | (go_at_call 43; refine (scullerref02_Right.calls A0 c0 l0 false _ (Kd.C_below HR0.out HB1.out) HC0.out HRI.out).mono ?_; rintro e w2 ⟨rfl, hb2⟩; have HB2 := Aside0.mk (below_then HB1.out HB1.out.size hb2); have BK2 := Aside0.mk (blk_below BK0.out hb2); clear hb2 z0 zf0 z1 zf1 z2 zf2 z3 zf3 z4 zf4 z5 zf5 z6 zf6; have z0 : w2.cell? ⟨g0, 0, none⟩ = _ := (blk_cell BK2.out 0).trans rfl; have z1 : w2.cell? ⟨g0, 1, none⟩ = _ := (blk_cell BK2.out 1).trans rfl; have z2 : w2.cell? ⟨g0, 2, none⟩ = _ := (blk_cell BK2.out 2).trans rfl; have z3 : w2.cell? ⟨g0, 3, none⟩ = _ := (blk_cell BK2.out 3).trans rfl; have z4 : w2.cell? ⟨g0, 4, none⟩ = _ := (blk_cell BK2.out 4).trans rfl; have z5 : w2.cell? ⟨g0, 5, none⟩ = _ := (blk_cell BK2.out 5).trans rfl; have z6 : w2.cell? ⟨g0, 6, none⟩ = _ := (blk_cell BK2.out 6).trans rfl; have zf0 := blk_frozen BK2.out 0; have zf1 := blk_frozen BK2.out 1; have zf2 := blk_frozen BK2.out 2; have zf3 := blk_frozen BK2.out 3; have zf4 := blk_frozen BK2.out 4; have zf5 := blk_frozen BK2.out 5; have zf6 := blk_frozen BK2.out 6))
   refine bodyPost_ret (results_ct rfl _ _ g0 28 #[.int .i64 0, .int .u64 0, .int .i64 0, .int .i64 0, .int .u32 0, .slice none 0 0, .slice none 0 0] (0, 0) _ rfl (blk_put (cs := #[.int .i64 0, .int .u64 0, .int .i64 0, .int .i64 0, .int .u32 0, .slice none 0 0, .slice none 0 0]) (blk_put (cs := #[.int .i64 0, .int .u64 0, .int .i64 0, .int .i64 0, .int .u32 0, .slice none 0 0, .slice none 0 0]) (blk_put (cs := #[.int .i64 0, .int .u64 0, .int .i64 0, .int .i64 0, .int .u32 0, .slice none 0 0, .slice none 0 0]) (blk_put (cs := #[.int .i64 0, .int .u64 0, .int .i64 0, .int .i64 0, .int .u32 0, .slice none 0 0, .slice none 0 0]) (blk_put (cs := #[.int .i64 0, .int .u64 0, .int .i64 0, .int .i64 0, .int .u32 0, .slice none 0 0, .slice none 0 0]) (blk_put (cs := #[.int .i64 0, .int .u64 0, .int .i64 0, .int .i64 0, .int .u32 0, .slice none 0 0, .slice none 0 0]) (blk_put (cs := #[.int .i64 0, .int .u64 0, .int .i64 0, .int .i64 0, .int .u32 0, .slice none 0 0, .slice none 0 0]) BK2.out 0 (.int .i64 0) rfl) 1 (.int .u64 0) rfl) 2 (.int .i64 0) rfl) 3 (.int .i64 0) rfl) 4 (.int .u32 0) rfl) 5 (.slice none 0 0) rfl) 6 (.slice none 0 0) rfl) Try.underlying28 rfl (by kernel_rfl)) rfl ?_
   exact ⟨_, none, 0, rfl, Kd.R_nil _ _ _ _ _, hnilC _, by simp, (below_set (below_set (below_set (below_set (below_set (below_set (below_set HB2.out GE0.out) GE0.out) GE0.out) GE0.out) GE0.out) GE0.out) GE0.out)⟩
 have HRI := Aside0.mk (show scullerref02_Right.f l0 = some true by rw [refRight_is l0 hbb h21n hbl, hrc])
 rw [refG, if_neg h21, if_pos hrc] at h
 have HH := Aside0.mk h
 clear h hrc h21
 have HLN := Aside0.mk h21n
 obtain ⟨ad, b0, hA0, hb0c, hb00⟩ : ∃ ad b0, A0 = some ad ∧ (∀ W, Below w.heap.size w W → W.cell? ad = some (.int .u8 b0)) ∧ l0.getD 0 0 = b0 := by
  obtain ⟨ad, e, hx⟩ := ReadsInt.at_ (Kd.reads_of_C (d := (0 : Int)) HR0.out) 0 (by omega) (by omega)
  have e0 : ad.add (0 : Int).toNat = ad := by simp [Addr.add]
  rw [e0] at hx
  refine ⟨ad, rd l0 0, e, fun W hb => pw_cell_below hb hx, rfl⟩
 have hbb0 : 0 ≤ b0 ∧ b0 ≤ 255 := by
  rw [← hb00, List.getD_eq_getElem?_getD, List.getElem?_eq_getElem (by omega)]
  exact bytesB_at hbb _ (List.getElem_mem _)
 subst hA0
 obtain ⟨A1, s1, C1, L1⟩ := mid_slice (some ad) c0 l0 1 9 (by omega) (by omega) HC0.out w HR0.out
 obtain ⟨A5, s5, C5, L5⟩ := mid_slice (some ad) c0 l0 17 (l0.length - 4) (by omega) (by omega) HC0.out w HR0.out
 have g1 : scullerref01_Get_c.f (midL l0 1 9) = some (getL (midL l0 1 9)) := by
  have hm := midL_length l0 1 9 (by omega)
  rw [scullerref01_Get_c.f, List.take_of_length_le (by omega), if_pos ⟨midL_byte hbb 1 9, by omega⟩]
 have g2 := refGet_is l0 hbb hbl 9 2 (by omega) (by omega)
 have g3 := refGet_is l0 hbb hbl 11 2 (by omega) (by omega)
 have g4 := refGet_is l0 hbb hbl 13 4 (by omega) (by omega)
 have x1 := getL_mid l0 hbb 1 9 8 (by omega)
 have x2 := getL_mid l0 hbb 9 11 2 (by omega)
 have x3 := getL_mid l0 hbb 11 13 2 (by omega)
 have x4 := getL_mid l0 hbb 13 17 4 (by omega)
 have hpe : refE l0 = (b0, getL (midL l0 1 9), getL (midL l0 9 11), getL (midL l0 11 13), getL (midL l0 13 17), if b0 = 1 then pairsF (restG l0) ((restG l0).length / 2) else [], if b0 = 1 then [] else restG l0) := by rw [refE, hb00]
 have hh := HH.out
 rw [hpe] at hh
 dsimp only at hh
 have hrl : (restG l0).length ≤ 1000000 := by unfold restG; rw [midL_length _ _ _ (by omega)]; omega
 have hrb : bytesB (restG l0) = true := midL_byte hbb _ _
 have hrest : midL l0 17 (l0.length - 4) = restG l0 := rfl
 rw [hrest] at s5 C5 L5
 generalize restG l0 = rest at *
 generalize midL l0 1 9 = p1 at *
 generalize midL l0 9 11 = p2 at *
 generalize midL l0 11 13 = p3 at *
 generalize midL l0 13 17 = p4 at *
 replace s1 : ∀ W : World, (Instr.slice 25 (.slice (some ad) l0.length c0) (some (.int .i64 1)) (some (.int .i64 9)) none).run Try.prog W = .ok (.slice A1 p1.length (c0 - 1)) W := s1
 replace s5 : ∀ W : World, (Instr.slice 25 (.slice (some ad) l0.length c0) (some (.int .i64 17)) (some (.int .i64 ((l0.length : Int) - 4))) none).run Try.prog W = .ok (.slice A5 rest.length (c0 - 17)) W := (by intro W; have h9 := s5 W; rwa [show ((l0.length - 4 : Nat) : Int) = (l0.length : Int) - 4 from by omega] at h9)
 obtain ⟨n1, hn1⟩ : ∃ n, getL p1 = n := ⟨_, rfl⟩
 obtain ⟨n2, hn2⟩ : ∃ n, getL p2 = n := ⟨_, rfl⟩
 obtain ⟨n3, hn3⟩ : ∃ n, getL p3 = n := ⟨_, rfl⟩
 obtain ⟨n4, hn4⟩ : ∃ n, getL p4 = n := ⟨_, rfl⟩
 rw [hn1] at g1 x1 hh
 rw [hn2] at g2 x2 hh
 rw [hn3] at g3 x3 hh
 rw [hn4] at g4 x4 hh
 have w2c : IntKind.i64.wrap n2 = n2 := by rw [i64_w]; unfold wrap64; omega
 have w3c : IntKind.i64.wrap n3 = n3 := by rw [i64_w]; unfold wrap64; omega
 have w4c : IntKind.u32.wrap n4 = n4 := by simp only [IntKind.wrap, IntKind.signed, IntKind.bits]; simp; omega
 have G1 := Aside0.mk g1
 have G2 := Aside0.mk g2
 have G3 := Aside0.mk g3
 have G4 := Aside0.mk g4
 have CC1 := Aside0.mk C1
 have CC5 := Aside0.mk C5
 have LL1 := Aside0.mk L1
 have LL5 := Aside0.mk L5
 have HB0 := Aside0.mk hb0c
 have hwb : Go.RowKit.wrap64 b0 = b0 := by unfold Go.RowKit.wrap64; omega
 have HH2 := Aside0.mk hh
 clear hh HH hpe hrest g1 g2 g3 g4 C1 C5 L1 L5 hb0c hb00 hn1 hn2 hn3 hn4 h21n
 go_enter Try.func33, Try.ntmps33
 go_wp2_with (first
  | ((with_reducible refine gate_dst (N := 2) rfl ?_); refine box_event ?hg (N := 2) ?hd (cs := #[.int .i64 0, .int .u64 0, .int .i64 0, .int .i64 0, .int .u32 0, .slice none 0 0, .slice none 0 0]) (t := 28) ?hr ?_; (case hd => rfl); (case hg => rfl); (case hr => first | (go_simp; done) | (go_simp; rfl)); intro g0 hg w1 hbox hb; have HB1 := Aside0.mk hb; have BK0 := Aside0.mk hbox; have GE0 := Aside0.mk (Nat.le_of_eq hg.symm); clear hb hbox hg; have z0 : w1.cell? ⟨g0, 0, none⟩ = _ := (blk_cell BK0.out 0).trans rfl; have z1 : w1.cell? ⟨g0, 1, none⟩ = _ := (blk_cell BK0.out 1).trans rfl; have z2 : w1.cell? ⟨g0, 2, none⟩ = _ := (blk_cell BK0.out 2).trans rfl; have z3 : w1.cell? ⟨g0, 3, none⟩ = _ := (blk_cell BK0.out 3).trans rfl; have z4 : w1.cell? ⟨g0, 4, none⟩ = _ := (blk_cell BK0.out 4).trans rfl; have z5 : w1.cell? ⟨g0, 5, none⟩ = _ := (blk_cell BK0.out 5).trans rfl; have z6 : w1.cell? ⟨g0, 6, none⟩ = _ := (blk_cell BK0.out 6).trans rfl; have zf0 := blk_frozen BK0.out 0; have zf1 := blk_frozen BK0.out 1; have zf2 := blk_frozen BK0.out 2; have zf3 := blk_frozen BK0.out 3; have zf4 := blk_frozen BK0.out 4; have zf5 := blk_frozen BK0.out 5; have zf6 := blk_frozen BK0.out 6)
  | (go_at_call 43; refine (scullerref02_Right.calls (some ad) c0 l0 true _ (Kd.C_below HR0.out HB1.out) HC0.out HRI.out).mono ?_; rintro e w2 ⟨rfl, hb2⟩; have HB2 := Aside0.mk (below_then HB1.out HB1.out.size hb2); have BK2 := Aside0.mk (blk_below BK0.out hb2); clear hb2 z0 zf0 z1 zf1 z2 zf2 z3 zf3 z4 zf4 z5 zf5 z6 zf6; have z0 : w2.cell? ⟨g0, 0, none⟩ = _ := (blk_cell BK2.out 0).trans rfl; have z1 : w2.cell? ⟨g0, 1, none⟩ = _ := (blk_cell BK2.out 1).trans rfl; have z2 : w2.cell? ⟨g0, 2, none⟩ = _ := (blk_cell BK2.out 2).trans rfl; have z3 : w2.cell? ⟨g0, 3, none⟩ = _ := (blk_cell BK2.out 3).trans rfl; have z4 : w2.cell? ⟨g0, 4, none⟩ = _ := (blk_cell BK2.out 4).trans rfl; have z5 : w2.cell? ⟨g0, 5, none⟩ = _ := (blk_cell BK2.out 5).trans rfl; have z6 : w2.cell? ⟨g0, 6, none⟩ = _ := (blk_cell BK2.out 6).trans rfl; have zf0 := blk_frozen BK2.out 0; have zf1 := blk_frozen BK2.out 1; have zf2 := blk_frozen BK2.out 2; have zf3 := blk_frozen BK2.out 3; have zf4 := blk_frozen BK2.out 4; have zf5 := blk_frozen BK2.out 5; have zf6 := blk_frozen BK2.out 6))
 clear z0 zf0 z1 zf1 z2 zf2 z3 zf3 z4 zf4 z5 zf5 z6 zf6
 have hcb := HB0.out w2 HB2.out
 have hna2 := World.new_ne w2 ad hcb
 have hpos : 0 < l0.length := by have := HLN.out; omega
 refine start_ (n := 17) (S := fun w' => w'.cell? ad = some (.int .u8 b0)) (ds := [16]) #[false, false, false, false, false, false, false, false, false, false, false, false, false, false, false, false, false] (by kernel_rfl) rfl rfl (HB0.out _ (below_drew HB2.out)) (fun hHeld => ?_)
 refine pure_ (i := 0) (N := some 17) (v := ?_) (a' := ?_) #[true, false, false, false, false, false, false, false, false, false, false, false, false, false, false, false, false] rfl rfl (by kernel_rfl) (fun _ _ _ h => h) (Or.inl ⟨by rfl, ?_⟩) ?_ ?_
 rotate_left
 · intro w'
   go_simp
   with_reducible rfl
 rotate_left
 · simp only [Act.put, List.setIfInBounds_toArray, List.set_cons_zero, List.set_cons_succ, i64_w, i32_w]
   rfl
 refine pure_ (i := 1) (N := some 18) (v := ?_) (a' := ?_) #[true, true, false, false, false, false, false, false, false, false, false, false, false, false, false, false, false] rfl rfl (by kernel_rfl) (fun _ _ _ h => h) (Or.inl ⟨by rfl, ?_⟩) ?_ ?_
 rotate_left
 · intro w'
   go_simp
   with_reducible rfl
 rotate_left
 · simp only [Act.put, List.setIfInBounds_toArray, List.set_cons_zero, List.set_cons_succ, i64_w, i32_w]
   rfl
 refine pure_ (i := 4) (N := some 21) (v := ?_) (a' := ?_) #[true, true, false, false, true, false, false, false, false, false, false, false, false, false, false, false, false] rfl rfl (by kernel_rfl) (fun _ _ _ h => h) (Or.inl ⟨by rfl, ?_⟩) ?_ ?_
 rotate_left
 · intro w'
   go_simp
   with_reducible rfl
 rotate_left
 · simp only [Act.put, List.setIfInBounds_toArray, List.set_cons_zero, List.set_cons_succ, i64_w, i32_w]
   rfl
 refine pure_ (i := 5) (N := some 22) (v := ?_) (a' := ?_) #[true, true, false, false, true, true, false, false, false, false, false, false, false, false, false, false, false] rfl rfl (by kernel_rfl) (fun _ _ _ h => h) (Or.inl ⟨by rfl, ?_⟩) ?_ ?_
 rotate_left
 · intro w'
   go_simp
   with_reducible rfl
 rotate_left
 · simp only [Act.put, List.setIfInBounds_toArray, List.set_cons_zero, List.set_cons_succ, i64_w, i32_w]
   rfl
 refine pure_ (i := 7) (N := some 24) (v := ?_) (a' := ?_) #[true, true, false, false, true, true, false, true, false, false, false, false, false, false, false, false, false] rfl rfl (by kernel_rfl) (fun _ _ _ h => h) (Or.inl ⟨by rfl, ?_⟩) ?_ ?_
 rotate_left
 · intro w'
   go_simp
   with_reducible rfl
 rotate_left
 · simp only [Act.put, List.setIfInBounds_toArray, List.set_cons_zero, List.set_cons_succ, i64_w, i32_w]
   rfl
 refine pure_ (i := 9) (N := some 26) (v := ?_) (a' := ?_) #[true, true, false, false, true, true, false, true, false, true, false, false, false, false, false, false, false] rfl rfl (by kernel_rfl) (fun _ _ _ h => h) (Or.inl ⟨by rfl, ?_⟩) ?_ ?_
 rotate_left
 · intro w'
   go_simp
   with_reducible rfl
 rotate_left
 · simp only [Act.put, List.setIfInBounds_toArray, List.set_cons_zero, List.set_cons_succ, i64_w, i32_w]
   rfl
 refine pure_ (i := 11) (N := some 28) (v := ?_) (a' := ?_) #[true, true, false, false, true, true, false, true, false, true, false, true, false, false, false, false, false] rfl rfl (by kernel_rfl) (fun _ _ _ h => h) (Or.inl ⟨by rfl, ?_⟩) ?_ ?_
 rotate_left
 · intro w'
   go_simp
   with_reducible rfl
 rotate_left
 · simp only [Act.put, List.setIfInBounds_toArray, List.set_cons_zero, List.set_cons_succ, i64_w, i32_w]
   rfl
 refine take_ (i := 2) (N := some 19) (v := ?_) (a' := ?_) #[true, true, true, false, true, true, false, true, false, true, false, true, false, false, false, false, false] rfl rfl (by kernel_rfl) (fun _ _ _ h => h) (Or.inl ⟨by rfl, ?_⟩) hHeld ?_ ?_
 rotate_left
 · intro w' s0
   go_simp
   with_reducible rfl
 rotate_left
 · simp only [Act.put, List.setIfInBounds_toArray, List.set_cons_zero, List.set_cons_succ, i64_w, i32_w]
   rfl
 refine pure_ (i := 3) (N := some 20) (v := ?_) (a' := ?_) #[true, true, true, true, true, true, false, true, false, true, false, true, false, false, false, false, false] rfl rfl (by kernel_rfl) (fun _ _ _ h => h) (Or.inl ⟨by rfl, ?_⟩) ?_ ?_
 rotate_left
 · intro w'
   go_simp
   with_reducible rfl
 rotate_left
 · simp only [Act.put, List.setIfInBounds_toArray, List.set_cons_zero, List.set_cons_succ, i64_w, i32_w]
   rfl
 have HX := Aside0.mk (below_drew (Below.refl w2.heap.size w2))
 generalize w2.drew = u at HX ⊢
 refine join_ (σ := Nat) 1 #[true, true, true, true, true, true, true, true, true, true, true, true, true, true, true, true, false] (fun g => [(23, .int .u64 n1), (25, .int .i64 n2), (27, .int .i64 n3), (29, .int .i64 n4), (30, .int .u32 n4), (31, .agg #[.int .i64 b0, .int .u64 n1, .int .i64 n2, .int .i64 n3, .int .u32 n4, .slice none 0 0, .slice none 0 0]), (4, .pointer (some ⟨g, 0, none⟩))]) (fun g w' => Aside0 (w'.heap[g]? = some (.cells #[.int .i64 0, .int .u64 0, .int .i64 0, .int .i64 0, .int .u32 0, .slice none 0 0, .slice none 0 0] 28 (0, 0))) ∧ Aside0 (Below w2.heap.size w2 w') ∧ Aside0 (w2.heap.size ≤ g)) ?_ ?_
 rotate_left
 · intro hCont
   refine two_ (i := 6) (j := 15) (Ni := some 23) (Nj := some 4) #[true, true, true, true, true, true, true, true, false, true, false, true, false, false, false, false, false] #[true, true, true, true, true, true, false, true, false, true, false, true, false, false, false, true, false] rfl rfl rfl rfl (by kernel_rfl) (by decide) (by decide) (fun K hK => ?_) (fun K hK => ?_)
   · skip
     refine call_ 44 #[.slice A1 p1.length (c0 - 1)] (by rfl) rfl (by
      have he := fun args w => enters_ (f := 44) Try.func44 (by kernel_rfl) rfl args w
      simp [go_sem, he]) ?_
     refine (scullerref01_Get_c.calls A1 (c0 - 1) p1 n1 _ (Kd.C_below CC1.out (below_then HB2.out HB2.out.size HX.out)) LL1.out G1.out).mono ?_
     rintro e v4 ⟨rfl, hbx⟩
     refine ⟨_, rfl, ?_⟩
     replace HX := Aside0.mk (below_then HX.out HX.out.size hbx)
     clear hbx
     clear hHeld u
     refine hK.out _ _ (HB0.out _ (below_then HB2.out HB2.out.size HX.out)) (fun hHeld => ?_)
     clear hK K
     refine norm_ (a' := ?_) ?_ ?_
     rotate_left
     · show Act.put _ (some 23) _ = _
       simp only [Act.put, List.setIfInBounds_toArray, List.set_cons_zero, List.set_cons_succ, i64_w, i32_w]
       rfl
     refine two_ (i := 8) (j := 15) (Ni := some 25) (Nj := some 4) #[true, true, true, true, true, true, true, true, true, true, false, true, false, false, false, false, false] #[true, true, true, true, true, true, true, true, false, true, false, true, false, false, false, true, false] rfl rfl rfl rfl (by kernel_rfl) (by decide) (by decide) (fun K hK => ?_) (fun K hK => ?_)
     · skip
       refine call_ 45 #[.slice (some ad) l0.length c0, .int .i64 9, .int .i64 2] (by rfl) rfl (by
        have he := fun args w => enters_ (f := 45) Try.func45 (by kernel_rfl) rfl args w
        simp [go_sem, he]) ?_
       refine (scullerref13_get.calls (some ad) c0 l0 9 2 n2 _ (Kd.C_below HR0.out (below_then HB2.out HB2.out.size HX.out)) HC0.out G2.out).mono ?_
       rintro e v5 ⟨rfl, hbx⟩
       refine ⟨_, rfl, ?_⟩
       replace HX := Aside0.mk (below_then HX.out HX.out.size hbx)
       clear hbx
       clear hHeld v4
       refine hK.out _ _ (HB0.out _ (below_then HB2.out HB2.out.size HX.out)) (fun hHeld => ?_)
       clear hK K
       refine norm_ (a' := ?_) ?_ ?_
       rotate_left
       · show Act.put _ (some 25) _ = _
         simp only [Act.put, List.setIfInBounds_toArray, List.set_cons_zero, List.set_cons_succ, i64_w, i32_w]
         rfl
       refine two_ (i := 10) (j := 15) (Ni := some 27) (Nj := some 4) #[true, true, true, true, true, true, true, true, true, true, true, true, false, false, false, false, false] #[true, true, true, true, true, true, true, true, true, true, false, true, false, false, false, true, false] rfl rfl rfl rfl (by kernel_rfl) (by decide) (by decide) (fun K hK => ?_) (fun K hK => ?_)
       · skip
         refine call_ 45 #[.slice (some ad) l0.length c0, .int .i64 11, .int .i64 2] (by rfl) rfl (by
          have he := fun args w => enters_ (f := 45) Try.func45 (by kernel_rfl) rfl args w
          simp [go_sem, he]) ?_
         refine (scullerref13_get.calls (some ad) c0 l0 11 2 n3 _ (Kd.C_below HR0.out (below_then HB2.out HB2.out.size HX.out)) HC0.out G3.out).mono ?_
         rintro e v6 ⟨rfl, hbx⟩
         refine ⟨_, rfl, ?_⟩
         replace HX := Aside0.mk (below_then HX.out HX.out.size hbx)
         clear hbx
         clear hHeld v5
         refine hK.out _ _ (HB0.out _ (below_then HB2.out HB2.out.size HX.out)) (fun hHeld => ?_)
         clear hK K
         refine norm_ (a' := ?_) ?_ ?_
         rotate_left
         · show Act.put _ (some 27) _ = _
           simp only [Act.put, List.setIfInBounds_toArray, List.set_cons_zero, List.set_cons_succ, i64_w, i32_w]
           rfl
         refine two_ (i := 12) (j := 15) (Ni := some 29) (Nj := some 4) #[true, true, true, true, true, true, true, true, true, true, true, true, true, false, false, false, false] #[true, true, true, true, true, true, true, true, true, true, true, true, false, false, false, true, false] rfl rfl rfl rfl (by kernel_rfl) (by decide) (by decide) (fun K hK => ?_) (fun K hK => ?_)
         · skip
           refine call_ 45 #[.slice (some ad) l0.length c0, .int .i64 13, .int .i64 4] (by rfl) rfl (by
            have he := fun args w => enters_ (f := 45) Try.func45 (by kernel_rfl) rfl args w
            simp [go_sem, he]) ?_
           refine (scullerref13_get.calls (some ad) c0 l0 13 4 n4 _ (Kd.C_below HR0.out (below_then HB2.out HB2.out.size HX.out)) HC0.out G4.out).mono ?_
           rintro e v7 ⟨rfl, hbx⟩
           refine ⟨_, rfl, ?_⟩
           replace HX := Aside0.mk (below_then HX.out HX.out.size hbx)
           clear hbx
           clear hHeld v6
           refine hK.out _ _ (HB0.out _ (below_then HB2.out HB2.out.size HX.out)) (fun hHeld => ?_)
           clear hK K
           refine norm_ (a' := ?_) ?_ ?_
           rotate_left
           · show Act.put _ (some 29) _ = _
             simp only [Act.put, List.setIfInBounds_toArray, List.set_cons_zero, List.set_cons_succ, i64_w, i32_w]
             rfl
           refine pure_ (i := 13) (N := some 30) (v := ?_) (a' := ?_) #[true, true, true, true, true, true, true, true, true, true, true, true, true, true, false, false, false] rfl rfl (by kernel_rfl) (fun _ _ _ h => h) (Or.inl ⟨by rfl, ?_⟩) ?_ ?_
           rotate_left
           · intro w'
             go_simp
             with_reducible rfl
           rotate_left
           · simp only [Act.put, List.setIfInBounds_toArray, List.set_cons_zero, List.set_cons_succ, i64_w, i32_w]
             rfl
           refine pure_ (i := 14) (N := some 31) (v := ?_) (a' := ?_) #[true, true, true, true, true, true, true, true, true, true, true, true, true, true, true, false, false] rfl rfl (by kernel_rfl) (fun _ _ _ h => h) (Or.inl ⟨by rfl, ?_⟩) ?_ ?_
           rotate_left
           · intro w'
             go_simp
             with_reducible rfl
           rotate_left
           · simp only [Act.put, List.setIfInBounds_toArray, List.set_cons_zero, List.set_cons_succ, i64_w, i32_w]
             rfl
           refine one_ (i := 15) (N := some 4) #[true, true, true, true, true, true, true, true, true, true, true, true, true, true, true, true, false] rfl rfl (by kernel_rfl) (by decide) (fun K hK => ?_)
           refine value_ (w1 := v7.alloc (.cells #[.int .i64 0, .int .u64 0, .int .i64 0, .int .i64 0, .int .u32 0, .slice none 0 0, .slice none 0 0] 28)) (v := .pointer (some ⟨v7.heap.size, 0, none⟩)) (by rfl) rfl (by go_simp; first | done | rfl) ?_
           have KZ := Aside0.mk (blk_new v7 (.cells #[.int .i64 0, .int .u64 0, .int .i64 0, .int .i64 0, .int .u32 0, .slice none 0 0, .slice none 0 0] 28))
           have GQ := Aside0.mk HX.out.size
           replace HX := Aside0.mk (below_alloc HX.out (.cells #[.int .i64 0, .int .u64 0, .int .i64 0, .int .i64 0, .int .u32 0, .slice none 0 0, .slice none 0 0] 28))
           generalize v7.alloc (.cells #[.int .i64 0, .int .u64 0, .int .i64 0, .int .i64 0, .int .u32 0, .slice none 0 0, .slice none 0 0] 28) = v8 at KZ HX ⊢
           generalize v7.heap.size = g at KZ GQ ⊢
           clear hHeld v7
           refine hK.out _ _ (HB0.out _ (below_then HB2.out HB2.out.size HX.out)) (fun hHeld => ?_)
           clear hK K
           refine norm_ (a' := ?_) ?_ ?_
           rotate_left
           · show Act.put _ (some 4) _ = _
             simp only [Act.put, List.setIfInBounds_toArray, List.set_cons_zero, List.set_cons_succ, i64_w, i32_w]
             rfl
           exact norm_ (by first | (simp only [putAll, Act.put, List.setIfInBounds_toArray, List.set_cons_zero, List.set_cons_succ]; done) | (simp only [putAll, Act.put, List.setIfInBounds_toArray, List.set_cons_zero, List.set_cons_succ]; rfl)) (hCont g v8 ⟨KZ, HX, GQ⟩)
         · skip
           refine value_ (w1 := v6.alloc (.cells #[.int .i64 0, .int .u64 0, .int .i64 0, .int .i64 0, .int .u32 0, .slice none 0 0, .slice none 0 0] 28)) (v := .pointer (some ⟨v6.heap.size, 0, none⟩)) (by rfl) rfl (by go_simp; first | done | rfl) ?_
           have KZ := Aside0.mk (blk_new v6 (.cells #[.int .i64 0, .int .u64 0, .int .i64 0, .int .i64 0, .int .u32 0, .slice none 0 0, .slice none 0 0] 28))
           have GQ := Aside0.mk HX.out.size
           replace HX := Aside0.mk (below_alloc HX.out (.cells #[.int .i64 0, .int .u64 0, .int .i64 0, .int .i64 0, .int .u32 0, .slice none 0 0, .slice none 0 0] 28))
           generalize v6.alloc (.cells #[.int .i64 0, .int .u64 0, .int .i64 0, .int .i64 0, .int .u32 0, .slice none 0 0, .slice none 0 0] 28) = v9 at KZ HX ⊢
           generalize v6.heap.size = g at KZ GQ ⊢
           clear hHeld v6
           refine hK.out _ _ (HB0.out _ (below_then HB2.out HB2.out.size HX.out)) (fun hHeld => ?_)
           clear hK K
           refine norm_ (a' := ?_) ?_ ?_
           rotate_left
           · show Act.put _ (some 4) _ = _
             simp only [Act.put, List.setIfInBounds_toArray, List.set_cons_zero, List.set_cons_succ, i64_w, i32_w]
             rfl
           refine one_ (i := 12) (N := some 29) #[true, true, true, true, true, true, true, true, true, true, true, true, true, false, false, true, false] rfl rfl (by kernel_rfl) (by decide) (fun K hK => ?_)
           refine call_ 45 #[.slice (some ad) l0.length c0, .int .i64 13, .int .i64 4] (by rfl) rfl (by
            have he := fun args w => enters_ (f := 45) Try.func45 (by kernel_rfl) rfl args w
            simp [go_sem, he]) ?_
           refine (scullerref13_get.calls (some ad) c0 l0 13 4 n4 _ (Kd.C_below HR0.out (below_then HB2.out HB2.out.size HX.out)) HC0.out G4.out).mono ?_
           rintro e v10 ⟨rfl, hbx⟩
           refine ⟨_, rfl, ?_⟩
           replace KZ := Aside0.mk (blk_below KZ.out hbx)
           replace HX := Aside0.mk (below_then HX.out HX.out.size hbx)
           clear hbx
           clear hHeld v9
           refine hK.out _ _ (HB0.out _ (below_then HB2.out HB2.out.size HX.out)) (fun hHeld => ?_)
           clear hK K
           refine norm_ (a' := ?_) ?_ ?_
           rotate_left
           · show Act.put _ (some 29) _ = _
             simp only [Act.put, List.setIfInBounds_toArray, List.set_cons_zero, List.set_cons_succ, i64_w, i32_w]
             rfl
           refine pure_ (i := 13) (N := some 30) (v := ?_) (a' := ?_) #[true, true, true, true, true, true, true, true, true, true, true, true, true, true, false, true, false] rfl rfl (by kernel_rfl) (fun _ _ _ h => h) (Or.inl ⟨by rfl, ?_⟩) ?_ ?_
           rotate_left
           · intro w'
             go_simp
             with_reducible rfl
           rotate_left
           · simp only [Act.put, List.setIfInBounds_toArray, List.set_cons_zero, List.set_cons_succ, i64_w, i32_w]
             rfl
           refine pure_ (i := 14) (N := some 31) (v := ?_) (a' := ?_) #[true, true, true, true, true, true, true, true, true, true, true, true, true, true, true, true, false] rfl rfl (by kernel_rfl) (fun _ _ _ h => h) (Or.inl ⟨by rfl, ?_⟩) ?_ ?_
           rotate_left
           · intro w'
             go_simp
             with_reducible rfl
           rotate_left
           · simp only [Act.put, List.setIfInBounds_toArray, List.set_cons_zero, List.set_cons_succ, i64_w, i32_w]
             rfl
           exact norm_ (by first | (simp only [putAll, Act.put, List.setIfInBounds_toArray, List.set_cons_zero, List.set_cons_succ]; done) | (simp only [putAll, Act.put, List.setIfInBounds_toArray, List.set_cons_zero, List.set_cons_succ]; rfl)) (hCont g v10 ⟨KZ, HX, GQ⟩)
       · skip
         refine value_ (w1 := v5.alloc (.cells #[.int .i64 0, .int .u64 0, .int .i64 0, .int .i64 0, .int .u32 0, .slice none 0 0, .slice none 0 0] 28)) (v := .pointer (some ⟨v5.heap.size, 0, none⟩)) (by rfl) rfl (by go_simp; first | done | rfl) ?_
         have KZ := Aside0.mk (blk_new v5 (.cells #[.int .i64 0, .int .u64 0, .int .i64 0, .int .i64 0, .int .u32 0, .slice none 0 0, .slice none 0 0] 28))
         have GQ := Aside0.mk HX.out.size
         replace HX := Aside0.mk (below_alloc HX.out (.cells #[.int .i64 0, .int .u64 0, .int .i64 0, .int .i64 0, .int .u32 0, .slice none 0 0, .slice none 0 0] 28))
         generalize v5.alloc (.cells #[.int .i64 0, .int .u64 0, .int .i64 0, .int .i64 0, .int .u32 0, .slice none 0 0, .slice none 0 0] 28) = v11 at KZ HX ⊢
         generalize v5.heap.size = g at KZ GQ ⊢
         clear hHeld v5
         refine hK.out _ _ (HB0.out _ (below_then HB2.out HB2.out.size HX.out)) (fun hHeld => ?_)
         clear hK K
         refine norm_ (a' := ?_) ?_ ?_
         rotate_left
         · show Act.put _ (some 4) _ = _
           simp only [Act.put, List.setIfInBounds_toArray, List.set_cons_zero, List.set_cons_succ, i64_w, i32_w]
           rfl
         refine one_ (i := 10) (N := some 27) #[true, true, true, true, true, true, true, true, true, true, true, true, false, false, false, true, false] rfl rfl (by kernel_rfl) (by decide) (fun K hK => ?_)
         refine call_ 45 #[.slice (some ad) l0.length c0, .int .i64 11, .int .i64 2] (by rfl) rfl (by
          have he := fun args w => enters_ (f := 45) Try.func45 (by kernel_rfl) rfl args w
          simp [go_sem, he]) ?_
         refine (scullerref13_get.calls (some ad) c0 l0 11 2 n3 _ (Kd.C_below HR0.out (below_then HB2.out HB2.out.size HX.out)) HC0.out G3.out).mono ?_
         rintro e v12 ⟨rfl, hbx⟩
         refine ⟨_, rfl, ?_⟩
         replace KZ := Aside0.mk (blk_below KZ.out hbx)
         replace HX := Aside0.mk (below_then HX.out HX.out.size hbx)
         clear hbx
         clear hHeld v11
         refine hK.out _ _ (HB0.out _ (below_then HB2.out HB2.out.size HX.out)) (fun hHeld => ?_)
         clear hK K
         refine norm_ (a' := ?_) ?_ ?_
         rotate_left
         · show Act.put _ (some 27) _ = _
           simp only [Act.put, List.setIfInBounds_toArray, List.set_cons_zero, List.set_cons_succ, i64_w, i32_w]
           rfl
         refine one_ (i := 12) (N := some 29) #[true, true, true, true, true, true, true, true, true, true, true, true, true, false, false, true, false] rfl rfl (by kernel_rfl) (by decide) (fun K hK => ?_)
         refine call_ 45 #[.slice (some ad) l0.length c0, .int .i64 13, .int .i64 4] (by rfl) rfl (by
          have he := fun args w => enters_ (f := 45) Try.func45 (by kernel_rfl) rfl args w
          simp [go_sem, he]) ?_
         refine (scullerref13_get.calls (some ad) c0 l0 13 4 n4 _ (Kd.C_below HR0.out (below_then HB2.out HB2.out.size HX.out)) HC0.out G4.out).mono ?_
         rintro e v13 ⟨rfl, hbx⟩
         refine ⟨_, rfl, ?_⟩
         replace KZ := Aside0.mk (blk_below KZ.out hbx)
         replace HX := Aside0.mk (below_then HX.out HX.out.size hbx)
         clear hbx
         clear hHeld v12
         refine hK.out _ _ (HB0.out _ (below_then HB2.out HB2.out.size HX.out)) (fun hHeld => ?_)
         clear hK K
         refine norm_ (a' := ?_) ?_ ?_
         rotate_left
         · show Act.put _ (some 29) _ = _
           simp only [Act.put, List.setIfInBounds_toArray, List.set_cons_zero, List.set_cons_succ, i64_w, i32_w]
           rfl
         refine pure_ (i := 13) (N := some 30) (v := ?_) (a' := ?_) #[true, true, true, true, true, true, true, true, true, true, true, true, true, true, false, true, false] rfl rfl (by kernel_rfl) (fun _ _ _ h => h) (Or.inl ⟨by rfl, ?_⟩) ?_ ?_
         rotate_left
         · intro w'
           go_simp
           with_reducible rfl
         rotate_left
         · simp only [Act.put, List.setIfInBounds_toArray, List.set_cons_zero, List.set_cons_succ, i64_w, i32_w]
           rfl
         refine pure_ (i := 14) (N := some 31) (v := ?_) (a' := ?_) #[true, true, true, true, true, true, true, true, true, true, true, true, true, true, true, true, false] rfl rfl (by kernel_rfl) (fun _ _ _ h => h) (Or.inl ⟨by rfl, ?_⟩) ?_ ?_
         rotate_left
         · intro w'
           go_simp
           with_reducible rfl
         rotate_left
         · simp only [Act.put, List.setIfInBounds_toArray, List.set_cons_zero, List.set_cons_succ, i64_w, i32_w]
           rfl
         exact norm_ (by first | (simp only [putAll, Act.put, List.setIfInBounds_toArray, List.set_cons_zero, List.set_cons_succ]; done) | (simp only [putAll, Act.put, List.setIfInBounds_toArray, List.set_cons_zero, List.set_cons_succ]; rfl)) (hCont g v13 ⟨KZ, HX, GQ⟩)
     · skip
       refine value_ (w1 := v4.alloc (.cells #[.int .i64 0, .int .u64 0, .int .i64 0, .int .i64 0, .int .u32 0, .slice none 0 0, .slice none 0 0] 28)) (v := .pointer (some ⟨v4.heap.size, 0, none⟩)) (by rfl) rfl (by go_simp; first | done | rfl) ?_
       have KZ := Aside0.mk (blk_new v4 (.cells #[.int .i64 0, .int .u64 0, .int .i64 0, .int .i64 0, .int .u32 0, .slice none 0 0, .slice none 0 0] 28))
       have GQ := Aside0.mk HX.out.size
       replace HX := Aside0.mk (below_alloc HX.out (.cells #[.int .i64 0, .int .u64 0, .int .i64 0, .int .i64 0, .int .u32 0, .slice none 0 0, .slice none 0 0] 28))
       generalize v4.alloc (.cells #[.int .i64 0, .int .u64 0, .int .i64 0, .int .i64 0, .int .u32 0, .slice none 0 0, .slice none 0 0] 28) = v14 at KZ HX ⊢
       generalize v4.heap.size = g at KZ GQ ⊢
       clear hHeld v4
       refine hK.out _ _ (HB0.out _ (below_then HB2.out HB2.out.size HX.out)) (fun hHeld => ?_)
       clear hK K
       refine norm_ (a' := ?_) ?_ ?_
       rotate_left
       · show Act.put _ (some 4) _ = _
         simp only [Act.put, List.setIfInBounds_toArray, List.set_cons_zero, List.set_cons_succ, i64_w, i32_w]
         rfl
       refine one_ (i := 8) (N := some 25) #[true, true, true, true, true, true, true, true, true, true, false, true, false, false, false, true, false] rfl rfl (by kernel_rfl) (by decide) (fun K hK => ?_)
       refine call_ 45 #[.slice (some ad) l0.length c0, .int .i64 9, .int .i64 2] (by rfl) rfl (by
        have he := fun args w => enters_ (f := 45) Try.func45 (by kernel_rfl) rfl args w
        simp [go_sem, he]) ?_
       refine (scullerref13_get.calls (some ad) c0 l0 9 2 n2 _ (Kd.C_below HR0.out (below_then HB2.out HB2.out.size HX.out)) HC0.out G2.out).mono ?_
       rintro e v15 ⟨rfl, hbx⟩
       refine ⟨_, rfl, ?_⟩
       replace KZ := Aside0.mk (blk_below KZ.out hbx)
       replace HX := Aside0.mk (below_then HX.out HX.out.size hbx)
       clear hbx
       clear hHeld v14
       refine hK.out _ _ (HB0.out _ (below_then HB2.out HB2.out.size HX.out)) (fun hHeld => ?_)
       clear hK K
       refine norm_ (a' := ?_) ?_ ?_
       rotate_left
       · show Act.put _ (some 25) _ = _
         simp only [Act.put, List.setIfInBounds_toArray, List.set_cons_zero, List.set_cons_succ, i64_w, i32_w]
         rfl
       refine one_ (i := 10) (N := some 27) #[true, true, true, true, true, true, true, true, true, true, true, true, false, false, false, true, false] rfl rfl (by kernel_rfl) (by decide) (fun K hK => ?_)
       refine call_ 45 #[.slice (some ad) l0.length c0, .int .i64 11, .int .i64 2] (by rfl) rfl (by
        have he := fun args w => enters_ (f := 45) Try.func45 (by kernel_rfl) rfl args w
        simp [go_sem, he]) ?_
       refine (scullerref13_get.calls (some ad) c0 l0 11 2 n3 _ (Kd.C_below HR0.out (below_then HB2.out HB2.out.size HX.out)) HC0.out G3.out).mono ?_
       rintro e v16 ⟨rfl, hbx⟩
       refine ⟨_, rfl, ?_⟩
       replace KZ := Aside0.mk (blk_below KZ.out hbx)
       replace HX := Aside0.mk (below_then HX.out HX.out.size hbx)
       clear hbx
       clear hHeld v15
       refine hK.out _ _ (HB0.out _ (below_then HB2.out HB2.out.size HX.out)) (fun hHeld => ?_)
       clear hK K
       refine norm_ (a' := ?_) ?_ ?_
       rotate_left
       · show Act.put _ (some 27) _ = _
         simp only [Act.put, List.setIfInBounds_toArray, List.set_cons_zero, List.set_cons_succ, i64_w, i32_w]
         rfl
       refine one_ (i := 12) (N := some 29) #[true, true, true, true, true, true, true, true, true, true, true, true, true, false, false, true, false] rfl rfl (by kernel_rfl) (by decide) (fun K hK => ?_)
       refine call_ 45 #[.slice (some ad) l0.length c0, .int .i64 13, .int .i64 4] (by rfl) rfl (by
        have he := fun args w => enters_ (f := 45) Try.func45 (by kernel_rfl) rfl args w
        simp [go_sem, he]) ?_
       refine (scullerref13_get.calls (some ad) c0 l0 13 4 n4 _ (Kd.C_below HR0.out (below_then HB2.out HB2.out.size HX.out)) HC0.out G4.out).mono ?_
       rintro e v17 ⟨rfl, hbx⟩
       refine ⟨_, rfl, ?_⟩
       replace KZ := Aside0.mk (blk_below KZ.out hbx)
       replace HX := Aside0.mk (below_then HX.out HX.out.size hbx)
       clear hbx
       clear hHeld v16
       refine hK.out _ _ (HB0.out _ (below_then HB2.out HB2.out.size HX.out)) (fun hHeld => ?_)
       clear hK K
       refine norm_ (a' := ?_) ?_ ?_
       rotate_left
       · show Act.put _ (some 29) _ = _
         simp only [Act.put, List.setIfInBounds_toArray, List.set_cons_zero, List.set_cons_succ, i64_w, i32_w]
         rfl
       refine pure_ (i := 13) (N := some 30) (v := ?_) (a' := ?_) #[true, true, true, true, true, true, true, true, true, true, true, true, true, true, false, true, false] rfl rfl (by kernel_rfl) (fun _ _ _ h => h) (Or.inl ⟨by rfl, ?_⟩) ?_ ?_
       rotate_left
       · intro w'
         go_simp
         with_reducible rfl
       rotate_left
       · simp only [Act.put, List.setIfInBounds_toArray, List.set_cons_zero, List.set_cons_succ, i64_w, i32_w]
         rfl
       refine pure_ (i := 14) (N := some 31) (v := ?_) (a' := ?_) #[true, true, true, true, true, true, true, true, true, true, true, true, true, true, true, true, false] rfl rfl (by kernel_rfl) (fun _ _ _ h => h) (Or.inl ⟨by rfl, ?_⟩) ?_ ?_
       rotate_left
       · intro w'
         go_simp
         with_reducible rfl
       rotate_left
       · simp only [Act.put, List.setIfInBounds_toArray, List.set_cons_zero, List.set_cons_succ, i64_w, i32_w]
         rfl
       exact norm_ (by first | (simp only [putAll, Act.put, List.setIfInBounds_toArray, List.set_cons_zero, List.set_cons_succ]; done) | (simp only [putAll, Act.put, List.setIfInBounds_toArray, List.set_cons_zero, List.set_cons_succ]; rfl)) (hCont g v17 ⟨KZ, HX, GQ⟩)
   · skip
     refine value_ (w1 := u.alloc (.cells #[.int .i64 0, .int .u64 0, .int .i64 0, .int .i64 0, .int .u32 0, .slice none 0 0, .slice none 0 0] 28)) (v := .pointer (some ⟨u.heap.size, 0, none⟩)) (by rfl) rfl (by go_simp; first | done | rfl) ?_
     have KZ := Aside0.mk (blk_new u (.cells #[.int .i64 0, .int .u64 0, .int .i64 0, .int .i64 0, .int .u32 0, .slice none 0 0, .slice none 0 0] 28))
     have GQ := Aside0.mk HX.out.size
     replace HX := Aside0.mk (below_alloc HX.out (.cells #[.int .i64 0, .int .u64 0, .int .i64 0, .int .i64 0, .int .u32 0, .slice none 0 0, .slice none 0 0] 28))
     generalize u.alloc (.cells #[.int .i64 0, .int .u64 0, .int .i64 0, .int .i64 0, .int .u32 0, .slice none 0 0, .slice none 0 0] 28) = v18 at KZ HX ⊢
     generalize u.heap.size = g at KZ GQ ⊢
     clear hHeld u
     refine hK.out _ _ (HB0.out _ (below_then HB2.out HB2.out.size HX.out)) (fun hHeld => ?_)
     clear hK K
     refine norm_ (a' := ?_) ?_ ?_
     rotate_left
     · show Act.put _ (some 4) _ = _
       simp only [Act.put, List.setIfInBounds_toArray, List.set_cons_zero, List.set_cons_succ, i64_w, i32_w]
       rfl
     refine one_ (i := 6) (N := some 23) #[true, true, true, true, true, true, true, true, false, true, false, true, false, false, false, true, false] rfl rfl (by kernel_rfl) (by decide) (fun K hK => ?_)
     refine call_ 44 #[.slice A1 p1.length (c0 - 1)] (by rfl) rfl (by
      have he := fun args w => enters_ (f := 44) Try.func44 (by kernel_rfl) rfl args w
      simp [go_sem, he]) ?_
     refine (scullerref01_Get_c.calls A1 (c0 - 1) p1 n1 _ (Kd.C_below CC1.out (below_then HB2.out HB2.out.size HX.out)) LL1.out G1.out).mono ?_
     rintro e v19 ⟨rfl, hbx⟩
     refine ⟨_, rfl, ?_⟩
     replace KZ := Aside0.mk (blk_below KZ.out hbx)
     replace HX := Aside0.mk (below_then HX.out HX.out.size hbx)
     clear hbx
     clear hHeld v18
     refine hK.out _ _ (HB0.out _ (below_then HB2.out HB2.out.size HX.out)) (fun hHeld => ?_)
     clear hK K
     refine norm_ (a' := ?_) ?_ ?_
     rotate_left
     · show Act.put _ (some 23) _ = _
       simp only [Act.put, List.setIfInBounds_toArray, List.set_cons_zero, List.set_cons_succ, i64_w, i32_w]
       rfl
     refine one_ (i := 8) (N := some 25) #[true, true, true, true, true, true, true, true, true, true, false, true, false, false, false, true, false] rfl rfl (by kernel_rfl) (by decide) (fun K hK => ?_)
     refine call_ 45 #[.slice (some ad) l0.length c0, .int .i64 9, .int .i64 2] (by rfl) rfl (by
      have he := fun args w => enters_ (f := 45) Try.func45 (by kernel_rfl) rfl args w
      simp [go_sem, he]) ?_
     refine (scullerref13_get.calls (some ad) c0 l0 9 2 n2 _ (Kd.C_below HR0.out (below_then HB2.out HB2.out.size HX.out)) HC0.out G2.out).mono ?_
     rintro e v20 ⟨rfl, hbx⟩
     refine ⟨_, rfl, ?_⟩
     replace KZ := Aside0.mk (blk_below KZ.out hbx)
     replace HX := Aside0.mk (below_then HX.out HX.out.size hbx)
     clear hbx
     clear hHeld v19
     refine hK.out _ _ (HB0.out _ (below_then HB2.out HB2.out.size HX.out)) (fun hHeld => ?_)
     clear hK K
     refine norm_ (a' := ?_) ?_ ?_
     rotate_left
     · show Act.put _ (some 25) _ = _
       simp only [Act.put, List.setIfInBounds_toArray, List.set_cons_zero, List.set_cons_succ, i64_w, i32_w]
       rfl
     refine one_ (i := 10) (N := some 27) #[true, true, true, true, true, true, true, true, true, true, true, true, false, false, false, true, false] rfl rfl (by kernel_rfl) (by decide) (fun K hK => ?_)
     refine call_ 45 #[.slice (some ad) l0.length c0, .int .i64 11, .int .i64 2] (by rfl) rfl (by
      have he := fun args w => enters_ (f := 45) Try.func45 (by kernel_rfl) rfl args w
      simp [go_sem, he]) ?_
     refine (scullerref13_get.calls (some ad) c0 l0 11 2 n3 _ (Kd.C_below HR0.out (below_then HB2.out HB2.out.size HX.out)) HC0.out G3.out).mono ?_
     rintro e v21 ⟨rfl, hbx⟩
     refine ⟨_, rfl, ?_⟩
     replace KZ := Aside0.mk (blk_below KZ.out hbx)
     replace HX := Aside0.mk (below_then HX.out HX.out.size hbx)
     clear hbx
     clear hHeld v20
     refine hK.out _ _ (HB0.out _ (below_then HB2.out HB2.out.size HX.out)) (fun hHeld => ?_)
     clear hK K
     refine norm_ (a' := ?_) ?_ ?_
     rotate_left
     · show Act.put _ (some 27) _ = _
       simp only [Act.put, List.setIfInBounds_toArray, List.set_cons_zero, List.set_cons_succ, i64_w, i32_w]
       rfl
     refine one_ (i := 12) (N := some 29) #[true, true, true, true, true, true, true, true, true, true, true, true, true, false, false, true, false] rfl rfl (by kernel_rfl) (by decide) (fun K hK => ?_)
     refine call_ 45 #[.slice (some ad) l0.length c0, .int .i64 13, .int .i64 4] (by rfl) rfl (by
      have he := fun args w => enters_ (f := 45) Try.func45 (by kernel_rfl) rfl args w
      simp [go_sem, he]) ?_
     refine (scullerref13_get.calls (some ad) c0 l0 13 4 n4 _ (Kd.C_below HR0.out (below_then HB2.out HB2.out.size HX.out)) HC0.out G4.out).mono ?_
     rintro e v22 ⟨rfl, hbx⟩
     refine ⟨_, rfl, ?_⟩
     replace KZ := Aside0.mk (blk_below KZ.out hbx)
     replace HX := Aside0.mk (below_then HX.out HX.out.size hbx)
     clear hbx
     clear hHeld v21
     refine hK.out _ _ (HB0.out _ (below_then HB2.out HB2.out.size HX.out)) (fun hHeld => ?_)
     clear hK K
     refine norm_ (a' := ?_) ?_ ?_
     rotate_left
     · show Act.put _ (some 29) _ = _
       simp only [Act.put, List.setIfInBounds_toArray, List.set_cons_zero, List.set_cons_succ, i64_w, i32_w]
       rfl
     refine pure_ (i := 13) (N := some 30) (v := ?_) (a' := ?_) #[true, true, true, true, true, true, true, true, true, true, true, true, true, true, false, true, false] rfl rfl (by kernel_rfl) (fun _ _ _ h => h) (Or.inl ⟨by rfl, ?_⟩) ?_ ?_
     rotate_left
     · intro w'
       go_simp
       with_reducible rfl
     rotate_left
     · simp only [Act.put, List.setIfInBounds_toArray, List.set_cons_zero, List.set_cons_succ, i64_w, i32_w]
       rfl
     refine pure_ (i := 14) (N := some 31) (v := ?_) (a' := ?_) #[true, true, true, true, true, true, true, true, true, true, true, true, true, true, true, true, false] rfl rfl (by kernel_rfl) (fun _ _ _ h => h) (Or.inl ⟨by rfl, ?_⟩) ?_ ?_
     rotate_left
     · intro w'
       go_simp
       with_reducible rfl
     rotate_left
     · simp only [Act.put, List.setIfInBounds_toArray, List.set_cons_zero, List.set_cons_succ, i64_w, i32_w]
       rfl
     exact norm_ (by first | (simp only [putAll, Act.put, List.setIfInBounds_toArray, List.set_cons_zero, List.set_cons_succ]; done) | (simp only [putAll, Act.put, List.setIfInBounds_toArray, List.set_cons_zero, List.set_cons_succ]; rfl)) (hCont g v22 ⟨KZ, HX, GQ⟩)
 rintro g4 u3 ⟨KZ, HX3, GQ⟩
 refine norm_ (a' := ?_) ?_ ?_
 rotate_left
 · simp only [putAll, Act.put, List.setIfInBounds_toArray, List.set_cons_zero, List.set_cons_succ]
   rfl
 have y0 : u3.cell? ⟨g4, 0, none⟩ = _ := (blk_cell KZ.out 0).trans rfl
 have yf0 := blk_frozen KZ.out 0
 have y1 : u3.cell? ⟨g4, 1, none⟩ = _ := (blk_cell KZ.out 1).trans rfl
 have yf1 := blk_frozen KZ.out 1
 have y2 : u3.cell? ⟨g4, 2, none⟩ = _ := (blk_cell KZ.out 2).trans rfl
 have yf2 := blk_frozen KZ.out 2
 have y3 : u3.cell? ⟨g4, 3, none⟩ = _ := (blk_cell KZ.out 3).trans rfl
 have yf3 := blk_frozen KZ.out 3
 have y4 : u3.cell? ⟨g4, 4, none⟩ = _ := (blk_cell KZ.out 4).trans rfl
 have yf4 := blk_frozen KZ.out 4
 have y5 : u3.cell? ⟨g4, 5, none⟩ = _ := (blk_cell KZ.out 5).trans rfl
 have yf5 := blk_frozen KZ.out 5
 have y6 : u3.cell? ⟨g4, 6, none⟩ = _ := (blk_cell KZ.out 6).trans rfl
 have yf6 := blk_frozen KZ.out 6
 refine last_ (i := 16) (N := none) #[true, true, true, true, true, true, true, true, true, true, true, true, true, true, true, true, true] rfl rfl (by kernel_rfl) (by decide) (fun K hK => ?_)
 refine skip_ (w1 := (((((((u3.setCell ⟨g4, 0, none⟩ (.int .i64 b0)).setCell ⟨g4, 1, none⟩ (.int .u64 n1)).setCell ⟨g4, 2, none⟩ (.int .i64 n2)).setCell ⟨g4, 3, none⟩ (.int .i64 n3)).setCell ⟨g4, 4, none⟩ (.int .u32 n4)).setCell ⟨g4, 5, none⟩ (.slice none 0 0)).setCell ⟨g4, 6, none⟩ (.slice none 0 0))) (by rfl) rfl (by go_simp; done) ?_
 have KT := Aside0.mk (blk_put (cs := #[.int .i64 b0, .int .u64 n1, .int .i64 n2, .int .i64 n3, .int .u32 n4, .slice none 0 0, .slice none 0 0]) (blk_put (cs := #[.int .i64 b0, .int .u64 n1, .int .i64 n2, .int .i64 n3, .int .u32 n4, .slice none 0 0, .slice none 0 0]) (blk_put (cs := #[.int .i64 b0, .int .u64 n1, .int .i64 n2, .int .i64 n3, .int .u32 0, .slice none 0 0, .slice none 0 0]) (blk_put (cs := #[.int .i64 b0, .int .u64 n1, .int .i64 n2, .int .i64 0, .int .u32 0, .slice none 0 0, .slice none 0 0]) (blk_put (cs := #[.int .i64 b0, .int .u64 n1, .int .i64 0, .int .i64 0, .int .u32 0, .slice none 0 0, .slice none 0 0]) (blk_put (cs := #[.int .i64 b0, .int .u64 0, .int .i64 0, .int .i64 0, .int .u32 0, .slice none 0 0, .slice none 0 0]) (blk_put (cs := #[.int .i64 0, .int .u64 0, .int .i64 0, .int .i64 0, .int .u32 0, .slice none 0 0, .slice none 0 0]) KZ.out 0 (.int .i64 b0) rfl) 1 (.int .u64 n1) rfl) 2 (.int .i64 n2) rfl) 3 (.int .i64 n3) rfl) 4 (.int .u32 n4) rfl) 5 (.slice none 0 0) rfl) 6 (.slice none 0 0) rfl)
 have HX4 := Aside0.mk (show Below w2.heap.size w2 (((((((u3.setCell ⟨g4, 0, none⟩ (.int .i64 b0)).setCell ⟨g4, 1, none⟩ (.int .u64 n1)).setCell ⟨g4, 2, none⟩ (.int .i64 n2)).setCell ⟨g4, 3, none⟩ (.int .i64 n3)).setCell ⟨g4, 4, none⟩ (.int .u32 n4)).setCell ⟨g4, 5, none⟩ (.slice none 0 0)).setCell ⟨g4, 6, none⟩ (.slice none 0 0)) from (below_set (below_set (below_set (below_set (below_set (below_set (below_set HX3.out GQ.out) GQ.out) GQ.out) GQ.out) GQ.out) GQ.out) GQ.out))
 generalize (((((((u3.setCell ⟨g4, 0, none⟩ (.int .i64 b0)).setCell ⟨g4, 1, none⟩ (.int .u64 n1)).setCell ⟨g4, 2, none⟩ (.int .i64 n2)).setCell ⟨g4, 3, none⟩ (.int .i64 n3)).setCell ⟨g4, 4, none⟩ (.int .u32 n4)).setCell ⟨g4, 5, none⟩ (.slice none 0 0)).setCell ⟨g4, 6, none⟩ (.slice none 0 0)) = u4 at KT HX4 ⊢
 refine hK.out _ _ ?_
 clear hK K y0 yf0 y1 yf1 y2 yf2 y3 yf3 y4 yf4 y5 yf5 y6 yf6 KZ HX3
 refine done_ (by kernel_rfl) ?_
 have HST := Aside0.mk (show RSt w u4 g0 g4 b0 n1 n2 n3 n4 (.slice none 0 0) [] from ⟨blk_below BK2.out HX4.out, KT.out, Kd.R_nil _ _ _ _ _, below_then HB2.out HB2.out.size HX4.out, GE0.out, by have := HB2.out.size; have := GQ.out; omega, by have := blk_lt BK2.out; have := GQ.out; omega⟩)
 clear KT HX4 BK2 HB2 HB1 GQ hcb hna2 hHeld hpos BK0
 have y0 : u4.cell? ⟨g4, 0, none⟩ = some (.int .i64 b0) := (blk_cell HST.out.k4 0).trans rfl
 have y6 : u4.cell? ⟨g4, 6, none⟩ = some (.slice none 0 0) := (blk_cell HST.out.k4 6).trans rfl
 have yf6 := blk_frozen HST.out.k4 6
 by_cases hk : b0 = 1
 rotate_left
 · have hkb : (b0 == 1) = false := by simpa using hk
   go_upto_region 13 with (fail)
   have k4 := blk_put (cs := #[.int .i64 b0, .int .u64 n1, .int .i64 n2, .int .i64 n3, .int .u32 n4, .slice none 0 0, .slice none 0 0]) HST.out.k4 6 (.slice A5 rest.length (c0 - 17)) rfl
   have k0 := blk_far (p := ⟨g4, 6, none⟩) HST.out.k0 HST.out.ne (.slice A5 rest.length (c0 - 17))
   have bw := below_set (g := g4) (j := 6) (v := .slice A5 rest.length (c0 - 17)) HST.out.bel HST.out.l4
   generalize (u4.setCell ⟨g4, 6, none⟩ (.slice A5 rest.length (c0 - 17))) = W9 at k4 k0 bw ⊢
   have K49 := Aside0.mk k4
   have K09 := Aside0.mk k0
   have BW9 := Aside0.mk bw
   clear k4 k0 bw y0 y6 yf6 HST
   have y0 : W9.cell? ⟨g4, 0, none⟩ = _ := (blk_cell K49.out 0).trans rfl
   have y1 : W9.cell? ⟨g4, 1, none⟩ = _ := (blk_cell K49.out 1).trans rfl
   have y2 : W9.cell? ⟨g4, 2, none⟩ = _ := (blk_cell K49.out 2).trans rfl
   have y3 : W9.cell? ⟨g4, 3, none⟩ = _ := (blk_cell K49.out 3).trans rfl
   have y4 : W9.cell? ⟨g4, 4, none⟩ = _ := (blk_cell K49.out 4).trans rfl
   have y5 : W9.cell? ⟨g4, 5, none⟩ = _ := (blk_cell K49.out 5).trans rfl
   have y6 : W9.cell? ⟨g4, 6, none⟩ = _ := (blk_cell K49.out 6).trans rfl
   have HI5 : (if b0 = 1 then pairsF rest (rest.length / 2) else []) = [] := if_neg hk
   have HI6 : (if b0 = 1 then [] else rest) = rest := if_neg hk
   have C60 := Aside0.mk CC5.out
   obtain ⟨cc, ee, hce⟩ : ∃ cc ee, encodeG b0 n1 n2 n3 n4 [] rest = (cc, ee) := ⟨_, _, rfl⟩
   have hh := HH2.out
   rw [HI5, HI6, hce] at hh
   have HEN := Aside0.mk (show scullerref13_Encode_c.f b0 n1 n2 n3 n4 [] rest = some (cc, ee) by rw [scullerref13_Encode_c.f, if_pos ⟨by simp, by omega, hrb, by omega, by omega, by omega⟩, hce])
   have hcb : bytesB cc = true := by
    have h9 := hce
    unfold encodeG at h9
    split at h9
    · obtain rfl := congrArg Prod.fst h9
      exact sealL_byte _ (gramB_byte _ _ _ _ _ _ _ hrb)
    · cases h9
      rfl
   have hbe := strs_beq cc l0 hcb hbb
   clear hce hcb HI5 HI6
   by_cases hee : ee = 0
   · subst hee
     by_cases hcc : cc = l0
     · rw [if_pos (by rw [hcc])] at hh
       simp only [Prod.mk.injEq] at hh
       obtain ⟨e1, e2, e3, e4, e5, e6, e7, e8⟩ := hh
       subst e1 e2 e3 e4 e5 e6 e7 e8
       rw [decide_eq_true hcc] at hbe
       have hbn : ((strOfNums cc).toList != (strOfNums l0).toList) = false := by rw [bne, hbe]; rfl
       clear hcc
       go_wp2_with (first
        | (go_at_call 15; refine (scullerref13_Encode_c.calls b0 n1 n2 n3 n4 none 0 [] A5 (c0 - 17) rest cc 0 _ (Kd.R_reads' (Kd.R_nil (Kd.int .i64) 3 W9 w.heap.size (fun _ => True))).2.2 (Kd.R_reads' (Kd.R_nil (Kd.int .i64) 3 W9 w.heap.size (fun _ => True))).2.1 (Kd.C_below CC5.out BW9.out) LL5.out HEN.out).mono ?_; rintro e w13 ⟨v13, rfl, ho, hb⟩; obtain ⟨A13, c13, eo⟩ := Kd.R_slice ho; subst eo; have HO13 := Aside0.mk ho; have KT13 := Aside0.mk (blk_below K49.out hb); have K013 := Aside0.mk (blk_below K09.out hb); have R513 := Aside0.mk (Kd.R_below (Kd.R_nil (Kd.int .i64) 3 W9 w.heap.size (fun _ => True)) hb); have BW13 := Aside0.mk (below_then BW9.out BW9.out.size hb); clear y0 y1 y2 y3 y4 y5 y6; have y0 : w13.cell? ⟨g4, 0, none⟩ = _ := (blk_cell KT13.out 0).trans rfl; have y1 : w13.cell? ⟨g4, 1, none⟩ = _ := (blk_cell KT13.out 1).trans rfl; have y2 : w13.cell? ⟨g4, 2, none⟩ = _ := (blk_cell KT13.out 2).trans rfl; have y3 : w13.cell? ⟨g4, 3, none⟩ = _ := (blk_cell KT13.out 3).trans rfl; have y4 : w13.cell? ⟨g4, 4, none⟩ = _ := (blk_cell KT13.out 4).trans rfl; have y5 : w13.cell? ⟨g4, 5, none⟩ = _ := (blk_cell KT13.out 5).trans rfl; have y6 : w13.cell? ⟨g4, 6, none⟩ = _ := (blk_cell KT13.out 6).trans rfl; have z0 : w13.cell? ⟨g0, 0, none⟩ = _ := (blk_cell K013.out 0).trans rfl; have z1 : w13.cell? ⟨g0, 1, none⟩ = _ := (blk_cell K013.out 1).trans rfl; have z2 : w13.cell? ⟨g0, 2, none⟩ = _ := (blk_cell K013.out 2).trans rfl; have z3 : w13.cell? ⟨g0, 3, none⟩ = _ := (blk_cell K013.out 3).trans rfl; have z4 : w13.cell? ⟨g0, 4, none⟩ = _ := (blk_cell K013.out 4).trans rfl; have z5 : w13.cell? ⟨g0, 5, none⟩ = _ := (blk_cell K013.out 5).trans rfl; have z6 : w13.cell? ⟨g0, 6, none⟩ = _ := (blk_cell K013.out 6).trans rfl; have zf0 := blk_frozen K013.out 0; have zf1 := blk_frozen K013.out 1; have zf2 := blk_frozen K013.out 2; have zf3 := blk_frozen K013.out 3; have zf4 := blk_frozen K013.out 4; have zf5 := blk_frozen K013.out 5; have zf6 := blk_frozen K013.out 6; have hcv1 := Kd.C_string (P := Try.prog) (A := A13) (c := c13) Try.underlying25 Try.underlying5 Try.underlying9 (Kd.R_reads' HO13.out).2.2; have hcv2 := Kd.C_string (P := Try.prog) (A := some ad) (c := c0) Try.underlying25 Try.underlying5 Try.underlying9 (Kd.C_below HR0.out BW13.out); clear hb ho))
       have k0 := K013.out
       have q5 := R513.out
       have bw := BW13.out
       have q5 := Kd.R_set q5 k0 (by decide) 0 (.int .i64 b0)
       have bw := below_set (j := 0) (v := .int .i64 b0) bw GE0.out
       have k0 := blk_put (cs := #[.int .i64 0, .int .u64 0, .int .i64 0, .int .i64 0, .int .u32 0, .slice none 0 0, .slice none 0 0]) k0 0 (.int .i64 b0) rfl
       have q5 := Kd.R_set q5 k0 (by decide) 1 (.int .u64 n1)
       have bw := below_set (j := 1) (v := .int .u64 n1) bw GE0.out
       have k0 := blk_put (cs := #[.int .i64 b0, .int .u64 0, .int .i64 0, .int .i64 0, .int .u32 0, .slice none 0 0, .slice none 0 0]) k0 1 (.int .u64 n1) rfl
       have q5 := Kd.R_set q5 k0 (by decide) 2 (.int .i64 n2)
       have bw := below_set (j := 2) (v := .int .i64 n2) bw GE0.out
       have k0 := blk_put (cs := #[.int .i64 b0, .int .u64 n1, .int .i64 0, .int .i64 0, .int .u32 0, .slice none 0 0, .slice none 0 0]) k0 2 (.int .i64 n2) rfl
       have q5 := Kd.R_set q5 k0 (by decide) 3 (.int .i64 n3)
       have bw := below_set (j := 3) (v := .int .i64 n3) bw GE0.out
       have k0 := blk_put (cs := #[.int .i64 b0, .int .u64 n1, .int .i64 n2, .int .i64 0, .int .u32 0, .slice none 0 0, .slice none 0 0]) k0 3 (.int .i64 n3) rfl
       have q5 := Kd.R_set q5 k0 (by decide) 4 (.int .u32 n4)
       have bw := below_set (j := 4) (v := .int .u32 n4) bw GE0.out
       have k0 := blk_put (cs := #[.int .i64 b0, .int .u64 n1, .int .i64 n2, .int .i64 n3, .int .u32 0, .slice none 0 0, .slice none 0 0]) k0 4 (.int .u32 n4) rfl
       have q5 := Kd.R_set q5 k0 (by decide) 5 (.slice none 0 0)
       have bw := below_set (j := 5) (v := .slice none 0 0) bw GE0.out
       have k0 := blk_put (cs := #[.int .i64 b0, .int .u64 n1, .int .i64 n2, .int .i64 n3, .int .u32 n4, .slice none 0 0, .slice none 0 0]) k0 5 (.slice none 0 0) rfl
       have q5 := Kd.R_set q5 k0 (by decide) 6 (.slice A5 rest.length (c0 - 17))
       have bw := below_set (j := 6) (v := .slice A5 rest.length (c0 - 17)) bw GE0.out
       have k0 := blk_put (cs := #[.int .i64 b0, .int .u64 n1, .int .i64 n2, .int .i64 n3, .int .u32 n4, .slice none 0 0, .slice none 0 0]) k0 6 (.slice A5 rest.length (c0 - 17)) rfl
       refine bodyPost_ret (results_ct rfl _ _ g0 28 _ (0, 0) _ rfl k0 hu28 rfl (by kernel_rfl)) rfl ?_
       exact ⟨_, _, _, rfl, q5, Kd.C_below C60.out bw, LL5.out, bw⟩
     · rw [if_neg (by intro e; exact hcc (congrArg Prod.fst e))] at hh
       simp only [Prod.mk.injEq] at hh
       obtain ⟨e1, e2, e3, e4, e5, e6, e7, e8⟩ := hh
       subst e1 e2 e3 e4 e5 e6 e7 e8
       rw [decide_eq_false hcc] at hbe
       have hbn : ((strOfNums cc).toList != (strOfNums l0).toList) = true := by rw [bne, hbe]; rfl
       clear hcc
       go_wp2_with (first
        | (go_at_call 15; refine (scullerref13_Encode_c.calls b0 n1 n2 n3 n4 none 0 [] A5 (c0 - 17) rest cc 0 _ (Kd.R_reads' (Kd.R_nil (Kd.int .i64) 3 W9 w.heap.size (fun _ => True))).2.2 (Kd.R_reads' (Kd.R_nil (Kd.int .i64) 3 W9 w.heap.size (fun _ => True))).2.1 (Kd.C_below CC5.out BW9.out) LL5.out HEN.out).mono ?_; rintro e w13 ⟨v13, rfl, ho, hb⟩; obtain ⟨A13, c13, eo⟩ := Kd.R_slice ho; subst eo; have HO13 := Aside0.mk ho; have KT13 := Aside0.mk (blk_below K49.out hb); have K013 := Aside0.mk (blk_below K09.out hb); have R513 := Aside0.mk (Kd.R_below (Kd.R_nil (Kd.int .i64) 3 W9 w.heap.size (fun _ => True)) hb); have BW13 := Aside0.mk (below_then BW9.out BW9.out.size hb); clear y0 y1 y2 y3 y4 y5 y6; have y0 : w13.cell? ⟨g4, 0, none⟩ = _ := (blk_cell KT13.out 0).trans rfl; have y1 : w13.cell? ⟨g4, 1, none⟩ = _ := (blk_cell KT13.out 1).trans rfl; have y2 : w13.cell? ⟨g4, 2, none⟩ = _ := (blk_cell KT13.out 2).trans rfl; have y3 : w13.cell? ⟨g4, 3, none⟩ = _ := (blk_cell KT13.out 3).trans rfl; have y4 : w13.cell? ⟨g4, 4, none⟩ = _ := (blk_cell KT13.out 4).trans rfl; have y5 : w13.cell? ⟨g4, 5, none⟩ = _ := (blk_cell KT13.out 5).trans rfl; have y6 : w13.cell? ⟨g4, 6, none⟩ = _ := (blk_cell KT13.out 6).trans rfl; have z0 : w13.cell? ⟨g0, 0, none⟩ = _ := (blk_cell K013.out 0).trans rfl; have z1 : w13.cell? ⟨g0, 1, none⟩ = _ := (blk_cell K013.out 1).trans rfl; have z2 : w13.cell? ⟨g0, 2, none⟩ = _ := (blk_cell K013.out 2).trans rfl; have z3 : w13.cell? ⟨g0, 3, none⟩ = _ := (blk_cell K013.out 3).trans rfl; have z4 : w13.cell? ⟨g0, 4, none⟩ = _ := (blk_cell K013.out 4).trans rfl; have z5 : w13.cell? ⟨g0, 5, none⟩ = _ := (blk_cell K013.out 5).trans rfl; have z6 : w13.cell? ⟨g0, 6, none⟩ = _ := (blk_cell K013.out 6).trans rfl; have zf0 := blk_frozen K013.out 0; have zf1 := blk_frozen K013.out 1; have zf2 := blk_frozen K013.out 2; have zf3 := blk_frozen K013.out 3; have zf4 := blk_frozen K013.out 4; have zf5 := blk_frozen K013.out 5; have zf6 := blk_frozen K013.out 6; have hcv1 := Kd.C_string (P := Try.prog) (A := A13) (c := c13) Try.underlying25 Try.underlying5 Try.underlying9 (Kd.R_reads' HO13.out).2.2; have hcv2 := Kd.C_string (P := Try.prog) (A := some ad) (c := c0) Try.underlying25 Try.underlying5 Try.underlying9 (Kd.C_below HR0.out BW13.out); clear hb ho))
       have k0 := K013.out
       have q5 := R513.out
       have bw := BW13.out
       have q5 := Kd.R_set q5 k0 (by decide) 0 (.int .i64 0)
       have bw := below_set (j := 0) (v := .int .i64 0) bw GE0.out
       have k0 := blk_put (cs := #[.int .i64 0, .int .u64 0, .int .i64 0, .int .i64 0, .int .u32 0, .slice none 0 0, .slice none 0 0]) k0 0 (.int .i64 0) rfl
       have q5 := Kd.R_set q5 k0 (by decide) 1 (.int .u64 0)
       have bw := below_set (j := 1) (v := .int .u64 0) bw GE0.out
       have k0 := blk_put (cs := #[.int .i64 0, .int .u64 0, .int .i64 0, .int .i64 0, .int .u32 0, .slice none 0 0, .slice none 0 0]) k0 1 (.int .u64 0) rfl
       have q5 := Kd.R_set q5 k0 (by decide) 2 (.int .i64 0)
       have bw := below_set (j := 2) (v := .int .i64 0) bw GE0.out
       have k0 := blk_put (cs := #[.int .i64 0, .int .u64 0, .int .i64 0, .int .i64 0, .int .u32 0, .slice none 0 0, .slice none 0 0]) k0 2 (.int .i64 0) rfl
       have q5 := Kd.R_set q5 k0 (by decide) 3 (.int .i64 0)
       have bw := below_set (j := 3) (v := .int .i64 0) bw GE0.out
       have k0 := blk_put (cs := #[.int .i64 0, .int .u64 0, .int .i64 0, .int .i64 0, .int .u32 0, .slice none 0 0, .slice none 0 0]) k0 3 (.int .i64 0) rfl
       have q5 := Kd.R_set q5 k0 (by decide) 4 (.int .u32 0)
       have bw := below_set (j := 4) (v := .int .u32 0) bw GE0.out
       have k0 := blk_put (cs := #[.int .i64 0, .int .u64 0, .int .i64 0, .int .i64 0, .int .u32 0, .slice none 0 0, .slice none 0 0]) k0 4 (.int .u32 0) rfl
       have q5 := Kd.R_set q5 k0 (by decide) 5 (.slice none 0 0)
       have bw := below_set (j := 5) (v := .slice none 0 0) bw GE0.out
       have k0 := blk_put (cs := #[.int .i64 0, .int .u64 0, .int .i64 0, .int .i64 0, .int .u32 0, .slice none 0 0, .slice none 0 0]) k0 5 (.slice none 0 0) rfl
       have q5 := Kd.R_set q5 k0 (by decide) 6 (.slice none 0 0)
       have bw := below_set (j := 6) (v := .slice none 0 0) bw GE0.out
       have k0 := blk_put (cs := #[.int .i64 0, .int .u64 0, .int .i64 0, .int .i64 0, .int .u32 0, .slice none 0 0, .slice none 0 0]) k0 6 (.slice none 0 0) rfl
       refine bodyPost_ret (results_ct rfl _ _ g0 28 _ (0, 0) _ rfl k0 hu28 rfl (by kernel_rfl)) rfl ?_
       exact ⟨_, none, 0, rfl, Kd.R_nil _ _ _ _ _, hnilC _, by simp, bw⟩
   · rw [if_neg (by intro e; exact hee (congrArg Prod.snd e))] at hh
     simp only [Prod.mk.injEq] at hh
     obtain ⟨e1, e2, e3, e4, e5, e6, e7, e8⟩ := hh
     subst e1 e2 e3 e4 e5 e6 e7 e8
     have hee2 : (ee != 0) = true := by simpa using hee
     clear hee hbe
     go_wp2_with (first
      | (go_at_call 15; refine (scullerref13_Encode_c.calls b0 n1 n2 n3 n4 none 0 [] A5 (c0 - 17) rest cc ee _ (Kd.R_reads' (Kd.R_nil (Kd.int .i64) 3 W9 w.heap.size (fun _ => True))).2.2 (Kd.R_reads' (Kd.R_nil (Kd.int .i64) 3 W9 w.heap.size (fun _ => True))).2.1 (Kd.C_below CC5.out BW9.out) LL5.out HEN.out).mono ?_; rintro e w13 ⟨v13, rfl, ho, hb⟩; obtain ⟨A13, c13, eo⟩ := Kd.R_slice ho; subst eo; have HO13 := Aside0.mk ho; have KT13 := Aside0.mk (blk_below K49.out hb); have K013 := Aside0.mk (blk_below K09.out hb); have R513 := Aside0.mk (Kd.R_below (Kd.R_nil (Kd.int .i64) 3 W9 w.heap.size (fun _ => True)) hb); have BW13 := Aside0.mk (below_then BW9.out BW9.out.size hb); clear y0 y1 y2 y3 y4 y5 y6; have y0 : w13.cell? ⟨g4, 0, none⟩ = _ := (blk_cell KT13.out 0).trans rfl; have y1 : w13.cell? ⟨g4, 1, none⟩ = _ := (blk_cell KT13.out 1).trans rfl; have y2 : w13.cell? ⟨g4, 2, none⟩ = _ := (blk_cell KT13.out 2).trans rfl; have y3 : w13.cell? ⟨g4, 3, none⟩ = _ := (blk_cell KT13.out 3).trans rfl; have y4 : w13.cell? ⟨g4, 4, none⟩ = _ := (blk_cell KT13.out 4).trans rfl; have y5 : w13.cell? ⟨g4, 5, none⟩ = _ := (blk_cell KT13.out 5).trans rfl; have y6 : w13.cell? ⟨g4, 6, none⟩ = _ := (blk_cell KT13.out 6).trans rfl; have z0 : w13.cell? ⟨g0, 0, none⟩ = _ := (blk_cell K013.out 0).trans rfl; have z1 : w13.cell? ⟨g0, 1, none⟩ = _ := (blk_cell K013.out 1).trans rfl; have z2 : w13.cell? ⟨g0, 2, none⟩ = _ := (blk_cell K013.out 2).trans rfl; have z3 : w13.cell? ⟨g0, 3, none⟩ = _ := (blk_cell K013.out 3).trans rfl; have z4 : w13.cell? ⟨g0, 4, none⟩ = _ := (blk_cell K013.out 4).trans rfl; have z5 : w13.cell? ⟨g0, 5, none⟩ = _ := (blk_cell K013.out 5).trans rfl; have z6 : w13.cell? ⟨g0, 6, none⟩ = _ := (blk_cell K013.out 6).trans rfl; have zf0 := blk_frozen K013.out 0; have zf1 := blk_frozen K013.out 1; have zf2 := blk_frozen K013.out 2; have zf3 := blk_frozen K013.out 3; have zf4 := blk_frozen K013.out 4; have zf5 := blk_frozen K013.out 5; have zf6 := blk_frozen K013.out 6; have hcv1 := Kd.C_string (P := Try.prog) (A := A13) (c := c13) Try.underlying25 Try.underlying5 Try.underlying9 (Kd.R_reads' HO13.out).2.2; have hcv2 := Kd.C_string (P := Try.prog) (A := some ad) (c := c0) Try.underlying25 Try.underlying5 Try.underlying9 (Kd.C_below HR0.out BW13.out); clear hb ho))
     have k0 := K013.out
     have q5 := R513.out
     have bw := BW13.out
     have q5 := Kd.R_set q5 k0 (by decide) 0 (.int .i64 0)
     have bw := below_set (j := 0) (v := .int .i64 0) bw GE0.out
     have k0 := blk_put (cs := #[.int .i64 0, .int .u64 0, .int .i64 0, .int .i64 0, .int .u32 0, .slice none 0 0, .slice none 0 0]) k0 0 (.int .i64 0) rfl
     have q5 := Kd.R_set q5 k0 (by decide) 1 (.int .u64 0)
     have bw := below_set (j := 1) (v := .int .u64 0) bw GE0.out
     have k0 := blk_put (cs := #[.int .i64 0, .int .u64 0, .int .i64 0, .int .i64 0, .int .u32 0, .slice none 0 0, .slice none 0 0]) k0 1 (.int .u64 0) rfl
     have q5 := Kd.R_set q5 k0 (by decide) 2 (.int .i64 0)
     have bw := below_set (j := 2) (v := .int .i64 0) bw GE0.out
     have k0 := blk_put (cs := #[.int .i64 0, .int .u64 0, .int .i64 0, .int .i64 0, .int .u32 0, .slice none 0 0, .slice none 0 0]) k0 2 (.int .i64 0) rfl
     have q5 := Kd.R_set q5 k0 (by decide) 3 (.int .i64 0)
     have bw := below_set (j := 3) (v := .int .i64 0) bw GE0.out
     have k0 := blk_put (cs := #[.int .i64 0, .int .u64 0, .int .i64 0, .int .i64 0, .int .u32 0, .slice none 0 0, .slice none 0 0]) k0 3 (.int .i64 0) rfl
     have q5 := Kd.R_set q5 k0 (by decide) 4 (.int .u32 0)
     have bw := below_set (j := 4) (v := .int .u32 0) bw GE0.out
     have k0 := blk_put (cs := #[.int .i64 0, .int .u64 0, .int .i64 0, .int .i64 0, .int .u32 0, .slice none 0 0, .slice none 0 0]) k0 4 (.int .u32 0) rfl
     have q5 := Kd.R_set q5 k0 (by decide) 5 (.slice none 0 0)
     have bw := below_set (j := 5) (v := .slice none 0 0) bw GE0.out
     have k0 := blk_put (cs := #[.int .i64 0, .int .u64 0, .int .i64 0, .int .i64 0, .int .u32 0, .slice none 0 0, .slice none 0 0]) k0 5 (.slice none 0 0) rfl
     have q5 := Kd.R_set q5 k0 (by decide) 6 (.slice none 0 0)
     have bw := below_set (j := 6) (v := .slice none 0 0) bw GE0.out
     have k0 := blk_put (cs := #[.int .i64 0, .int .u64 0, .int .i64 0, .int .i64 0, .int .u32 0, .slice none 0 0, .slice none 0 0]) k0 6 (.slice none 0 0) rfl
     refine bodyPost_ret (results_ct rfl _ _ g0 28 _ (0, 0) _ rfl k0 hu28 rfl (by kernel_rfl)) rfl ?_
     exact ⟨_, none, 0, rfl, Kd.R_nil _ _ _ _ _, hnilC _, by simp, bw⟩
 · subst hk
   go_wp2
   obtain ⟨n, hn⟩ : ∃ n, rest.length / 2 = n := ⟨_, rfl⟩
   have HN := Aside0.mk hn
   clear hn y0 y6 yf6
   go_loopg [6] n (fun g v6 wr => ∃ (k : Nat) (V : Value), k + g = n ∧ v6 = .int .i64 ((2 * k : Nat) : Int) ∧ Aside0 (RSt w wr g0 g4 1 n1 n2 n3 n4 V (pairsF rest k)))
   case atStart => exact ⟨0, _, by omega, rfl, HST⟩
   case round =>
    clear HST
    obtain ⟨k, V, hk, rfl, HS⟩ := hrel
    have HK : Hid _ := hk
    have hkn : 2 * n ≤ rest.length := by have := HN.out; omega
    have hkn2 : rest.length ≤ 2 * n + 1 := by have := HN.out; omega
    by_cases hlt : k < n
    · obtain ⟨i, hi⟩ : ∃ i, 2 * k = i := ⟨_, rfl⟩
      have hi2 : i + 2 ≤ rest.length := by omega
      have hi9 : i ≤ 2000000 := by omega
      have hg := refGet_is rest hrb hrl i 2 (by omega) hi2
      have hps := pairsF_snoc rest k
      have hmid : midL rest i (i + 2) = (rest.drop (2 * k)).take 2 := by rw [hi]; unfold midL; rw [List.drop_take]; congr 1; omega
      have hxb := getL_mid rest hrb i (i + 2) 2 (by omega)
      rw [← hmid] at hps
      obtain ⟨x, hx⟩ : ∃ x, getL (midL rest i (i + 2)) = x := ⟨_, rfl⟩
      rw [hx] at hg hps hxb
      have HLT := Aside0.mk hlt
      have HG := Aside0.mk hg
      have HPS := Aside0.mk hps
      have HI := Aside0.mk hi
      have hil : (i : Int) + 1 < (rest.length : Int) := by omega
      rw [hi]
      clear hg hps hmid hx hi hk hkn hkn2 hlt
      go_wp2
      obtain ⟨AV, cV, eV⟩ := Kd.R_slice HS.out.row
      subst eV
      have HSd := Aside0.mk (HS.out.below ((Below.refl _ wr).drew))
      have hcell : wr.drew.cell? ⟨g4, 5, none⟩ = some (.slice AV (pairsF rest k).length cV) := (blk_cell HSd.out.k4 5).trans rfl
      refine start_ (n := 9) (S := fun w' => w'.cell? ⟨g4, 5, none⟩ = some (.slice AV (pairsF rest k).length cV)) (ds := [8]) #[false, false, false, false, false, false, false, false, false] (by kernel_rfl) rfl rfl hcell (fun hHeld => ?_)
      refine pure_ (i := 0) (N := some 47) (v := ?_) (a' := ?_) #[true, false, false, false, false, false, false, false, false] rfl rfl (by kernel_rfl) (fun _ _ _ h => h) (Or.inl ⟨by rfl, ?_⟩) ?_ ?_
      rotate_left
      · intro w'
        go_simp
        with_reducible rfl
      rotate_left
      · simp only [Act.put, List.setIfInBounds_toArray, List.set_cons_zero, List.set_cons_succ, i64_w, i32_w]
        rfl
      refine pure_ (i := 2) (N := some 49) (v := ?_) (a' := ?_) #[true, false, true, false, false, false, false, false, false] rfl rfl (by kernel_rfl) (fun _ _ _ h => h) (Or.inl ⟨by rfl, ?_⟩) ?_ ?_
      rotate_left
      · intro w'
        go_simp
        with_reducible rfl
      rotate_left
      · simp only [Act.put, List.setIfInBounds_toArray, List.set_cons_zero, List.set_cons_succ, i64_w, i32_w]
        rfl
      refine pure_ (i := 3) (N := some 50) (v := ?_) (a' := ?_) #[true, false, true, true, false, false, false, false, false] rfl rfl (by kernel_rfl) (fun _ _ _ h => h) (Or.inl ⟨by rfl, ?_⟩) ?_ ?_
      rotate_left
      · intro w'
        go_simp
        with_reducible rfl
      rotate_left
      · simp only [Act.put, List.setIfInBounds_toArray, List.set_cons_zero, List.set_cons_succ, i64_w, i32_w]
        rfl
      refine take_ (i := 1) (N := some 48) (v := ?_) (a' := ?_) #[true, true, true, true, false, false, false, false, false] rfl rfl (by kernel_rfl) (fun _ _ _ h => h) (Or.inl ⟨by rfl, ?_⟩) hHeld ?_ ?_
      rotate_left
      · intro w' s0
        go_simp
        with_reducible rfl
      rotate_left
      · simp only [Act.put, List.setIfInBounds_toArray, List.set_cons_zero, List.set_cons_succ, i64_w, i32_w]
        rfl
      refine one_ (i := 4) (N := some 51) #[true, true, true, true, true, false, false, false, false] rfl rfl (by kernel_rfl) (by decide) (fun K hK => ?_)
      refine call_ 45 #[.slice A5 rest.length (c0 - 17), .int .i64 (i : Int), .int .i64 2] (by rfl) rfl (by
       have he := fun args w => enters_ (f := 45) Try.func45 (by kernel_rfl) rfl args w
       simp [go_sem, he]) ?_
      refine (scullerref13_get.calls A5 (c0 - 17) rest (i : Int) 2 x _ (Kd.C_below CC5.out HSd.out.bel) LL5.out HG.out).mono ?_
      rintro e W9 ⟨rfl, hbx⟩
      refine ⟨_, rfl, ?_⟩
      have HD9 := Aside0.mk (HSd.out.below hbx)
      clear hbx
      refine hK.out _ _ ((blk_cell HD9.out.k4 5).trans rfl) (fun hHeld => ?_)
      clear hK K
      refine norm_ (a' := ?_) ?_ ?_
      rotate_left
      · show Act.put _ (some 51) _ = _
        simp only [Act.put, List.setIfInBounds_toArray, List.set_cons_zero, List.set_cons_succ, i64_w, i32_w]
        rfl
      have HD10 := Aside0.mk (HD9.out.below (below_alloc (Below.refl _ W9) (.cells #[.int .i64 x] 3)))
      refine one_ (i := 5) (N := some 52) #[true, true, true, true, true, true, false, false, false] rfl rfl (by kernel_rfl) (by decide) (fun K hK => ?_)
      refine value_ (v := .slice (some ⟨W9.heap.size, 0, none⟩) 1 1) (w1 := W9.alloc (.cells #[.int .i64 x] 3)) (by rfl) rfl (by go_simp; done) ?_
      refine hK.out _ _ ((blk_cell HD10.out.k4 5).trans rfl) (fun hHeld => ?_)
      clear hK K
      refine norm_ (a' := ?_) ?_ ?_
      rotate_left
      · show Act.put _ (some 52) _ = _
        simp only [Act.put, List.setIfInBounds_toArray, List.set_cons_zero, List.set_cons_succ, i64_w, i32_w]
        rfl
      refine one_ (i := 6) (N := some 53) #[true, true, true, true, true, true, true, false, false] rfl rfl (by kernel_rfl) (by decide) (fun K hK => ?_)
      refine Kd.R_append_step (Kd.int .i64) (w0 := w) w.heap.size (by rfl) (.tmp 48) (.tmp 52) 26 3 (.int .i64 0) 8 (by rfl) Try.underlying26 info3 rfl (by decide) (by omega) (.slice AV (pairsF rest k).length cV) (pairsF rest k) x [.int .i64 x] (fun _ => True) (fun _ => False) (by rfl) (by rfl) rfl (fun _ hk => hk.elim) (fun _ _ => trivial) HD9.out.row HD9.out.bel (below_size HD9.out.bel) (by rw [pairsF_length]; have := HK.out; have := HN.out; omega) ?_
      intro v11 w11 ho11 hb11 hg11 _
      rw [← HPS.out] at ho11
      obtain ⟨AV2, cV2, eV2⟩ := Kd.R_slice ho11
      subst eV2
      have hst11 := HD9.out.app w11 hg11 (.slice AV2 (pairsF rest (k + 1)).length cV2) (pairsF rest (k + 1)) ho11 hb11
      have km11 := blk_grown HD9.out.k4 hg11 (fun e => Kd.R_ne HD9.out.row HD9.out.k4 (by decide) e)
      have hc11 : w11.cell? ⟨g4, 5, none⟩ = some (.slice AV (pairsF rest k).length cV) := (blk_cell km11 5).trans rfl
      have hf11 := blk_frozen km11 5
      have HST11 := Aside0.mk hst11
      clear hst11 km11 ho11 hb11 hg11
      refine hK.out _ _ hc11 (fun hHeld => ?_)
      clear hK K
      refine norm_ (a' := ?_) ?_ ?_
      rotate_left
      · show Act.put _ (some 53) _ = _
        simp only [Act.put, List.setIfInBounds_toArray, List.set_cons_zero, List.set_cons_succ, i64_w, i32_w]
        rfl
      refine pure_ (i := 7) (N := some 54) (v := ?_) (a' := ?_) #[true, true, true, true, true, true, true, true, false] rfl rfl (by kernel_rfl) (fun _ _ _ h => h) (Or.inl ⟨by rfl, ?_⟩) ?_ ?_
      rotate_left
      · intro w'
        go_simp
        with_reducible rfl
      rotate_left
      · simp only [Act.put, List.setIfInBounds_toArray, List.set_cons_zero, List.set_cons_succ, i64_w, i32_w]
        rfl
      refine last_ (i := 8) (N := none) #[true, true, true, true, true, true, true, true, true] rfl rfl (by kernel_rfl) (by decide) (fun K hK => ?_)
      refine skip_ (w1 := w11.setCell ⟨g4, 5, none⟩ (.slice AV2 (pairsF rest (k + 1)).length cV2)) (by rfl) rfl (by go_simp; done) ?_
      refine hK.out _ _ ?_
      clear hK K
      refine done_ (by kernel_rfl) ?_
      go_wp2
      go_roundg (gk - 1)
      case measure => have := HK.out; have := HLT.out; omega
      case rel => exact ⟨k + 1, _, by have := HK.out; have := HLT.out; omega, by rw [show ((2 * (k + 1) : Nat) : Int) = (i : Int) + 2 from by have := HI.out; omega], HST11⟩
    · obtain rfl : k = n := by omega
      have hil : ¬ (((2 * k : Nat) : Int) + 1 < (rest.length : Int)) := by omega
      have hib : ((2 * k : Nat) : Int) ≤ 2000000 := by omega
      clear hk hkn hkn2 hlt
      skip
      obtain ⟨ps, hps⟩ : ∃ ps, pairsF rest k = ps := ⟨_, rfl⟩
      have HLP := Aside0.mk (show ps.length ≤ 1000000 by rw [← hps, pairsF_length]; have := HN.out; omega)
      have HI5 : (if True then pairsF rest (rest.length / 2) else []) = ps := by rw [if_pos trivial, HN.out, hps]
      have HI6 : (if True then [] else rest) = [] := if_pos trivial
      have HS9 := HS.out
      rw [hps] at HS9
      obtain ⟨AV, cV, eV⟩ := Kd.R_slice HS9.row
      subst eV
      have HSS := Aside0.mk HS9
      clear HS9 HS hps
      have y0 : wr.cell? ⟨g4, 0, none⟩ = _ := (blk_cell HSS.out.k4 0).trans rfl
      have y1 : wr.cell? ⟨g4, 1, none⟩ = _ := (blk_cell HSS.out.k4 1).trans rfl
      have y2 : wr.cell? ⟨g4, 2, none⟩ = _ := (blk_cell HSS.out.k4 2).trans rfl
      have y3 : wr.cell? ⟨g4, 3, none⟩ = _ := (blk_cell HSS.out.k4 3).trans rfl
      have y4 : wr.cell? ⟨g4, 4, none⟩ = _ := (blk_cell HSS.out.k4 4).trans rfl
      have y5 : wr.cell? ⟨g4, 5, none⟩ = _ := (blk_cell HSS.out.k4 5).trans rfl
      have y6 : wr.cell? ⟨g4, 6, none⟩ = _ := (blk_cell HSS.out.k4 6).trans rfl
      obtain ⟨cc, ee, hce⟩ : ∃ cc ee, encodeG 1 n1 n2 n3 n4 ps [] = (cc, ee) := ⟨_, _, rfl⟩
      have hh := HH2.out
      rw [HI5, HI6, hce] at hh
      have HEN := Aside0.mk (show scullerref13_Encode_c.f 1 n1 n2 n3 n4 ps [] = some (cc, ee) by rw [scullerref13_Encode_c.f, if_pos ⟨by have := HLP.out; omega, by simp, rfl, by omega, by omega, by omega⟩, hce])
      have hcb : bytesB cc = true := by
       have h9 := hce
       unfold encodeG at h9
       split at h9
       · obtain rfl := congrArg Prod.fst h9
         exact sealL_byte _ (gramB_byte _ _ _ _ _ _ _ rfl)
       · cases h9
         rfl
      have hbe := strs_beq cc l0 hcb hbb
      clear hce hcb HI5 HI6
      by_cases hee : ee = 0
      · subst hee
        by_cases hcc : cc = l0
        · rw [if_pos (by rw [hcc])] at hh
          simp only [Prod.mk.injEq] at hh
          obtain ⟨e1, e2, e3, e4, e5, e6, e7, e8⟩ := hh
          subst e1 e2 e3 e4 e5 e6 e7 e8
          rw [decide_eq_true hcc] at hbe
          have hbn : ((strOfNums cc).toList != (strOfNums l0).toList) = false := by rw [bne, hbe]; rfl
          clear hcc
          go_wp2_with (first
           | (go_at_call 15; refine (scullerref13_Encode_c.calls 1 n1 n2 n3 n4 AV cV ps none 0 [] cc 0 _ (Kd.R_reads' HSS.out.row).2.2 (Kd.R_reads' HSS.out.row).2.1 (hnilC _) (by simp) HEN.out).mono ?_; rintro e w13 ⟨v13, rfl, ho, hb⟩; obtain ⟨A13, c13, eo⟩ := Kd.R_slice ho; subst eo; have HO13 := Aside0.mk ho; have KT13 := Aside0.mk (blk_below HSS.out.k4 hb); have K013 := Aside0.mk (blk_below HSS.out.k0 hb); have R513 := Aside0.mk (Kd.R_below HSS.out.row hb); have BW13 := Aside0.mk (below_then HSS.out.bel HSS.out.bel.size hb); clear y0 y1 y2 y3 y4 y5 y6; have y0 : w13.cell? ⟨g4, 0, none⟩ = _ := (blk_cell KT13.out 0).trans rfl; have y1 : w13.cell? ⟨g4, 1, none⟩ = _ := (blk_cell KT13.out 1).trans rfl; have y2 : w13.cell? ⟨g4, 2, none⟩ = _ := (blk_cell KT13.out 2).trans rfl; have y3 : w13.cell? ⟨g4, 3, none⟩ = _ := (blk_cell KT13.out 3).trans rfl; have y4 : w13.cell? ⟨g4, 4, none⟩ = _ := (blk_cell KT13.out 4).trans rfl; have y5 : w13.cell? ⟨g4, 5, none⟩ = _ := (blk_cell KT13.out 5).trans rfl; have y6 : w13.cell? ⟨g4, 6, none⟩ = _ := (blk_cell KT13.out 6).trans rfl; have z0 : w13.cell? ⟨g0, 0, none⟩ = _ := (blk_cell K013.out 0).trans rfl; have z1 : w13.cell? ⟨g0, 1, none⟩ = _ := (blk_cell K013.out 1).trans rfl; have z2 : w13.cell? ⟨g0, 2, none⟩ = _ := (blk_cell K013.out 2).trans rfl; have z3 : w13.cell? ⟨g0, 3, none⟩ = _ := (blk_cell K013.out 3).trans rfl; have z4 : w13.cell? ⟨g0, 4, none⟩ = _ := (blk_cell K013.out 4).trans rfl; have z5 : w13.cell? ⟨g0, 5, none⟩ = _ := (blk_cell K013.out 5).trans rfl; have z6 : w13.cell? ⟨g0, 6, none⟩ = _ := (blk_cell K013.out 6).trans rfl; have zf0 := blk_frozen K013.out 0; have zf1 := blk_frozen K013.out 1; have zf2 := blk_frozen K013.out 2; have zf3 := blk_frozen K013.out 3; have zf4 := blk_frozen K013.out 4; have zf5 := blk_frozen K013.out 5; have zf6 := blk_frozen K013.out 6; have hcv1 := Kd.C_string (P := Try.prog) (A := A13) (c := c13) Try.underlying25 Try.underlying5 Try.underlying9 (Kd.R_reads' HO13.out).2.2; have hcv2 := Kd.C_string (P := Try.prog) (A := some ad) (c := c0) Try.underlying25 Try.underlying5 Try.underlying9 (Kd.C_below HR0.out BW13.out); clear hb ho))
          have k0 := K013.out
          have q5 := R513.out
          have bw := BW13.out
          have q5 := Kd.R_set q5 k0 (by decide) 0 (.int .i64 1)
          have bw := below_set (j := 0) (v := .int .i64 1) bw GE0.out
          have k0 := blk_put (cs := #[.int .i64 0, .int .u64 0, .int .i64 0, .int .i64 0, .int .u32 0, .slice none 0 0, .slice none 0 0]) k0 0 (.int .i64 1) rfl
          have q5 := Kd.R_set q5 k0 (by decide) 1 (.int .u64 n1)
          have bw := below_set (j := 1) (v := .int .u64 n1) bw GE0.out
          have k0 := blk_put (cs := #[.int .i64 1, .int .u64 0, .int .i64 0, .int .i64 0, .int .u32 0, .slice none 0 0, .slice none 0 0]) k0 1 (.int .u64 n1) rfl
          have q5 := Kd.R_set q5 k0 (by decide) 2 (.int .i64 n2)
          have bw := below_set (j := 2) (v := .int .i64 n2) bw GE0.out
          have k0 := blk_put (cs := #[.int .i64 1, .int .u64 n1, .int .i64 0, .int .i64 0, .int .u32 0, .slice none 0 0, .slice none 0 0]) k0 2 (.int .i64 n2) rfl
          have q5 := Kd.R_set q5 k0 (by decide) 3 (.int .i64 n3)
          have bw := below_set (j := 3) (v := .int .i64 n3) bw GE0.out
          have k0 := blk_put (cs := #[.int .i64 1, .int .u64 n1, .int .i64 n2, .int .i64 0, .int .u32 0, .slice none 0 0, .slice none 0 0]) k0 3 (.int .i64 n3) rfl
          have q5 := Kd.R_set q5 k0 (by decide) 4 (.int .u32 n4)
          have bw := below_set (j := 4) (v := .int .u32 n4) bw GE0.out
          have k0 := blk_put (cs := #[.int .i64 1, .int .u64 n1, .int .i64 n2, .int .i64 n3, .int .u32 0, .slice none 0 0, .slice none 0 0]) k0 4 (.int .u32 n4) rfl
          have q5 := Kd.R_set q5 k0 (by decide) 5 (.slice AV ps.length cV)
          have bw := below_set (j := 5) (v := .slice AV ps.length cV) bw GE0.out
          have k0 := blk_put (cs := #[.int .i64 1, .int .u64 n1, .int .i64 n2, .int .i64 n3, .int .u32 n4, .slice none 0 0, .slice none 0 0]) k0 5 (.slice AV ps.length cV) rfl
          have q5 := Kd.R_set q5 k0 (by decide) 6 (.slice none 0 0)
          have bw := below_set (j := 6) (v := .slice none 0 0) bw GE0.out
          have k0 := blk_put (cs := #[.int .i64 1, .int .u64 n1, .int .i64 n2, .int .i64 n3, .int .u32 n4, .slice AV ps.length cV, .slice none 0 0]) k0 6 (.slice none 0 0) rfl
          refine bodyPost_ret (results_ct rfl _ _ g0 28 _ (0, 0) _ rfl k0 hu28 rfl (by kernel_rfl)) rfl ?_
          exact ⟨_, none, 0, rfl, q5, hnilC _, by simp, bw⟩
        · rw [if_neg (by intro e; exact hcc (congrArg Prod.fst e))] at hh
          simp only [Prod.mk.injEq] at hh
          obtain ⟨e1, e2, e3, e4, e5, e6, e7, e8⟩ := hh
          subst e1 e2 e3 e4 e5 e6 e7 e8
          rw [decide_eq_false hcc] at hbe
          have hbn : ((strOfNums cc).toList != (strOfNums l0).toList) = true := by rw [bne, hbe]; rfl
          clear hcc
          go_wp2_with (first
           | (go_at_call 15; refine (scullerref13_Encode_c.calls 1 n1 n2 n3 n4 AV cV ps none 0 [] cc 0 _ (Kd.R_reads' HSS.out.row).2.2 (Kd.R_reads' HSS.out.row).2.1 (hnilC _) (by simp) HEN.out).mono ?_; rintro e w13 ⟨v13, rfl, ho, hb⟩; obtain ⟨A13, c13, eo⟩ := Kd.R_slice ho; subst eo; have HO13 := Aside0.mk ho; have KT13 := Aside0.mk (blk_below HSS.out.k4 hb); have K013 := Aside0.mk (blk_below HSS.out.k0 hb); have R513 := Aside0.mk (Kd.R_below HSS.out.row hb); have BW13 := Aside0.mk (below_then HSS.out.bel HSS.out.bel.size hb); clear y0 y1 y2 y3 y4 y5 y6; have y0 : w13.cell? ⟨g4, 0, none⟩ = _ := (blk_cell KT13.out 0).trans rfl; have y1 : w13.cell? ⟨g4, 1, none⟩ = _ := (blk_cell KT13.out 1).trans rfl; have y2 : w13.cell? ⟨g4, 2, none⟩ = _ := (blk_cell KT13.out 2).trans rfl; have y3 : w13.cell? ⟨g4, 3, none⟩ = _ := (blk_cell KT13.out 3).trans rfl; have y4 : w13.cell? ⟨g4, 4, none⟩ = _ := (blk_cell KT13.out 4).trans rfl; have y5 : w13.cell? ⟨g4, 5, none⟩ = _ := (blk_cell KT13.out 5).trans rfl; have y6 : w13.cell? ⟨g4, 6, none⟩ = _ := (blk_cell KT13.out 6).trans rfl; have z0 : w13.cell? ⟨g0, 0, none⟩ = _ := (blk_cell K013.out 0).trans rfl; have z1 : w13.cell? ⟨g0, 1, none⟩ = _ := (blk_cell K013.out 1).trans rfl; have z2 : w13.cell? ⟨g0, 2, none⟩ = _ := (blk_cell K013.out 2).trans rfl; have z3 : w13.cell? ⟨g0, 3, none⟩ = _ := (blk_cell K013.out 3).trans rfl; have z4 : w13.cell? ⟨g0, 4, none⟩ = _ := (blk_cell K013.out 4).trans rfl; have z5 : w13.cell? ⟨g0, 5, none⟩ = _ := (blk_cell K013.out 5).trans rfl; have z6 : w13.cell? ⟨g0, 6, none⟩ = _ := (blk_cell K013.out 6).trans rfl; have zf0 := blk_frozen K013.out 0; have zf1 := blk_frozen K013.out 1; have zf2 := blk_frozen K013.out 2; have zf3 := blk_frozen K013.out 3; have zf4 := blk_frozen K013.out 4; have zf5 := blk_frozen K013.out 5; have zf6 := blk_frozen K013.out 6; have hcv1 := Kd.C_string (P := Try.prog) (A := A13) (c := c13) Try.underlying25 Try.underlying5 Try.underlying9 (Kd.R_reads' HO13.out).2.2; have hcv2 := Kd.C_string (P := Try.prog) (A := some ad) (c := c0) Try.underlying25 Try.underlying5 Try.underlying9 (Kd.C_below HR0.out BW13.out); clear hb ho))
          have k0 := K013.out
          have q5 := R513.out
          have bw := BW13.out
          have q5 := Kd.R_set q5 k0 (by decide) 0 (.int .i64 0)
          have bw := below_set (j := 0) (v := .int .i64 0) bw GE0.out
          have k0 := blk_put (cs := #[.int .i64 0, .int .u64 0, .int .i64 0, .int .i64 0, .int .u32 0, .slice none 0 0, .slice none 0 0]) k0 0 (.int .i64 0) rfl
          have q5 := Kd.R_set q5 k0 (by decide) 1 (.int .u64 0)
          have bw := below_set (j := 1) (v := .int .u64 0) bw GE0.out
          have k0 := blk_put (cs := #[.int .i64 0, .int .u64 0, .int .i64 0, .int .i64 0, .int .u32 0, .slice none 0 0, .slice none 0 0]) k0 1 (.int .u64 0) rfl
          have q5 := Kd.R_set q5 k0 (by decide) 2 (.int .i64 0)
          have bw := below_set (j := 2) (v := .int .i64 0) bw GE0.out
          have k0 := blk_put (cs := #[.int .i64 0, .int .u64 0, .int .i64 0, .int .i64 0, .int .u32 0, .slice none 0 0, .slice none 0 0]) k0 2 (.int .i64 0) rfl
          have q5 := Kd.R_set q5 k0 (by decide) 3 (.int .i64 0)
          have bw := below_set (j := 3) (v := .int .i64 0) bw GE0.out
          have k0 := blk_put (cs := #[.int .i64 0, .int .u64 0, .int .i64 0, .int .i64 0, .int .u32 0, .slice none 0 0, .slice none 0 0]) k0 3 (.int .i64 0) rfl
          have q5 := Kd.R_set q5 k0 (by decide) 4 (.int .u32 0)
          have bw := below_set (j := 4) (v := .int .u32 0) bw GE0.out
          have k0 := blk_put (cs := #[.int .i64 0, .int .u64 0, .int .i64 0, .int .i64 0, .int .u32 0, .slice none 0 0, .slice none 0 0]) k0 4 (.int .u32 0) rfl
          have q5 := Kd.R_set q5 k0 (by decide) 5 (.slice none 0 0)
          have bw := below_set (j := 5) (v := .slice none 0 0) bw GE0.out
          have k0 := blk_put (cs := #[.int .i64 0, .int .u64 0, .int .i64 0, .int .i64 0, .int .u32 0, .slice none 0 0, .slice none 0 0]) k0 5 (.slice none 0 0) rfl
          have q5 := Kd.R_set q5 k0 (by decide) 6 (.slice none 0 0)
          have bw := below_set (j := 6) (v := .slice none 0 0) bw GE0.out
          have k0 := blk_put (cs := #[.int .i64 0, .int .u64 0, .int .i64 0, .int .i64 0, .int .u32 0, .slice none 0 0, .slice none 0 0]) k0 6 (.slice none 0 0) rfl
          refine bodyPost_ret (results_ct rfl _ _ g0 28 _ (0, 0) _ rfl k0 hu28 rfl (by kernel_rfl)) rfl ?_
          exact ⟨_, none, 0, rfl, Kd.R_nil _ _ _ _ _, hnilC _, by simp, bw⟩
      · rw [if_neg (by intro e; exact hee (congrArg Prod.snd e))] at hh
        simp only [Prod.mk.injEq] at hh
        obtain ⟨e1, e2, e3, e4, e5, e6, e7, e8⟩ := hh
        subst e1 e2 e3 e4 e5 e6 e7 e8
        have hee2 : (ee != 0) = true := by simpa using hee
        clear hee hbe
        go_wp2_with (first
         | (go_at_call 15; refine (scullerref13_Encode_c.calls 1 n1 n2 n3 n4 AV cV ps none 0 [] cc ee _ (Kd.R_reads' HSS.out.row).2.2 (Kd.R_reads' HSS.out.row).2.1 (hnilC _) (by simp) HEN.out).mono ?_; rintro e w13 ⟨v13, rfl, ho, hb⟩; obtain ⟨A13, c13, eo⟩ := Kd.R_slice ho; subst eo; have HO13 := Aside0.mk ho; have KT13 := Aside0.mk (blk_below HSS.out.k4 hb); have K013 := Aside0.mk (blk_below HSS.out.k0 hb); have R513 := Aside0.mk (Kd.R_below HSS.out.row hb); have BW13 := Aside0.mk (below_then HSS.out.bel HSS.out.bel.size hb); clear y0 y1 y2 y3 y4 y5 y6; have y0 : w13.cell? ⟨g4, 0, none⟩ = _ := (blk_cell KT13.out 0).trans rfl; have y1 : w13.cell? ⟨g4, 1, none⟩ = _ := (blk_cell KT13.out 1).trans rfl; have y2 : w13.cell? ⟨g4, 2, none⟩ = _ := (blk_cell KT13.out 2).trans rfl; have y3 : w13.cell? ⟨g4, 3, none⟩ = _ := (blk_cell KT13.out 3).trans rfl; have y4 : w13.cell? ⟨g4, 4, none⟩ = _ := (blk_cell KT13.out 4).trans rfl; have y5 : w13.cell? ⟨g4, 5, none⟩ = _ := (blk_cell KT13.out 5).trans rfl; have y6 : w13.cell? ⟨g4, 6, none⟩ = _ := (blk_cell KT13.out 6).trans rfl; have z0 : w13.cell? ⟨g0, 0, none⟩ = _ := (blk_cell K013.out 0).trans rfl; have z1 : w13.cell? ⟨g0, 1, none⟩ = _ := (blk_cell K013.out 1).trans rfl; have z2 : w13.cell? ⟨g0, 2, none⟩ = _ := (blk_cell K013.out 2).trans rfl; have z3 : w13.cell? ⟨g0, 3, none⟩ = _ := (blk_cell K013.out 3).trans rfl; have z4 : w13.cell? ⟨g0, 4, none⟩ = _ := (blk_cell K013.out 4).trans rfl; have z5 : w13.cell? ⟨g0, 5, none⟩ = _ := (blk_cell K013.out 5).trans rfl; have z6 : w13.cell? ⟨g0, 6, none⟩ = _ := (blk_cell K013.out 6).trans rfl; have zf0 := blk_frozen K013.out 0; have zf1 := blk_frozen K013.out 1; have zf2 := blk_frozen K013.out 2; have zf3 := blk_frozen K013.out 3; have zf4 := blk_frozen K013.out 4; have zf5 := blk_frozen K013.out 5; have zf6 := blk_frozen K013.out 6; have hcv1 := Kd.C_string (P := Try.prog) (A := A13) (c := c13) Try.underlying25 Try.underlying5 Try.underlying9 (Kd.R_reads' HO13.out).2.2; have hcv2 := Kd.C_string (P := Try.prog) (A := some ad) (c := c0) Try.underlying25 Try.underlying5 Try.underlying9 (Kd.C_below HR0.out BW13.out); clear hb ho))
        have k0 := K013.out
        have q5 := R513.out
        have bw := BW13.out
        have q5 := Kd.R_set q5 k0 (by decide) 0 (.int .i64 0)
        have bw := below_set (j := 0) (v := .int .i64 0) bw GE0.out
        have k0 := blk_put (cs := #[.int .i64 0, .int .u64 0, .int .i64 0, .int .i64 0, .int .u32 0, .slice none 0 0, .slice none 0 0]) k0 0 (.int .i64 0) rfl
        have q5 := Kd.R_set q5 k0 (by decide) 1 (.int .u64 0)
        have bw := below_set (j := 1) (v := .int .u64 0) bw GE0.out
        have k0 := blk_put (cs := #[.int .i64 0, .int .u64 0, .int .i64 0, .int .i64 0, .int .u32 0, .slice none 0 0, .slice none 0 0]) k0 1 (.int .u64 0) rfl
        have q5 := Kd.R_set q5 k0 (by decide) 2 (.int .i64 0)
        have bw := below_set (j := 2) (v := .int .i64 0) bw GE0.out
        have k0 := blk_put (cs := #[.int .i64 0, .int .u64 0, .int .i64 0, .int .i64 0, .int .u32 0, .slice none 0 0, .slice none 0 0]) k0 2 (.int .i64 0) rfl
        have q5 := Kd.R_set q5 k0 (by decide) 3 (.int .i64 0)
        have bw := below_set (j := 3) (v := .int .i64 0) bw GE0.out
        have k0 := blk_put (cs := #[.int .i64 0, .int .u64 0, .int .i64 0, .int .i64 0, .int .u32 0, .slice none 0 0, .slice none 0 0]) k0 3 (.int .i64 0) rfl
        have q5 := Kd.R_set q5 k0 (by decide) 4 (.int .u32 0)
        have bw := below_set (j := 4) (v := .int .u32 0) bw GE0.out
        have k0 := blk_put (cs := #[.int .i64 0, .int .u64 0, .int .i64 0, .int .i64 0, .int .u32 0, .slice none 0 0, .slice none 0 0]) k0 4 (.int .u32 0) rfl
        have q5 := Kd.R_set q5 k0 (by decide) 5 (.slice none 0 0)
        have bw := below_set (j := 5) (v := .slice none 0 0) bw GE0.out
        have k0 := blk_put (cs := #[.int .i64 0, .int .u64 0, .int .i64 0, .int .i64 0, .int .u32 0, .slice none 0 0, .slice none 0 0]) k0 5 (.slice none 0 0) rfl
        have q5 := Kd.R_set q5 k0 (by decide) 6 (.slice none 0 0)
        have bw := below_set (j := 6) (v := .slice none 0 0) bw GE0.out
        have k0 := blk_put (cs := #[.int .i64 0, .int .u64 0, .int .i64 0, .int .i64 0, .int .u32 0, .slice none 0 0, .slice none 0 0]) k0 6 (.slice none 0 0) rfl
        refine bodyPost_ret (results_ct rfl _ _ g0 28 _ (0, 0) _ rfl k0 hu28 rfl (by kernel_rfl)) rfl ?_
        exact ⟨_, none, 0, rfl, Kd.R_nil _ _ _ _ _, hnilC _, by simp, bw⟩

end Go.Proofs.Ytoooceaoggkeeaa.F
end

section
namespace Go.Proofs.Ytoooceaoggkeeaa.F
open Go.RowKit Go.Proofs.YtoooceaoggkeeaaW.PrintWords Go.Proofs.YtoooceaoggkeeaaW.PrintLast Go.Proofs.YtoooceaoggkeeaaW.PrintMore
attribute [local go_sem] max2_int min2_int max_two min_two max_three min_three max_four min_four   -- for this text's walks alone
set_option linter.unusedVariables false
set_option linter.unusedSimpArgs false

open Go.Proofs.Ytoooceaoggkeeaa.H
/-! ### scullerlaw13_parses: given -/
def scullerlaw13_parses.f (l0 : List Int) : Option Bool := if bytesB l0 = true ∧ l0.length ≤ 1000000 then some true else none
theorem parseG_tells (b : List Int) (hl : b.length ≤ 1000000) : (parseG b).2.2.2.2.2.1.length ≤ 1000000 ∧ 0 ≤ (parseG b).2.2.2.2.2.2.2 ∧ (parseG b).2.2.2.2.2.2.2 ≤ 12 := by
 unfold parseG
 split
 · exact ⟨by simp, by decide, by decide⟩
 · split
   · split
     · refine ⟨?_, by simp, by simp⟩
       have hr : (restG b).length ≤ 1000000 := by unfold restG midL; rw [List.length_drop, List.length_take]; omega
       show (if b.getD 0 0 = 1 then pairsL (restG b) else []).length ≤ _
       split
       · simp only [pairsL, List.length_map, List.length_range, chunkN]; omega
       · simp
     · exact ⟨by simp, by decide, by decide⟩
   · exact ⟨by simp, by decide, by decide⟩
theorem same13_is (k s i o m : Int) (sizes body : List Int) (hz : sizes.length ≤ 1000000) : scullerref13_Same.f k s i o m sizes body k s i o m sizes body = some true := by
 rw [scullerref13_Same.f, if_pos rfl, if_pos rfl, if_pos rfl, if_pos rfl, if_pos rfl, scullerref07_SameInts_c.f, if_pos hz, Option.bind_some, if_pos (by simp)]
 simp
set_option maxHeartbeats 4000000 in
set_option maxRecDepth 100000 in
theorem scullerlaw13_parses.calls (A0 : Option Addr) (c0 : Nat) (l0 : List Int) (r : Bool) (w : World) (hr0 : Kd.C (Kd.int .u8) w A0 l0.length l0) (hc0 : l0.length ≤ c0) (h : scullerlaw13_parses.f l0 = some r) :
 Calls Try.prog 17 #[.slice A0 l0.length c0] w fun e w' => e = .returned (.bool r) ∧ Below w.heap.size w w' := by
 have hu28 := Try.underlying28
 unfold scullerlaw13_parses.f at h
 split at h
 case isFalse => cases h
 case isTrue hb =>
 obtain ⟨hbb, hbl⟩ := hb
 obtain rfl := Option.some.inj h
 clear h
 have HR0 := Aside0.mk hr0
 have HC0 := Aside0.mk hc0
 have ht := parseG_tells l0 hbl
 have hp : pack_Parse.f l0 = some (parseG l0) := if_pos ⟨hbb, hbl⟩
 have hq := refG_is l0
 obtain ⟨⟨r1, r2, r3, r4, r5, r6, r7, r8⟩, hg⟩ : ∃ x, parseG l0 = x := ⟨_, rfl⟩
 rw [hg] at ht hp hq
 dsimp only at ht
 have hw8 : IntKind.i64.wrap r8 = r8 := by rw [i64_w]; unfold wrap64; omega
 have hw9 : wrap64 r8 = r8 := by unfold wrap64; omega
 have HP := Aside0.mk hp
 have HQ := Aside0.mk hq
 have HS := Aside0.mk (same13_is r1 r2 r3 r4 r5 r6 r7 ht.1)
 have HBB := Aside0.mk hbb
 have HBL := Aside0.mk hbl
 clear hr0 hc0 hp hq hg ht hbb hbl
 go_enter Try.func17, Try.ntmps17
 go_upto_region 2 with (first
  | (go_at_call 11; refine (pack_Parse.calls A0 c0 l0 r1 r2 r3 r4 r5 r6 r7 r8 _ HR0.out HC0.out HP.out).mono ?_; rintro e w1 ⟨v5, v6, rfl, h5, h6, hb⟩; obtain ⟨A5, c5, e5⟩ := Kd.R_slice h5; subst e5; obtain ⟨A6, c6, e6⟩ := Kd.R_slice h6; subst e6; have RZ1 := Aside0.mk h5; have RB1 := Aside0.mk h6; have BW1 := Aside0.mk hb; clear h5 h6 hb)
  | ((with_reducible refine gate_dst (N := 3) rfl ?_); refine box_event ?hg (N := 3) ?hd (cs := #[.int .i64 0, .int .u64 0, .int .i64 0, .int .i64 0, .int .u32 0, .slice none 0 0, .slice none 0 0]) (t := 28) ?hr ?_; (case hd => rfl); (case hg => rfl); (case hr => first | (go_simp; done) | (go_simp; rfl)); intro g3 hg w2 hbox hb; have BK3 := Aside0.mk hbox; have RZ2 := Aside0.mk (Kd.R_below RZ1.out hb); have RB2 := Aside0.mk (Kd.R_below RB1.out hb); have BW2 := Aside0.mk (below_then BW1.out BW1.out.size hb); have GW := Aside0.mk BW1.out.size; have GE3 := Aside0.mk (Nat.le_of_eq hg.symm); clear hb hbox hg; have z0 : w2.cell? ⟨g3, 0, none⟩ = _ := (blk_cell BK3.out 0).trans rfl; have zf0 := blk_frozen BK3.out 0; have z1 : w2.cell? ⟨g3, 1, none⟩ = _ := (blk_cell BK3.out 1).trans rfl; have zf1 := blk_frozen BK3.out 1; have z2 : w2.cell? ⟨g3, 2, none⟩ = _ := (blk_cell BK3.out 2).trans rfl; have zf2 := blk_frozen BK3.out 2; have z3 : w2.cell? ⟨g3, 3, none⟩ = _ := (blk_cell BK3.out 3).trans rfl; have zf3 := blk_frozen BK3.out 3; have z4 : w2.cell? ⟨g3, 4, none⟩ = _ := (blk_cell BK3.out 4).trans rfl; have zf4 := blk_frozen BK3.out 4; have z5 : w2.cell? ⟨g3, 5, none⟩ = _ := (blk_cell BK3.out 5).trans rfl; have zf5 := blk_frozen BK3.out 5; have z6 : w2.cell? ⟨g3, 6, none⟩ = _ := (blk_cell BK3.out 6).trans rfl; have zf6 := blk_frozen BK3.out 6))
 have k0 := blk_put (cs := #[.int .i64 0, .int .u64 0, .int .i64 0, .int .i64 0, .int .u32 0, .slice none 0 0, .slice none 0 0]) BK3.out 0 (.int .i64 r1) rfl
 have rz0 := Kd.R_set RZ2.out BK3.out (by decide) 0 (.int .i64 r1)
 have rb0 := Kd.R_set RB2.out BK3.out (by decide) 0 (.int .i64 r1)
 have bw0 := below_set (g := g3) (j := 0) (v := (.int .i64 r1)) BW2.out (Nat.le_trans GW.out GE3.out)
 have k1 := blk_put (cs := #[.int .i64 r1, .int .u64 0, .int .i64 0, .int .i64 0, .int .u32 0, .slice none 0 0, .slice none 0 0]) k0 1 (.int .u64 r2) rfl
 have rz1 := Kd.R_set rz0 k0 (by decide) 1 (.int .u64 r2)
 have rb1 := Kd.R_set rb0 k0 (by decide) 1 (.int .u64 r2)
 have bw1 := below_set (g := g3) (j := 1) (v := (.int .u64 r2)) bw0 (Nat.le_trans GW.out GE3.out)
 have k2 := blk_put (cs := #[.int .i64 r1, .int .u64 r2, .int .i64 0, .int .i64 0, .int .u32 0, .slice none 0 0, .slice none 0 0]) k1 2 (.int .i64 r3) rfl
 have rz2 := Kd.R_set rz1 k1 (by decide) 2 (.int .i64 r3)
 have rb2 := Kd.R_set rb1 k1 (by decide) 2 (.int .i64 r3)
 have bw2 := below_set (g := g3) (j := 2) (v := (.int .i64 r3)) bw1 (Nat.le_trans GW.out GE3.out)
 have k3 := blk_put (cs := #[.int .i64 r1, .int .u64 r2, .int .i64 r3, .int .i64 0, .int .u32 0, .slice none 0 0, .slice none 0 0]) k2 3 (.int .i64 r4) rfl
 have rz3 := Kd.R_set rz2 k2 (by decide) 3 (.int .i64 r4)
 have rb3 := Kd.R_set rb2 k2 (by decide) 3 (.int .i64 r4)
 have bw3 := below_set (g := g3) (j := 3) (v := (.int .i64 r4)) bw2 (Nat.le_trans GW.out GE3.out)
 have k4 := blk_put (cs := #[.int .i64 r1, .int .u64 r2, .int .i64 r3, .int .i64 r4, .int .u32 0, .slice none 0 0, .slice none 0 0]) k3 4 (.int .u32 r5) rfl
 have rz4 := Kd.R_set rz3 k3 (by decide) 4 (.int .u32 r5)
 have rb4 := Kd.R_set rb3 k3 (by decide) 4 (.int .u32 r5)
 have bw4 := below_set (g := g3) (j := 4) (v := (.int .u32 r5)) bw3 (Nat.le_trans GW.out GE3.out)
 have k5 := blk_put (cs := #[.int .i64 r1, .int .u64 r2, .int .i64 r3, .int .i64 r4, .int .u32 r5, .slice none 0 0, .slice none 0 0]) k4 5 (.slice A5 r6.length c5) rfl
 have rz5 := Kd.R_set rz4 k4 (by decide) 5 (.slice A5 r6.length c5)
 have rb5 := Kd.R_set rb4 k4 (by decide) 5 (.slice A5 r6.length c5)
 have bw5 := below_set (g := g3) (j := 5) (v := (.slice A5 r6.length c5)) bw4 (Nat.le_trans GW.out GE3.out)
 have k6 := blk_put (cs := #[.int .i64 r1, .int .u64 r2, .int .i64 r3, .int .i64 r4, .int .u32 r5, .slice A5 r6.length c5, .slice none 0 0]) k5 6 (.slice A6 r7.length c6) rfl
 have rz6 := Kd.R_set rz5 k5 (by decide) 6 (.slice A6 r7.length c6)
 have rb6 := Kd.R_set rb5 k5 (by decide) 6 (.slice A6 r7.length c6)
 have bw6 := below_set (g := g3) (j := 6) (v := (.slice A6 r7.length c6)) bw5 (Nat.le_trans GW.out GE3.out)
 generalize (World.setCell (World.setCell (World.setCell (World.setCell (World.setCell (World.setCell (World.setCell w2 ⟨g3, 0, none⟩ (.int .i64 r1)) ⟨g3, 1, none⟩ (.int .u64 r2)) ⟨g3, 2, none⟩ (.int .i64 r3)) ⟨g3, 3, none⟩ (.int .i64 r4)) ⟨g3, 4, none⟩ (.int .u32 r5)) ⟨g3, 5, none⟩ (.slice A5 r6.length c5)) ⟨g3, 6, none⟩ (.slice A6 r7.length c6)) = W3 at k6 rz6 rb6 bw6 ⊢
 have BK3' := Aside0.mk k6
 have RZ3 := Aside0.mk rz6
 have RB3 := Aside0.mk rb6
 have BW3 := Aside0.mk bw6
 clear k0 rz0 rb0 bw0 k1 rz1 rb1 bw1 k2 rz2 rb2 bw2 k3 rz3 rb3 bw3 k4 rz4 rb4 bw4 k5 rz5 rb5 bw5 k6 rz6 rb6 bw6 z0 zf0 z1 zf1 z2 zf2 z3 zf3 z4 zf4 z5 zf5 z6 zf6
 clear RZ1 RB1 BW1 RZ2 RB2 BW2 BK3
 go_upto_region 3 with (first
  | (go_at_call 33; refine (scullerref13_Parse.calls_ A0 c0 l0 r1 r2 r3 r4 r5 r6 r7 r8 _ (Kd.C_below HR0.out BW3.out) HC0.out HBB.out HBL.out HQ.out).mono ?_; rintro e w4 ⟨q5, A9, c9, rfl, h5, h6, hc9, hb⟩; obtain ⟨A8, c8, e5⟩ := Kd.R_slice h5; subst e5; have QZ4 := Aside0.mk h5; have QC4 := Aside0.mk h6; have QL := Aside0.mk hc9; have RZ4 := Aside0.mk (Kd.R_below RZ3.out hb); have RB4 := Aside0.mk (Kd.R_below RB3.out hb); have BK4 := Aside0.mk (blk_below BK3'.out hb); have BW4 := Aside0.mk (below_then BW3.out BW3.out.size hb); clear h5 h6 hb hc9)
  | ((with_reducible refine gate_dst (N := 5) rfl ?_); refine box_event ?hg (N := 5) ?hd (cs := #[.int .i64 0, .int .u64 0, .int .i64 0, .int .i64 0, .int .u32 0, .slice none 0 0, .slice none 0 0]) (t := 28) ?hr ?_; (case hd => rfl); (case hg => rfl); (case hr => first | (go_simp; done) | (go_simp; rfl)); intro g5 hg w5 hbox hb; have BK5 := Aside0.mk hbox; have RZ5 := Aside0.mk (Kd.R_below RZ4.out hb); have RB5 := Aside0.mk (Kd.R_below RB4.out hb); have QZ5 := Aside0.mk (Kd.R_below QZ4.out hb); have BK35 := Aside0.mk (blk_below BK4.out hb); have BW5 := Aside0.mk (below_then BW4.out BW4.out.size hb); have BQ5 := Aside0.mk hb; have NE := Aside0.mk (show g3 ≠ g5 by have := blk_lt BK4.out; omega); have GW4 := Aside0.mk BW4.out.size; have GE5 := Aside0.mk (Nat.le_of_eq hg.symm); clear hb hbox hg; have z0 : w5.cell? ⟨g5, 0, none⟩ = _ := (blk_cell BK5.out 0).trans rfl; have zf0 := blk_frozen BK5.out 0; have z1 : w5.cell? ⟨g5, 1, none⟩ = _ := (blk_cell BK5.out 1).trans rfl; have zf1 := blk_frozen BK5.out 1; have z2 : w5.cell? ⟨g5, 2, none⟩ = _ := (blk_cell BK5.out 2).trans rfl; have zf2 := blk_frozen BK5.out 2; have z3 : w5.cell? ⟨g5, 3, none⟩ = _ := (blk_cell BK5.out 3).trans rfl; have zf3 := blk_frozen BK5.out 3; have z4 : w5.cell? ⟨g5, 4, none⟩ = _ := (blk_cell BK5.out 4).trans rfl; have zf4 := blk_frozen BK5.out 4; have z5 : w5.cell? ⟨g5, 5, none⟩ = _ := (blk_cell BK5.out 5).trans rfl; have zf5 := blk_frozen BK5.out 5; have z6 : w5.cell? ⟨g5, 6, none⟩ = _ := (blk_cell BK5.out 6).trans rfl; have zf6 := blk_frozen BK5.out 6))
 have ge5 : w.heap.size ≤ g5 := Nat.le_trans GW4.out GE5.out
 have k0 := blk_put (cs := #[.int .i64 0, .int .u64 0, .int .i64 0, .int .i64 0, .int .u32 0, .slice none 0 0, .slice none 0 0]) BK5.out 0 (.int .i64 r1) rfl
 have rz0 := Kd.R_set RZ5.out BK5.out (by decide) 0 (.int .i64 r1)
 have rb0 := Kd.R_set RB5.out BK5.out (by decide) 0 (.int .i64 r1)
 have qz0 := Kd.R_set QZ5.out BK5.out (by decide) 0 (.int .i64 r1)
 have bw0 := below_set (g := g5) (j := 0) (v := (.int .i64 r1)) BW5.out ge5
 have bq0 := below_set (g := g5) (j := 0) (v := (.int .i64 r1)) BQ5.out GE5.out
 have k1 := blk_put (cs := #[.int .i64 r1, .int .u64 0, .int .i64 0, .int .i64 0, .int .u32 0, .slice none 0 0, .slice none 0 0]) k0 1 (.int .u64 r2) rfl
 have rz1 := Kd.R_set rz0 k0 (by decide) 1 (.int .u64 r2)
 have rb1 := Kd.R_set rb0 k0 (by decide) 1 (.int .u64 r2)
 have qz1 := Kd.R_set qz0 k0 (by decide) 1 (.int .u64 r2)
 have bw1 := below_set (g := g5) (j := 1) (v := (.int .u64 r2)) bw0 ge5
 have bq1 := below_set (g := g5) (j := 1) (v := (.int .u64 r2)) bq0 GE5.out
 have k2 := blk_put (cs := #[.int .i64 r1, .int .u64 r2, .int .i64 0, .int .i64 0, .int .u32 0, .slice none 0 0, .slice none 0 0]) k1 2 (.int .i64 r3) rfl
 have rz2 := Kd.R_set rz1 k1 (by decide) 2 (.int .i64 r3)
 have rb2 := Kd.R_set rb1 k1 (by decide) 2 (.int .i64 r3)
 have qz2 := Kd.R_set qz1 k1 (by decide) 2 (.int .i64 r3)
 have bw2 := below_set (g := g5) (j := 2) (v := (.int .i64 r3)) bw1 ge5
 have bq2 := below_set (g := g5) (j := 2) (v := (.int .i64 r3)) bq1 GE5.out
 have k3 := blk_put (cs := #[.int .i64 r1, .int .u64 r2, .int .i64 r3, .int .i64 0, .int .u32 0, .slice none 0 0, .slice none 0 0]) k2 3 (.int .i64 r4) rfl
 have rz3 := Kd.R_set rz2 k2 (by decide) 3 (.int .i64 r4)
 have rb3 := Kd.R_set rb2 k2 (by decide) 3 (.int .i64 r4)
 have qz3 := Kd.R_set qz2 k2 (by decide) 3 (.int .i64 r4)
 have bw3 := below_set (g := g5) (j := 3) (v := (.int .i64 r4)) bw2 ge5
 have bq3 := below_set (g := g5) (j := 3) (v := (.int .i64 r4)) bq2 GE5.out
 have k4 := blk_put (cs := #[.int .i64 r1, .int .u64 r2, .int .i64 r3, .int .i64 r4, .int .u32 0, .slice none 0 0, .slice none 0 0]) k3 4 (.int .u32 r5) rfl
 have rz4 := Kd.R_set rz3 k3 (by decide) 4 (.int .u32 r5)
 have rb4 := Kd.R_set rb3 k3 (by decide) 4 (.int .u32 r5)
 have qz4 := Kd.R_set qz3 k3 (by decide) 4 (.int .u32 r5)
 have bw4 := below_set (g := g5) (j := 4) (v := (.int .u32 r5)) bw3 ge5
 have bq4 := below_set (g := g5) (j := 4) (v := (.int .u32 r5)) bq3 GE5.out
 have k5 := blk_put (cs := #[.int .i64 r1, .int .u64 r2, .int .i64 r3, .int .i64 r4, .int .u32 r5, .slice none 0 0, .slice none 0 0]) k4 5 (.slice A8 r6.length c8) rfl
 have rz5 := Kd.R_set rz4 k4 (by decide) 5 (.slice A8 r6.length c8)
 have rb5 := Kd.R_set rb4 k4 (by decide) 5 (.slice A8 r6.length c8)
 have qz5 := Kd.R_set qz4 k4 (by decide) 5 (.slice A8 r6.length c8)
 have bw5 := below_set (g := g5) (j := 5) (v := (.slice A8 r6.length c8)) bw4 ge5
 have bq5 := below_set (g := g5) (j := 5) (v := (.slice A8 r6.length c8)) bq4 GE5.out
 have k6 := blk_put (cs := #[.int .i64 r1, .int .u64 r2, .int .i64 r3, .int .i64 r4, .int .u32 r5, .slice A8 r6.length c8, .slice none 0 0]) k5 6 (.slice A9 r7.length c9) rfl
 have rz6 := Kd.R_set rz5 k5 (by decide) 6 (.slice A9 r7.length c9)
 have rb6 := Kd.R_set rb5 k5 (by decide) 6 (.slice A9 r7.length c9)
 have qz6 := Kd.R_set qz5 k5 (by decide) 6 (.slice A9 r7.length c9)
 have bw6 := below_set (g := g5) (j := 6) (v := (.slice A9 r7.length c9)) bw5 ge5
 have bq6 := below_set (g := g5) (j := 6) (v := (.slice A9 r7.length c9)) bq5 GE5.out
 have f0 := blk_far (p := ⟨g5, 0, none⟩) BK35.out NE.out (.int .i64 r1)
 have f1 := blk_far (p := ⟨g5, 1, none⟩) f0 NE.out (.int .u64 r2)
 have f2 := blk_far (p := ⟨g5, 2, none⟩) f1 NE.out (.int .i64 r3)
 have f3 := blk_far (p := ⟨g5, 3, none⟩) f2 NE.out (.int .i64 r4)
 have f4 := blk_far (p := ⟨g5, 4, none⟩) f3 NE.out (.int .u32 r5)
 have f5 := blk_far (p := ⟨g5, 5, none⟩) f4 NE.out (.slice A8 r6.length c8)
 have f6 := blk_far (p := ⟨g5, 6, none⟩) f5 NE.out (.slice A9 r7.length c9)
 have qc := Kd.C_below QC4.out bq6
 generalize (World.setCell (World.setCell (World.setCell (World.setCell (World.setCell (World.setCell (World.setCell w5 ⟨g5, 0, none⟩ (.int .i64 r1)) ⟨g5, 1, none⟩ (.int .u64 r2)) ⟨g5, 2, none⟩ (.int .i64 r3)) ⟨g5, 3, none⟩ (.int .i64 r4)) ⟨g5, 4, none⟩ (.int .u32 r5)) ⟨g5, 5, none⟩ (.slice A8 r6.length c8)) ⟨g5, 6, none⟩ (.slice A9 r7.length c9)) = W6 at k6 f6 rz6 rb6 qz6 bw6 qc ⊢
 have D5 := Aside0.mk k6
 have D3 := Aside0.mk f6
 have RZ6 := Aside0.mk rz6
 have RB6 := Aside0.mk rb6
 have QZ6 := Aside0.mk qz6
 have BW6 := Aside0.mk bw6
 have QC6 := Aside0.mk qc
 clear k0 rz0 rb0 bw0 k1 rz1 rb1 bw1 k2 rz2 rb2 bw2 k3 rz3 rb3 bw3 k4 rz4 rb4 bw4 k5 rz5 rb5 bw5 k6 rz6 rb6 bw6 z0 zf0 f0 qz0 bq0 z1 zf1 f1 qz1 bq1 z2 zf2 f2 qz2 bq2 z3 zf3 f3 qz3 bq3 z4 zf4 f4 qz4 bq4 z5 zf5 f5 qz5 bq5 z6 zf6 f6 qz6 bq6 qc
 clear RZ3 RB3 BW3 BK3' QZ4 QC4 RZ4 RB4 BK4 BW4 RZ5 RB5 QZ5 BK35 BW5 BQ5 BK5
 have x0 : W6.cell? ⟨g3, 0, none⟩ = some (.int .i64 r1) := (blk_cell D3.out 0).trans rfl
 have y0 : W6.cell? ⟨g5, 0, none⟩ = some (.int .i64 r1) := (blk_cell D5.out 0).trans rfl
 have x1 : W6.cell? ⟨g3, 1, none⟩ = some (.int .u64 r2) := (blk_cell D3.out 1).trans rfl
 have y1 : W6.cell? ⟨g5, 1, none⟩ = some (.int .u64 r2) := (blk_cell D5.out 1).trans rfl
 have x2 : W6.cell? ⟨g3, 2, none⟩ = some (.int .i64 r3) := (blk_cell D3.out 2).trans rfl
 have y2 : W6.cell? ⟨g5, 2, none⟩ = some (.int .i64 r3) := (blk_cell D5.out 2).trans rfl
 have x3 : W6.cell? ⟨g3, 3, none⟩ = some (.int .i64 r4) := (blk_cell D3.out 3).trans rfl
 have y3 : W6.cell? ⟨g5, 3, none⟩ = some (.int .i64 r4) := (blk_cell D5.out 3).trans rfl
 have x4 : W6.cell? ⟨g3, 4, none⟩ = some (.int .u32 r5) := (blk_cell D3.out 4).trans rfl
 have y4 : W6.cell? ⟨g5, 4, none⟩ = some (.int .u32 r5) := (blk_cell D5.out 4).trans rfl
 have x5 : W6.cell? ⟨g3, 5, none⟩ = some (.slice A5 r6.length c5) := (blk_cell D3.out 5).trans rfl
 have y5 : W6.cell? ⟨g5, 5, none⟩ = some (.slice A8 r6.length c8) := (blk_cell D5.out 5).trans rfl
 have x6 : W6.cell? ⟨g3, 6, none⟩ = some (.slice A6 r7.length c6) := (blk_cell D3.out 6).trans rfl
 have y6 : W6.cell? ⟨g5, 6, none⟩ = some (.slice A9 r7.length c9) := (blk_cell D5.out 6).trans rfl
 go_wp2_with (first
  | (go_at_call 12; refine (scullerref13_Same.calls r1 r2 r3 r4 r5 A5 c5 r6 A6 c6 r7 r1 r2 r3 r4 r5 A8 c8 r6 A9 c9 r7 true _ (Kd.R_reads' RZ6.out).2.2 (Kd.R_reads' RZ6.out).2.1 (Kd.R_reads' RB6.out).2.2 (Kd.R_reads' RB6.out).2.1 (Kd.R_reads' QZ6.out).2.2 (Kd.R_reads' QZ6.out).2.1 QC6.out QL.out HS.out).mono ?_; rintro e w7 ⟨rfl, hb⟩; have BW7 := Aside0.mk (below_then BW6.out BW6.out.size hb); clear hb))
 go_ret
 exact ⟨by first | rfl | simp, BW7.out⟩

end Go.Proofs.Ytoooceaoggkeeaa.F
end

section
namespace Go.Proofs.Ytoooceaoggkeeaa.F
open Go.RowKit Go.Proofs.YtoooceaoggkeeaaW.PrintWords Go.Proofs.YtoooceaoggkeeaaW.PrintLast Go.Proofs.YtoooceaoggkeeaaW.PrintMore
attribute [local go_sem] max2_int min2_int max_two min_two max_three min_three max_four min_four   -- for this text's walks alone
set_option linter.unusedVariables false
set_option linter.unusedSimpArgs false

/-! ### slices_Equal_int_int: function 34 -/
def slices_Equal_int_int.l0 : Nat → List Int → List Int → Int → Int → Option (Bool)
 | 0, _, _, _, _ => none
 | k + 1, x0, x1, x12, x13 => if x13 < x12 then (if 0 ≤ x13 then (if x13 < (x0.length : Int) then (if x13 < (x1.length : Int) then (if (rd x0 x13) = (rd x1 x13) then (slices_Equal_int_int.l0 k x0 x1 x12 (wrap64 (x13 + 1))) else (some false)) else (none)) else (none)) else (none)) else (some true)
def slices_Equal_int_int.f (k : Nat) (l0 : List Int) (l1 : List Int) : Option (Bool) := if (l0.length : Int) = (l1.length : Int) then (slices_Equal_int_int.l0 k l0 l1 (l0.length : Int) 0) else (some false)
theorem slices_Equal_int_int.mono_l : ∀ k, (∀ y0 y1 y2 y3, LeO (slices_Equal_int_int.l0 k y0 y1 y2 y3) (slices_Equal_int_int.l0 (k + 1) y0 y1 y2 y3))
 | 0 => fun _ _ _ _ r h => by simp [slices_Equal_int_int.l0] at h
 | k + 1 => by
   have ih0 := slices_Equal_int_int.mono_l k
   · intro y0 y1 y2 y3
     unfold slices_Equal_int_int.l0
     repeat' first
     | (with_reducible exact ih0 _ _ _ _)
     | (with_reducible exact LeO.refl _)
     | (with_reducible exact LeO.none _)
     | (with_reducible refine LeO.ite ?_ ?_)
     | (with_reducible refine LeO.bind ?_ (fun _ => ?_))
     | exact ih0 _ _ _ _
     | exact LeO.none _
     | refine LeO.ite ?_ ?_
     | refine LeO.bind ?_ (fun _ => ?_)
theorem slices_Equal_int_int.mono : ∀ a0 a1 k, LeO (slices_Equal_int_int.f k a0 a1) (slices_Equal_int_int.f (k + 1) a0 a1) := by
 intro a0 a1 k
 have ih0 := slices_Equal_int_int.mono_l k
 unfold slices_Equal_int_int.f
 repeat' first
  | (with_reducible exact ih0 _ _ _ _)
  | (with_reducible exact LeO.refl _)
  | (with_reducible exact LeO.none _)
  | (with_reducible refine LeO.ite ?_ ?_)
  | (with_reducible refine LeO.bind ?_ (fun _ => ?_))
  | exact ih0 _ _ _ _
  | exact LeO.none _
  | refine LeO.ite ?_ ?_
  | refine LeO.bind ?_ (fun _ => ?_)
set_option maxHeartbeats 8000000 in
set_option maxRecDepth 100000 in
theorem slices_Equal_int_int.calls (k : Nat) (A0 : Option Addr) (c0 : Nat) (l0 : List Int) (A1 : Option Addr) (c1 : Nat) (l1 : List Int) (r : Bool) (w : World) (hr0 : Kd.C (Kd.int .i64) w A0 l0.length l0) (hc0 : l0.length ≤ c0) (hr1 : Kd.C (Kd.int .i64) w A1 l1.length l1) (hc1 : l1.length ≤ c1) (h : slices_Equal_int_int.f k l0 l1 = some r) :
 Calls Try.prog 34 #[.slice A0 l0.length c0, .slice A1 l1.length c1] w fun e w' => e = .returned (.bool r) ∧ Drawn0 w w' := by
 have HR0 := Aside0.mk hr0
 have HC0 := Aside0.mk hc0
 clear hr0 hc0
 have HR1 := Aside0.mk hr1
 have HC1 := Aside0.mk hc1
 clear hr1 hc1
 have H : (if (l0.length : Int) = (l1.length : Int) then (slices_Equal_int_int.l0 k l0 l1 (l0.length : Int) 0) else (some false)) = some r := h
 clear h
 by_cases c3 : (l0.length : Int) = (l1.length : Int)
 · rw [if_pos c3] at H
   have c3b0 : ((l0.length : Int) == (l1.length : Int)) = true := beq_iff_eq.mpr c3
   have c3b1 : ((l0.length : Int) != (l1.length : Int)) = false := bne_eq_false_iff_eq.mpr c3
   have c3b2 : (l0.length == l1.length) = true := by first | simpa using c3 | (simp at c3 ⊢; omega)
   clear c3
   have H' := Aside0.mk H
   clear H
   go_enter Try.func34, Try.ntmps34
   go_wp2
   repeat (go_quiet (fail); try go_wp2)
   go_loopg [13] k (fun kq v13 w' => ∃ (x13_1 : Int), v13 = .int .i64 x13_1 ∧ Aside0 (slices_Equal_int_int.l0 kq l0 l1 (l0.length : Int) x13_1 = some r) ∧ Aside0 (kq ≤ k) ∧ Drawn0 w w')
   case atStart => exact ⟨(0), (by first | rfl | (simp; done) | (simp [*]; done)), H', ⟨Nat.le_refl _⟩, by repeat (first | exact Drawn0.refl _ | apply Drawn0.step)⟩
   case round =>
    clear H'
    try clear c1
    try clear p2
    try clear c3
    try clear c3b0
    try clear c3b1
    try clear c3b2
    obtain ⟨x13_1, rfl, HA, HK1, ⟨m1, rfl⟩⟩ := hrel
    cases gk with
    | zero => exact absurd HA.out (by simp [slices_Equal_int_int.l0])
    | succ k1 =>
      have H := HA.out
      clear HA
      simp only [slices_Equal_int_int.l0] at H
      by_cases c4 : x13_1 < (l0.length : Int)
      · rw [if_pos c4] at H
        have c4b0 : decide (x13_1 < (l0.length : Int)) = true := decide_eq_true c4
        clear c4
        by_cases c5 : 0 ≤ x13_1
        · rw [if_pos c5] at H
          have c5b0 : decide (0 ≤ x13_1) = true := decide_eq_true c5
          clear c5
          by_cases c6 : x13_1 < (l0.length : Int)
          · rw [if_pos c6] at H
            have c6b0 : decide (x13_1 < (l0.length : Int)) = true := decide_eq_true c6
            clear c6
            by_cases c7 : x13_1 < (l1.length : Int)
            · rw [if_pos c7] at H
              have c7b0 : decide (x13_1 < (l1.length : Int)) = true := decide_eq_true c7
              clear c7
              by_cases c8 : (rd l0 x13_1) = (rd l1 x13_1)
              · rw [if_pos c8] at H
                have c8b0 : ((rd l0 x13_1) == (rd l1 x13_1)) = true := beq_iff_eq.mpr c8
                have c8b1 : ((rd l0 x13_1) != (rd l1 x13_1)) = false := bne_eq_false_iff_eq.mpr c8
                clear c8
                have H' := Aside0.mk H
                clear H
                have p101 : 0 ≤ (x13_1 : Int) := of_decide_eq_true (by first | (with_reducible assumption) | assumption)
                have q101 : x13_1 < (l0.length : Int) := of_decide_eq_true (by first | (with_reducible assumption) | assumption)
                obtain ⟨ad101, e101, hx101_0⟩ := Kd.at_int HR0.out x13_1 p101 q101
                cases e101
                replace p101 := eq_true p101
                replace q101 := eq_true q101
                have p102 : 0 ≤ (x13_1 : Int) := of_decide_eq_true (by first | (with_reducible assumption) | assumption)
                have q102 : x13_1 < (l1.length : Int) := of_decide_eq_true (by first | (with_reducible assumption) | assumption)
                obtain ⟨ad102, e102, hx102_0⟩ := Kd.at_int HR1.out x13_1 p102 q102
                cases e102
                replace p102 := eq_true p102
                replace q102 := eq_true q102
                go_wp2
                repeat (go_quiet (fail); try go_wp2)
                go_roundg k1
                case measure => have := HK1.out; omega
                case rel => exact ⟨(wrap64 (x13_1 + 1)), (by first | rfl | (simp; done) | (simp [*]; done)), H', ⟨by have := HK1.out; omega⟩, by repeat (first | exact Drawn0.refl _ | apply Drawn0.step)⟩
              · rw [if_neg c8] at H
                have c8b0 : ((rd l0 x13_1) == (rd l1 x13_1)) = false := beq_eq_false_iff_ne.mpr c8
                have c8b1 : ((rd l0 x13_1) != (rd l1 x13_1)) = true := bne_iff_ne.mpr c8
                obtain rfl := Option.some.inj H
                have p101 : 0 ≤ (x13_1 : Int) := of_decide_eq_true (by first | (with_reducible assumption) | assumption)
                have q101 : x13_1 < (l0.length : Int) := of_decide_eq_true (by first | (with_reducible assumption) | assumption)
                obtain ⟨ad101, e101, hx101_0⟩ := Kd.at_int HR0.out x13_1 p101 q101
                cases e101
                replace p101 := eq_true p101
                replace q101 := eq_true q101
                have p102 : 0 ≤ (x13_1 : Int) := of_decide_eq_true (by first | (with_reducible assumption) | assumption)
                have q102 : x13_1 < (l1.length : Int) := of_decide_eq_true (by first | (with_reducible assumption) | assumption)
                obtain ⟨ad102, e102, hx102_0⟩ := Kd.at_int HR1.out x13_1 p102 q102
                cases e102
                replace p102 := eq_true p102
                replace q102 := eq_true q102
                go_wp2
                repeat (go_quiet (fail); try go_wp2)
                go_ret
                exact ⟨by first | rfl | (simp; done) | (simp [*]; done), by repeat (first | exact Drawn0.refl _ | apply Drawn0.step)⟩
            · rw [if_neg c7] at H
              exact absurd H (by simp)
          · rw [if_neg c6] at H
            exact absurd H (by simp)
        · rw [if_neg c5] at H
          exact absurd H (by simp)
      · rw [if_neg c4] at H
        have c4b0 : decide (x13_1 < (l0.length : Int)) = false := decide_eq_false c4
        clear c4
        obtain rfl := Option.some.inj H
        go_wp2
        repeat (go_quiet (fail); try go_wp2)
        go_ret
        exact ⟨by first | rfl | (simp; done) | (simp [*]; done), by repeat (first | exact Drawn0.refl _ | apply Drawn0.step)⟩
 · rw [if_neg c3] at H
   have c3b0 : ((l0.length : Int) == (l1.length : Int)) = false := beq_eq_false_iff_ne.mpr c3
   have c3b1 : ((l0.length : Int) != (l1.length : Int)) = true := bne_iff_ne.mpr c3
   have c3b2 : (l0.length == l1.length) = false := by first | simpa using c3 | (simp at c3 ⊢; omega)
   obtain rfl := Option.some.inj H
   go_enter Try.func34, Try.ntmps34
   go_wp2
   repeat (go_quiet (fail); try go_wp2)
   go_ret
   exact ⟨by first | rfl | (simp; done) | (simp [*]; done), by repeat (first | exact Drawn0.refl _ | apply Drawn0.step)⟩

end Go.Proofs.Ytoooceaoggkeeaa.F
end

section
namespace Go.Proofs.Ytoooceaoggkeeaa.F
open Go.RowKit Go.Proofs.YtoooceaoggkeeaaW.PrintWords Go.Proofs.YtoooceaoggkeeaaW.PrintLast Go.Proofs.YtoooceaoggkeeaaW.PrintMore
attribute [local go_sem] max2_int min2_int max_two min_two max_three min_three max_four min_four   -- for this text's walks alone
set_option linter.unusedVariables false
set_option linter.unusedSimpArgs false

open Go.Proofs.Ytoooceaoggkeeaa.H
def slices_Equal_int_int_c.f (l0 l1 : List Int) : Option Bool := if l0.length ≤ 1000000 then some (decide (l0 = l1)) else none
theorem slices_Equal_int_int.l0_to (l m : List Int) (hl : l.length ≤ 1000000) (hm : l.length = m.length) : ∀ (d i : Nat), l.length - i = d → i ≤ l.length → ∃ k, slices_Equal_int_int.l0 k l m (l.length : Int) (i : Int) = some (decide (l.drop i = m.drop i))
 | 0, i, hd, hi => ⟨1, by simp only [slices_Equal_int_int.l0]; rw [if_neg (by omega), List.drop_of_length_le (by omega), List.drop_of_length_le (by omega)]; simp⟩
 | d + 1, i, hd, hi => by
   have hlt : i < l.length := by omega
   have hr : rd l i = l[i] := getD_toNat l 0 i hlt
   have hr2 : rd m i = m[i]'(by omega) := getD_toNat m 0 i (by omega)
   obtain ⟨k, hk⟩ := slices_Equal_int_int.l0_to l m hl hm d (i + 1) (by omega) (by omega)
   refine ⟨k + 1, ?_⟩
   simp only [slices_Equal_int_int.l0]
   rw [if_pos (by omega), if_pos (by omega), if_pos (by omega), if_pos (by omega), hr, hr2, drop_at l i hlt, drop_at m i (by omega)]
   by_cases e : l[i] = m[i]'(by omega)
   · rw [if_pos e, show wrap64 ((i : Int) + 1) = ((i + 1 : Nat) : Int) from by unfold wrap64; omega, hk, decide_cons_eq e]
   · rw [if_neg e, decide_cons_ne e]
theorem slices_Equal_int_int_c.to {l0 l1 : List Int} {r : Bool} (h : slices_Equal_int_int_c.f l0 l1 = some r) : ∃ k, slices_Equal_int_int.f k l0 l1 = some r := by
 unfold slices_Equal_int_int_c.f at h
 split at h
 case isFalse => cases h
 case isTrue hl =>
 obtain rfl := Option.some.inj h
 unfold slices_Equal_int_int.f
 by_cases e : (l0.length : Int) = (l1.length : Int)
 · obtain ⟨k, hk⟩ := slices_Equal_int_int.l0_to l0 l1 hl (by omega) l0.length 0 (by omega) (by omega)
   exact ⟨k, by rw [if_pos e]; simpa using hk⟩
 · refine ⟨0, ?_⟩
   rw [if_neg e, decide_eq_false]
   rintro rfl
   exact e rfl

theorem slices_Equal_int_int_c.calls (A0 : Option Addr) (c0 : Nat) (l0 : List Int) (A1 : Option Addr) (c1 : Nat) (l1 : List Int) (r : Bool) (w : World) (hr0 : Kd.C (Kd.int .i64) w A0 l0.length l0) (hc0 : l0.length ≤ c0) (hr1 : Kd.C (Kd.int .i64) w A1 l1.length l1) (hc1 : l1.length ≤ c1) (h : slices_Equal_int_int_c.f l0 l1 = some r) :
 Calls Try.prog 34 #[.slice A0 l0.length c0, .slice A1 l1.length c1] w fun e w' => e = .returned (.bool r) ∧ Drawn0 w w' := by
 obtain ⟨k_, hk_⟩ := slices_Equal_int_int_c.to h
 exact slices_Equal_int_int.calls k_ A0 c0 l0 A1 c1 l1 r w hr0 hc0 hr1 hc1 hk_

end Go.Proofs.Ytoooceaoggkeeaa.F
end

section
namespace Go.Proofs.Ytoooceaoggkeeaa.F
open Go.RowKit Go.Proofs.YtoooceaoggkeeaaW.PrintWords Go.Proofs.YtoooceaoggkeeaaW.PrintLast Go.Proofs.YtoooceaoggkeeaaW.PrintMore
attribute [local go_sem] max2_int min2_int max_two min_two max_three min_three max_four min_four   -- for this text's walks alone
set_option linter.unusedVariables false
set_option linter.unusedSimpArgs false

/-! ### pack_Same: function 18 -/
def pack_Same.f (a0_0 : Int) (a0_1 : Int) (a0_2 : Int) (a0_3 : Int) (a0_4 : Int) (l0_5 : List Int) (l0_6 : List Int) (a1_0 : Int) (a1_1 : Int) (a1_2 : Int) (a1_3 : Int) (a1_4 : Int) (l1_5 : List Int) (l1_6 : List Int) : Option (Bool) := if a0_0 = a1_0 then (if a0_1 = a1_1 then (if a0_2 = a1_2 then (if a0_3 = a1_3 then (if a0_4 = a1_4 then ((slices_Equal_int_int_c.f l0_5 l1_5).bind fun t103 => (if t103 = true then ((bytes_Equal.f l0_6 l1_6).bind fun t104 => (some t104)) else (some false))) else (some false)) else (some false)) else (some false)) else (some false)) else (some false)
set_option maxHeartbeats 8000000 in
set_option maxRecDepth 100000 in
theorem pack_Same.calls (a0_0 : Int) (a0_1 : Int) (a0_2 : Int) (a0_3 : Int) (a0_4 : Int) (A0_5 : Option Addr) (c0_5 : Nat) (l0_5 : List Int) (A0_6 : Option Addr) (c0_6 : Nat) (l0_6 : List Int) (a1_0 : Int) (a1_1 : Int) (a1_2 : Int) (a1_3 : Int) (a1_4 : Int) (A1_5 : Option Addr) (c1_5 : Nat) (l1_5 : List Int) (A1_6 : Option Addr) (c1_6 : Nat) (l1_6 : List Int) (r : Bool) (w : World) (hr0_5 : Kd.C (Kd.int .i64) w A0_5 l0_5.length l0_5) (hc0_5 : l0_5.length ≤ c0_5) (hr0_6 : Kd.C (Kd.int .u8) w A0_6 l0_6.length l0_6) (hc0_6 : l0_6.length ≤ c0_6) (hr1_5 : Kd.C (Kd.int .i64) w A1_5 l1_5.length l1_5) (hc1_5 : l1_5.length ≤ c1_5) (hr1_6 : Kd.C (Kd.int .u8) w A1_6 l1_6.length l1_6) (hc1_6 : l1_6.length ≤ c1_6) (h : pack_Same.f a0_0 a0_1 a0_2 a0_3 a0_4 l0_5 l0_6 a1_0 a1_1 a1_2 a1_3 a1_4 l1_5 l1_6 = some r) :
 Calls Try.prog 18 #[.agg #[.int .i64 a0_0, .int .u64 a0_1, .int .i64 a0_2, .int .i64 a0_3, .int .u32 a0_4, .slice A0_5 l0_5.length c0_5, .slice A0_6 l0_6.length c0_6], .agg #[.int .i64 a1_0, .int .u64 a1_1, .int .i64 a1_2, .int .i64 a1_3, .int .u32 a1_4, .slice A1_5 l1_5.length c1_5, .slice A1_6 l1_6.length c1_6]] w fun e w' => e = .returned (.bool r) ∧ Below w.heap.size w w' := by
 have hu28 := Try.underlying28
 have HR0_5 := Aside0.mk hr0_5
 have HC0_5 := Aside0.mk hc0_5
 clear hr0_5 hc0_5
 have HR0_6 := Aside0.mk hr0_6
 have HC0_6 := Aside0.mk hc0_6
 clear hr0_6 hc0_6
 have HR1_5 := Aside0.mk hr1_5
 have HC1_5 := Aside0.mk hc1_5
 clear hr1_5 hc1_5
 have HR1_6 := Aside0.mk hr1_6
 have HC1_6 := Aside0.mk hc1_6
 clear hr1_6 hc1_6
 have HB := Aside0.mk (Below.refl w.heap.size w)
 have H : (if a0_0 = a1_0 then (if a0_1 = a1_1 then (if a0_2 = a1_2 then (if a0_3 = a1_3 then (if a0_4 = a1_4 then ((slices_Equal_int_int_c.f l0_5 l1_5).bind fun t103 => (if t103 = true then ((bytes_Equal.f l0_6 l1_6).bind fun t104 => (some t104)) else (some false))) else (some false)) else (some false)) else (some false)) else (some false)) else (some false)) = some r := h
 clear h
 by_cases c3 : a0_0 = a1_0
 · rw [if_pos c3] at H
   have c3b0 : (a0_0 == a1_0) = true := beq_iff_eq.mpr c3
   have c3b1 : (a0_0 != a1_0) = false := bne_eq_false_iff_eq.mpr c3
   clear c3
   by_cases c4 : a0_1 = a1_1
   · rw [if_pos c4] at H
     have c4b0 : (a0_1 == a1_1) = true := beq_iff_eq.mpr c4
     have c4b1 : (a0_1 != a1_1) = false := bne_eq_false_iff_eq.mpr c4
     clear c4
     by_cases c5 : a0_2 = a1_2
     · rw [if_pos c5] at H
       have c5b0 : (a0_2 == a1_2) = true := beq_iff_eq.mpr c5
       have c5b1 : (a0_2 != a1_2) = false := bne_eq_false_iff_eq.mpr c5
       clear c5
       by_cases c6 : a0_3 = a1_3
       · rw [if_pos c6] at H
         have c6b0 : (a0_3 == a1_3) = true := beq_iff_eq.mpr c6
         have c6b1 : (a0_3 != a1_3) = false := bne_eq_false_iff_eq.mpr c6
         clear c6
         by_cases c7 : a0_4 = a1_4
         · rw [if_pos c7] at H
           have c7b0 : (a0_4 == a1_4) = true := beq_iff_eq.mpr c7
           have c7b1 : (a0_4 != a1_4) = false := bne_eq_false_iff_eq.mpr c7
           clear c7
           replace H := Option.bind_eq_some_iff.mp H
           obtain ⟨t103, A80, H⟩ := H
           replace H : (if t103 = true then ((bytes_Equal.f l0_6 l1_6).bind fun t104 => (some t104)) else (some false)) = some r := H
           have A8 := Aside0.mk A80
           clear A80
           by_cases c9 : t103 = true
           · subst c9
             have H1 : ((bytes_Equal.f l0_6 l1_6).bind fun t104 => (some t104)) = some r := by rw [if_pos rfl] at H; exact H
             clear H
             have H := H1
             clear H1
             replace H := Option.bind_eq_some_iff.mp H
             obtain ⟨t104, A100, H⟩ := H
             replace H : (some t104) = some r := H
             have A10 := Aside0.mk A100
             clear A100
             obtain rfl := Option.some.inj H
             go_enter Try.func18, Try.ntmps18
             go_wp2_with (first | ((with_reducible refine gate_dst (N := 2) rfl ?_); refine box_event ?hg (N := 2) ?hd (cs := #[.int .i64 a0_0, .int .u64 a0_1, .int .i64 a0_2, .int .i64 a0_3, .int .u32 a0_4, .slice A0_5 l0_5.length c0_5, .slice A0_6 l0_6.length c0_6]) (t := 28) ?hr ?_; (case hd => rfl); (case hg => rfl); (case hr => first | (go_simp; done) | (go_simp; rfl)); intro gb101 hg w11 hbox hb; have n0_ := Aside0.mk (below_step (by repeat (first | (with_reducible first | exact HB.out | apply below_alloc | apply pw_below_drewN | apply below_drew1) | exact HB.out)) hb); have n1_ := Aside0.mk (hbox); have n2_ := Aside0.mk ((by rw [hg]; exact (below_size (by repeat (first | (with_reducible first | exact HB.out | apply below_alloc | apply pw_below_drewN | apply below_drew1) | exact HB.out))) : w.heap.size ≤ gb101)); have n3_ := Aside0.mk ((by rw [hg]; exact (below_size (by repeat (first | (with_reducible first | exact HB.out | apply below_alloc | apply pw_below_drewN | apply below_drew1) | exact HB.out))) : w.heap.size ≤ gb101)); clear HB; have HB := n0_; have BK101 := n1_; have GW101 := n2_; have GE101 := n3_; clear n0_ n1_ n2_ n3_; clear hb hbox hg) | ((with_reducible refine gate_dst (N := 3) rfl ?_); refine box_event ?hg (N := 3) ?hd (cs := #[.int .i64 a1_0, .int .u64 a1_1, .int .i64 a1_2, .int .i64 a1_3, .int .u32 a1_4, .slice A1_5 l1_5.length c1_5, .slice A1_6 l1_6.length c1_6]) (t := 28) ?hr ?_; (case hd => rfl); (case hg => rfl); (case hr => first | (go_simp; done) | (go_simp; rfl)); intro gb102 hg w12 hbox hb; have n0_ := Aside0.mk (blk_below (g := gb101) (o := .cells #[.int .i64 a0_0, .int .u64 a0_1, .int .i64 a0_2, .int .i64 a0_3, .int .u32 a0_4, .slice A0_5 l0_5.length c0_5, .slice A0_6 l0_6.length c0_6] 28 (0, 0)) (by (with_reducible repeat (first | refine blk_drewN ?_ _ | refine blk_drew ?_ | refine blk_alloc ?_ _)); exact BK101.out) hb); have n1_ := Aside0.mk (below_step (by repeat (first | (with_reducible first | exact HB.out | apply below_alloc | apply pw_below_drewN | apply below_drew1 | refine below_set ?_ GE101.out) | exact HB.out)) hb); have n2_ := Aside0.mk (hbox); have n3_ := Aside0.mk ((by rw [hg]; exact (below_size (by repeat (first | (with_reducible first | exact HB.out | apply below_alloc | apply pw_below_drewN | apply below_drew1 | refine below_set ?_ GE101.out) | exact HB.out))) : w.heap.size ≤ gb102)); have n4_ := Aside0.mk ((by rw [hg]; exact (below_size (by repeat (first | (with_reducible first | exact HB.out | apply below_alloc | apply pw_below_drewN | apply below_drew1 | refine below_set ?_ GE101.out) | exact HB.out))) : w.heap.size ≤ gb102)); have n5_ := Aside0.mk ((by rw [hg]; exact Nat.ne_of_lt (blk_lt (g := gb101) (o := .cells #[.int .i64 a0_0, .int .u64 a0_1, .int .i64 a0_2, .int .i64 a0_3, .int .u32 a0_4, .slice A0_5 l0_5.length c0_5, .slice A0_6 l0_6.length c0_6] 28 (0, 0)) (by (with_reducible repeat (first | refine blk_drewN ?_ _ | refine blk_drew ?_ | refine blk_alloc ?_ _)); exact BK101.out)) : gb101 ≠ gb102)); have n6_ := Aside0.mk ((by rw [hg]; exact Nat.ne_of_gt (blk_lt (g := gb101) (o := .cells #[.int .i64 a0_0, .int .u64 a0_1, .int .i64 a0_2, .int .i64 a0_3, .int .u32 a0_4, .slice A0_5 l0_5.length c0_5, .slice A0_6 l0_6.length c0_6] 28 (0, 0)) (by (with_reducible repeat (first | refine blk_drewN ?_ _ | refine blk_drew ?_ | refine blk_alloc ?_ _)); exact BK101.out)) : gb102 ≠ gb101)); clear BK101; clear HB; have BK101 := n0_; have HB := n1_; have BK102 := n2_; have GW102 := n3_; have GE102 := n4_; have NB101_102 := n5_; have NB102_101 := n6_; clear n0_ n1_ n2_ n3_ n4_ n5_ n6_; clear hb hbox hg; have hnb13 := NB101_102.out; have hnc13 := NB102_101.out; have hcz14_0 : w12.cell? ⟨gb101, 0, none⟩ = some (.int .i64 a0_0) := (blk_cell BK101.out 0).trans rfl; have hcz14_1 : w12.cell? ⟨gb101, 1, none⟩ = some (.int .u64 a0_1) := (blk_cell BK101.out 1).trans rfl; have hcz14_2 : w12.cell? ⟨gb101, 2, none⟩ = some (.int .i64 a0_2) := (blk_cell BK101.out 2).trans rfl; have hcz14_3 : w12.cell? ⟨gb101, 3, none⟩ = some (.int .i64 a0_3) := (blk_cell BK101.out 3).trans rfl; have hcz14_4 : w12.cell? ⟨gb101, 4, none⟩ = some (.int .u32 a0_4) := (blk_cell BK101.out 4).trans rfl; have hcz14_5 : w12.cell? ⟨gb101, 5, none⟩ = some (.slice A0_5 l0_5.length c0_5) := (blk_cell BK101.out 5).trans rfl; have hcz14_6 : w12.cell? ⟨gb101, 6, none⟩ = some (.slice A0_6 l0_6.length c0_6) := (blk_cell BK101.out 6).trans rfl; have hfz14_0 := blk_frozen BK101.out 0; have hfz14_1 := blk_frozen BK101.out 1; have hfz14_2 := blk_frozen BK101.out 2; have hfz14_3 := blk_frozen BK101.out 3; have hfz14_4 := blk_frozen BK101.out 4; have hfz14_5 := blk_frozen BK101.out 5; have hfz14_6 := blk_frozen BK101.out 6; have hcz15_0 : w12.cell? ⟨gb102, 0, none⟩ = some (.int .i64 a1_0) := (blk_cell BK102.out 0).trans rfl; have hcz15_1 : w12.cell? ⟨gb102, 1, none⟩ = some (.int .u64 a1_1) := (blk_cell BK102.out 1).trans rfl; have hcz15_2 : w12.cell? ⟨gb102, 2, none⟩ = some (.int .i64 a1_2) := (blk_cell BK102.out 2).trans rfl; have hcz15_3 : w12.cell? ⟨gb102, 3, none⟩ = some (.int .i64 a1_3) := (blk_cell BK102.out 3).trans rfl; have hcz15_4 : w12.cell? ⟨gb102, 4, none⟩ = some (.int .u32 a1_4) := (blk_cell BK102.out 4).trans rfl; have hcz15_5 : w12.cell? ⟨gb102, 5, none⟩ = some (.slice A1_5 l1_5.length c1_5) := (blk_cell BK102.out 5).trans rfl; have hcz15_6 : w12.cell? ⟨gb102, 6, none⟩ = some (.slice A1_6 l1_6.length c1_6) := (blk_cell BK102.out 6).trans rfl; have hfz15_0 := blk_frozen BK102.out 0; have hfz15_1 := blk_frozen BK102.out 1; have hfz15_2 := blk_frozen BK102.out 2; have hfz15_3 := blk_frozen BK102.out 3; have hfz15_4 := blk_frozen BK102.out 4; have hfz15_5 := blk_frozen BK102.out 5; have hfz15_6 := blk_frozen BK102.out 6) | (go_at_call 34; (with_reducible refine (slices_Equal_int_int_c.calls _ _ l0_5 _ _ l1_5 true _ ?side1 ?side2 ?side3 ?side4 A8.out).mono ?_); (case side1 => repeat (first | exact (Kd.C_below HR0_5.out HB.out) | (with_reducible refine Kd.C_alloc ?_ _) | (with_reducible refine Kd.C_drewN ?_ _) | (with_reducible refine Kd.C_drew ?_))); (case side2 => exact HC0_5.out); (case side3 => repeat (first | exact (Kd.C_below HR1_5.out HB.out) | (with_reducible refine Kd.C_alloc ?_ _) | (with_reducible refine Kd.C_drewN ?_ _) | (with_reducible refine Kd.C_drew ?_))); (case side4 => exact HC1_5.out); rintro e w' ⟨rfl, ⟨nd, rfl⟩⟩) | (go_at_call 27; (with_reducible refine (bytes_Equal.calls _ _ l0_6 _ _ l1_6 t104 _ ?side1 ?side2 ?side3 ?side4 A10.out).mono ?_); (case side1 => repeat (first | exact (Kd.C_below HR0_6.out (by repeat (first | (with_reducible first | exact HB.out | apply below_alloc | apply pw_below_drewN | apply below_drew1 | refine below_set ?_ GE101.out | refine below_set ?_ GE102.out) | exact HB.out))) | (with_reducible refine Kd.C_alloc ?_ _) | (with_reducible refine Kd.C_drewN ?_ _) | (with_reducible refine Kd.C_drew ?_))); (case side2 => exact HC0_6.out); (case side3 => repeat (first | exact (Kd.C_below HR1_6.out (by repeat (first | (with_reducible first | exact HB.out | apply below_alloc | apply pw_below_drewN | apply below_drew1 | refine below_set ?_ GE101.out | refine below_set ?_ GE102.out) | exact HB.out))) | (with_reducible refine Kd.C_alloc ?_ _) | (with_reducible refine Kd.C_drewN ?_ _) | (with_reducible refine Kd.C_drew ?_))); (case side4 => exact HC1_6.out); rintro e w' ⟨rfl, ⟨nd, rfl⟩⟩))
             go_ret
             exact ⟨by first | rfl | (simp [errW_none, errW_some] <;> rfl) | (simp [*, errW_none, errW_some] <;> rfl), by repeat (first | (with_reducible first | exact HB.out | apply below_alloc | apply pw_below_drewN | apply below_drew1 | refine below_set ?_ GE101.out | refine below_set ?_ GE102.out) | exact HB.out)⟩
           · replace c9 := Bool.eq_false_iff.mpr c9
             subst c9
             have H1 : (some false) = some r := by rw [if_neg (show ¬ (false = true) by decide)] at H; exact H
             clear H
             have H := H1
             clear H1
             obtain rfl := Option.some.inj H
             go_enter Try.func18, Try.ntmps18
             go_wp2_with (first | ((with_reducible refine gate_dst (N := 2) rfl ?_); refine box_event ?hg (N := 2) ?hd (cs := #[.int .i64 a0_0, .int .u64 a0_1, .int .i64 a0_2, .int .i64 a0_3, .int .u32 a0_4, .slice A0_5 l0_5.length c0_5, .slice A0_6 l0_6.length c0_6]) (t := 28) ?hr ?_; (case hd => rfl); (case hg => rfl); (case hr => first | (go_simp; done) | (go_simp; rfl)); intro gb101 hg w16 hbox hb; have n0_ := Aside0.mk (below_step (by repeat (first | (with_reducible first | exact HB.out | apply below_alloc | apply pw_below_drewN | apply below_drew1) | exact HB.out)) hb); have n1_ := Aside0.mk (hbox); have n2_ := Aside0.mk ((by rw [hg]; exact (below_size (by repeat (first | (with_reducible first | exact HB.out | apply below_alloc | apply pw_below_drewN | apply below_drew1) | exact HB.out))) : w.heap.size ≤ gb101)); have n3_ := Aside0.mk ((by rw [hg]; exact (below_size (by repeat (first | (with_reducible first | exact HB.out | apply below_alloc | apply pw_below_drewN | apply below_drew1) | exact HB.out))) : w.heap.size ≤ gb101)); clear HB; have HB := n0_; have BK101 := n1_; have GW101 := n2_; have GE101 := n3_; clear n0_ n1_ n2_ n3_; clear hb hbox hg) | ((with_reducible refine gate_dst (N := 3) rfl ?_); refine box_event ?hg (N := 3) ?hd (cs := #[.int .i64 a1_0, .int .u64 a1_1, .int .i64 a1_2, .int .i64 a1_3, .int .u32 a1_4, .slice A1_5 l1_5.length c1_5, .slice A1_6 l1_6.length c1_6]) (t := 28) ?hr ?_; (case hd => rfl); (case hg => rfl); (case hr => first | (go_simp; done) | (go_simp; rfl)); intro gb102 hg w17 hbox hb; have n0_ := Aside0.mk (blk_below (g := gb101) (o := .cells #[.int .i64 a0_0, .int .u64 a0_1, .int .i64 a0_2, .int .i64 a0_3, .int .u32 a0_4, .slice A0_5 l0_5.length c0_5, .slice A0_6 l0_6.length c0_6] 28 (0, 0)) (by (with_reducible repeat (first | refine blk_drewN ?_ _ | refine blk_drew ?_ | refine blk_alloc ?_ _)); exact BK101.out) hb); have n1_ := Aside0.mk (below_step (by repeat (first | (with_reducible first | exact HB.out | apply below_alloc | apply pw_below_drewN | apply below_drew1 | refine below_set ?_ GE101.out) | exact HB.out)) hb); have n2_ := Aside0.mk (hbox); have n3_ := Aside0.mk ((by rw [hg]; exact (below_size (by repeat (first | (with_reducible first | exact HB.out | apply below_alloc | apply pw_below_drewN | apply below_drew1 | refine below_set ?_ GE101.out) | exact HB.out))) : w.heap.size ≤ gb102)); have n4_ := Aside0.mk ((by rw [hg]; exact (below_size (by repeat (first | (with_reducible first | exact HB.out | apply below_alloc | apply pw_below_drewN | apply below_drew1 | refine below_set ?_ GE101.out) | exact HB.out))) : w.heap.size ≤ gb102)); have n5_ := Aside0.mk ((by rw [hg]; exact Nat.ne_of_lt (blk_lt (g := gb101) (o := .cells #[.int .i64 a0_0, .int .u64 a0_1, .int .i64 a0_2, .int .i64 a0_3, .int .u32 a0_4, .slice A0_5 l0_5.length c0_5, .slice A0_6 l0_6.length c0_6] 28 (0, 0)) (by (with_reducible repeat (first | refine blk_drewN ?_ _ | refine blk_drew ?_ | refine blk_alloc ?_ _)); exact BK101.out)) : gb101 ≠ gb102)); have n6_ := Aside0.mk ((by rw [hg]; exact Nat.ne_of_gt (blk_lt (g := gb101) (o := .cells #[.int .i64 a0_0, .int .u64 a0_1, .int .i64 a0_2, .int .i64 a0_3, .int .u32 a0_4, .slice A0_5 l0_5.length c0_5, .slice A0_6 l0_6.length c0_6] 28 (0, 0)) (by (with_reducible repeat (first | refine blk_drewN ?_ _ | refine blk_drew ?_ | refine blk_alloc ?_ _)); exact BK101.out)) : gb102 ≠ gb101)); clear BK101; clear HB; have BK101 := n0_; have HB := n1_; have BK102 := n2_; have GW102 := n3_; have GE102 := n4_; have NB101_102 := n5_; have NB102_101 := n6_; clear n0_ n1_ n2_ n3_ n4_ n5_ n6_; clear hb hbox hg; have hnb18 := NB101_102.out; have hnc18 := NB102_101.out; have hcz19_0 : w17.cell? ⟨gb101, 0, none⟩ = some (.int .i64 a0_0) := (blk_cell BK101.out 0).trans rfl; have hcz19_1 : w17.cell? ⟨gb101, 1, none⟩ = some (.int .u64 a0_1) := (blk_cell BK101.out 1).trans rfl; have hcz19_2 : w17.cell? ⟨gb101, 2, none⟩ = some (.int .i64 a0_2) := (blk_cell BK101.out 2).trans rfl; have hcz19_3 : w17.cell? ⟨gb101, 3, none⟩ = some (.int .i64 a0_3) := (blk_cell BK101.out 3).trans rfl; have hcz19_4 : w17.cell? ⟨gb101, 4, none⟩ = some (.int .u32 a0_4) := (blk_cell BK101.out 4).trans rfl; have hcz19_5 : w17.cell? ⟨gb101, 5, none⟩ = some (.slice A0_5 l0_5.length c0_5) := (blk_cell BK101.out 5).trans rfl; have hcz19_6 : w17.cell? ⟨gb101, 6, none⟩ = some (.slice A0_6 l0_6.length c0_6) := (blk_cell BK101.out 6).trans rfl; have hfz19_0 := blk_frozen BK101.out 0; have hfz19_1 := blk_frozen BK101.out 1; have hfz19_2 := blk_frozen BK101.out 2; have hfz19_3 := blk_frozen BK101.out 3; have hfz19_4 := blk_frozen BK101.out 4; have hfz19_5 := blk_frozen BK101.out 5; have hfz19_6 := blk_frozen BK101.out 6; have hcz20_0 : w17.cell? ⟨gb102, 0, none⟩ = some (.int .i64 a1_0) := (blk_cell BK102.out 0).trans rfl; have hcz20_1 : w17.cell? ⟨gb102, 1, none⟩ = some (.int .u64 a1_1) := (blk_cell BK102.out 1).trans rfl; have hcz20_2 : w17.cell? ⟨gb102, 2, none⟩ = some (.int .i64 a1_2) := (blk_cell BK102.out 2).trans rfl; have hcz20_3 : w17.cell? ⟨gb102, 3, none⟩ = some (.int .i64 a1_3) := (blk_cell BK102.out 3).trans rfl; have hcz20_4 : w17.cell? ⟨gb102, 4, none⟩ = some (.int .u32 a1_4) := (blk_cell BK102.out 4).trans rfl; have hcz20_5 : w17.cell? ⟨gb102, 5, none⟩ = some (.slice A1_5 l1_5.length c1_5) := (blk_cell BK102.out 5).trans rfl; have hcz20_6 : w17.cell? ⟨gb102, 6, none⟩ = some (.slice A1_6 l1_6.length c1_6) := (blk_cell BK102.out 6).trans rfl; have hfz20_0 := blk_frozen BK102.out 0; have hfz20_1 := blk_frozen BK102.out 1; have hfz20_2 := blk_frozen BK102.out 2; have hfz20_3 := blk_frozen BK102.out 3; have hfz20_4 := blk_frozen BK102.out 4; have hfz20_5 := blk_frozen BK102.out 5; have hfz20_6 := blk_frozen BK102.out 6) | (go_at_call 34; (with_reducible refine (slices_Equal_int_int_c.calls _ _ l0_5 _ _ l1_5 false _ ?side1 ?side2 ?side3 ?side4 A8.out).mono ?_); (case side1 => repeat (first | exact (Kd.C_below HR0_5.out HB.out) | (with_reducible refine Kd.C_alloc ?_ _) | (with_reducible refine Kd.C_drewN ?_ _) | (with_reducible refine Kd.C_drew ?_))); (case side2 => exact HC0_5.out); (case side3 => repeat (first | exact (Kd.C_below HR1_5.out HB.out) | (with_reducible refine Kd.C_alloc ?_ _) | (with_reducible refine Kd.C_drewN ?_ _) | (with_reducible refine Kd.C_drew ?_))); (case side4 => exact HC1_5.out); rintro e w' ⟨rfl, ⟨nd, rfl⟩⟩))
             go_ret
             exact ⟨by first | rfl | (simp [errW_none, errW_some] <;> rfl) | (simp [*, errW_none, errW_some] <;> rfl), by repeat (first | (with_reducible first | exact HB.out | apply below_alloc | apply pw_below_drewN | apply below_drew1 | refine below_set ?_ GE101.out | refine below_set ?_ GE102.out) | exact HB.out)⟩
         · rw [if_neg c7] at H
           have c7b0 : (a0_4 == a1_4) = false := beq_eq_false_iff_ne.mpr c7
           have c7b1 : (a0_4 != a1_4) = true := bne_iff_ne.mpr c7
           obtain rfl := Option.some.inj H
           go_enter Try.func18, Try.ntmps18
           go_wp2_with (first | ((with_reducible refine gate_dst (N := 2) rfl ?_); refine box_event ?hg (N := 2) ?hd (cs := #[.int .i64 a0_0, .int .u64 a0_1, .int .i64 a0_2, .int .i64 a0_3, .int .u32 a0_4, .slice A0_5 l0_5.length c0_5, .slice A0_6 l0_6.length c0_6]) (t := 28) ?hr ?_; (case hd => rfl); (case hg => rfl); (case hr => first | (go_simp; done) | (go_simp; rfl)); intro gb101 hg w21 hbox hb; have n0_ := Aside0.mk (below_step (by repeat (first | (with_reducible first | exact HB.out | apply below_alloc | apply pw_below_drewN | apply below_drew1) | exact HB.out)) hb); have n1_ := Aside0.mk (hbox); have n2_ := Aside0.mk ((by rw [hg]; exact (below_size (by repeat (first | (with_reducible first | exact HB.out | apply below_alloc | apply pw_below_drewN | apply below_drew1) | exact HB.out))) : w.heap.size ≤ gb101)); have n3_ := Aside0.mk ((by rw [hg]; exact (below_size (by repeat (first | (with_reducible first | exact HB.out | apply below_alloc | apply pw_below_drewN | apply below_drew1) | exact HB.out))) : w.heap.size ≤ gb101)); clear HB; have HB := n0_; have BK101 := n1_; have GW101 := n2_; have GE101 := n3_; clear n0_ n1_ n2_ n3_; clear hb hbox hg) | ((with_reducible refine gate_dst (N := 3) rfl ?_); refine box_event ?hg (N := 3) ?hd (cs := #[.int .i64 a1_0, .int .u64 a1_1, .int .i64 a1_2, .int .i64 a1_3, .int .u32 a1_4, .slice A1_5 l1_5.length c1_5, .slice A1_6 l1_6.length c1_6]) (t := 28) ?hr ?_; (case hd => rfl); (case hg => rfl); (case hr => first | (go_simp; done) | (go_simp; rfl)); intro gb102 hg w22 hbox hb; have n0_ := Aside0.mk (blk_below (g := gb101) (o := .cells #[.int .i64 a0_0, .int .u64 a0_1, .int .i64 a0_2, .int .i64 a0_3, .int .u32 a0_4, .slice A0_5 l0_5.length c0_5, .slice A0_6 l0_6.length c0_6] 28 (0, 0)) (by (with_reducible repeat (first | refine blk_drewN ?_ _ | refine blk_drew ?_ | refine blk_alloc ?_ _)); exact BK101.out) hb); have n1_ := Aside0.mk (below_step (by repeat (first | (with_reducible first | exact HB.out | apply below_alloc | apply pw_below_drewN | apply below_drew1 | refine below_set ?_ GE101.out) | exact HB.out)) hb); have n2_ := Aside0.mk (hbox); have n3_ := Aside0.mk ((by rw [hg]; exact (below_size (by repeat (first | (with_reducible first | exact HB.out | apply below_alloc | apply pw_below_drewN | apply below_drew1 | refine below_set ?_ GE101.out) | exact HB.out))) : w.heap.size ≤ gb102)); have n4_ := Aside0.mk ((by rw [hg]; exact (below_size (by repeat (first | (with_reducible first | exact HB.out | apply below_alloc | apply pw_below_drewN | apply below_drew1 | refine below_set ?_ GE101.out) | exact HB.out))) : w.heap.size ≤ gb102)); have n5_ := Aside0.mk ((by rw [hg]; exact Nat.ne_of_lt (blk_lt (g := gb101) (o := .cells #[.int .i64 a0_0, .int .u64 a0_1, .int .i64 a0_2, .int .i64 a0_3, .int .u32 a0_4, .slice A0_5 l0_5.length c0_5, .slice A0_6 l0_6.length c0_6] 28 (0, 0)) (by (with_reducible repeat (first | refine blk_drewN ?_ _ | refine blk_drew ?_ | refine blk_alloc ?_ _)); exact BK101.out)) : gb101 ≠ gb102)); have n6_ := Aside0.mk ((by rw [hg]; exact Nat.ne_of_gt (blk_lt (g := gb101) (o := .cells #[.int .i64 a0_0, .int .u64 a0_1, .int .i64 a0_2, .int .i64 a0_3, .int .u32 a0_4, .slice A0_5 l0_5.length c0_5, .slice A0_6 l0_6.length c0_6] 28 (0, 0)) (by (with_reducible repeat (first | refine blk_drewN ?_ _ | refine blk_drew ?_ | refine blk_alloc ?_ _)); exact BK101.out)) : gb102 ≠ gb101)); clear BK101; clear HB; have BK101 := n0_; have HB := n1_; have BK102 := n2_; have GW102 := n3_; have GE102 := n4_; have NB101_102 := n5_; have NB102_101 := n6_; clear n0_ n1_ n2_ n3_ n4_ n5_ n6_; clear hb hbox hg; have hnb23 := NB101_102.out; have hnc23 := NB102_101.out; have hcz24_0 : w22.cell? ⟨gb101, 0, none⟩ = some (.int .i64 a0_0) := (blk_cell BK101.out 0).trans rfl; have hcz24_1 : w22.cell? ⟨gb101, 1, none⟩ = some (.int .u64 a0_1) := (blk_cell BK101.out 1).trans rfl; have hcz24_2 : w22.cell? ⟨gb101, 2, none⟩ = some (.int .i64 a0_2) := (blk_cell BK101.out 2).trans rfl; have hcz24_3 : w22.cell? ⟨gb101, 3, none⟩ = some (.int .i64 a0_3) := (blk_cell BK101.out 3).trans rfl; have hcz24_4 : w22.cell? ⟨gb101, 4, none⟩ = some (.int .u32 a0_4) := (blk_cell BK101.out 4).trans rfl; have hcz24_5 : w22.cell? ⟨gb101, 5, none⟩ = some (.slice A0_5 l0_5.length c0_5) := (blk_cell BK101.out 5).trans rfl; have hcz24_6 : w22.cell? ⟨gb101, 6, none⟩ = some (.slice A0_6 l0_6.length c0_6) := (blk_cell BK101.out 6).trans rfl; have hfz24_0 := blk_frozen BK101.out 0; have hfz24_1 := blk_frozen BK101.out 1; have hfz24_2 := blk_frozen BK101.out 2; have hfz24_3 := blk_frozen BK101.out 3; have hfz24_4 := blk_frozen BK101.out 4; have hfz24_5 := blk_frozen BK101.out 5; have hfz24_6 := blk_frozen BK101.out 6; have hcz25_0 : w22.cell? ⟨gb102, 0, none⟩ = some (.int .i64 a1_0) := (blk_cell BK102.out 0).trans rfl; have hcz25_1 : w22.cell? ⟨gb102, 1, none⟩ = some (.int .u64 a1_1) := (blk_cell BK102.out 1).trans rfl; have hcz25_2 : w22.cell? ⟨gb102, 2, none⟩ = some (.int .i64 a1_2) := (blk_cell BK102.out 2).trans rfl; have hcz25_3 : w22.cell? ⟨gb102, 3, none⟩ = some (.int .i64 a1_3) := (blk_cell BK102.out 3).trans rfl; have hcz25_4 : w22.cell? ⟨gb102, 4, none⟩ = some (.int .u32 a1_4) := (blk_cell BK102.out 4).trans rfl; have hcz25_5 : w22.cell? ⟨gb102, 5, none⟩ = some (.slice A1_5 l1_5.length c1_5) := (blk_cell BK102.out 5).trans rfl; have hcz25_6 : w22.cell? ⟨gb102, 6, none⟩ = some (.slice A1_6 l1_6.length c1_6) := (blk_cell BK102.out 6).trans rfl; have hfz25_0 := blk_frozen BK102.out 0; have hfz25_1 := blk_frozen BK102.out 1; have hfz25_2 := blk_frozen BK102.out 2; have hfz25_3 := blk_frozen BK102.out 3; have hfz25_4 := blk_frozen BK102.out 4; have hfz25_5 := blk_frozen BK102.out 5; have hfz25_6 := blk_frozen BK102.out 6))
           go_ret
           exact ⟨by first | rfl | (simp [errW_none, errW_some] <;> rfl) | (simp [*, errW_none, errW_some] <;> rfl), by repeat (first | (with_reducible first | exact HB.out | apply below_alloc | apply pw_below_drewN | apply below_drew1 | refine below_set ?_ GE101.out | refine below_set ?_ GE102.out) | exact HB.out)⟩
       · rw [if_neg c6] at H
         have c6b0 : (a0_3 == a1_3) = false := beq_eq_false_iff_ne.mpr c6
         have c6b1 : (a0_3 != a1_3) = true := bne_iff_ne.mpr c6
         obtain rfl := Option.some.inj H
         go_enter Try.func18, Try.ntmps18
         go_wp2_with (first | ((with_reducible refine gate_dst (N := 2) rfl ?_); refine box_event ?hg (N := 2) ?hd (cs := #[.int .i64 a0_0, .int .u64 a0_1, .int .i64 a0_2, .int .i64 a0_3, .int .u32 a0_4, .slice A0_5 l0_5.length c0_5, .slice A0_6 l0_6.length c0_6]) (t := 28) ?hr ?_; (case hd => rfl); (case hg => rfl); (case hr => first | (go_simp; done) | (go_simp; rfl)); intro gb101 hg w26 hbox hb; have n0_ := Aside0.mk (below_step (by repeat (first | (with_reducible first | exact HB.out | apply below_alloc | apply pw_below_drewN | apply below_drew1) | exact HB.out)) hb); have n1_ := Aside0.mk (hbox); have n2_ := Aside0.mk ((by rw [hg]; exact (below_size (by repeat (first | (with_reducible first | exact HB.out | apply below_alloc | apply pw_below_drewN | apply below_drew1) | exact HB.out))) : w.heap.size ≤ gb101)); have n3_ := Aside0.mk ((by rw [hg]; exact (below_size (by repeat (first | (with_reducible first | exact HB.out | apply below_alloc | apply pw_below_drewN | apply below_drew1) | exact HB.out))) : w.heap.size ≤ gb101)); clear HB; have HB := n0_; have BK101 := n1_; have GW101 := n2_; have GE101 := n3_; clear n0_ n1_ n2_ n3_; clear hb hbox hg) | ((with_reducible refine gate_dst (N := 3) rfl ?_); refine box_event ?hg (N := 3) ?hd (cs := #[.int .i64 a1_0, .int .u64 a1_1, .int .i64 a1_2, .int .i64 a1_3, .int .u32 a1_4, .slice A1_5 l1_5.length c1_5, .slice A1_6 l1_6.length c1_6]) (t := 28) ?hr ?_; (case hd => rfl); (case hg => rfl); (case hr => first | (go_simp; done) | (go_simp; rfl)); intro gb102 hg w27 hbox hb; have n0_ := Aside0.mk (blk_below (g := gb101) (o := .cells #[.int .i64 a0_0, .int .u64 a0_1, .int .i64 a0_2, .int .i64 a0_3, .int .u32 a0_4, .slice A0_5 l0_5.length c0_5, .slice A0_6 l0_6.length c0_6] 28 (0, 0)) (by (with_reducible repeat (first | refine blk_drewN ?_ _ | refine blk_drew ?_ | refine blk_alloc ?_ _)); exact BK101.out) hb); have n1_ := Aside0.mk (below_step (by repeat (first | (with_reducible first | exact HB.out | apply below_alloc | apply pw_below_drewN | apply below_drew1 | refine below_set ?_ GE101.out) | exact HB.out)) hb); have n2_ := Aside0.mk (hbox); have n3_ := Aside0.mk ((by rw [hg]; exact (below_size (by repeat (first | (with_reducible first | exact HB.out | apply below_alloc | apply pw_below_drewN | apply below_drew1 | refine below_set ?_ GE101.out) | exact HB.out))) : w.heap.size ≤ gb102)); have n4_ := Aside0.mk ((by rw [hg]; exact (below_size (by repeat (first | (with_reducible first | exact HB.out | apply below_alloc | apply pw_below_drewN | apply below_drew1 | refine below_set ?_ GE101.out) | exact HB.out))) : w.heap.size ≤ gb102)); have n5_ := Aside0.mk ((by rw [hg]; exact Nat.ne_of_lt (blk_lt (g := gb101) (o := .cells #[.int .i64 a0_0, .int .u64 a0_1, .int .i64 a0_2, .int .i64 a0_3, .int .u32 a0_4, .slice A0_5 l0_5.length c0_5, .slice A0_6 l0_6.length c0_6] 28 (0, 0)) (by (with_reducible repeat (first | refine blk_drewN ?_ _ | refine blk_drew ?_ | refine blk_alloc ?_ _)); exact BK101.out)) : gb101 ≠ gb102)); have n6_ := Aside0.mk ((by rw [hg]; exact Nat.ne_of_gt (blk_lt (g := gb101) (o := .cells #[.int .i64 a0_0, .int .u64 a0_1, .int .i64 a0_2, .int .i64 a0_3, .int .u32 a0_4, .slice A0_5 l0_5.length c0_5, .slice A0_6 l0_6.length c0_6] 28 (0, 0)) (by (with_reducible repeat (first | refine blk_drewN ?_ _ | refine blk_drew ?_ | refine blk_alloc ?_ _)); exact BK101.out)) : gb102 ≠ gb101)); clear BK101; clear HB; have BK101 := n0_; have HB := n1_; have BK102 := n2_; have GW102 := n3_; have GE102 := n4_; have NB101_102 := n5_; have NB102_101 := n6_; clear n0_ n1_ n2_ n3_ n4_ n5_ n6_; clear hb hbox hg; have hnb28 := NB101_102.out; have hnc28 := NB102_101.out; have hcz29_0 : w27.cell? ⟨gb101, 0, none⟩ = some (.int .i64 a0_0) := (blk_cell BK101.out 0).trans rfl; have hcz29_1 : w27.cell? ⟨gb101, 1, none⟩ = some (.int .u64 a0_1) := (blk_cell BK101.out 1).trans rfl; have hcz29_2 : w27.cell? ⟨gb101, 2, none⟩ = some (.int .i64 a0_2) := (blk_cell BK101.out 2).trans rfl; have hcz29_3 : w27.cell? ⟨gb101, 3, none⟩ = some (.int .i64 a0_3) := (blk_cell BK101.out 3).trans rfl; have hcz29_4 : w27.cell? ⟨gb101, 4, none⟩ = some (.int .u32 a0_4) := (blk_cell BK101.out 4).trans rfl; have hcz29_5 : w27.cell? ⟨gb101, 5, none⟩ = some (.slice A0_5 l0_5.length c0_5) := (blk_cell BK101.out 5).trans rfl; have hcz29_6 : w27.cell? ⟨gb101, 6, none⟩ = some (.slice A0_6 l0_6.length c0_6) := (blk_cell BK101.out 6).trans rfl; have hfz29_0 := blk_frozen BK101.out 0; have hfz29_1 := blk_frozen BK101.out 1; have hfz29_2 := blk_frozen BK101.out 2; have hfz29_3 := blk_frozen BK101.out 3; have hfz29_4 := blk_frozen BK101.out 4; have hfz29_5 := blk_frozen BK101.out 5; have hfz29_6 := blk_frozen BK101.out 6; have hcz30_0 : w27.cell? ⟨gb102, 0, none⟩ = some (.int .i64 a1_0) := (blk_cell BK102.out 0).trans rfl; have hcz30_1 : w27.cell? ⟨gb102, 1, none⟩ = some (.int .u64 a1_1) := (blk_cell BK102.out 1).trans rfl; have hcz30_2 : w27.cell? ⟨gb102, 2, none⟩ = some (.int .i64 a1_2) := (blk_cell BK102.out 2).trans rfl; have hcz30_3 : w27.cell? ⟨gb102, 3, none⟩ = some (.int .i64 a1_3) := (blk_cell BK102.out 3).trans rfl; have hcz30_4 : w27.cell? ⟨gb102, 4, none⟩ = some (.int .u32 a1_4) := (blk_cell BK102.out 4).trans rfl; have hcz30_5 : w27.cell? ⟨gb102, 5, none⟩ = some (.slice A1_5 l1_5.length c1_5) := (blk_cell BK102.out 5).trans rfl; have hcz30_6 : w27.cell? ⟨gb102, 6, none⟩ = some (.slice A1_6 l1_6.length c1_6) := (blk_cell BK102.out 6).trans rfl; have hfz30_0 := blk_frozen BK102.out 0; have hfz30_1 := blk_frozen BK102.out 1; have hfz30_2 := blk_frozen BK102.out 2; have hfz30_3 := blk_frozen BK102.out 3; have hfz30_4 := blk_frozen BK102.out 4; have hfz30_5 := blk_frozen BK102.out 5; have hfz30_6 := blk_frozen BK102.out 6))
         go_ret
         exact ⟨by first | rfl | (simp [errW_none, errW_some] <;> rfl) | (simp [*, errW_none, errW_some] <;> rfl), by repeat (first | (with_reducible first | exact HB.out | apply below_alloc | apply pw_below_drewN | apply below_drew1 | refine below_set ?_ GE101.out | refine below_set ?_ GE102.out) | exact HB.out)⟩
     · rw [if_neg c5] at H
       have c5b0 : (a0_2 == a1_2) = false := beq_eq_false_iff_ne.mpr c5
       have c5b1 : (a0_2 != a1_2) = true := bne_iff_ne.mpr c5
       obtain rfl := Option.some.inj H
       go_enter Try.func18, Try.ntmps18
       go_wp2_with (first | ((with_reducible refine gate_dst (N := 2) rfl ?_); refine box_event ?hg (N := 2) ?hd (cs := #[.int .i64 a0_0, .int .u64 a0_1, .int .i64 a0_2, .int .i64 a0_3, .int .u32 a0_4, .slice A0_5 l0_5.length c0_5, .slice A0_6 l0_6.length c0_6]) (t := 28) ?hr ?_; (case hd => rfl); (case hg => rfl); (case hr => first | (go_simp; done) | (go_simp; rfl)); intro gb101 hg w31 hbox hb; have n0_ := Aside0.mk (below_step (by repeat (first | (with_reducible first | exact HB.out | apply below_alloc | apply pw_below_drewN | apply below_drew1) | exact HB.out)) hb); have n1_ := Aside0.mk (hbox); have n2_ := Aside0.mk ((by rw [hg]; exact (below_size (by repeat (first | (with_reducible first | exact HB.out | apply below_alloc | apply pw_below_drewN | apply below_drew1) | exact HB.out))) : w.heap.size ≤ gb101)); have n3_ := Aside0.mk ((by rw [hg]; exact (below_size (by repeat (first | (with_reducible first | exact HB.out | apply below_alloc | apply pw_below_drewN | apply below_drew1) | exact HB.out))) : w.heap.size ≤ gb101)); clear HB; have HB := n0_; have BK101 := n1_; have GW101 := n2_; have GE101 := n3_; clear n0_ n1_ n2_ n3_; clear hb hbox hg) | ((with_reducible refine gate_dst (N := 3) rfl ?_); refine box_event ?hg (N := 3) ?hd (cs := #[.int .i64 a1_0, .int .u64 a1_1, .int .i64 a1_2, .int .i64 a1_3, .int .u32 a1_4, .slice A1_5 l1_5.length c1_5, .slice A1_6 l1_6.length c1_6]) (t := 28) ?hr ?_; (case hd => rfl); (case hg => rfl); (case hr => first | (go_simp; done) | (go_simp; rfl)); intro gb102 hg w32 hbox hb; have n0_ := Aside0.mk (blk_below (g := gb101) (o := .cells #[.int .i64 a0_0, .int .u64 a0_1, .int .i64 a0_2, .int .i64 a0_3, .int .u32 a0_4, .slice A0_5 l0_5.length c0_5, .slice A0_6 l0_6.length c0_6] 28 (0, 0)) (by (with_reducible repeat (first | refine blk_drewN ?_ _ | refine blk_drew ?_ | refine blk_alloc ?_ _)); exact BK101.out) hb); have n1_ := Aside0.mk (below_step (by repeat (first | (with_reducible first | exact HB.out | apply below_alloc | apply pw_below_drewN | apply below_drew1 | refine below_set ?_ GE101.out) | exact HB.out)) hb); have n2_ := Aside0.mk (hbox); have n3_ := Aside0.mk ((by rw [hg]; exact (below_size (by repeat (first | (with_reducible first | exact HB.out | apply below_alloc | apply pw_below_drewN | apply below_drew1 | refine below_set ?_ GE101.out) | exact HB.out))) : w.heap.size ≤ gb102)); have n4_ := Aside0.mk ((by rw [hg]; exact (below_size (by repeat (first | (with_reducible first | exact HB.out | apply below_alloc | apply pw_below_drewN | apply below_drew1 | refine below_set ?_ GE101.out) | exact HB.out))) : w.heap.size ≤ gb102)); have n5_ := Aside0.mk ((by rw [hg]; exact Nat.ne_of_lt (blk_lt (g := gb101) (o := .cells #[.int .i64 a0_0, .int .u64 a0_1, .int .i64 a0_2, .int .i64 a0_3, .int .u32 a0_4, .slice A0_5 l0_5.length c0_5, .slice A0_6 l0_6.length c0_6] 28 (0, 0)) (by (with_reducible repeat (first | refine blk_drewN ?_ _ | refine blk_drew ?_ | refine blk_alloc ?_ _)); exact BK101.out)) : gb101 ≠ gb102)); have n6_ := Aside0.mk ((by rw [hg]; exact Nat.ne_of_gt (blk_lt (g := gb101) (o := .cells #[.int .i64 a0_0, .int .u64 a0_1, .int .i64 a0_2, .int .i64 a0_3, .int .u32 a0_4, .slice A0_5 l0_5.length c0_5, .slice A0_6 l0_6.length c0_6] 28 (0, 0)) (by (with_reducible repeat (first | refine blk_drewN ?_ _ | refine blk_drew ?_ | refine blk_alloc ?_ _)); exact BK101.out)) : gb102 ≠ gb101)); clear BK101; clear HB; have BK101 := n0_; have HB := n1_; have BK102 := n2_; have GW102 := n3_; have GE102 := n4_; have NB101_102 := n5_; have NB102_101 := n6_; clear n0_ n1_ n2_ n3_ n4_ n5_ n6_; clear hb hbox hg; have hnb33 := NB101_102.out; have hnc33 := NB102_101.out; have hcz34_0 : w32.cell? ⟨gb101, 0, none⟩ = some (.int .i64 a0_0) := (blk_cell BK101.out 0).trans rfl; have hcz34_1 : w32.cell? ⟨gb101, 1, none⟩ = some (.int .u64 a0_1) := (blk_cell BK101.out 1).trans rfl; have hcz34_2 : w32.cell? ⟨gb101, 2, none⟩ = some (.int .i64 a0_2) := (blk_cell BK101.out 2).trans rfl; have hcz34_3 : w32.cell? ⟨gb101, 3, none⟩ = some (.int .i64 a0_3) := (blk_cell BK101.out 3).trans rfl; have hcz34_4 : w32.cell? ⟨gb101, 4, none⟩ = some (.int .u32 a0_4) := (blk_cell BK101.out 4).trans rfl; have hcz34_5 : w32.cell? ⟨gb101, 5, none⟩ = some (.slice A0_5 l0_5.length c0_5) := (blk_cell BK101.out 5).trans rfl; have hcz34_6 : w32.cell? ⟨gb101, 6, none⟩ = some (.slice A0_6 l0_6.length c0_6) := (blk_cell BK101.out 6).trans rfl; have hfz34_0 := blk_frozen BK101.out 0; have hfz34_1 := blk_frozen BK101.out 1; have hfz34_2 := blk_frozen BK101.out 2; have hfz34_3 := blk_frozen BK101.out 3; have hfz34_4 := blk_frozen BK101.out 4; have hfz34_5 := blk_frozen BK101.out 5; have hfz34_6 := blk_frozen BK101.out 6; have hcz35_0 : w32.cell? ⟨gb102, 0, none⟩ = some (.int .i64 a1_0) := (blk_cell BK102.out 0).trans rfl; have hcz35_1 : w32.cell? ⟨gb102, 1, none⟩ = some (.int .u64 a1_1) := (blk_cell BK102.out 1).trans rfl; have hcz35_2 : w32.cell? ⟨gb102, 2, none⟩ = some (.int .i64 a1_2) := (blk_cell BK102.out 2).trans rfl; have hcz35_3 : w32.cell? ⟨gb102, 3, none⟩ = some (.int .i64 a1_3) := (blk_cell BK102.out 3).trans rfl; have hcz35_4 : w32.cell? ⟨gb102, 4, none⟩ = some (.int .u32 a1_4) := (blk_cell BK102.out 4).trans rfl; have hcz35_5 : w32.cell? ⟨gb102, 5, none⟩ = some (.slice A1_5 l1_5.length c1_5) := (blk_cell BK102.out 5).trans rfl; have hcz35_6 : w32.cell? ⟨gb102, 6, none⟩ = some (.slice A1_6 l1_6.length c1_6) := (blk_cell BK102.out 6).trans rfl; have hfz35_0 := blk_frozen BK102.out 0; have hfz35_1 := blk_frozen BK102.out 1; have hfz35_2 := blk_frozen BK102.out 2; have hfz35_3 := blk_frozen BK102.out 3; have hfz35_4 := blk_frozen BK102.out 4; have hfz35_5 := blk_frozen BK102.out 5; have hfz35_6 := blk_frozen BK102.out 6))
       go_ret
       exact ⟨by first | rfl | (simp [errW_none, errW_some] <;> rfl) | (simp [*, errW_none, errW_some] <;> rfl), by repeat (first | (with_reducible first | exact HB.out | apply below_alloc | apply pw_below_drewN | apply below_drew1 | refine below_set ?_ GE101.out | refine below_set ?_ GE102.out) | exact HB.out)⟩
   · rw [if_neg c4] at H
     have c4b0 : (a0_1 == a1_1) = false := beq_eq_false_iff_ne.mpr c4
     have c4b1 : (a0_1 != a1_1) = true := bne_iff_ne.mpr c4
     obtain rfl := Option.some.inj H
     go_enter Try.func18, Try.ntmps18
     go_wp2_with (first | ((with_reducible refine gate_dst (N := 2) rfl ?_); refine box_event ?hg (N := 2) ?hd (cs := #[.int .i64 a0_0, .int .u64 a0_1, .int .i64 a0_2, .int .i64 a0_3, .int .u32 a0_4, .slice A0_5 l0_5.length c0_5, .slice A0_6 l0_6.length c0_6]) (t := 28) ?hr ?_; (case hd => rfl); (case hg => rfl); (case hr => first | (go_simp; done) | (go_simp; rfl)); intro gb101 hg w36 hbox hb; have n0_ := Aside0.mk (below_step (by repeat (first | (with_reducible first | exact HB.out | apply below_alloc | apply pw_below_drewN | apply below_drew1) | exact HB.out)) hb); have n1_ := Aside0.mk (hbox); have n2_ := Aside0.mk ((by rw [hg]; exact (below_size (by repeat (first | (with_reducible first | exact HB.out | apply below_alloc | apply pw_below_drewN | apply below_drew1) | exact HB.out))) : w.heap.size ≤ gb101)); have n3_ := Aside0.mk ((by rw [hg]; exact (below_size (by repeat (first | (with_reducible first | exact HB.out | apply below_alloc | apply pw_below_drewN | apply below_drew1) | exact HB.out))) : w.heap.size ≤ gb101)); clear HB; have HB := n0_; have BK101 := n1_; have GW101 := n2_; have GE101 := n3_; clear n0_ n1_ n2_ n3_; clear hb hbox hg) | ((with_reducible refine gate_dst (N := 3) rfl ?_); refine box_event ?hg (N := 3) ?hd (cs := #[.int .i64 a1_0, .int .u64 a1_1, .int .i64 a1_2, .int .i64 a1_3, .int .u32 a1_4, .slice A1_5 l1_5.length c1_5, .slice A1_6 l1_6.length c1_6]) (t := 28) ?hr ?_; (case hd => rfl); (case hg => rfl); (case hr => first | (go_simp; done) | (go_simp; rfl)); intro gb102 hg w37 hbox hb; have n0_ := Aside0.mk (blk_below (g := gb101) (o := .cells #[.int .i64 a0_0, .int .u64 a0_1, .int .i64 a0_2, .int .i64 a0_3, .int .u32 a0_4, .slice A0_5 l0_5.length c0_5, .slice A0_6 l0_6.length c0_6] 28 (0, 0)) (by (with_reducible repeat (first | refine blk_drewN ?_ _ | refine blk_drew ?_ | refine blk_alloc ?_ _)); exact BK101.out) hb); have n1_ := Aside0.mk (below_step (by repeat (first | (with_reducible first | exact HB.out | apply below_alloc | apply pw_below_drewN | apply below_drew1 | refine below_set ?_ GE101.out) | exact HB.out)) hb); have n2_ := Aside0.mk (hbox); have n3_ := Aside0.mk ((by rw [hg]; exact (below_size (by repeat (first | (with_reducible first | exact HB.out | apply below_alloc | apply pw_below_drewN | apply below_drew1 | refine below_set ?_ GE101.out) | exact HB.out))) : w.heap.size ≤ gb102)); have n4_ := Aside0.mk ((by rw [hg]; exact (below_size (by repeat (first | (with_reducible first | exact HB.out | apply below_alloc | apply pw_below_drewN | apply below_drew1 | refine below_set ?_ GE101.out) | exact HB.out))) : w.heap.size ≤ gb102)); have n5_ := Aside0.mk ((by rw [hg]; exact Nat.ne_of_lt (blk_lt (g := gb101) (o := .cells #[.int .i64 a0_0, .int .u64 a0_1, .int .i64 a0_2, .int .i64 a0_3, .int .u32 a0_4, .slice A0_5 l0_5.length c0_5, .slice A0_6 l0_6.length c0_6] 28 (0, 0)) (by (with_reducible repeat (first | refine blk_drewN ?_ _ | refine blk_drew ?_ | refine blk_alloc ?_ _)); exact BK101.out)) : gb101 ≠ gb102)); have n6_ := Aside0.mk ((by rw [hg]; exact Nat.ne_of_gt (blk_lt (g := gb101) (o := .cells #[.int .i64 a0_0, .int .u64 a0_1, .int .i64 a0_2, .int .i64 a0_3, .int .u32 a0_4, .slice A0_5 l0_5.length c0_5, .slice A0_6 l0_6.length c0_6] 28 (0, 0)) (by (with_reducible repeat (first | refine blk_drewN ?_ _ | refine blk_drew ?_ | refine blk_alloc ?_ _)); exact BK101.out)) : gb102 ≠ gb101)); clear BK101; clear HB; have BK101 := n0_; have HB := n1_; have BK102 := n2_; have GW102 := n3_; have GE102 := n4_; have NB101_102 := n5_; have NB102_101 := n6_; clear n0_ n1_ n2_ n3_ n4_ n5_ n6_; clear hb hbox hg; have hnb38 := NB101_102.out; have hnc38 := NB102_101.out; have hcz39_0 : w37.cell? ⟨gb101, 0, none⟩ = some (.int .i64 a0_0) := (blk_cell BK101.out 0).trans rfl; have hcz39_1 : w37.cell? ⟨gb101, 1, none⟩ = some (.int .u64 a0_1) := (blk_cell BK101.out 1).trans rfl; have hcz39_2 : w37.cell? ⟨gb101, 2, none⟩ = some (.int .i64 a0_2) := (blk_cell BK101.out 2).trans rfl; have hcz39_3 : w37.cell? ⟨gb101, 3, none⟩ = some (.int .i64 a0_3) := (blk_cell BK101.out 3).trans rfl; have hcz39_4 : w37.cell? ⟨gb101, 4, none⟩ = some (.int .u32 a0_4) := (blk_cell BK101.out 4).trans rfl; have hcz39_5 : w37.cell? ⟨gb101, 5, none⟩ = some (.slice A0_5 l0_5.length c0_5) := (blk_cell BK101.out 5).trans rfl; have hcz39_6 : w37.cell? ⟨gb101, 6, none⟩ = some (.slice A0_6 l0_6.length c0_6) := (blk_cell BK101.out 6).trans rfl; have hfz39_0 := blk_frozen BK101.out 0; have hfz39_1 := blk_frozen BK101.out 1; have hfz39_2 := blk_frozen BK101.out 2; have hfz39_3 := blk_frozen BK101.out 3; have hfz39_4 := blk_frozen BK101.out 4; have hfz39_5 := blk_frozen BK101.out 5; have hfz39_6 := blk_frozen BK101.out 6; have hcz40_0 : w37.cell? ⟨gb102, 0, none⟩ = some (.int .i64 a1_0) := (blk_cell BK102.out 0).trans rfl; have hcz40_1 : w37.cell? ⟨gb102, 1, none⟩ = some (.int .u64 a1_1) := (blk_cell BK102.out 1).trans rfl; have hcz40_2 : w37.cell? ⟨gb102, 2, none⟩ = some (.int .i64 a1_2) := (blk_cell BK102.out 2).trans rfl; have hcz40_3 : w37.cell? ⟨gb102, 3, none⟩ = some (.int .i64 a1_3) := (blk_cell BK102.out 3).trans rfl; have hcz40_4 : w37.cell? ⟨gb102, 4, none⟩ = some (.int .u32 a1_4) := (blk_cell BK102.out 4).trans rfl; have hcz40_5 : w37.cell? ⟨gb102, 5, none⟩ = some (.slice A1_5 l1_5.length c1_5) := (blk_cell BK102.out 5).trans rfl; have hcz40_6 : w37.cell? ⟨gb102, 6, none⟩ = some (.slice A1_6 l1_6.length c1_6) := (blk_cell BK102.out 6).trans rfl; have hfz40_0 := blk_frozen BK102.out 0; have hfz40_1 := blk_frozen BK102.out 1; have hfz40_2 := blk_frozen BK102.out 2; have hfz40_3 := blk_frozen BK102.out 3; have hfz40_4 := blk_frozen BK102.out 4; have hfz40_5 := blk_frozen BK102.out 5; have hfz40_6 := blk_frozen BK102.out 6))
     go_ret
     exact ⟨by first | rfl | (simp [errW_none, errW_some] <;> rfl) | (simp [*, errW_none, errW_some] <;> rfl), by repeat (first | (with_reducible first | exact HB.out | apply below_alloc | apply pw_below_drewN | apply below_drew1 | refine below_set ?_ GE101.out | refine below_set ?_ GE102.out) | exact HB.out)⟩
 · rw [if_neg c3] at H
   have c3b0 : (a0_0 == a1_0) = false := beq_eq_false_iff_ne.mpr c3
   have c3b1 : (a0_0 != a1_0) = true := bne_iff_ne.mpr c3
   obtain rfl := Option.some.inj H
   go_enter Try.func18, Try.ntmps18
   go_wp2_with (first | ((with_reducible refine gate_dst (N := 2) rfl ?_); refine box_event ?hg (N := 2) ?hd (cs := #[.int .i64 a0_0, .int .u64 a0_1, .int .i64 a0_2, .int .i64 a0_3, .int .u32 a0_4, .slice A0_5 l0_5.length c0_5, .slice A0_6 l0_6.length c0_6]) (t := 28) ?hr ?_; (case hd => rfl); (case hg => rfl); (case hr => first | (go_simp; done) | (go_simp; rfl)); intro gb101 hg w41 hbox hb; have n0_ := Aside0.mk (below_step (by repeat (first | (with_reducible first | exact HB.out | apply below_alloc | apply pw_below_drewN | apply below_drew1) | exact HB.out)) hb); have n1_ := Aside0.mk (hbox); have n2_ := Aside0.mk ((by rw [hg]; exact (below_size (by repeat (first | (with_reducible first | exact HB.out | apply below_alloc | apply pw_below_drewN | apply below_drew1) | exact HB.out))) : w.heap.size ≤ gb101)); have n3_ := Aside0.mk ((by rw [hg]; exact (below_size (by repeat (first | (with_reducible first | exact HB.out | apply below_alloc | apply pw_below_drewN | apply below_drew1) | exact HB.out))) : w.heap.size ≤ gb101)); clear HB; have HB := n0_; have BK101 := n1_; have GW101 := n2_; have GE101 := n3_; clear n0_ n1_ n2_ n3_; clear hb hbox hg) | ((with_reducible refine gate_dst (N := 3) rfl ?_); refine box_event ?hg (N := 3) ?hd (cs := #[.int .i64 a1_0, .int .u64 a1_1, .int .i64 a1_2, .int .i64 a1_3, .int .u32 a1_4, .slice A1_5 l1_5.length c1_5, .slice A1_6 l1_6.length c1_6]) (t := 28) ?hr ?_; (case hd => rfl); (case hg => rfl); (case hr => first | (go_simp; done) | (go_simp; rfl)); intro gb102 hg w42 hbox hb; have n0_ := Aside0.mk (blk_below (g := gb101) (o := .cells #[.int .i64 a0_0, .int .u64 a0_1, .int .i64 a0_2, .int .i64 a0_3, .int .u32 a0_4, .slice A0_5 l0_5.length c0_5, .slice A0_6 l0_6.length c0_6] 28 (0, 0)) (by (with_reducible repeat (first | refine blk_drewN ?_ _ | refine blk_drew ?_ | refine blk_alloc ?_ _)); exact BK101.out) hb); have n1_ := Aside0.mk (below_step (by repeat (first | (with_reducible first | exact HB.out | apply below_alloc | apply pw_below_drewN | apply below_drew1 | refine below_set ?_ GE101.out) | exact HB.out)) hb); have n2_ := Aside0.mk (hbox); have n3_ := Aside0.mk ((by rw [hg]; exact (below_size (by repeat (first | (with_reducible first | exact HB.out | apply below_alloc | apply pw_below_drewN | apply below_drew1 | refine below_set ?_ GE101.out) | exact HB.out))) : w.heap.size ≤ gb102)); have n4_ := Aside0.mk ((by rw [hg]; exact (below_size (by repeat (first | (with_reducible first | exact HB.out | apply below_alloc | apply pw_below_drewN | apply below_drew1 | refine below_set ?_ GE101.out) | exact HB.out))) : w.heap.size ≤ gb102)); have n5_ := Aside0.mk ((by rw [hg]; exact Nat.ne_of_lt (blk_lt (g := gb101) (o := .cells #[.int .i64 a0_0, .int .u64 a0_1, .int .i64 a0_2, .int .i64 a0_3, .int .u32 a0_4, .slice A0_5 l0_5.length c0_5, .slice A0_6 l0_6.length c0_6] 28 (0, 0)) (by (with_reducible repeat (first | refine blk_drewN ?_ _ | refine blk_drew ?_ | refine blk_alloc ?_ _)); exact BK101.out)) : gb101 ≠ gb102)); have n6_ := Aside0.mk ((by rw [hg]; exact Nat.ne_of_gt (blk_lt (g := gb101) (o := .cells #[.int .i64 a0_0, .int .u64 a0_1, .int .i64 a0_2, .int .i64 a0_3, .int .u32 a0_4, .slice A0_5 l0_5.length c0_5, .slice A0_6 l0_6.length c0_6] 28 (0, 0)) (by (with_reducible repeat (first | refine blk_drewN ?_ _ | refine blk_drew ?_ | refine blk_alloc ?_ _)); exact BK101.out)) : gb102 ≠ gb101)); clear BK101; clear HB; have BK101 := n0_; have HB := n1_; have BK102 := n2_; have GW102 := n3_; have GE102 := n4_; have NB101_102 := n5_; have NB102_101 := n6_; clear n0_ n1_ n2_ n3_ n4_ n5_ n6_; clear hb hbox hg; have hnb43 := NB101_102.out; have hnc43 := NB102_101.out; have hcz44_0 : w42.cell? ⟨gb101, 0, none⟩ = some (.int .i64 a0_0) := (blk_cell BK101.out 0).trans rfl; have hcz44_1 : w42.cell? ⟨gb101, 1, none⟩ = some (.int .u64 a0_1) := (blk_cell BK101.out 1).trans rfl; have hcz44_2 : w42.cell? ⟨gb101, 2, none⟩ = some (.int .i64 a0_2) := (blk_cell BK101.out 2).trans rfl; have hcz44_3 : w42.cell? ⟨gb101, 3, none⟩ = some (.int .i64 a0_3) := (blk_cell BK101.out 3).trans rfl; have hcz44_4 : w42.cell? ⟨gb101, 4, none⟩ = some (.int .u32 a0_4) := (blk_cell BK101.out 4).trans rfl; have hcz44_5 : w42.cell? ⟨gb101, 5, none⟩ = some (.slice A0_5 l0_5.length c0_5) := (blk_cell BK101.out 5).trans rfl; have hcz44_6 : w42.cell? ⟨gb101, 6, none⟩ = some (.slice A0_6 l0_6.length c0_6) := (blk_cell BK101.out 6).trans rfl; have hfz44_0 := blk_frozen BK101.out 0; have hfz44_1 := blk_frozen BK101.out 1; have hfz44_2 := blk_frozen BK101.out 2; have hfz44_3 := blk_frozen BK101.out 3; have hfz44_4 := blk_frozen BK101.out 4; have hfz44_5 := blk_frozen BK101.out 5; have hfz44_6 := blk_frozen BK101.out 6; have hcz45_0 : w42.cell? ⟨gb102, 0, none⟩ = some (.int .i64 a1_0) := (blk_cell BK102.out 0).trans rfl; have hcz45_1 : w42.cell? ⟨gb102, 1, none⟩ = some (.int .u64 a1_1) := (blk_cell BK102.out 1).trans rfl; have hcz45_2 : w42.cell? ⟨gb102, 2, none⟩ = some (.int .i64 a1_2) := (blk_cell BK102.out 2).trans rfl; have hcz45_3 : w42.cell? ⟨gb102, 3, none⟩ = some (.int .i64 a1_3) := (blk_cell BK102.out 3).trans rfl; have hcz45_4 : w42.cell? ⟨gb102, 4, none⟩ = some (.int .u32 a1_4) := (blk_cell BK102.out 4).trans rfl; have hcz45_5 : w42.cell? ⟨gb102, 5, none⟩ = some (.slice A1_5 l1_5.length c1_5) := (blk_cell BK102.out 5).trans rfl; have hcz45_6 : w42.cell? ⟨gb102, 6, none⟩ = some (.slice A1_6 l1_6.length c1_6) := (blk_cell BK102.out 6).trans rfl; have hfz45_0 := blk_frozen BK102.out 0; have hfz45_1 := blk_frozen BK102.out 1; have hfz45_2 := blk_frozen BK102.out 2; have hfz45_3 := blk_frozen BK102.out 3; have hfz45_4 := blk_frozen BK102.out 4; have hfz45_5 := blk_frozen BK102.out 5; have hfz45_6 := blk_frozen BK102.out 6))
   go_ret
   exact ⟨by first | rfl | (simp [errW_none, errW_some] <;> rfl) | (simp [*, errW_none, errW_some] <;> rfl), by repeat (first | (with_reducible first | exact HB.out | apply below_alloc | apply pw_below_drewN | apply below_drew1 | refine below_set ?_ GE101.out | refine below_set ?_ GE102.out) | exact HB.out)⟩

end Go.Proofs.Ytoooceaoggkeeaa.F
end
