/- Proved: at every input in bounds the statement PackCodes of the pack layer answers yes: Encode, Parse and Same of any datagram and bytes, and of choices, are what the chapter says.
Text 23 of 30; functions told as plain ones, with the contracts of their calls. -/
import Derived.Test.YtoooceaoggkeeaaQPackCodes22
import Derived.Deep.LoopGhost
import Derived.RangeFuncWrites
import Derived.Deep.RegionHeld3
import Derived.Laws.BitsLemmas
section
namespace Go.Proofs.Ytoooceaoggkeeaa.F
open Go.RowKit Go.Proofs.YtoooceaoggkeeaaW.PrintWords Go.Proofs.YtoooceaoggkeeaaW.PrintLast Go.Proofs.YtoooceaoggkeeaaW.PrintMore
attribute [local go_sem] max2_int min2_int max_two min_two max_three min_three max_four min_four   -- for this text's walks alone
set_option linter.unusedVariables false
set_option linter.unusedSimpArgs false

open Go.Shelf Go.Proofs.Ytoooceaoggkeeaa.H
attribute [local go_sem] Oper.semAt_some
/-! ### pack_Encode: given -/
def outG (pre : List (Int × Int)) : List Int := pre.flatMap fun x => putL x.1 (putN x.2)
theorem outG_snoc (pre : List (Int × Int)) (x : Int × Int) : outG (pre ++ [x]) = outG pre ++ putL x.1 (putN x.2) := by simp [outG]
theorem outG_length (pre : List (Int × Int)) : (outG pre).length ≤ 8 * pre.length := by
 induction pre with
 | nil => simp [outG]
 | cons x xs ih =>
   have h := putN_le x.2
   rw [outG, List.flatMap_cons, List.length_append, ← outG, putL_length, List.length_cons]; omega
def frontG (k s i o m : Int) : List Int := putL k 1 ++ (putL s 8 ++ (putL i 2 ++ (putL o 2 ++ putL m 4)))
theorem outG_fields (k s i o m : Int) : outG (fieldsL k s i o m) = frontG k s i o m := by
 simp [outG, fieldsL, frontG, putN]
 rfl
def gramB (k s i o m : Int) (sizes body : List Int) : List Int := frontG k s i o m ++ ((sizes.flatMap fun n => putL n 2) ++ body)
def encodeG (k s i o m : Int) (sizes body : List Int) : List Int × Int := if rightG k i o sizes body = true then (sealL (gramB k s i o m sizes body), 0) else ([], 1)
def pack_Encode.f (a0_0 a0_1 a0_2 a0_3 a0_4 : Int) (l0_5 l0_6 : List Int) : Option (List Int × Int) := if l0_5.length ≤ 1000000 ∧ l0_6.length ≤ 1000000 ∧ bytesB l0_6 = true ∧ 0 ≤ a0_4 ∧ a0_4 < 4294967296 then some (encodeG a0_0 a0_1 a0_2 a0_3 a0_4 l0_5 l0_6) else none
set_option maxHeartbeats 1000000 in
set_option maxRecDepth 100000 in
theorem pack_fields.calls (k s i o m : Int) (vs vb : Value) (w : World) : Calls Try.prog 20 #[.agg (gramCells k s i o m vs vb)] w fun e w' => e = .returned (.func (.func 38) #[] #[.pointer (some ⟨w.heap.size, 0, none⟩)]) ∧ w' = w.alloc (.cells (gramCells k s i o m vs vb) 28) := by
 unfold gramCells
 go_enter Try.func20, Try.ntmps20
 go_wp2
 go_ret
 exact ⟨rfl, rfl⟩
/-- What pack.Encode holds behind its front: the datagram's place, the row's place, the row, what runs at the end. -/
structure EnSt (w0 W : World) (g4 D : Nat) (V : Value) (l : List Int) (cs : Array Value) : Prop where
 k1 : W.heap[w0.heap.size]? = some (.cells cs 28 (0, 0))
 ko : W.heap[g4]? = some (.cells #[V] 25 (0, 0))
 kd : W.heap[D]? = some (.deferred (some []))
 row : Kd.R (Kd.int .u8) 5 W w0.heap.size (fun _ => True) V l
 bel : Below w0.heap.size w0 W
 l4 : w0.heap.size ≤ g4
theorem EnSt.below {w0 W W' : World} {g4 D : Nat} {V : Value} {l : List Int} {cs : Array Value} (h : EnSt w0 W g4 D V l cs) (hb : Below W.heap.size W W') : EnSt w0 W' g4 D V l cs :=
 ⟨blk_below h.k1 hb, blk_below h.ko hb, (hb.block _ (Array.getElem?_eq_some_iff.1 h.kd).1).trans h.kd, Kd.R_below h.row hb, below_then h.bel h.bel.size hb, h.l4⟩
theorem EnSt.app {w0 W : World} {g4 D : Nat} {V : Value} {l : List Int} {cs : Array Value} (h : EnSt w0 W g4 D V l cs) (W1 : World) (hg : W.grownBy W1 V.ownBlock) (V' : Value) (l' : List Int)
 (hr : Kd.R (Kd.int .u8) 5 W1 w0.heap.size (fun _ => True) V' l') (hb : Below w0.heap.size w0 W1) : EnSt w0 (W1.setCell ⟨g4, 0, none⟩ V') g4 D V' l' cs := by
 have k1 := blk_grown h.k1 hg (fun e => Kd.R_ne h.row h.k1 (by decide) e)
 have ko := blk_grown h.ko hg (fun e => Kd.R_ne h.row h.ko (by decide) e)
 have hD : D < W.heap.size := (Array.getElem?_eq_some_iff.1 h.kd).1
 have kd : W1.heap[D]? = some (.deferred (some [])) := (hg.block D hD (fun e => by
  obtain ⟨cells, hc⟩ := Kd.R_typed h.row D e.symm
  rw [h.kd] at hc; cases hc)).trans h.kd
 have hne : D ≠ g4 := fun e => by rw [e, ko] at kd; cases kd
 refine ⟨blk_far (p := ⟨g4, 0, none⟩) k1 (blk_ne k1 ko (by decide)) _, blk_put ko 0 _ rfl, (Below.heap_setCell W1 ⟨g4, 0, none⟩ V' D hne).trans kd, ?_, below_set hb h.l4, h.l4⟩
 exact Kd.R_mono (Kd.R_far (p := ⟨g4, 0, none⟩) (Kd.R_types hr ko (by decide)) (fun _ hk => hk.2) _) (fun _ _ => trivial)
theorem frontG_length (k s i o m : Int) : (frontG k s i o m).length = 17 := by simp [frontG, putL_length]
theorem flat2_take (l : List Int) (k : Nat) (h : k < l.length) : ((l.take (k + 1)).flatMap fun n => putL n 2) = ((l.take k).flatMap fun n => putL n 2) ++ putL (l[k]'h) 2 := by
 rw [take_at l k h, List.flatMap_append]; simp
theorem flat2_len (l : List Int) : (l.flatMap fun n => putL n 2).length = 2 * l.length := by
 induction l with
 | nil => rfl
 | cons x xs ih => rw [List.flatMap_cons, List.length_append, ih, putL_length, List.length_cons]; omega
theorem gramB_byte (k s i o m : Int) (sizes body : List Int) (h : bytesB body = true) : bytesB (gramB k s i o m sizes body) = true := by
 have h2 : bytesB (sizes.flatMap fun n => putL n 2) = true := bytesB_of fun c hc => by
  simp only [List.mem_flatMap] at hc
  obtain ⟨n, _, hc⟩ := hc
  exact putL_byte _ _ c hc
 unfold gramB frontG
 simp only [bytesB_append, bytesB_of (putL_byte _ _), h2, h, Bool.and_self]
theorem badS_any {l : List Int} (h : l.any badS = false) (x : Int) (hx : x ∈ l) : 0 ≤ x ∧ x ≤ 4096 := by
 have := List.any_eq_false.1 h x hx
 simp only [badS, Bool.or_eq_true, decide_eq_true_eq] at this
 omega
set_option maxHeartbeats 4000000 in
set_option maxRecDepth 100000 in
theorem pack_Encode.calls (a0_0 a0_1 a0_2 a0_3 a0_4 : Int) (A0_5 : Option Addr) (c0_5 : Nat) (l0_5 : List Int) (A0_6 : Option Addr) (c0_6 : Nat) (l0_6 : List Int) (r1 : List Int) (r2 : Int) (w : World) (hr0_5 : Kd.C (Kd.int .i64) w A0_5 l0_5.length l0_5) (hc0_5 : l0_5.length ≤ c0_5) (hr0_6 : Kd.C (Kd.int .u8) w A0_6 l0_6.length l0_6) (hc0_6 : l0_6.length ≤ c0_6) (h : pack_Encode.f a0_0 a0_1 a0_2 a0_3 a0_4 l0_5 l0_6 = some (r1, r2)) :
 Calls Try.prog 10 #[.agg #[.int .i64 a0_0, .int .u64 a0_1, .int .i64 a0_2, .int .i64 a0_3, .int .u32 a0_4, .slice A0_5 l0_5.length c0_5, .slice A0_6 l0_6.length c0_6]] w fun e w' => ∃ v0_ : Value, e = .returned (.tuple #[v0_, .int .u16 r2]) ∧ Kd.R (Kd.int .u8) 5 w' w.heap.size (fun _ => True) v0_ r1 ∧ Below w.heap.size w w' := by
 have hu28 := Try.underlying28
 unfold pack_Encode.f at h
 split at h
 case isFalse => cases h
 case isTrue hb =>
 obtain ⟨hl5, hl6, hb6, hm0, hm1⟩ := hb
 replace h := Option.some.inj h
 have HR5 := Aside0.mk hr0_5
 have HC5 := Aside0.mk hc0_5
 have HR6 := Aside0.mk hr0_6
 have HC6 := Aside0.mk hc0_6
 clear hr0_5 hc0_5 hr0_6 hc0_6
 have hB1 : Below w.heap.size w (w.alloc (.cells #[.int .i64 a0_0, .int .u64 a0_1, .int .i64 a0_2, .int .i64 a0_3, .int .u32 a0_4, .slice A0_5 l0_5.length c0_5, .slice A0_6 l0_6.length c0_6] 28)) := below_alloc (Below.refl _ _) _
 have HB1 := Aside0.mk hB1
 clear hB1
 by_cases hr : rightG a0_0 a0_2 a0_3 l0_5 l0_6 = true
 · have hright : pack_right.f a0_0 a0_1 a0_2 a0_3 a0_4 l0_5 l0_6 = some true := by rw [pack_right.f, if_pos ⟨hl5, hl6⟩, hr]
   rw [encodeG, if_pos hr] at h
   have HH := Aside0.mk h
   have HRT := Aside0.mk hright
   have HRG := Aside0.mk hr
   clear h hr hright
   refine (callsIn_wide (n := 10)).1 ?_
   refine callsIn_of_wp_marks Try.func10 rfl trivial ?_ rfl
   refine wpIn_wide.2 ?_
   simp only [Try.ntmps10, List.size_toArray, List.length_cons, List.length_nil, Nat.reduceAdd, Nat.reduceSub, Array.replicate_succ, Array.replicate_zero, List.push_toArray, List.append_toArray, List.nil_append, List.cons_append]
   go_wp2_with (first
    | (go_at_call 19; refine (pack_right.calls a0_0 a0_1 a0_2 a0_3 a0_4 A0_5 c0_5 l0_5 A0_6 c0_6 l0_6 true _ (Kd.C_below HR5.out HB1.out) HC5.out (Kd.C_below HR6.out HB1.out) HC6.out HRT.out).mono ?_; rintro e w2 ⟨rfl, hb⟩; have HB2 := Aside0.mk (below_then HB1.out HB1.out.size hb); have K2 := Aside0.mk (blk_below (blk_new w (.cells #[.int .i64 a0_0, .int .u64 a0_1, .int .i64 a0_2, .int .i64 a0_3, .int .u32 a0_4, .slice A0_5 l0_5.length c0_5, .slice A0_6 l0_6.length c0_6] 28)) hb); clear hb)
    | ((with_reducible refine gate_dst (N := 4) rfl ?_); refine box_event ?hg (N := 4) ?hd (cs := #[.slice none 0 0]) (t := 25) ?hr ?_; (case hd => rfl); (case hg => rfl); (case hr => first | (go_simp; done) | (go_simp; rfl)); intro g4 hg w3 hbox hb; have HB3 := Aside0.mk (below_then HB2.out HB2.out.size hb); have K3 := Aside0.mk (blk_below K2.out hb); have KO3 := Aside0.mk hbox; have GE := Aside0.mk (show w.heap.size ≤ g4 by rw [hg]; exact HB2.out.size); have c0 : w3.cell? ⟨w.heap.size, 0, none⟩ = _ := (blk_cell K3.out 0).trans rfl; have c1 : w3.cell? ⟨w.heap.size, 1, none⟩ = _ := (blk_cell K3.out 1).trans rfl; have c2 : w3.cell? ⟨w.heap.size, 2, none⟩ = _ := (blk_cell K3.out 2).trans rfl; have c3 : w3.cell? ⟨w.heap.size, 3, none⟩ = _ := (blk_cell K3.out 3).trans rfl; have c4 : w3.cell? ⟨w.heap.size, 4, none⟩ = _ := (blk_cell K3.out 4).trans rfl; have c5 : w3.cell? ⟨w.heap.size, 5, none⟩ = _ := (blk_cell K3.out 5).trans rfl; have c6 : w3.cell? ⟨w.heap.size, 6, none⟩ = _ := (blk_cell K3.out 6).trans rfl; clear hb hbox hg)
    | (go_at_call 20; refine (pack_fields.calls a0_0 a0_1 a0_2 a0_3 a0_4 (.slice A0_5 l0_5.length c0_5) (.slice A0_6 l0_6.length c0_6) _).mono ?_; rintro e w4 ⟨rfl, hw4⟩; have HW4 := Aside0.mk hw4; clear hw4))
   obtain ⟨B, hB⟩ : ∃ B, w4.heap.size = B := ⟨_, rfl⟩
   have hg43 : g4 < w3.heap.size := blk_lt KO3.out
   have hBB : B = w3.heap.size + 1 := by rw [← hB, HW4.out]; exact World.size_alloc _ _
   have hs3 := below_size HB3.out
   have hKS : w4.heap[w3.heap.size]? = some (.cells (gramCells a0_0 a0_1 a0_2 a0_3 a0_4 (.slice A0_5 l0_5.length c0_5) (.slice A0_6 l0_6.length c0_6)) 28 (0, 0)) := by rw [HW4.out]; exact blk_new w3 _
   have bO : Boxed w4 g4 25 (.slice none 0 0) := by rw [HW4.out]; exact blk_alloc KO3.out _
   have hK4 : w4.heap[w.heap.size]? = some (.cells #[.int .i64 a0_0, .int .u64 a0_1, .int .i64 a0_2, .int .i64 a0_3, .int .u32 a0_4, .slice A0_5 l0_5.length c0_5, .slice A0_6 l0_6.length c0_6] 28 (0, 0)) := by rw [HW4.out]; exact blk_alloc K3.out _
   have hB4 : Below w.heap.size w w4 := by rw [HW4.out]; exact below_alloc HB3.out _
   have hne4 : w.heap.size ≠ g4 := by have := blk_ne hK4 bO (by decide); exact this
   clear HW4 K2 K3 KO3 c0 c1 c2 c3 c4 c5 c6
   have hRG := HRG.out
   simp only [rightG, isKindB, Bool.and_eq_true, decide_eq_true_eq] at hRG
   refine (wpIn_wide (n := 10)).1 ?_
   refine wpIn_rangeFunc_ownG (F := Fence.wide) (n := 10) rfl (by omega) (gf := 38) (lb := #[.pointer (some ⟨w3.heap.size, 0, none⟩)]) rfl trivial (enters_of Try.func38 (by kernel_rfl) rfl)
    (encs := fun x : Int × Int => #[.int .u64 x.1, .int .i64 x.2]) (Kp := Kset B (fun k => k = g4)) (S := fun ys => ys = fieldsL a0_0 a0_1 a0_2 a0_3 a0_4) (Sp := fun _ => True) (N := 5) (w0 := w4) ?seq ksetK_t (ksetK_b (by rw [hB]; exact Nat.le_refl _)) (Below.refl _ _) (fun _ => rfl)
    (fun pre W => (∃ v, Boxed W g4 25 v ∧ W.ownsRow B 5 1 v (outG pre).length (nums .u8 (outG pre)) ∧ True) ∧ Kset B (fun k => k = g4) w4 W) (fun _ _ _ => False) ?own (fun _ _ _ _ _ hs _ _ => hs) ?start (fun x => { tmps := #[.agg #[.int .i64 a0_0, .int .u64 a0_1, .int .i64 a0_2, .int .i64 a0_3, .int .u32 a0_4, .slice A0_5 l0_5.length c0_5, .slice A0_6 l0_6.length c0_6], .pointer (some ⟨w.heap.size, 0, none⟩), .slice none 0 0, .int .u16 0, .pointer (some ⟨g4, 0, none⟩), .int .u64 x.1, .int .i64 x.2, undef, undef, .agg #[.int .i64 a0_0, .int .u64 a0_1, .int .i64 a0_2, .int .i64 a0_3, .int .u32 a0_4, .slice A0_5 l0_5.length c0_5, .slice A0_6 l0_6.length c0_6], .bool true, .bool false, .agg #[.int .i64 a0_0, .int .u64 a0_1, .int .i64 a0_2, .int .i64 a0_3, .int .u32 a0_4, .slice A0_5 l0_5.length c0_5, .slice A0_6 l0_6.length c0_6], .func (.func 38) #[] #[.pointer (some ⟨w3.heap.size, 0, none⟩)], .int .u64 x.1, .int .i64 x.2, undef, undef, undef, undef, undef, undef, undef, undef, undef, undef, undef, undef, undef, undef, undef, undef, undef, undef, undef, undef, undef, undef, undef], defers := [] }) ?assign ?bdy ?done ?stop
   case seq =>
    intro l J Jx W hW hJ hJx hY h0
    refine (fields1_in l w3.heap.size B (fun k => k = g4) a0_0 a0_1 a0_2 a0_3 a0_4 _ _ (by omega) (by omega) (by omega) (by omega) J Jx hY W (by omega) (by omega) ((hW.block _ (by rw [hB]; omega)).trans hKS) h0).mono ?_
    rintro e W' ⟨he, ⟨ys, rfl, hj⟩ | ⟨pre, _, hj⟩⟩
    · exact ⟨he, .inl ⟨_, rfl, hj⟩⟩
    · exact ⟨he, .inr ⟨_, trivial, hj⟩⟩
   case own => exact OwnFrom.and (Own.from (holdsRow_own _ _ _ _ _ _ _ _) _) (ownFrom_kset (by rw [hB]; exact Nat.le_refl _) (by rw [hB]; exact Nat.le_refl _))
   case start => exact ⟨⟨_, bO, World.ownsRow_nil _ _ _ _, trivial⟩, Kset.refl _ _ _⟩
   case assign =>
    intro l x W K hK
    gi_wp2
    exact hK
   case bdy =>
    rintro l pre x W ⟨⟨v, hb, ho, -⟩, hk⟩ hlen
    have hc := hb.cell
    have hf := hb.frozen
    gi_wp2
    have hown : ∀ w2, Below W.heap.size W w2 → Boxed w2 g4 25 v ∧ w2.ownsRow B 5 1 v (outG pre).length (nums .u8 (outG pre)) := fun w2 hb2 =>
     ⟨(hb2.block _ hb.lt).trans hb, pw_own_below ho hb2⟩
    have hlen8 : (outG pre).length ≤ 40 := by have := outG_length pre; omega
    have hsz : B ≤ W.heap.size := by have := hk.size; omega
    refine wpIn_region_any (by kernel_rfl) ?_
    change wpAnyIn _ _ _ _ _ _ _ _ _ (World.drew W)
    have tail : ∀ (pv : Value) (w2 : World), Below W.heap.size W w2 → Kd.R (Kd.int .u8) 5 w2 W.heap.size (fun _ => True) pv (putL x.1 (putN x.2)) → ∀ Q, (∀ a w', ownPostG w4.heap.size (Kset B (fun k => k = g4)) (fun pre W => (∃ v, Boxed W g4 25 v ∧ W.ownsRow B 5 1 v (outG pre).length (nums .u8 (outG pre)) ∧ True) ∧ Kset B (fun k => k = g4) w4 W) (fun _ _ _ => False) (pre ++ [x]) W .normal a w' → Q .normal a w') →
     wpAnyIn (Fence.wide.inRound l) 8 Try.prog .any
      #[{ dst := some 16, op := Op.load 25 (Operand.tmp 4), type := 25, pos := "pack.go:55", after := #[], guard := none },
      { dst := some 17, op := Op.move (Operand.tmp 5), type := 22, pos := "pack.go:55", after := #[], guard := none },
      { dst := some 18, op := Op.move (Operand.tmp 6), type := 3, pos := "pack.go:55", after := #[], guard := none },
      { dst := some 19, op := Op.call { callee := Callee.value (Operand.func 21), args := #[Operand.tmp 17, Operand.tmp 18], argTypes := #[22, 3] }, type := 25, pos := "pack.go:55", after := #[{ on := 1, ground := Ground.data }, { on := 2, ground := Ground.data }], guard := none },
      { dst := some 20, op := Op.call { callee := Callee.builtin Builtin.append, args := #[Operand.tmp 16, Operand.tmp 19], argTypes := #[25, 25] }, type := 25, pos := "pack.go:55", after := #[{ on := 0, ground := Ground.data }, { on := 3, ground := Ground.data }, { on := 3, ground := Ground.chain }], guard := none },
      { dst := none, op := Op.store 25 (Operand.tmp 4) (Operand.tmp 20), type := 0, pos := "pack.go:55", after := #[{ on := 4, ground := Ground.data }, { on := 4, ground := Ground.chain }, { on := 0, ground := Ground.phase }, { on := 1, ground := Ground.phase }, { on := 2, ground := Ground.phase }, { on := 3, ground := Ground.phase }, { on := 4, ground := Ground.phase }], guard := none }]
      Q 2 #[true, true, true, true, false, false]
      { tmps := #[.agg #[.int .i64 a0_0, .int .u64 a0_1, .int .i64 a0_2, .int .i64 a0_3, .int .u32 a0_4, .slice A0_5 l0_5.length c0_5, .slice A0_6 l0_6.length c0_6], .pointer (some ⟨w.heap.size, 0, none⟩), .slice none 0 0, .int .u16 0, .pointer (some ⟨g4, 0, none⟩), .int .u64 x.1, .int .i64 x.2, undef, undef, .agg #[.int .i64 a0_0, .int .u64 a0_1, .int .i64 a0_2, .int .i64 a0_3, .int .u32 a0_4, .slice A0_5 l0_5.length c0_5, .slice A0_6 l0_6.length c0_6], .bool true, .bool false, .agg #[.int .i64 a0_0, .int .u64 a0_1, .int .i64 a0_2, .int .i64 a0_3, .int .u32 a0_4, .slice A0_5 l0_5.length c0_5, .slice A0_6 l0_6.length c0_6], .func (.func 38) #[] #[.pointer (some ⟨w3.heap.size, 0, none⟩)], .int .u64 x.1, .int .i64 x.2, v, .int .u64 x.1, .int .i64 x.2, pv, undef, undef, undef, undef, undef, undef, undef, undef, undef, undef, undef, undef, undef, undef, undef, undef, undef, undef, undef], defers := [] } w2 := by
     intro pv w2 hb2 hp Q hQ
     obtain ⟨hbx, hox⟩ := hown w2 hb2
     have hsz2 : B ≤ w2.heap.size := by have := hb2.size; omega
     have hpl := putN_le x.2
     obtain ⟨A, c, rfl, hlc, hC⟩ := Kd.R_reads hp
     obtain ⟨v1, w3', hrun, ho1, hg1, hat⟩ := append_row_run (ty := 25) B Try.underlying25 info5 (by decide) v _ (putL x.1 (putN x.2)) A (putL x.1 (putN x.2)).length c hox (Kd.reads_of_C (d := (0 : Int)) hC) (by omega) (by rw [putL_length]; omega)
     refine wpAnyIn_ready (rs := [4]) (by kernel_rfl) (by simp) (AllReadyIn.cons rfl (fun K hK => ?_) AllReadyIn.nil)
     refine stepIn_value rfl (by simp) (w1 := w3') (v := v1) ?_ (hK _ _ ?_)
     · simp [execOp, resolve, invoke, builtin, Act.eval, hrun, Result.andThen]
     refine wpAnyIn_ready (rs := [5]) (by kernel_rfl) (by simp) (AllReadyIn.cons rfl (fun K hK => ?_) AllReadyIn.nil)
     have hb3 : Boxed w3' g4 25 v := hbx.kept hg1 (hbx.not_row (by decide) hox)
     obtain ⟨A1, c1, rfl⟩ := own_slice ho1
     refine stepIn_skip rfl (by simp) (w1 := w3'.setCell ⟨g4, 0, none⟩ (.slice A1 (outG pre ++ putL x.1 (putN x.2)).length c1)) ?_ (hK _ _ ?_)
     · have hc3 := hb3.cell
       have hf3 := hb3.frozen
       simp [go_sem, Act.eval, Act.put, hc3, hf3]
     refine wpAnyIn_done (by kernel_rfl) (hQ _ _ ?_) _
     have hks : Kset B (fun k => k = g4) W w3' := (Kset.of_below (hb2.mono hsz)).grown hg1 hsz2 (fun k e => .inr (own_base hox k e))
     refine ⟨(((keepsOthers_below hb2).trans (keepsOthers_own hox hg1)).trans (KeepsOthers.setCell _ _ _)).from _, ?_, ⟨_, hb3.set _, ?_, trivial⟩, ?_⟩
     · exact hks.setCell (p := ⟨g4, 0, none⟩) (.inl rfl) _
     · rw [outG_snoc]; exact ho1.kept (grownBy_setCell' _ _ _) (.inr (hb3.not_row (by decide) ho1).symm)
     · exact (hk.trans hks).setCell (p := ⟨g4, 0, none⟩) (.inl rfl) _
    have hput : word_Put.f x.1 x.2 = some (putL x.1 (putN x.2)) := rfl
    refine wpAnyIn_ready (rs := [0, 1, 2]) (by kernel_rfl) (by simp) (AllReadyIn.cons rfl (fun K hK => ?_) (AllReadyIn.cons rfl (fun K hK => ?_) (AllReadyIn.cons rfl (fun K hK => ?_) AllReadyIn.nil)))
    · refine stepIn_value rfl (by simp) (w1 := W.drew) (v := v) (by simp [go_sem, Act.eval, Act.put, hc]) (hK _ _ ?_)
      refine wpAnyIn_ready (rs := [1, 2]) (by kernel_rfl) (by simp) (AllReadyIn.cons rfl (fun K hK => ?_) (AllReadyIn.cons rfl (fun K hK => ?_) AllReadyIn.nil))
      · refine stepIn_value rfl (by simp) (w1 := W.drew) (v := .int .u64 x.1) (by simp [go_sem, Act.eval, Act.put]) (hK _ _ ?_)
        refine wpAnyIn_ready (rs := [2]) (by kernel_rfl) (by simp) (AllReadyIn.cons rfl (fun K hK => ?_) AllReadyIn.nil)
        refine stepIn_value rfl (by simp) (w1 := W.drew) (v := .int .i64 x.2) (by simp [go_sem, Act.eval, Act.put]) (hK _ _ ?_)
        refine wpAnyIn_ready (rs := [3]) (by kernel_rfl) (by simp) (AllReadyIn.cons rfl (fun K hK => ?_) AllReadyIn.nil)
        refine stepIn_call (w1 := W.drew) rfl (by simp) (by simp [go_sem, Act.eval, Act.put]) (word_Put.calls x.1 x.2 _ W.drew hput) ?_
        rintro e w2 ⟨pv, rfl, hp, hb2⟩
        refine ⟨pv, rfl, hK _ _ ?_⟩
        have hb2' : Below W.heap.size W w2 := (Below.refl _ W).drew.trans hb2
        have hc2 := (hown w2 hb2').1.cell
        exact tail pv w2 hb2' hp _ (fun _ _ h => h)
      · refine stepIn_value rfl (by simp) (w1 := W.drew) (v := .int .i64 x.2) (by simp [go_sem, Act.eval, Act.put]) (hK _ _ ?_)
        refine wpAnyIn_ready (rs := [1]) (by kernel_rfl) (by simp) (AllReadyIn.cons rfl (fun K hK => ?_) AllReadyIn.nil)
        refine stepIn_value rfl (by simp) (w1 := W.drew) (v := .int .u64 x.1) (by simp [go_sem, Act.eval, Act.put]) (hK _ _ ?_)
        refine wpAnyIn_ready (rs := [3]) (by kernel_rfl) (by simp) (AllReadyIn.cons rfl (fun K hK => ?_) AllReadyIn.nil)
        refine stepIn_call (w1 := W.drew) rfl (by simp) (by simp [go_sem, Act.eval, Act.put]) (word_Put.calls x.1 x.2 _ W.drew hput) ?_
        rintro e w2 ⟨pv, rfl, hp, hb2⟩
        refine ⟨pv, rfl, hK _ _ ?_⟩
        have hb2' : Below W.heap.size W w2 := (Below.refl _ W).drew.trans hb2
        have hc2 := (hown w2 hb2').1.cell
        exact tail pv w2 hb2' hp _ (fun _ _ h => h)
    · refine stepIn_value rfl (by simp) (w1 := W.drew) (v := .int .u64 x.1) (by simp [go_sem, Act.eval, Act.put]) (hK _ _ ?_)
      refine wpAnyIn_ready (rs := [0, 2]) (by kernel_rfl) (by simp) (AllReadyIn.cons rfl (fun K hK => ?_) (AllReadyIn.cons rfl (fun K hK => ?_) AllReadyIn.nil))
      · refine stepIn_value rfl (by simp) (w1 := W.drew) (v := v) (by simp [go_sem, Act.eval, Act.put, hc]) (hK _ _ ?_)
        refine wpAnyIn_ready (rs := [2]) (by kernel_rfl) (by simp) (AllReadyIn.cons rfl (fun K hK => ?_) AllReadyIn.nil)
        refine stepIn_value rfl (by simp) (w1 := W.drew) (v := .int .i64 x.2) (by simp [go_sem, Act.eval, Act.put]) (hK _ _ ?_)
        refine wpAnyIn_ready (rs := [3]) (by kernel_rfl) (by simp) (AllReadyIn.cons rfl (fun K hK => ?_) AllReadyIn.nil)
        refine stepIn_call (w1 := W.drew) rfl (by simp) (by simp [go_sem, Act.eval, Act.put]) (word_Put.calls x.1 x.2 _ W.drew hput) ?_
        rintro e w2 ⟨pv, rfl, hp, hb2⟩
        refine ⟨pv, rfl, hK _ _ ?_⟩
        have hb2' : Below W.heap.size W w2 := (Below.refl _ W).drew.trans hb2
        have hc2 := (hown w2 hb2').1.cell
        exact tail pv w2 hb2' hp _ (fun _ _ h => h)
      · refine stepIn_value rfl (by simp) (w1 := W.drew) (v := .int .i64 x.2) (by simp [go_sem, Act.eval, Act.put]) (hK _ _ ?_)
        refine wpAnyIn_ready (rs := [0, 3]) (by kernel_rfl) (by simp) (AllReadyIn.cons rfl (fun K hK => ?_) (AllReadyIn.cons rfl (fun K hK => ?_) AllReadyIn.nil))
        · refine stepIn_value rfl (by simp) (w1 := W.drew) (v := v) (by simp [go_sem, Act.eval, Act.put, hc]) (hK _ _ ?_)
          refine wpAnyIn_ready (rs := [3]) (by kernel_rfl) (by simp) (AllReadyIn.cons rfl (fun K hK => ?_) AllReadyIn.nil)
          refine stepIn_call (w1 := W.drew) rfl (by simp) (by simp [go_sem, Act.eval, Act.put]) (word_Put.calls x.1 x.2 _ W.drew hput) ?_
          rintro e w2 ⟨pv, rfl, hp, hb2⟩
          refine ⟨pv, rfl, hK _ _ ?_⟩
          have hb2' : Below W.heap.size W w2 := (Below.refl _ W).drew.trans hb2
          have hc2 := (hown w2 hb2').1.cell
          exact tail pv w2 hb2' hp _ (fun _ _ h => h)
        · refine stepIn_call (w1 := W.drew) rfl (by simp) (by simp [go_sem, Act.eval, Act.put]) (word_Put.calls x.1 x.2 _ W.drew hput) ?_
          rintro e w2 ⟨pv, rfl, hp, hb2⟩
          refine ⟨pv, rfl, hK _ _ ?_⟩
          have hb2' : Below W.heap.size W w2 := (Below.refl _ W).drew.trans hb2
          have hc2 := (hown w2 hb2').1.cell
          refine wpAnyIn_ready (rs := [0]) (by kernel_rfl) (by simp) (AllReadyIn.cons rfl (fun K hK => ?_) AllReadyIn.nil)
          refine stepIn_value rfl (by simp) (w1 := w2) (v := v) (by simp [go_sem, Act.eval, Act.put, hc2]) (hK _ _ ?_)
          exact tail pv w2 hb2' hp _ (fun _ _ h => h)
    · refine stepIn_value rfl (by simp) (w1 := W.drew) (v := .int .i64 x.2) (by simp [go_sem, Act.eval, Act.put]) (hK _ _ ?_)
      refine wpAnyIn_ready (rs := [0, 1]) (by kernel_rfl) (by simp) (AllReadyIn.cons rfl (fun K hK => ?_) (AllReadyIn.cons rfl (fun K hK => ?_) AllReadyIn.nil))
      · refine stepIn_value rfl (by simp) (w1 := W.drew) (v := v) (by simp [go_sem, Act.eval, Act.put, hc]) (hK _ _ ?_)
        refine wpAnyIn_ready (rs := [1]) (by kernel_rfl) (by simp) (AllReadyIn.cons rfl (fun K hK => ?_) AllReadyIn.nil)
        refine stepIn_value rfl (by simp) (w1 := W.drew) (v := .int .u64 x.1) (by simp [go_sem, Act.eval, Act.put]) (hK _ _ ?_)
        refine wpAnyIn_ready (rs := [3]) (by kernel_rfl) (by simp) (AllReadyIn.cons rfl (fun K hK => ?_) AllReadyIn.nil)
        refine stepIn_call (w1 := W.drew) rfl (by simp) (by simp [go_sem, Act.eval, Act.put]) (word_Put.calls x.1 x.2 _ W.drew hput) ?_
        rintro e w2 ⟨pv, rfl, hp, hb2⟩
        refine ⟨pv, rfl, hK _ _ ?_⟩
        have hb2' : Below W.heap.size W w2 := (Below.refl _ W).drew.trans hb2
        have hc2 := (hown w2 hb2').1.cell
        exact tail pv w2 hb2' hp _ (fun _ _ h => h)
      · refine stepIn_value rfl (by simp) (w1 := W.drew) (v := .int .u64 x.1) (by simp [go_sem, Act.eval, Act.put]) (hK _ _ ?_)
        refine wpAnyIn_ready (rs := [0, 3]) (by kernel_rfl) (by simp) (AllReadyIn.cons rfl (fun K hK => ?_) (AllReadyIn.cons rfl (fun K hK => ?_) AllReadyIn.nil))
        · refine stepIn_value rfl (by simp) (w1 := W.drew) (v := v) (by simp [go_sem, Act.eval, Act.put, hc]) (hK _ _ ?_)
          refine wpAnyIn_ready (rs := [3]) (by kernel_rfl) (by simp) (AllReadyIn.cons rfl (fun K hK => ?_) AllReadyIn.nil)
          refine stepIn_call (w1 := W.drew) rfl (by simp) (by simp [go_sem, Act.eval, Act.put]) (word_Put.calls x.1 x.2 _ W.drew hput) ?_
          rintro e w2 ⟨pv, rfl, hp, hb2⟩
          refine ⟨pv, rfl, hK _ _ ?_⟩
          have hb2' : Below W.heap.size W w2 := (Below.refl _ W).drew.trans hb2
          have hc2 := (hown w2 hb2').1.cell
          exact tail pv w2 hb2' hp _ (fun _ _ h => h)
        · refine stepIn_call (w1 := W.drew) rfl (by simp) (by simp [go_sem, Act.eval, Act.put]) (word_Put.calls x.1 x.2 _ W.drew hput) ?_
          rintro e w2 ⟨pv, rfl, hp, hb2⟩
          refine ⟨pv, rfl, hK _ _ ?_⟩
          have hb2' : Below W.heap.size W w2 := (Below.refl _ W).drew.trans hb2
          have hc2 := (hown w2 hb2').1.cell
          refine wpAnyIn_ready (rs := [0]) (by kernel_rfl) (by simp) (AllReadyIn.cons rfl (fun K hK => ?_) AllReadyIn.nil)
          refine stepIn_value rfl (by simp) (w1 := w2) (v := v) (by simp [go_sem, Act.eval, Act.put, hc2]) (hK _ _ ?_)
          exact tail pv w2 hb2' hp _ (fun _ _ h => h)
   case done =>
    rintro D ys W hD rfl ⟨⟨v, hb, ho, -⟩, hk⟩ hK
    rw [outG_fields] at ho
    have hFl := frontG_length a0_0 a0_1 a0_2 a0_3 a0_4
    obtain ⟨F, hF⟩ : ∃ F, frontG a0_0 a0_1 a0_2 a0_3 a0_4 = F := ⟨_, rfl⟩
    rw [hF] at ho hFl
    have hwB : w.heap.size + 1 ≤ B := by omega
    have hDB : B ≤ D := by rw [← hB]; exact hD
    have hst : EnSt w W g4 D v F (#[.int .i64 a0_0, .int .u64 a0_1, .int .i64 a0_2, .int .i64 a0_3, .int .u32 a0_4, .slice A0_5 l0_5.length c0_5, .slice A0_6 l0_6.length c0_6]) := ⟨(hk.block _ (by omega) hne4).trans hK4, hb, hK, Kd.R_lower (Kd.R_of_own (enc := Value.int .u8) (by simpa [nums, encs] using ho) (fun _ _ => trivial)) (by omega), hB4.trans (hk.below (by omega) (fun k e => by rw [e]; exact GE.out)), GE.out⟩
    obtain ⟨A4, c4, ev⟩ := Kd.R_slice hst.row
    subst ev
    have HST := Aside0.mk hst
    have HF := Aside0.mk hF
    have HFL := Aside0.mk hFl
    have hany : l0_5.any badS = false := by simpa using hRG.2
    have HAN := Aside0.mk hany
    have c5 : W.cell? ⟨w.heap.size, 5, none⟩ = some (.slice A0_5 l0_5.length c0_5) := (blk_cell hst.k1 5).trans rfl
    clear hst ho hb hk hK hany hF hFl hRG hKS bO hK4 hB4 hne4 hBB hg43 hs3
    go_wp2
    clear c5
    go_loopg [24] l0_5.length (fun g v24 wr => ∃ (k : Nat) (acc : List Int) (V : Value), k + g = l0_5.length ∧ v24 = .int .i64 k ∧ Aside0 (EnSt w wr g4 D V acc (#[.int .i64 a0_0, .int .u64 a0_1, .int .i64 a0_2, .int .i64 a0_3, .int .u32 a0_4, .slice A0_5 l0_5.length c0_5, .slice A0_6 l0_6.length c0_6])) ∧ Aside0 (acc = F ++ ((l0_5.take k).flatMap fun n => putL n 2)))
    case atStart => exact ⟨0, F, _, by omega, rfl, HST, ⟨by simp⟩⟩
    case round =>
     clear HST
     obtain ⟨k, acc, V, hk, rfl, HS, HACC⟩ := hrel
     have HK : Hid _ := hk
     have hal : acc.length ≤ 20 + 2 * k := by
      rw [HACC.out, List.length_append, HFL.out, flat2_len, List.length_take]; omega
     have HAC := Aside0.mk hal
     clear hal
     by_cases hlt : k < l0_5.length
     · obtain ⟨ad, hA, hcx⟩ := ReadsInt.at_ (Kd.reads_of_C (d := (0 : Int)) (Kd.C_below HR5.out HS.out.bel)) (k : Int) (by omega) (by omega)
       rw [Int.toNat_natCast, show rd l0_5 (k : Int) = l0_5[k] from getD_toNat l0_5 0 k hlt] at hcx
       subst hA
       have hxb := badS_any HAN.out l0_5[k] (List.getElem_mem hlt)
       have hf2 := flat2_take l0_5 k hlt
       obtain ⟨x, hx⟩ : ∃ x, l0_5[k] = x := ⟨_, rfl⟩
       rw [hx] at hcx hxb hf2
       have HF2 := Aside0.mk hf2
       have hxw : IntKind.u64.wrap x = x := wrapU x hxb.1 (by omega)
       have hput : word_Put.f x 2 = some (putL x 2) := rfl
       clear hx hf2 hk
       go_wp2
       obtain ⟨AV, cV, eV⟩ := Kd.R_slice HS.out.row
       subst eV
       have HSd := Aside0.mk (HS.out.below ((Below.refl _ wr).drew))
       have hcell : wr.drew.cell? ⟨g4, 0, none⟩ = some (.slice AV acc.length cV) := (blk_cell HSd.out.ko 0).trans rfl
       refine wp_region_noPanic ?_
       refine start_ (n := 6) (S := fun w' => w'.cell? ⟨g4, 0, none⟩ = some (.slice AV acc.length cV)) (ds := [5]) #[false, false, false, false, false, false] (by kernel_rfl) rfl rfl hcell (fun hHeld => ?_)
       refine pure_ (i := 1) (N := some 29) (v := ?_) (a' := ?_) #[false, true, false, false, false, false] rfl rfl (by kernel_rfl) (fun _ _ _ h => h.elim) (Or.inl ⟨by rfl, ?_⟩) ?_ ?_
       rotate_left
       · intro w'
         go_simp
         with_reducible rfl
       rotate_left
       · simp only [Act.put, List.setIfInBounds_toArray, List.set_cons_zero, List.set_cons_succ, i64_w, i32_w]
         rfl
       refine pure_ (i := 2) (N := some 30) (v := ?_) (a' := ?_) #[false, true, true, false, false, false] rfl rfl (by kernel_rfl) (fun _ _ _ h => h.elim) (Or.inl ⟨by rfl, ?_⟩) ?_ ?_
       rotate_left
       · intro w'
         go_simp
         with_reducible rfl
       rotate_left
       · simp only [Act.put, List.setIfInBounds_toArray, List.set_cons_zero, List.set_cons_succ, i64_w, i32_w]
         rfl
       refine take_ (i := 0) (N := some 28) (v := ?_) (a' := ?_) #[true, true, true, false, false, false] rfl rfl (by kernel_rfl) (fun _ _ _ h => h.elim) (Or.inl ⟨by rfl, ?_⟩) hHeld ?_ ?_
       rotate_left
       · intro w' s0
         go_simp
         with_reducible rfl
       rotate_left
       · simp only [Act.put, List.setIfInBounds_toArray, List.set_cons_zero, List.set_cons_succ, i64_w, i32_w]
         rfl
       refine one_ (i := 3) (N := some 31) #[true, true, true, true, false, false] rfl rfl (by kernel_rfl) (by decide) (fun K hK => ?_)
       refine call_ 21 #[.int .u64 x, .int .i64 2] (by rfl) rfl (by
        have he := enters_ Try.func21 (by kernel_rfl) rfl #[.int .u64 x, .int .i64 2] wr.drew
        simp [go_sem, he]) ?_
       refine (word_Put.calls x 2 _ _ hput).mono ?_
       rintro e w7 ⟨pv, rfl, hp, hb7⟩
       refine ⟨_, rfl, ?_⟩
       have HS7 := Aside0.mk (HSd.out.below hb7)
       obtain ⟨A7, c7, ep⟩ := Kd.R_slice hp
       subst ep
       have HP7 := Aside0.mk hp
       clear hp hb7
       refine hK.out _ _ ((blk_cell HS7.out.ko 0).trans rfl) (fun hHeld => ?_)
       clear hK K
       refine norm_ (a' := ?_) ?_ ?_
       rotate_left
       · show Act.put _ (some 31) _ = _
         simp only [Act.put, List.setIfInBounds_toArray, List.set_cons_zero, List.set_cons_succ, i64_w, i32_w]
         rfl
       refine one_ (i := 4) (N := some 32) #[true, true, true, true, true, false] rfl rfl (by kernel_rfl) (by decide) (fun K hK => ?_)
       refine Kd.R_append_rows_step (Kd.int .u8) (w0 := w) w.heap.size (by rfl) (.tmp 28) (.tmp 31) 25 5 (.int .u8 0) 1 (by rfl) Try.underlying25 info5 rfl (by decide) (by omega) (.slice AV acc.length cV) acc (putL x 2) A7 (putL x 2).length c7 (fun _ => True) (fun _ => False) (by rfl) (by rfl) HS7.out.row (Kd.R_reads' HP7.out).2.2 (fun _ _ h => h) (fun _ h => h.elim) (fun _ _ => trivial) HS7.out.bel HS7.out.bel.size (by rw [putL_length]; have := HAC.out; omega) ?_
       intro v8 w8 ho8 hb8 hg8 _
       obtain ⟨acc2, hacc2⟩ : ∃ acc2, acc ++ putL x 2 = acc2 := ⟨_, rfl⟩
       rw [hacc2] at ho8
       obtain ⟨AV2, cV2, eV2⟩ := Kd.R_slice ho8
       subst eV2
       have hst8 := HS7.out.app w8 hg8 (.slice AV2 acc2.length cV2) acc2 ho8 hb8
       have ko8 := blk_grown HS7.out.ko hg8 (fun e => Kd.R_ne HS7.out.row HS7.out.ko (by decide) e)
       have hc8 : w8.cell? ⟨g4, 0, none⟩ = some (.slice AV acc.length cV) := (blk_cell ko8 0).trans rfl
       have hf8 := blk_frozen ko8 0
       have HST8 := Aside0.mk hst8
       have HACC2 := Aside0.mk hacc2
       clear hst8 ko8 ho8 hb8 hg8 hacc2
       refine hK.out _ _ hc8 (fun hHeld => ?_)
       clear hK K
       refine norm_ (a' := ?_) ?_ ?_
       rotate_left
       · show Act.put _ (some 32) _ = _
         simp only [Act.put, List.setIfInBounds_toArray, List.set_cons_zero, List.set_cons_succ, i64_w, i32_w]
         rfl
       refine last_ (i := 5) (N := none) #[true, true, true, true, true, true] rfl rfl (by kernel_rfl) (by decide) (fun K hK => ?_)
       refine skip_ (w1 := w8.setCell ⟨g4, 0, none⟩ (.slice AV2 acc2.length cV2)) (by rfl) rfl (by go_simp; done) ?_
       refine hK.out _ _ ?_
       clear hK K
       refine done_ (by kernel_rfl) ?_
       refine NoPanic.normal ?_
       go_wp2
       go_roundg (gk - 1)
       case measure => have := HK.out; omega
       case rel => exact ⟨k + 1, acc2, _, by have := HK.out; omega, by go_num, HST8, ⟨by rw [← HACC2.out, HACC.out, HF2.out, List.append_assoc]⟩⟩
     · obtain rfl : k = l0_5.length := by omega
       clear hk
       rw [List.take_length] at HACC
       obtain ⟨AV, cV, eV⟩ := Kd.R_slice HS.out.row
       subst eV
       have c6 : wr.cell? ⟨w.heap.size, 6, none⟩ = some (.slice A0_6 l0_6.length c0_6) := (blk_cell HS.out.k1 6).trans rfl
       have c4 : wr.cell? ⟨g4, 0, none⟩ = some (.slice AV acc.length cV) := (blk_cell HS.out.ko 0).trans rfl
       have hkds := kinds_small a0_0
       have hss : l0_5.length ≤ 4 ∧ l0_6.length ≤ 64 := by
        have h9 := HRG.out
        simp only [rightG, Bool.and_eq_true, decide_eq_true_eq] at h9
        omega
       have hgb := gramB_byte a0_0 a0_1 a0_2 a0_3 a0_4 l0_5 l0_6 hb6
       have hge : acc ++ l0_6 = gramB a0_0 a0_1 a0_2 a0_3 a0_4 l0_5 l0_6 := by rw [HACC.out, ← HF.out, gramB, List.append_assoc]
       have hgl : (gramB a0_0 a0_1 a0_2 a0_3 a0_4 l0_5 l0_6).length ≤ 1000 := by rw [← hge, List.length_append]; have := HAC.out; omega
       have hseal := crc_Seal.is _ hgb (by omega)
       have HSE := Aside0.mk hseal
       have HGE := Aside0.mk hge
       have HGL := Aside0.mk hss
       clear hgb hge hgl hseal hkds hss
       go_wp2_with (first
        | ((with_reducible refine gate_builtin (b := .append) (xs := #[.tmp 34, .tmp 36]) rfl ?_); at_builtin; refine Kd.R_append_rows (Kd.int .u8) (w0 := w) w.heap.size rfl (.tmp 34) (.tmp 36) 25 5 (.int .u8 0) 1 rfl Try.underlying25 info5 rfl (by decide) (by omega) (.slice AV acc.length cV) acc l0_6 A0_6 l0_6.length c0_6 (fun _ => True) (fun _ => False) rfl rfl HS.out.row (Kd.C_below HR6.out HS.out.bel) (fun _ _ h => h) (fun _ h => h.elim) (fun _ _ => trivial) HS.out.bel HS.out.bel.size (by have := HAC.out; have := HGL.out; omega) ?_; intro v8 w8 ho8 hb8 hg8 _; rw [HGE.out] at ho8; obtain ⟨A8, c8, e8⟩ := Kd.R_slice ho8; subst e8; have HO8 := Aside0.mk ho8; have HB8 := Aside0.mk hb8; have hD8 : w8.heap[D]? = some (.deferred (some [])) := (hg8.block D ((Array.getElem?_eq_some_iff.1 HS.out.kd).1) (fun e => by (obtain ⟨cells, hc⟩ := Kd.R_typed HS.out.row D e.symm; rw [HS.out.kd] at hc; cases hc))).trans HS.out.kd; have KD8 := Aside0.mk hD8; clear ho8 hb8 hg8 hD8 c4 c6)
        | (go_at_call 22; refine (crc_Seal.calls A8 c8 _ _ _ (Kd.R_reads' HO8.out).2.2 (Kd.R_reads' HO8.out).2.1 HSE.out).mono ?_; rintro e w9 ⟨v9, rfl, ho9, hb9⟩; have HO9 := Aside0.mk ho9; have HB9 := Aside0.mk hb9; clear ho9 hb9))
       have hr12 := HH.out
       obtain ⟨rfl, rfl⟩ := Prod.mk.inj hr12
       have KD9 := (HB9.out.block D (Array.getElem?_eq_some_iff.1 KD8.out).1).trans KD8.out
       refine ⟨by simp, .inl ⟨_, _, rfl, run_takeDeferred KD9, ?_⟩⟩
       refine ⟨.tuple #[v9, .int .u16 0], by simp [results, Try.results10, go_sem], v9, rfl, ?_, ?_⟩
       · have ho' := ownsRow_putObj (Kd.own_of_R HO9.out) (.deferred none) KD9 rfl
         exact Kd.R_lower (Kd.R_of_own ho' (fun _ _ => trivial)) HB8.out.size
       · have hsD : w.heap.size ≤ D := by omega
         exact (below_then HB8.out HB8.out.size HB9.out).trans (belowK_b (w := w) (Nat.le_refl _) w9 D _ _ hsD KD9 rfl rfl)
   case stop =>
    rintro D c pre W _ _ h _
    exact h.elim
 · have hright : pack_right.f a0_0 a0_1 a0_2 a0_3 a0_4 l0_5 l0_6 = some false := by rw [pack_right.f, if_pos ⟨hl5, hl6⟩]; simpa using hr
   rw [encodeG, if_neg hr] at h
   cases h
   have HRT := Aside0.mk hright
   clear hr hright
   go_enter Try.func10, Try.ntmps10
   go_wp2_with (go_at_call 19; refine (pack_right.calls a0_0 a0_1 a0_2 a0_3 a0_4 A0_5 c0_5 l0_5 A0_6 c0_6 l0_6 false _ (Kd.C_below HR5.out HB1.out) HC5.out (Kd.C_below HR6.out HB1.out) HC6.out HRT.out).mono ?_; rintro e w2 ⟨rfl, hb⟩; have HB2 := Aside0.mk (below_then HB1.out HB1.out.size hb); clear hb)
   go_ret2
   exact ⟨_, rfl, Kd.R_nil _ _ _ _ _, HB2.out⟩

end Go.Proofs.Ytoooceaoggkeeaa.F
end

section
namespace Go.Proofs.Ytoooceaoggkeeaa.F
open Go.RowKit Go.Proofs.YtoooceaoggkeeaaW.PrintWords Go.Proofs.YtoooceaoggkeeaaW.PrintLast Go.Proofs.YtoooceaoggkeeaaW.PrintMore
attribute [local go_sem] max2_int min2_int max_two min_two max_three min_three max_four min_four   -- for this text's walks alone
set_option linter.unusedVariables false
set_option linter.unusedSimpArgs false

/-! ### scullerref13_put: function 32 -/
def scullerref13_put.f (l0 : List Int) (a1 : Int) (a2 : Int) : Option (List Int) := if ([] : List Int).length + l0.length < 140737488355328 then ((some (([] : List Int) ++ l0 : List Int)).bind fun y101 => ((scullerref01_Put_c.f a1 a2).bind fun t104 => (if y101.length + t104.length < 140737488355328 then (some (y101 ++ t104)) else (none)))) else (none)
set_option maxHeartbeats 8000000 in
set_option maxRecDepth 100000 in
theorem scullerref13_put.calls (A0 : Option Addr) (c0 : Nat) (l0 : List Int) (a1 : Int) (a2 : Int) (r : List Int) (w : World) (hr0 : Kd.C (Kd.int .u8) w A0 l0.length l0) (hc0 : l0.length ≤ c0) (h : scullerref13_put.f l0 a1 a2 = some r) :
 Calls Try.prog 32 #[.slice A0 l0.length c0, .int .u64 a1, .int .i64 a2] w fun e w' => ∃ v0_ : Value, e = .returned (v0_) ∧ Kd.R (Kd.int .u8) 5 w' w.heap.size (fun _ => True) v0_ r ∧ Below w.heap.size w w' := by
 have HR0 := Aside0.mk hr0
 have HC0 := Aside0.mk hc0
 clear hr0 hc0
 have HB := Aside0.mk (Below.refl w.heap.size w)
 have H : (if ([] : List Int).length + l0.length < 140737488355328 then ((some (([] : List Int) ++ l0 : List Int)).bind fun y101 => ((scullerref01_Put_c.f a1 a2).bind fun t104 => (if y101.length + t104.length < 140737488355328 then (some (y101 ++ t104)) else (none)))) else (none)) = some r := h
 clear h
 by_cases c4 : ([] : List Int).length + l0.length < 140737488355328
 · rw [if_pos c4] at H
   have LMc4 := Aside0.mk c4
   clear c4
   obtain ⟨y101, hy101⟩ : ∃ y_ : List Int, y_ = (([] : List Int) ++ l0) := ⟨_, rfl⟩
   replace H : ((scullerref01_Put_c.f a1 a2).bind fun t104 => (if y101.length + t104.length < 140737488355328 then (some (y101 ++ t104)) else (none))) = some r := by first | (rw [hy101]; with_reducible exact H) | (have H2_ := (Option.bind_some _ _).symm.trans H; rw [hy101]; with_reducible exact H2_) | (have H2_ := (Option.bind_some _ _).symm.trans H; with_reducible exact H2_) | with_reducible exact H | (rw [hy101]; exact H) | exact H
   have Ny101 := Aside0.mk hy101
   clear hy101
   replace H := Option.bind_eq_some_iff.mp H
   obtain ⟨t104, A50, H⟩ := H
   replace H : (if y101.length + t104.length < 140737488355328 then (some (y101 ++ t104)) else (none)) = some r := H
   have A5 := Aside0.mk A50
   clear A50
   by_cases c6 : y101.length + t104.length < 140737488355328
   · rw [if_pos c6] at H
     have LMc6 := Aside0.mk c6
     clear c6
     obtain ⟨y107, hy107⟩ : ∃ y_ : List Int, y_ = (y101 ++ t104) := ⟨_, rfl⟩
     replace H : (some y107) = some r := by first | (rw [hy107]; with_reducible exact H) | (have H2_ := (Option.bind_some _ _).symm.trans H; rw [hy107]; with_reducible exact H2_) | (have H2_ := (Option.bind_some _ _).symm.trans H; with_reducible exact H2_) | with_reducible exact H | (rw [hy107]; exact H) | exact H
     have Ny107 := Aside0.mk hy107
     clear hy107
     obtain rfl := Option.some.inj H
     go_enter Try.func32, Try.ntmps32
     go_wp2_with (first | ((with_reducible refine gate_builtin (b := .append) (xs := #[.tmp 9, .tmp 10]) rfl ?_); at_builtin; refine Kd.R_append_rows (Kd.int .u8) (w0 := w) w.heap.size rfl (.tmp 9) (.tmp 10) 25 5 (.int .u8 0) 1 rfl Try.underlying25 info5 rfl (by decide) (by omega) (.slice none 0 0) ([] : List Int) l0 _ _ _ (fun _ => True) (fun _ => False) rfl rfl ?aO ?aR (fun _ _ h => h) (fun _ h => h.elim) ?aF ?aB ?aS ?aL ?_; (case aR => repeat (first | exact HR0.out | (with_reducible refine Kd.C_alloc ?_ _) | (with_reducible refine Kd.C_drewN ?_ _) | (with_reducible refine Kd.C_drew ?_))); (case aB => exact (by repeat (first | (with_reducible first | exact HB.out | apply below_alloc | apply pw_below_drewN | apply below_drew1) | exact HB.out))); (case aF => exact (fun _ _ => trivial)); (case aO => exact ((Kd.R_nil _ _ _ _ (fun _ => True)))); (case aS => exact (below_size (by repeat (first | (with_reducible first | exact HB.out | apply below_alloc | apply pw_below_drewN | apply below_drew1) | exact HB.out)))); (case aL => have := LMc4.out; omega); intro v102 w7 ho hb hg hat; rw [← Ny101.out] at ho; have n0_ := Aside0.mk (hb); have n1_ := Aside0.mk (ho); clear HB; have HB := n0_; have HO103 := n1_; clear n0_ n1_; clear ho hb hg hat) | ((with_reducible refine gate_callee (f := 29) rfl ?_); refine goesL_ (some 14) rfl rfl Try.func29 (by kernel_rfl) rfl #[.int .u64 a1, .int .i64 a2] rfl (by (try simp only [List.map_toArray, List.map_cons, List.map_nil]); first | done | rfl | (simp only [List.length_drop, List.length_take]; rfl)) ?_; (with_reducible refine (scullerref01_Put_c.calls a1 a2 t104 _ A5.out).mono ?_); rintro e w8 ⟨v105, rfl, ho0, hb⟩; refine ⟨_, rfl, ?_⟩; have n0_ := Aside0.mk (Kd.R_elder' (by (with_reducible repeat (first | apply Kd.R_alloc | apply Kd.R_drewN | apply Kd.R_drew)); exact HO103.out) (Kd.R_base ho0) hb); have n1_ := Aside0.mk (Kd.R_lower (Kd.R_new' ho0 (Kd.R_lt (by (with_reducible repeat (first | apply Kd.R_alloc | apply Kd.R_drewN | apply Kd.R_drew)); exact HO103.out))) (below_size (by repeat (first | (with_reducible first | exact HB.out | apply below_alloc | apply pw_below_drewN | apply below_drew1) | exact HB.out)))); have n2_ := Aside0.mk (below_step (by repeat (first | (with_reducible first | exact HB.out | apply below_alloc | apply pw_below_drewN | apply below_drew1) | exact HB.out)) hb); clear HO103; clear HB; have HO103 := n0_; have HO106 := n1_; have HB := n2_; clear n0_ n1_ n2_; (try clear hb); (try clear hb2); (try clear hk); (try clear hi); (try clear ho0); obtain ⟨Ao10, co10, eo10⟩ := Kd.R_slice HO106.out; subst eo10) | ((with_reducible refine gate_builtin (b := .append) (xs := #[.tmp 15, .tmp 16]) rfl ?_); at_builtin; refine Kd.R_append_rows (Kd.int .u8) (w0 := w) w.heap.size rfl (.tmp 15) (.tmp 16) 25 5 (.int .u8 0) 1 rfl Try.underlying25 info5 rfl (by decide) (by omega) v102 y101 t104 _ _ _ (fun k_ => some k_ ≠ (.slice Ao10 t104.length co10 : Value).ownBlock) (fun _ => False) rfl rfl ?aO ?aR (fun _ _ h => h) (fun _ h => h.elim) ?aF ?aB ?aS ?aL ?_; (case aR => repeat (first | exact (Kd.R_reads' HO106.out).2.2 | (with_reducible refine Kd.C_alloc ?_ _) | (with_reducible refine Kd.C_drewN ?_ _) | (with_reducible refine Kd.C_drew ?_))); (case aB => exact (by repeat (first | (with_reducible first | exact HB.out | apply below_alloc | apply pw_below_drewN | apply below_drew1) | exact HB.out))); (case aF => exact (fun k_ hk => Kd.fresh' (Kd.R_lt (by (with_reducible repeat (first | apply Kd.R_alloc | apply Kd.R_drewN | apply Kd.R_drew)); exact HO106.out)) k_ hk)); (case aO => exact (by (with_reducible repeat (first | apply Kd.R_alloc | apply Kd.R_drewN | apply Kd.R_drew)); exact Kd.R_mono HO103.out (fun _ hk => hk.2))); (case aS => exact (below_size (by repeat (first | (with_reducible first | exact HB.out | apply below_alloc | apply pw_below_drewN | apply below_drew1) | exact HB.out)))); (case aL => have := LMc6.out; omega); intro v108 w9 ho hb hg hat; rw [← Ny107.out] at ho; have n0_ := Aside0.mk (Kd.R_after (ok := (fun _ => True)) (by (with_reducible repeat (first | apply Kd.R_alloc | apply Kd.R_drewN | apply Kd.R_drew)); exact HO106.out) hg hat); have n1_ := Aside0.mk (hb); have n2_ := Aside0.mk (ho); clear HO106; clear HB; clear HO103; have HO106 := n0_; have HB := n1_; have HO109 := n2_; clear n0_ n1_ n2_; clear ho hb hg hat))
     go_ret
     exact ⟨_, by first | rfl | (simp [errW_none, errW_some] <;> rfl) | (simp [*, errW_none, errW_some] <;> rfl), by (with_reducible repeat (first | apply Kd.R_alloc | apply Kd.R_drewN | apply Kd.R_drew)); exact Kd.R_mono HO109.out (fun _ hk => trivial), by repeat (first | (with_reducible first | exact HB.out | apply below_alloc | apply pw_below_drewN | apply below_drew1) | exact HB.out)⟩
   · rw [if_neg c6] at H
     exact absurd H (by simp)
 · rw [if_neg c4] at H
   exact absurd H (by simp)

end Go.Proofs.Ytoooceaoggkeeaa.F
end

section
namespace Go.Proofs.Ytoooceaoggkeeaa.F
open Go.RowKit Go.Proofs.YtoooceaoggkeeaaW.PrintWords Go.Proofs.YtoooceaoggkeeaaW.PrintLast Go.Proofs.YtoooceaoggkeeaaW.PrintMore
attribute [local go_sem] max2_int min2_int max_two min_two max_three min_three max_four min_four   -- for this text's walks alone
set_option linter.unusedVariables false
set_option linter.unusedSimpArgs false

/-! ### scullerref13_Right: function 31 -/
mutual
def scullerref13_Right.j0 : Nat → Bool → Int → Int → Int → Int → Int → List Int → List Int → Option (Bool)
 | 0, _, _, _, _, _, _, _, _ => none
 | k + 1, x31, x102000, x102001, x102002, x102003, x102004, x102005, x102006 => if x31 = true then (some false) else (if (x102005.length : Int) > 0 then (if x102000 = 1 then (if (x102005.length : Int) > 4 then (scullerref13_Right.j1 k true x102000 x102001 x102002 x102003 x102004 x102005 x102006) else (if (x102006.length : Int) > 0 then (if x102000 < 2 then (scullerref13_Right.j1 k true x102000 x102001 x102002 x102003 x102004 x102005 x102006) else (if x102000 > 4 then (scullerref13_Right.j1 k true x102000 x102001 x102002 x102003 x102004 x102005 x102006) else (scullerref13_Right.j1 k (decide ((x102006.length : Int) > 64)) x102000 x102001 x102002 x102003 x102004 x102005 x102006))) else (scullerref13_Right.j1 k (decide ((x102006.length : Int) > 64)) x102000 x102001 x102002 x102003 x102004 x102005 x102006))) else (scullerref13_Right.j1 k true x102000 x102001 x102002 x102003 x102004 x102005 x102006)) else (if (x102005.length : Int) > 4 then (scullerref13_Right.j1 k true x102000 x102001 x102002 x102003 x102004 x102005 x102006) else (if (x102006.length : Int) > 0 then (if x102000 < 2 then (scullerref13_Right.j1 k true x102000 x102001 x102002 x102003 x102004 x102005 x102006) else (if x102000 > 4 then (scullerref13_Right.j1 k true x102000 x102001 x102002 x102003 x102004 x102005 x102006) else (scullerref13_Right.j1 k (decide ((x102006.length : Int) > 64)) x102000 x102001 x102002 x102003 x102004 x102005 x102006))) else (scullerref13_Right.j1 k (decide ((x102006.length : Int) > 64)) x102000 x102001 x102002 x102003 x102004 x102005 x102006))))
def scullerref13_Right.j1 : Nat → Bool → Int → Int → Int → Int → Int → List Int → List Int → Option (Bool)
 | 0, _, _, _, _, _, _, _, _ => none
 | k + 1, x68, x102000, x102001, x102002, x102003, x102004, x102005, x102006 => if x68 = true then (some false) else (scullerref13_Right.l0 k 0 x102000 x102001 x102002 x102003 x102004 x102005 x102006)
def scullerref13_Right.l0 : Nat → Int → Int → Int → Int → Int → Int → List Int → List Int → Option (Bool)
 | 0, _, _, _, _, _, _, _, _ => none
 | k + 1, x3, x102000, x102001, x102002, x102003, x102004, x102005, x102006 => if x3 < (x102005.length : Int) then (if 0 ≤ x3 then (if (rd x102005 x3) < 0 then (some false) else (if (rd x102005 x3) > 4096 then (some false) else (scullerref13_Right.l0 k (wrap64 (x3 + 1)) x102000 x102001 x102002 x102003 x102004 x102005 x102006))) else (none)) else (some true)
end
def scullerref13_Right.f (k : Nat) (a0_0 : Int) (a0_1 : Int) (a0_2 : Int) (a0_3 : Int) (a0_4 : Int) (l0_5 : List Int) (l0_6 : List Int) : Option (Bool) := if a0_0 < 1 then (scullerref13_Right.j0 k true a0_0 a0_1 a0_2 a0_3 a0_4 l0_5 l0_6) else (if a0_0 > 8 then (scullerref13_Right.j0 k true a0_0 a0_1 a0_2 a0_3 a0_4 l0_5 l0_6) else (if a0_2 < 0 then (scullerref13_Right.j0 k true a0_0 a0_1 a0_2 a0_3 a0_4 l0_5 l0_6) else (if a0_2 > 65535 then (scullerref13_Right.j0 k true a0_0 a0_1 a0_2 a0_3 a0_4 l0_5 l0_6) else (if a0_3 < 0 then (scullerref13_Right.j0 k true a0_0 a0_1 a0_2 a0_3 a0_4 l0_5 l0_6) else (scullerref13_Right.j0 k (decide (a0_3 > 65535)) a0_0 a0_1 a0_2 a0_3 a0_4 l0_5 l0_6)))))
theorem scullerref13_Right.mono_l : ∀ k, (∀ y0 y1 y2 y3 y4 y5 y6 y7, LeO (scullerref13_Right.j0 k y0 y1 y2 y3 y4 y5 y6 y7) (scullerref13_Right.j0 (k + 1) y0 y1 y2 y3 y4 y5 y6 y7)) ∧ (∀ y0 y1 y2 y3 y4 y5 y6 y7, LeO (scullerref13_Right.j1 k y0 y1 y2 y3 y4 y5 y6 y7) (scullerref13_Right.j1 (k + 1) y0 y1 y2 y3 y4 y5 y6 y7)) ∧ (∀ y0 y1 y2 y3 y4 y5 y6 y7, LeO (scullerref13_Right.l0 k y0 y1 y2 y3 y4 y5 y6 y7) (scullerref13_Right.l0 (k + 1) y0 y1 y2 y3 y4 y5 y6 y7))
 | 0 => ⟨fun _ _ _ _ _ _ _ _ r h => by simp [scullerref13_Right.j0] at h, fun _ _ _ _ _ _ _ _ r h => by simp [scullerref13_Right.j1] at h, fun _ _ _ _ _ _ _ _ r h => by simp [scullerref13_Right.l0] at h⟩
 | k + 1 => by
   obtain ⟨ih0, ih1, ih2⟩ := scullerref13_Right.mono_l k
   refine ⟨?_, ?_, ?_⟩
   · intro y0 y1 y2 y3 y4 y5 y6 y7
     unfold scullerref13_Right.j0
     repeat' first
     | (with_reducible exact ih0 _ _ _ _ _ _ _ _)
     | (with_reducible exact ih1 _ _ _ _ _ _ _ _)
     | (with_reducible exact ih2 _ _ _ _ _ _ _ _)
     | (with_reducible exact LeO.refl _)
     | (with_reducible exact LeO.none _)
     | (with_reducible refine LeO.ite ?_ ?_)
     | (with_reducible refine LeO.bind ?_ (fun _ => ?_))
     | exact ih0 _ _ _ _ _ _ _ _
     | exact ih1 _ _ _ _ _ _ _ _
     | exact ih2 _ _ _ _ _ _ _ _
     | exact LeO.none _
     | refine LeO.ite ?_ ?_
     | refine LeO.bind ?_ (fun _ => ?_)
   · intro y0 y1 y2 y3 y4 y5 y6 y7
     unfold scullerref13_Right.j1
     repeat' first
     | (with_reducible exact ih0 _ _ _ _ _ _ _ _)
     | (with_reducible exact ih1 _ _ _ _ _ _ _ _)
     | (with_reducible exact ih2 _ _ _ _ _ _ _ _)
     | (with_reducible exact LeO.refl _)
     | (with_reducible exact LeO.none _)
     | (with_reducible refine LeO.ite ?_ ?_)
     | (with_reducible refine LeO.bind ?_ (fun _ => ?_))
     | exact ih0 _ _ _ _ _ _ _ _
     | exact ih1 _ _ _ _ _ _ _ _
     | exact ih2 _ _ _ _ _ _ _ _
     | exact LeO.none _
     | refine LeO.ite ?_ ?_
     | refine LeO.bind ?_ (fun _ => ?_)
   · intro y0 y1 y2 y3 y4 y5 y6 y7
     unfold scullerref13_Right.l0
     repeat' first
     | (with_reducible exact ih0 _ _ _ _ _ _ _ _)
     | (with_reducible exact ih1 _ _ _ _ _ _ _ _)
     | (with_reducible exact ih2 _ _ _ _ _ _ _ _)
     | (with_reducible exact LeO.refl _)
     | (with_reducible exact LeO.none _)
     | (with_reducible refine LeO.ite ?_ ?_)
     | (with_reducible refine LeO.bind ?_ (fun _ => ?_))
     | exact ih0 _ _ _ _ _ _ _ _
     | exact ih1 _ _ _ _ _ _ _ _
     | exact ih2 _ _ _ _ _ _ _ _
     | exact LeO.none _
     | refine LeO.ite ?_ ?_
     | refine LeO.bind ?_ (fun _ => ?_)
theorem scullerref13_Right.mono : ∀ a0 a1 a2 a3 a4 a5 a6 k, LeO (scullerref13_Right.f k a0 a1 a2 a3 a4 a5 a6) (scullerref13_Right.f (k + 1) a0 a1 a2 a3 a4 a5 a6) := by
 intro a0 a1 a2 a3 a4 a5 a6 k
 obtain ⟨ih0, ih1, ih2⟩ := scullerref13_Right.mono_l k
 unfold scullerref13_Right.f
 repeat' first
  | (with_reducible exact ih0 _ _ _ _ _ _ _ _)
  | (with_reducible exact ih1 _ _ _ _ _ _ _ _)
  | (with_reducible exact ih2 _ _ _ _ _ _ _ _)
  | (with_reducible exact LeO.refl _)
  | (with_reducible exact LeO.none _)
  | (with_reducible refine LeO.ite ?_ ?_)
  | (with_reducible refine LeO.bind ?_ (fun _ => ?_))
  | exact ih0 _ _ _ _ _ _ _ _
  | exact ih1 _ _ _ _ _ _ _ _
  | exact ih2 _ _ _ _ _ _ _ _
  | exact LeO.none _
  | refine LeO.ite ?_ ?_
  | refine LeO.bind ?_ (fun _ => ?_)
set_option maxHeartbeats 8000000 in
set_option maxRecDepth 100000 in
theorem scullerref13_Right.calls (k : Nat) (a0_0 : Int) (a0_1 : Int) (a0_2 : Int) (a0_3 : Int) (a0_4 : Int) (A0_5 : Option Addr) (c0_5 : Nat) (l0_5 : List Int) (A0_6 : Option Addr) (c0_6 : Nat) (l0_6 : List Int) (r : Bool) (w : World) (hr0_5 : Kd.C (Kd.int .i64) w A0_5 l0_5.length l0_5) (hc0_5 : l0_5.length ≤ c0_5) (hr0_6 : Kd.C (Kd.int .u8) w A0_6 l0_6.length l0_6) (hc0_6 : l0_6.length ≤ c0_6) (h : scullerref13_Right.f k a0_0 a0_1 a0_2 a0_3 a0_4 l0_5 l0_6 = some r) :
 Calls Try.prog 31 #[.agg #[.int .i64 a0_0, .int .u64 a0_1, .int .i64 a0_2, .int .i64 a0_3, .int .u32 a0_4, .slice A0_5 l0_5.length c0_5, .slice A0_6 l0_6.length c0_6]] w fun e w' => e = .returned (.bool r) ∧ Below w.heap.size w w' := by
 have hu28 := Try.underlying28
 have HR0_5 := Aside0.mk hr0_5
 have HC0_5 := Aside0.mk hc0_5
 clear hr0_5 hc0_5
 have HR0_6 := Aside0.mk hr0_6
 have HC0_6 := Aside0.mk hc0_6
 clear hr0_6 hc0_6
 have HB := Aside0.mk (Below.refl w.heap.size w)
 have H : (if a0_0 < 1 then (scullerref13_Right.j0 k true a0_0 a0_1 a0_2 a0_3 a0_4 l0_5 l0_6) else (if a0_0 > 8 then (scullerref13_Right.j0 k true a0_0 a0_1 a0_2 a0_3 a0_4 l0_5 l0_6) else (if a0_2 < 0 then (scullerref13_Right.j0 k true a0_0 a0_1 a0_2 a0_3 a0_4 l0_5 l0_6) else (if a0_2 > 65535 then (scullerref13_Right.j0 k true a0_0 a0_1 a0_2 a0_3 a0_4 l0_5 l0_6) else (if a0_3 < 0 then (scullerref13_Right.j0 k true a0_0 a0_1 a0_2 a0_3 a0_4 l0_5 l0_6) else (scullerref13_Right.j0 k (decide (a0_3 > 65535)) a0_0 a0_1 a0_2 a0_3 a0_4 l0_5 l0_6)))))) = some r := h
 clear h
 have HC2 := Aside0.mk H
 clear H
 go_enter Try.func31, Try.ntmps31
 go_upto_region 1 with (first | ((with_reducible refine gate_dst (N := 1) rfl ?_); (try (refine gate_guard (by rfl) ?_; dsimp only)); refine box_event ?hg (N := 1) ?hd (cs := #[.int .i64 a0_0, .int .u64 a0_1, .int .i64 a0_2, .int .i64 a0_3, .int .u32 a0_4, .slice A0_5 l0_5.length c0_5, .slice A0_6 l0_6.length c0_6]) (t := 28) ?hr ?_; (case hd => rfl); (case hg => rfl); (case hr => first | (go_simp; done) | (go_simp; rfl)); intro gb101 hg w3 hbox hb; have n0_ := Aside0.mk (below_step (by repeat (first | (with_reducible first | exact HB.out | apply below_alloc | apply pw_below_drewN | apply below_drew1) | exact HB.out)) hb); have n1_ := Aside0.mk (hbox); have n2_ := Aside0.mk ((by rw [hg]; exact (below_size (by repeat (first | (with_reducible first | exact HB.out | apply below_alloc | apply pw_below_drewN | apply below_drew1) | exact HB.out))) : w.heap.size ≤ gb101)); have n3_ := Aside0.mk ((by rw [hg]; exact (below_size (by repeat (first | (with_reducible first | exact HB.out | apply below_alloc | apply pw_below_drewN | apply below_drew1) | exact HB.out))) : w.heap.size ≤ gb101)); clear HB; have HB := n0_; have BK101 := n1_; have GW101 := n2_; have GE101 := n3_; clear n0_ n1_ n2_ n3_; clear hb hbox hg))
 (try simp only [Act.put, List.setIfInBounds_toArray, List.set_cons_zero, List.set_cons_succ])
 go_cut [31] (fun v31 wc => ∃ (kq : Nat) (x31_1 : Bool), v31 = .bool x31_1 ∧ Aside0 (scullerref13_Right.j0 kq x31_1 a0_0 a0_1 a0_2 a0_3 a0_4 l0_5 l0_6 = some r) ∧ Aside0 (kq ≤ k) ∧ Aside0 (wc.heap[gb101]? = some (.cells #[.int .i64 a0_0, .int .u64 a0_1, .int .i64 a0_2, .int .i64 a0_3, .int .u32 a0_4, (.slice A0_5 l0_5.length c0_5), (.slice A0_6 l0_6.length c0_6)] 28 (0, 0))) ∧ Aside0 (Below w.heap.size w wc))
 case first =>
  have H := HC2.out
  clear HC2
  by_cases c4 : a0_0 < 1
  · rw [if_pos c4] at H
    have c4b0 : decide (a0_0 < 1) = true := decide_eq_true c4
    clear c4
    (first | rw [c4b0] | (simp only [i64_w, i32_w]; rw [c4b0]) | skip)
    have H' := Aside0.mk H
    clear H
    have hcz5_0 : w3.cell? ⟨gb101, 0, none⟩ = some (.int .i64 a0_0) := (blk_cell BK101.out 0).trans rfl
    have hcz5_1 : w3.cell? ⟨gb101, 1, none⟩ = some (.int .u64 a0_1) := (blk_cell BK101.out 1).trans rfl
    have hcz5_2 : w3.cell? ⟨gb101, 2, none⟩ = some (.int .i64 a0_2) := (blk_cell BK101.out 2).trans rfl
    have hcz5_3 : w3.cell? ⟨gb101, 3, none⟩ = some (.int .i64 a0_3) := (blk_cell BK101.out 3).trans rfl
    have hcz5_4 : w3.cell? ⟨gb101, 4, none⟩ = some (.int .u32 a0_4) := (blk_cell BK101.out 4).trans rfl
    have hcz5_5 : w3.cell? ⟨gb101, 5, none⟩ = some (.slice A0_5 l0_5.length c0_5) := (blk_cell BK101.out 5).trans rfl
    have hcz5_6 : w3.cell? ⟨gb101, 6, none⟩ = some (.slice A0_6 l0_6.length c0_6) := (blk_cell BK101.out 6).trans rfl
    have hfz5_0 := blk_frozen BK101.out 0
    have hfz5_1 := blk_frozen BK101.out 1
    have hfz5_2 := blk_frozen BK101.out 2
    have hfz5_3 := blk_frozen BK101.out 3
    have hfz5_4 := blk_frozen BK101.out 4
    have hfz5_5 := blk_frozen BK101.out 5
    have hfz5_6 := blk_frozen BK101.out 6
    go_wp2
    go_meet
    case rel => exact ⟨_, (true), (by first | rfl | (simp; done) | (simp [*]; done)), H', ⟨by first | omega | exact Nat.le_refl _⟩, ⟨by (with_reducible repeat (first | refine blk_drewN ?_ _ | refine blk_drew ?_ | refine blk_alloc ?_ _)); exact BK101.out⟩, ⟨by repeat (first | (with_reducible first | exact HB.out | apply below_alloc | apply pw_below_drewN | apply below_drew1 | refine below_set ?_ GE101.out) | exact HB.out)⟩⟩
  · rw [if_neg c4] at H
    have c4b0 : decide (a0_0 < 1) = false := decide_eq_false c4
    clear c4
    (first | rw [c4b0] | (simp only [i64_w, i32_w]; rw [c4b0]) | skip)
    by_cases c6 : a0_0 > 8
    · rw [if_pos c6] at H
      have c6b0 : decide (8 < a0_0) = true := decide_eq_true c6
      clear c6
      have H' := Aside0.mk H
      clear H
      have hcz7_0 : w3.cell? ⟨gb101, 0, none⟩ = some (.int .i64 a0_0) := (blk_cell BK101.out 0).trans rfl
      have hcz7_1 : w3.cell? ⟨gb101, 1, none⟩ = some (.int .u64 a0_1) := (blk_cell BK101.out 1).trans rfl
      have hcz7_2 : w3.cell? ⟨gb101, 2, none⟩ = some (.int .i64 a0_2) := (blk_cell BK101.out 2).trans rfl
      have hcz7_3 : w3.cell? ⟨gb101, 3, none⟩ = some (.int .i64 a0_3) := (blk_cell BK101.out 3).trans rfl
      have hcz7_4 : w3.cell? ⟨gb101, 4, none⟩ = some (.int .u32 a0_4) := (blk_cell BK101.out 4).trans rfl
      have hcz7_5 : w3.cell? ⟨gb101, 5, none⟩ = some (.slice A0_5 l0_5.length c0_5) := (blk_cell BK101.out 5).trans rfl
      have hcz7_6 : w3.cell? ⟨gb101, 6, none⟩ = some (.slice A0_6 l0_6.length c0_6) := (blk_cell BK101.out 6).trans rfl
      have hfz7_0 := blk_frozen BK101.out 0
      have hfz7_1 := blk_frozen BK101.out 1
      have hfz7_2 := blk_frozen BK101.out 2
      have hfz7_3 := blk_frozen BK101.out 3
      have hfz7_4 := blk_frozen BK101.out 4
      have hfz7_5 := blk_frozen BK101.out 5
      have hfz7_6 := blk_frozen BK101.out 6
      go_wp2
      go_meet
      case rel => exact ⟨_, (true), (by first | rfl | (simp; done) | (simp [*]; done)), H', ⟨by first | omega | exact Nat.le_refl _⟩, ⟨by (with_reducible repeat (first | refine blk_drewN ?_ _ | refine blk_drew ?_ | refine blk_alloc ?_ _)); exact BK101.out⟩, ⟨by repeat (first | (with_reducible first | exact HB.out | apply below_alloc | apply pw_below_drewN | apply below_drew1 | refine below_set ?_ GE101.out) | exact HB.out)⟩⟩
    · rw [if_neg c6] at H
      have c6b0 : decide (8 < a0_0) = false := decide_eq_false c6
      clear c6
      by_cases c8 : a0_2 < 0
      · rw [if_pos c8] at H
        have c8b0 : decide (a0_2 < 0) = true := decide_eq_true c8
        clear c8
        have H' := Aside0.mk H
        clear H
        have hcz9_0 : w3.cell? ⟨gb101, 0, none⟩ = some (.int .i64 a0_0) := (blk_cell BK101.out 0).trans rfl
        have hcz9_1 : w3.cell? ⟨gb101, 1, none⟩ = some (.int .u64 a0_1) := (blk_cell BK101.out 1).trans rfl
        have hcz9_2 : w3.cell? ⟨gb101, 2, none⟩ = some (.int .i64 a0_2) := (blk_cell BK101.out 2).trans rfl
        have hcz9_3 : w3.cell? ⟨gb101, 3, none⟩ = some (.int .i64 a0_3) := (blk_cell BK101.out 3).trans rfl
        have hcz9_4 : w3.cell? ⟨gb101, 4, none⟩ = some (.int .u32 a0_4) := (blk_cell BK101.out 4).trans rfl
        have hcz9_5 : w3.cell? ⟨gb101, 5, none⟩ = some (.slice A0_5 l0_5.length c0_5) := (blk_cell BK101.out 5).trans rfl
        have hcz9_6 : w3.cell? ⟨gb101, 6, none⟩ = some (.slice A0_6 l0_6.length c0_6) := (blk_cell BK101.out 6).trans rfl
        have hfz9_0 := blk_frozen BK101.out 0
        have hfz9_1 := blk_frozen BK101.out 1
        have hfz9_2 := blk_frozen BK101.out 2
        have hfz9_3 := blk_frozen BK101.out 3
        have hfz9_4 := blk_frozen BK101.out 4
        have hfz9_5 := blk_frozen BK101.out 5
        have hfz9_6 := blk_frozen BK101.out 6
        go_wp2
        go_meet
        case rel => exact ⟨_, (true), (by first | rfl | (simp; done) | (simp [*]; done)), H', ⟨by first | omega | exact Nat.le_refl _⟩, ⟨by (with_reducible repeat (first | refine blk_drewN ?_ _ | refine blk_drew ?_ | refine blk_alloc ?_ _)); exact BK101.out⟩, ⟨by repeat (first | (with_reducible first | exact HB.out | apply below_alloc | apply pw_below_drewN | apply below_drew1 | refine below_set ?_ GE101.out) | exact HB.out)⟩⟩
      · rw [if_neg c8] at H
        have c8b0 : decide (a0_2 < 0) = false := decide_eq_false c8
        clear c8
        by_cases c10 : a0_2 > 65535
        · rw [if_pos c10] at H
          have c10b0 : decide (65535 < a0_2) = true := decide_eq_true c10
          clear c10
          have H' := Aside0.mk H
          clear H
          have hcz11_0 : w3.cell? ⟨gb101, 0, none⟩ = some (.int .i64 a0_0) := (blk_cell BK101.out 0).trans rfl
          have hcz11_1 : w3.cell? ⟨gb101, 1, none⟩ = some (.int .u64 a0_1) := (blk_cell BK101.out 1).trans rfl
          have hcz11_2 : w3.cell? ⟨gb101, 2, none⟩ = some (.int .i64 a0_2) := (blk_cell BK101.out 2).trans rfl
          have hcz11_3 : w3.cell? ⟨gb101, 3, none⟩ = some (.int .i64 a0_3) := (blk_cell BK101.out 3).trans rfl
          have hcz11_4 : w3.cell? ⟨gb101, 4, none⟩ = some (.int .u32 a0_4) := (blk_cell BK101.out 4).trans rfl
          have hcz11_5 : w3.cell? ⟨gb101, 5, none⟩ = some (.slice A0_5 l0_5.length c0_5) := (blk_cell BK101.out 5).trans rfl
          have hcz11_6 : w3.cell? ⟨gb101, 6, none⟩ = some (.slice A0_6 l0_6.length c0_6) := (blk_cell BK101.out 6).trans rfl
          have hfz11_0 := blk_frozen BK101.out 0
          have hfz11_1 := blk_frozen BK101.out 1
          have hfz11_2 := blk_frozen BK101.out 2
          have hfz11_3 := blk_frozen BK101.out 3
          have hfz11_4 := blk_frozen BK101.out 4
          have hfz11_5 := blk_frozen BK101.out 5
          have hfz11_6 := blk_frozen BK101.out 6
          go_wp2
          go_meet
          case rel => exact ⟨_, (true), (by first | rfl | (simp; done) | (simp [*]; done)), H', ⟨by first | omega | exact Nat.le_refl _⟩, ⟨by (with_reducible repeat (first | refine blk_drewN ?_ _ | refine blk_drew ?_ | refine blk_alloc ?_ _)); exact BK101.out⟩, ⟨by repeat (first | (with_reducible first | exact HB.out | apply below_alloc | apply pw_below_drewN | apply below_drew1 | refine below_set ?_ GE101.out) | exact HB.out)⟩⟩
        · rw [if_neg c10] at H
          have c10b0 : decide (65535 < a0_2) = false := decide_eq_false c10
          clear c10
          by_cases c12 : a0_3 < 0
          · rw [if_pos c12] at H
            have c12b0 : decide (a0_3 < 0) = true := decide_eq_true c12
            clear c12
            have H' := Aside0.mk H
            clear H
            have hcz13_0 : w3.cell? ⟨gb101, 0, none⟩ = some (.int .i64 a0_0) := (blk_cell BK101.out 0).trans rfl
            have hcz13_1 : w3.cell? ⟨gb101, 1, none⟩ = some (.int .u64 a0_1) := (blk_cell BK101.out 1).trans rfl
            have hcz13_2 : w3.cell? ⟨gb101, 2, none⟩ = some (.int .i64 a0_2) := (blk_cell BK101.out 2).trans rfl
            have hcz13_3 : w3.cell? ⟨gb101, 3, none⟩ = some (.int .i64 a0_3) := (blk_cell BK101.out 3).trans rfl
            have hcz13_4 : w3.cell? ⟨gb101, 4, none⟩ = some (.int .u32 a0_4) := (blk_cell BK101.out 4).trans rfl
            have hcz13_5 : w3.cell? ⟨gb101, 5, none⟩ = some (.slice A0_5 l0_5.length c0_5) := (blk_cell BK101.out 5).trans rfl
            have hcz13_6 : w3.cell? ⟨gb101, 6, none⟩ = some (.slice A0_6 l0_6.length c0_6) := (blk_cell BK101.out 6).trans rfl
            have hfz13_0 := blk_frozen BK101.out 0
            have hfz13_1 := blk_frozen BK101.out 1
            have hfz13_2 := blk_frozen BK101.out 2
            have hfz13_3 := blk_frozen BK101.out 3
            have hfz13_4 := blk_frozen BK101.out 4
            have hfz13_5 := blk_frozen BK101.out 5
            have hfz13_6 := blk_frozen BK101.out 6
            go_wp2
            go_meet
            case rel => exact ⟨_, (true), (by first | rfl | (simp; done) | (simp [*]; done)), H', ⟨by first | omega | exact Nat.le_refl _⟩, ⟨by (with_reducible repeat (first | refine blk_drewN ?_ _ | refine blk_drew ?_ | refine blk_alloc ?_ _)); exact BK101.out⟩, ⟨by repeat (first | (with_reducible first | exact HB.out | apply below_alloc | apply pw_below_drewN | apply below_drew1 | refine below_set ?_ GE101.out) | exact HB.out)⟩⟩
          · rw [if_neg c12] at H
            have c12b0 : decide (a0_3 < 0) = false := decide_eq_false c12
            clear c12
            have H' := Aside0.mk H
            clear H
            have hcz14_0 : w3.cell? ⟨gb101, 0, none⟩ = some (.int .i64 a0_0) := (blk_cell BK101.out 0).trans rfl
            have hcz14_1 : w3.cell? ⟨gb101, 1, none⟩ = some (.int .u64 a0_1) := (blk_cell BK101.out 1).trans rfl
            have hcz14_2 : w3.cell? ⟨gb101, 2, none⟩ = some (.int .i64 a0_2) := (blk_cell BK101.out 2).trans rfl
            have hcz14_3 : w3.cell? ⟨gb101, 3, none⟩ = some (.int .i64 a0_3) := (blk_cell BK101.out 3).trans rfl
            have hcz14_4 : w3.cell? ⟨gb101, 4, none⟩ = some (.int .u32 a0_4) := (blk_cell BK101.out 4).trans rfl
            have hcz14_5 : w3.cell? ⟨gb101, 5, none⟩ = some (.slice A0_5 l0_5.length c0_5) := (blk_cell BK101.out 5).trans rfl
            have hcz14_6 : w3.cell? ⟨gb101, 6, none⟩ = some (.slice A0_6 l0_6.length c0_6) := (blk_cell BK101.out 6).trans rfl
            have hfz14_0 := blk_frozen BK101.out 0
            have hfz14_1 := blk_frozen BK101.out 1
            have hfz14_2 := blk_frozen BK101.out 2
            have hfz14_3 := blk_frozen BK101.out 3
            have hfz14_4 := blk_frozen BK101.out 4
            have hfz14_5 := blk_frozen BK101.out 5
            have hfz14_6 := blk_frozen BK101.out 6
            go_wp2
            go_meet
            case rel => exact ⟨_, (decide (a0_3 > 65535)), (by first | rfl | (simp; done) | (simp [*]; done)), H', ⟨by first | omega | exact Nat.le_refl _⟩, ⟨by (with_reducible repeat (first | refine blk_drewN ?_ _ | refine blk_drew ?_ | refine blk_alloc ?_ _)); exact BK101.out⟩, ⟨by repeat (first | (with_reducible first | exact HB.out | apply below_alloc | apply pw_below_drewN | apply below_drew1 | refine below_set ?_ GE101.out) | exact HB.out)⟩⟩
 case rest =>
  clear HC2
  try clear c1
  try clear p2
  try clear c3
  try clear c4
  try clear c4b0
  try clear c6
  try clear c6b0
  try clear c8
  try clear c8b0
  try clear c10
  try clear c10b0
  try clear c12
  try clear c12b0
  try clear hcz11_0
  try clear hcz11_1
  try clear hcz11_2
  try clear hcz11_3
  try clear hcz11_4
  try clear hcz11_5
  try clear hcz11_6
  try clear hcz13_0
  try clear hcz13_1
  try clear hcz13_2
  try clear hcz13_3
  try clear hcz13_4
  try clear hcz13_5
  try clear hcz13_6
  try clear hcz14_0
  try clear hcz14_1
  try clear hcz14_2
  try clear hcz14_3
  try clear hcz14_4
  try clear hcz14_5
  try clear hcz14_6
  try clear hcz5_0
  try clear hcz5_1
  try clear hcz5_2
  try clear hcz5_3
  try clear hcz5_4
  try clear hcz5_5
  try clear hcz5_6
  try clear hcz7_0
  try clear hcz7_1
  try clear hcz7_2
  try clear hcz7_3
  try clear hcz7_4
  try clear hcz7_5
  try clear hcz7_6
  try clear hcz9_0
  try clear hcz9_1
  try clear hcz9_2
  try clear hcz9_3
  try clear hcz9_4
  try clear hcz9_5
  try clear hcz9_6
  try clear hfz11_0
  try clear hfz11_1
  try clear hfz11_2
  try clear hfz11_3
  try clear hfz11_4
  try clear hfz11_5
  try clear hfz11_6
  try clear hfz13_0
  try clear hfz13_1
  try clear hfz13_2
  try clear hfz13_3
  try clear hfz13_4
  try clear hfz13_5
  try clear hfz13_6
  try clear hfz14_0
  try clear hfz14_1
  try clear hfz14_2
  try clear hfz14_3
  try clear hfz14_4
  try clear hfz14_5
  try clear hfz14_6
  try clear hfz5_0
  try clear hfz5_1
  try clear hfz5_2
  try clear hfz5_3
  try clear hfz5_4
  try clear hfz5_5
  try clear hfz5_6
  try clear hfz7_0
  try clear hfz7_1
  try clear hfz7_2
  try clear hfz7_3
  try clear hfz7_4
  try clear hfz7_5
  try clear hfz7_6
  try clear hfz9_0
  try clear hfz9_1
  try clear hfz9_2
  try clear hfz9_3
  try clear hfz9_4
  try clear hfz9_5
  try clear hfz9_6
  obtain ⟨kq, x31_1, rfl, HA, HJ1, BK101, HB⟩ := hcut
  cases kq with
  | zero => exact absurd HA.out (by simp [scullerref13_Right.j0])
  | succ kj1 =>
    have H := HA.out
    clear HA
    simp only [scullerref13_Right.j0] at H
    by_cases c15 : x31_1 = true
    · subst c15
      have H1 : (some false) = some r := by rw [if_pos rfl] at H; exact H
      clear H
      have H := H1
      clear H1
      obtain rfl := Option.some.inj H
      go_wp2
      go_ret
      exact ⟨by first | rfl | (simp [errW_none, errW_some] <;> rfl) | (simp [*, errW_none, errW_some] <;> rfl), by repeat (first | (with_reducible first | exact HB.out | apply below_alloc | apply pw_below_drewN | apply below_drew1 | refine below_set ?_ GE101.out) | exact HB.out)⟩
    · replace c15 := Bool.eq_false_iff.mpr c15
      subst c15
      have H1 : (if (l0_5.length : Int) > 0 then (if a0_0 = 1 then (if (l0_5.length : Int) > 4 then (scullerref13_Right.j1 kj1 true a0_0 a0_1 a0_2 a0_3 a0_4 l0_5 l0_6) else (if (l0_6.length : Int) > 0 then (if a0_0 < 2 then (scullerref13_Right.j1 kj1 true a0_0 a0_1 a0_2 a0_3 a0_4 l0_5 l0_6) else (if a0_0 > 4 then (scullerref13_Right.j1 kj1 true a0_0 a0_1 a0_2 a0_3 a0_4 l0_5 l0_6) else (scullerref13_Right.j1 kj1 (decide ((l0_6.length : Int) > 64)) a0_0 a0_1 a0_2 a0_3 a0_4 l0_5 l0_6))) else (scullerref13_Right.j1 kj1 (decide ((l0_6.length : Int) > 64)) a0_0 a0_1 a0_2 a0_3 a0_4 l0_5 l0_6))) else (scullerref13_Right.j1 kj1 true a0_0 a0_1 a0_2 a0_3 a0_4 l0_5 l0_6)) else (if (l0_5.length : Int) > 4 then (scullerref13_Right.j1 kj1 true a0_0 a0_1 a0_2 a0_3 a0_4 l0_5 l0_6) else (if (l0_6.length : Int) > 0 then (if a0_0 < 2 then (scullerref13_Right.j1 kj1 true a0_0 a0_1 a0_2 a0_3 a0_4 l0_5 l0_6) else (if a0_0 > 4 then (scullerref13_Right.j1 kj1 true a0_0 a0_1 a0_2 a0_3 a0_4 l0_5 l0_6) else (scullerref13_Right.j1 kj1 (decide ((l0_6.length : Int) > 64)) a0_0 a0_1 a0_2 a0_3 a0_4 l0_5 l0_6))) else (scullerref13_Right.j1 kj1 (decide ((l0_6.length : Int) > 64)) a0_0 a0_1 a0_2 a0_3 a0_4 l0_5 l0_6)))) = some r := by rw [if_neg (show ¬ (false = true) by decide)] at H; exact H
      clear H
      have H := H1
      clear H1
      have HC16 := Aside0.mk H
      clear H
      go_upto_region 3 with (fail)
      go_cut [68] (fun v68 wc => ∃ (kq : Nat) (x68_15 : Bool), v68 = .bool x68_15 ∧ Aside0 (scullerref13_Right.j1 kq x68_15 a0_0 a0_1 a0_2 a0_3 a0_4 l0_5 l0_6 = some r) ∧ Aside0 (kq ≤ kj1) ∧ Aside0 (wc.heap[gb101]? = some (.cells #[.int .i64 a0_0, .int .u64 a0_1, .int .i64 a0_2, .int .i64 a0_3, .int .u32 a0_4, (.slice A0_5 l0_5.length c0_5), (.slice A0_6 l0_6.length c0_6)] 28 (0, 0))) ∧ Aside0 (Below w.heap.size w wc))
      case first =>
       have H := HC16.out
       clear HC16
       by_cases c17 : (l0_5.length : Int) > 0
       · rw [if_pos c17] at H
         have c17b0 : decide (0 < (l0_5.length : Int)) = true := decide_eq_true c17
         have c17b1 : decide (0 < l0_5.length) = true := decide_eq_true (by omega)
         clear c17
         (first | rw [c17b0] | (simp only [i64_w, i32_w]; rw [c17b0]) | skip)
         by_cases c18 : a0_0 = 1
         · rw [if_pos c18] at H
           have c18b0 : (a0_0 == 1) = true := beq_iff_eq.mpr c18
           have c18b1 : (a0_0 != 1) = false := bne_eq_false_iff_eq.mpr c18
           clear c18
           by_cases c19 : (l0_5.length : Int) > 4
           · rw [if_pos c19] at H
             have c19b0 : decide (4 < (l0_5.length : Int)) = true := decide_eq_true c19
             have c19b1 : decide (4 < l0_5.length) = true := decide_eq_true (by omega)
             clear c19
             have H' := Aside0.mk H
             clear H
             have hcz20_0 : wc.cell? ⟨gb101, 0, none⟩ = some (.int .i64 a0_0) := (blk_cell BK101.out 0).trans rfl
             have hcz20_1 : wc.cell? ⟨gb101, 1, none⟩ = some (.int .u64 a0_1) := (blk_cell BK101.out 1).trans rfl
             have hcz20_2 : wc.cell? ⟨gb101, 2, none⟩ = some (.int .i64 a0_2) := (blk_cell BK101.out 2).trans rfl
             have hcz20_3 : wc.cell? ⟨gb101, 3, none⟩ = some (.int .i64 a0_3) := (blk_cell BK101.out 3).trans rfl
             have hcz20_4 : wc.cell? ⟨gb101, 4, none⟩ = some (.int .u32 a0_4) := (blk_cell BK101.out 4).trans rfl
             have hcz20_5 : wc.cell? ⟨gb101, 5, none⟩ = some (.slice A0_5 l0_5.length c0_5) := (blk_cell BK101.out 5).trans rfl
             have hcz20_6 : wc.cell? ⟨gb101, 6, none⟩ = some (.slice A0_6 l0_6.length c0_6) := (blk_cell BK101.out 6).trans rfl
             have hfz20_0 := blk_frozen BK101.out 0
             have hfz20_1 := blk_frozen BK101.out 1
             have hfz20_2 := blk_frozen BK101.out 2
             have hfz20_3 := blk_frozen BK101.out 3
             have hfz20_4 := blk_frozen BK101.out 4
             have hfz20_5 := blk_frozen BK101.out 5
             have hfz20_6 := blk_frozen BK101.out 6
             go_wp2
             go_meet
             case rel => exact ⟨_, (true), (by first | rfl | (simp; done) | (simp [*]; done)), H', ⟨by have := HJ1.out; first | omega | exact Nat.le_refl _⟩, ⟨by (with_reducible repeat (first | refine blk_drewN ?_ _ | refine blk_drew ?_ | refine blk_alloc ?_ _)); exact BK101.out⟩, ⟨by repeat (first | (with_reducible first | exact HB.out | apply below_alloc | apply pw_below_drewN | apply below_drew1 | refine below_set ?_ GE101.out) | exact HB.out)⟩⟩
           · rw [if_neg c19] at H
             have c19b0 : decide (4 < (l0_5.length : Int)) = false := decide_eq_false c19
             have c19b1 : decide (4 < l0_5.length) = false := decide_eq_false (by omega)
             clear c19
             by_cases c21 : (l0_6.length : Int) > 0
             · rw [if_pos c21] at H
               have c21b0 : decide (0 < (l0_6.length : Int)) = true := decide_eq_true c21
               have c21b1 : decide (0 < l0_6.length) = true := decide_eq_true (by omega)
               clear c21
               by_cases c22 : a0_0 < 2
               · rw [if_pos c22] at H
                 have c22b0 : decide (a0_0 < 2) = true := decide_eq_true c22
                 clear c22
                 have H' := Aside0.mk H
                 clear H
                 have hcz23_0 : wc.cell? ⟨gb101, 0, none⟩ = some (.int .i64 a0_0) := (blk_cell BK101.out 0).trans rfl
                 have hcz23_1 : wc.cell? ⟨gb101, 1, none⟩ = some (.int .u64 a0_1) := (blk_cell BK101.out 1).trans rfl
                 have hcz23_2 : wc.cell? ⟨gb101, 2, none⟩ = some (.int .i64 a0_2) := (blk_cell BK101.out 2).trans rfl
                 have hcz23_3 : wc.cell? ⟨gb101, 3, none⟩ = some (.int .i64 a0_3) := (blk_cell BK101.out 3).trans rfl
                 have hcz23_4 : wc.cell? ⟨gb101, 4, none⟩ = some (.int .u32 a0_4) := (blk_cell BK101.out 4).trans rfl
                 have hcz23_5 : wc.cell? ⟨gb101, 5, none⟩ = some (.slice A0_5 l0_5.length c0_5) := (blk_cell BK101.out 5).trans rfl
                 have hcz23_6 : wc.cell? ⟨gb101, 6, none⟩ = some (.slice A0_6 l0_6.length c0_6) := (blk_cell BK101.out 6).trans rfl
                 have hfz23_0 := blk_frozen BK101.out 0
                 have hfz23_1 := blk_frozen BK101.out 1
                 have hfz23_2 := blk_frozen BK101.out 2
                 have hfz23_3 := blk_frozen BK101.out 3
                 have hfz23_4 := blk_frozen BK101.out 4
                 have hfz23_5 := blk_frozen BK101.out 5
                 have hfz23_6 := blk_frozen BK101.out 6
                 go_wp2
                 go_meet
                 case rel => exact ⟨_, (true), (by first | rfl | (simp; done) | (simp [*]; done)), H', ⟨by have := HJ1.out; first | omega | exact Nat.le_refl _⟩, ⟨by (with_reducible repeat (first | refine blk_drewN ?_ _ | refine blk_drew ?_ | refine blk_alloc ?_ _)); exact BK101.out⟩, ⟨by repeat (first | (with_reducible first | exact HB.out | apply below_alloc | apply pw_below_drewN | apply below_drew1 | refine below_set ?_ GE101.out) | exact HB.out)⟩⟩
               · rw [if_neg c22] at H
                 have c22b0 : decide (a0_0 < 2) = false := decide_eq_false c22
                 clear c22
                 by_cases c24 : a0_0 > 4
                 · rw [if_pos c24] at H
                   have c24b0 : decide (4 < a0_0) = true := decide_eq_true c24
                   clear c24
                   have H' := Aside0.mk H
                   clear H
                   have hcz25_0 : wc.cell? ⟨gb101, 0, none⟩ = some (.int .i64 a0_0) := (blk_cell BK101.out 0).trans rfl
                   have hcz25_1 : wc.cell? ⟨gb101, 1, none⟩ = some (.int .u64 a0_1) := (blk_cell BK101.out 1).trans rfl
                   have hcz25_2 : wc.cell? ⟨gb101, 2, none⟩ = some (.int .i64 a0_2) := (blk_cell BK101.out 2).trans rfl
                   have hcz25_3 : wc.cell? ⟨gb101, 3, none⟩ = some (.int .i64 a0_3) := (blk_cell BK101.out 3).trans rfl
                   have hcz25_4 : wc.cell? ⟨gb101, 4, none⟩ = some (.int .u32 a0_4) := (blk_cell BK101.out 4).trans rfl
                   have hcz25_5 : wc.cell? ⟨gb101, 5, none⟩ = some (.slice A0_5 l0_5.length c0_5) := (blk_cell BK101.out 5).trans rfl
                   have hcz25_6 : wc.cell? ⟨gb101, 6, none⟩ = some (.slice A0_6 l0_6.length c0_6) := (blk_cell BK101.out 6).trans rfl
                   have hfz25_0 := blk_frozen BK101.out 0
                   have hfz25_1 := blk_frozen BK101.out 1
                   have hfz25_2 := blk_frozen BK101.out 2
                   have hfz25_3 := blk_frozen BK101.out 3
                   have hfz25_4 := blk_frozen BK101.out 4
                   have hfz25_5 := blk_frozen BK101.out 5
                   have hfz25_6 := blk_frozen BK101.out 6
                   go_wp2
                   go_meet
                   case rel => exact ⟨_, (true), (by first | rfl | (simp; done) | (simp [*]; done)), H', ⟨by have := HJ1.out; first | omega | exact Nat.le_refl _⟩, ⟨by (with_reducible repeat (first | refine blk_drewN ?_ _ | refine blk_drew ?_ | refine blk_alloc ?_ _)); exact BK101.out⟩, ⟨by repeat (first | (with_reducible first | exact HB.out | apply below_alloc | apply pw_below_drewN | apply below_drew1 | refine below_set ?_ GE101.out) | exact HB.out)⟩⟩
                 · rw [if_neg c24] at H
                   have c24b0 : decide (4 < a0_0) = false := decide_eq_false c24
                   clear c24
                   have H' := Aside0.mk H
                   clear H
                   have hcz26_0 : wc.cell? ⟨gb101, 0, none⟩ = some (.int .i64 a0_0) := (blk_cell BK101.out 0).trans rfl
                   have hcz26_1 : wc.cell? ⟨gb101, 1, none⟩ = some (.int .u64 a0_1) := (blk_cell BK101.out 1).trans rfl
                   have hcz26_2 : wc.cell? ⟨gb101, 2, none⟩ = some (.int .i64 a0_2) := (blk_cell BK101.out 2).trans rfl
                   have hcz26_3 : wc.cell? ⟨gb101, 3, none⟩ = some (.int .i64 a0_3) := (blk_cell BK101.out 3).trans rfl
                   have hcz26_4 : wc.cell? ⟨gb101, 4, none⟩ = some (.int .u32 a0_4) := (blk_cell BK101.out 4).trans rfl
                   have hcz26_5 : wc.cell? ⟨gb101, 5, none⟩ = some (.slice A0_5 l0_5.length c0_5) := (blk_cell BK101.out 5).trans rfl
                   have hcz26_6 : wc.cell? ⟨gb101, 6, none⟩ = some (.slice A0_6 l0_6.length c0_6) := (blk_cell BK101.out 6).trans rfl
                   have hfz26_0 := blk_frozen BK101.out 0
                   have hfz26_1 := blk_frozen BK101.out 1
                   have hfz26_2 := blk_frozen BK101.out 2
                   have hfz26_3 := blk_frozen BK101.out 3
                   have hfz26_4 := blk_frozen BK101.out 4
                   have hfz26_5 := blk_frozen BK101.out 5
                   have hfz26_6 := blk_frozen BK101.out 6
                   go_wp2
                   go_meet
                   case rel => exact ⟨_, (decide ((l0_6.length : Int) > 64)), (by first | rfl | (simp; done) | (simp [*]; done)), H', ⟨by have := HJ1.out; first | omega | exact Nat.le_refl _⟩, ⟨by (with_reducible repeat (first | refine blk_drewN ?_ _ | refine blk_drew ?_ | refine blk_alloc ?_ _)); exact BK101.out⟩, ⟨by repeat (first | (with_reducible first | exact HB.out | apply below_alloc | apply pw_below_drewN | apply below_drew1 | refine below_set ?_ GE101.out) | exact HB.out)⟩⟩
             · rw [if_neg c21] at H
               have c21b0 : decide (0 < (l0_6.length : Int)) = false := decide_eq_false c21
               have c21b1 : decide (0 < l0_6.length) = false := decide_eq_false (by omega)
               clear c21
               have H' := Aside0.mk H
               clear H
               have hcz27_0 : wc.cell? ⟨gb101, 0, none⟩ = some (.int .i64 a0_0) := (blk_cell BK101.out 0).trans rfl
               have hcz27_1 : wc.cell? ⟨gb101, 1, none⟩ = some (.int .u64 a0_1) := (blk_cell BK101.out 1).trans rfl
               have hcz27_2 : wc.cell? ⟨gb101, 2, none⟩ = some (.int .i64 a0_2) := (blk_cell BK101.out 2).trans rfl
               have hcz27_3 : wc.cell? ⟨gb101, 3, none⟩ = some (.int .i64 a0_3) := (blk_cell BK101.out 3).trans rfl
               have hcz27_4 : wc.cell? ⟨gb101, 4, none⟩ = some (.int .u32 a0_4) := (blk_cell BK101.out 4).trans rfl
               have hcz27_5 : wc.cell? ⟨gb101, 5, none⟩ = some (.slice A0_5 l0_5.length c0_5) := (blk_cell BK101.out 5).trans rfl
               have hcz27_6 : wc.cell? ⟨gb101, 6, none⟩ = some (.slice A0_6 l0_6.length c0_6) := (blk_cell BK101.out 6).trans rfl
               have hfz27_0 := blk_frozen BK101.out 0
               have hfz27_1 := blk_frozen BK101.out 1
               have hfz27_2 := blk_frozen BK101.out 2
               have hfz27_3 := blk_frozen BK101.out 3
               have hfz27_4 := blk_frozen BK101.out 4
               have hfz27_5 := blk_frozen BK101.out 5
               have hfz27_6 := blk_frozen BK101.out 6
               go_wp2
               go_meet
               case rel => exact ⟨_, (decide ((l0_6.length : Int) > 64)), (by first | rfl | (simp; done) | (simp [*]; done)), H', ⟨by have := HJ1.out; first | omega | exact Nat.le_refl _⟩, ⟨by (with_reducible repeat (first | refine blk_drewN ?_ _ | refine blk_drew ?_ | refine blk_alloc ?_ _)); exact BK101.out⟩, ⟨by repeat (first | (with_reducible first | exact HB.out | apply below_alloc | apply pw_below_drewN | apply below_drew1 | refine below_set ?_ GE101.out) | exact HB.out)⟩⟩
         · rw [if_neg c18] at H
           have c18b0 : (a0_0 == 1) = false := beq_eq_false_iff_ne.mpr c18
           have c18b1 : (a0_0 != 1) = true := bne_iff_ne.mpr c18
           have H' := Aside0.mk H
           clear H
           have hcz28_0 : wc.cell? ⟨gb101, 0, none⟩ = some (.int .i64 a0_0) := (blk_cell BK101.out 0).trans rfl
           have hcz28_1 : wc.cell? ⟨gb101, 1, none⟩ = some (.int .u64 a0_1) := (blk_cell BK101.out 1).trans rfl
           have hcz28_2 : wc.cell? ⟨gb101, 2, none⟩ = some (.int .i64 a0_2) := (blk_cell BK101.out 2).trans rfl
           have hcz28_3 : wc.cell? ⟨gb101, 3, none⟩ = some (.int .i64 a0_3) := (blk_cell BK101.out 3).trans rfl
           have hcz28_4 : wc.cell? ⟨gb101, 4, none⟩ = some (.int .u32 a0_4) := (blk_cell BK101.out 4).trans rfl
           have hcz28_5 : wc.cell? ⟨gb101, 5, none⟩ = some (.slice A0_5 l0_5.length c0_5) := (blk_cell BK101.out 5).trans rfl
           have hcz28_6 : wc.cell? ⟨gb101, 6, none⟩ = some (.slice A0_6 l0_6.length c0_6) := (blk_cell BK101.out 6).trans rfl
           have hfz28_0 := blk_frozen BK101.out 0
           have hfz28_1 := blk_frozen BK101.out 1
           have hfz28_2 := blk_frozen BK101.out 2
           have hfz28_3 := blk_frozen BK101.out 3
           have hfz28_4 := blk_frozen BK101.out 4
           have hfz28_5 := blk_frozen BK101.out 5
           have hfz28_6 := blk_frozen BK101.out 6
           go_wp2
           go_meet
           case rel => exact ⟨_, (true), (by first | rfl | (simp; done) | (simp [*]; done)), H', ⟨by have := HJ1.out; first | omega | exact Nat.le_refl _⟩, ⟨by (with_reducible repeat (first | refine blk_drewN ?_ _ | refine blk_drew ?_ | refine blk_alloc ?_ _)); exact BK101.out⟩, ⟨by repeat (first | (with_reducible first | exact HB.out | apply below_alloc | apply pw_below_drewN | apply below_drew1 | refine below_set ?_ GE101.out) | exact HB.out)⟩⟩
       · rw [if_neg c17] at H
         have c17b0 : decide (0 < (l0_5.length : Int)) = false := decide_eq_false c17
         have c17b1 : decide (0 < l0_5.length) = false := decide_eq_false (by omega)
         clear c17
         (first | rw [c17b0] | (simp only [i64_w, i32_w]; rw [c17b0]) | skip)
         by_cases c29 : (l0_5.length : Int) > 4
         · rw [if_pos c29] at H
           have c29b0 : decide (4 < (l0_5.length : Int)) = true := decide_eq_true c29
           have c29b1 : decide (4 < l0_5.length) = true := decide_eq_true (by omega)
           clear c29
           have H' := Aside0.mk H
           clear H
           have hcz30_0 : wc.cell? ⟨gb101, 0, none⟩ = some (.int .i64 a0_0) := (blk_cell BK101.out 0).trans rfl
           have hcz30_1 : wc.cell? ⟨gb101, 1, none⟩ = some (.int .u64 a0_1) := (blk_cell BK101.out 1).trans rfl
           have hcz30_2 : wc.cell? ⟨gb101, 2, none⟩ = some (.int .i64 a0_2) := (blk_cell BK101.out 2).trans rfl
           have hcz30_3 : wc.cell? ⟨gb101, 3, none⟩ = some (.int .i64 a0_3) := (blk_cell BK101.out 3).trans rfl
           have hcz30_4 : wc.cell? ⟨gb101, 4, none⟩ = some (.int .u32 a0_4) := (blk_cell BK101.out 4).trans rfl
           have hcz30_5 : wc.cell? ⟨gb101, 5, none⟩ = some (.slice A0_5 l0_5.length c0_5) := (blk_cell BK101.out 5).trans rfl
           have hcz30_6 : wc.cell? ⟨gb101, 6, none⟩ = some (.slice A0_6 l0_6.length c0_6) := (blk_cell BK101.out 6).trans rfl
           have hfz30_0 := blk_frozen BK101.out 0
           have hfz30_1 := blk_frozen BK101.out 1
           have hfz30_2 := blk_frozen BK101.out 2
           have hfz30_3 := blk_frozen BK101.out 3
           have hfz30_4 := blk_frozen BK101.out 4
           have hfz30_5 := blk_frozen BK101.out 5
           have hfz30_6 := blk_frozen BK101.out 6
           go_wp2
           go_meet
           case rel => exact ⟨_, (true), (by first | rfl | (simp; done) | (simp [*]; done)), H', ⟨by have := HJ1.out; first | omega | exact Nat.le_refl _⟩, ⟨by (with_reducible repeat (first | refine blk_drewN ?_ _ | refine blk_drew ?_ | refine blk_alloc ?_ _)); exact BK101.out⟩, ⟨by repeat (first | (with_reducible first | exact HB.out | apply below_alloc | apply pw_below_drewN | apply below_drew1 | refine below_set ?_ GE101.out) | exact HB.out)⟩⟩
         · rw [if_neg c29] at H
           have c29b0 : decide (4 < (l0_5.length : Int)) = false := decide_eq_false c29
           have c29b1 : decide (4 < l0_5.length) = false := decide_eq_false (by omega)
           clear c29
           by_cases c31 : (l0_6.length : Int) > 0
           · rw [if_pos c31] at H
             have c31b0 : decide (0 < (l0_6.length : Int)) = true := decide_eq_true c31
             have c31b1 : decide (0 < l0_6.length) = true := decide_eq_true (by omega)
             clear c31
             by_cases c32 : a0_0 < 2
             · rw [if_pos c32] at H
               have c32b0 : decide (a0_0 < 2) = true := decide_eq_true c32
               clear c32
               have H' := Aside0.mk H
               clear H
               have hcz33_0 : wc.cell? ⟨gb101, 0, none⟩ = some (.int .i64 a0_0) := (blk_cell BK101.out 0).trans rfl
               have hcz33_1 : wc.cell? ⟨gb101, 1, none⟩ = some (.int .u64 a0_1) := (blk_cell BK101.out 1).trans rfl
               have hcz33_2 : wc.cell? ⟨gb101, 2, none⟩ = some (.int .i64 a0_2) := (blk_cell BK101.out 2).trans rfl
               have hcz33_3 : wc.cell? ⟨gb101, 3, none⟩ = some (.int .i64 a0_3) := (blk_cell BK101.out 3).trans rfl
               have hcz33_4 : wc.cell? ⟨gb101, 4, none⟩ = some (.int .u32 a0_4) := (blk_cell BK101.out 4).trans rfl
               have hcz33_5 : wc.cell? ⟨gb101, 5, none⟩ = some (.slice A0_5 l0_5.length c0_5) := (blk_cell BK101.out 5).trans rfl
               have hcz33_6 : wc.cell? ⟨gb101, 6, none⟩ = some (.slice A0_6 l0_6.length c0_6) := (blk_cell BK101.out 6).trans rfl
               have hfz33_0 := blk_frozen BK101.out 0
               have hfz33_1 := blk_frozen BK101.out 1
               have hfz33_2 := blk_frozen BK101.out 2
               have hfz33_3 := blk_frozen BK101.out 3
               have hfz33_4 := blk_frozen BK101.out 4
               have hfz33_5 := blk_frozen BK101.out 5
               have hfz33_6 := blk_frozen BK101.out 6
               go_wp2
               go_meet
               case rel => exact ⟨_, (true), (by first | rfl | (simp; done) | (simp [*]; done)), H', ⟨by have := HJ1.out; first | omega | exact Nat.le_refl _⟩, ⟨by (with_reducible repeat (first | refine blk_drewN ?_ _ | refine blk_drew ?_ | refine blk_alloc ?_ _)); exact BK101.out⟩, ⟨by repeat (first | (with_reducible first | exact HB.out | apply below_alloc | apply pw_below_drewN | apply below_drew1 | refine below_set ?_ GE101.out) | exact HB.out)⟩⟩
             · rw [if_neg c32] at H
               have c32b0 : decide (a0_0 < 2) = false := decide_eq_false c32
               clear c32
               by_cases c34 : a0_0 > 4
               · rw [if_pos c34] at H
                 have c34b0 : decide (4 < a0_0) = true := decide_eq_true c34
                 clear c34
                 have H' := Aside0.mk H
                 clear H
                 have hcz35_0 : wc.cell? ⟨gb101, 0, none⟩ = some (.int .i64 a0_0) := (blk_cell BK101.out 0).trans rfl
                 have hcz35_1 : wc.cell? ⟨gb101, 1, none⟩ = some (.int .u64 a0_1) := (blk_cell BK101.out 1).trans rfl
                 have hcz35_2 : wc.cell? ⟨gb101, 2, none⟩ = some (.int .i64 a0_2) := (blk_cell BK101.out 2).trans rfl
                 have hcz35_3 : wc.cell? ⟨gb101, 3, none⟩ = some (.int .i64 a0_3) := (blk_cell BK101.out 3).trans rfl
                 have hcz35_4 : wc.cell? ⟨gb101, 4, none⟩ = some (.int .u32 a0_4) := (blk_cell BK101.out 4).trans rfl
                 have hcz35_5 : wc.cell? ⟨gb101, 5, none⟩ = some (.slice A0_5 l0_5.length c0_5) := (blk_cell BK101.out 5).trans rfl
                 have hcz35_6 : wc.cell? ⟨gb101, 6, none⟩ = some (.slice A0_6 l0_6.length c0_6) := (blk_cell BK101.out 6).trans rfl
                 have hfz35_0 := blk_frozen BK101.out 0
                 have hfz35_1 := blk_frozen BK101.out 1
                 have hfz35_2 := blk_frozen BK101.out 2
                 have hfz35_3 := blk_frozen BK101.out 3
                 have hfz35_4 := blk_frozen BK101.out 4
                 have hfz35_5 := blk_frozen BK101.out 5
                 have hfz35_6 := blk_frozen BK101.out 6
                 go_wp2
                 go_meet
                 case rel => exact ⟨_, (true), (by first | rfl | (simp; done) | (simp [*]; done)), H', ⟨by have := HJ1.out; first | omega | exact Nat.le_refl _⟩, ⟨by (with_reducible repeat (first | refine blk_drewN ?_ _ | refine blk_drew ?_ | refine blk_alloc ?_ _)); exact BK101.out⟩, ⟨by repeat (first | (with_reducible first | exact HB.out | apply below_alloc | apply pw_below_drewN | apply below_drew1 | refine below_set ?_ GE101.out) | exact HB.out)⟩⟩
               · rw [if_neg c34] at H
                 have c34b0 : decide (4 < a0_0) = false := decide_eq_false c34
                 clear c34
                 have H' := Aside0.mk H
                 clear H
                 have hcz36_0 : wc.cell? ⟨gb101, 0, none⟩ = some (.int .i64 a0_0) := (blk_cell BK101.out 0).trans rfl
                 have hcz36_1 : wc.cell? ⟨gb101, 1, none⟩ = some (.int .u64 a0_1) := (blk_cell BK101.out 1).trans rfl
                 have hcz36_2 : wc.cell? ⟨gb101, 2, none⟩ = some (.int .i64 a0_2) := (blk_cell BK101.out 2).trans rfl
                 have hcz36_3 : wc.cell? ⟨gb101, 3, none⟩ = some (.int .i64 a0_3) := (blk_cell BK101.out 3).trans rfl
                 have hcz36_4 : wc.cell? ⟨gb101, 4, none⟩ = some (.int .u32 a0_4) := (blk_cell BK101.out 4).trans rfl
                 have hcz36_5 : wc.cell? ⟨gb101, 5, none⟩ = some (.slice A0_5 l0_5.length c0_5) := (blk_cell BK101.out 5).trans rfl
                 have hcz36_6 : wc.cell? ⟨gb101, 6, none⟩ = some (.slice A0_6 l0_6.length c0_6) := (blk_cell BK101.out 6).trans rfl
                 have hfz36_0 := blk_frozen BK101.out 0
                 have hfz36_1 := blk_frozen BK101.out 1
                 have hfz36_2 := blk_frozen BK101.out 2
                 have hfz36_3 := blk_frozen BK101.out 3
                 have hfz36_4 := blk_frozen BK101.out 4
                 have hfz36_5 := blk_frozen BK101.out 5
                 have hfz36_6 := blk_frozen BK101.out 6
                 go_wp2
                 go_meet
                 case rel => exact ⟨_, (decide ((l0_6.length : Int) > 64)), (by first | rfl | (simp; done) | (simp [*]; done)), H', ⟨by have := HJ1.out; first | omega | exact Nat.le_refl _⟩, ⟨by (with_reducible repeat (first | refine blk_drewN ?_ _ | refine blk_drew ?_ | refine blk_alloc ?_ _)); exact BK101.out⟩, ⟨by repeat (first | (with_reducible first | exact HB.out | apply below_alloc | apply pw_below_drewN | apply below_drew1 | refine below_set ?_ GE101.out) | exact HB.out)⟩⟩
           · rw [if_neg c31] at H
             have c31b0 : decide (0 < (l0_6.length : Int)) = false := decide_eq_false c31
             have c31b1 : decide (0 < l0_6.length) = false := decide_eq_false (by omega)
             clear c31
             have H' := Aside0.mk H
             clear H
             have hcz37_0 : wc.cell? ⟨gb101, 0, none⟩ = some (.int .i64 a0_0) := (blk_cell BK101.out 0).trans rfl
             have hcz37_1 : wc.cell? ⟨gb101, 1, none⟩ = some (.int .u64 a0_1) := (blk_cell BK101.out 1).trans rfl
             have hcz37_2 : wc.cell? ⟨gb101, 2, none⟩ = some (.int .i64 a0_2) := (blk_cell BK101.out 2).trans rfl
             have hcz37_3 : wc.cell? ⟨gb101, 3, none⟩ = some (.int .i64 a0_3) := (blk_cell BK101.out 3).trans rfl
             have hcz37_4 : wc.cell? ⟨gb101, 4, none⟩ = some (.int .u32 a0_4) := (blk_cell BK101.out 4).trans rfl
             have hcz37_5 : wc.cell? ⟨gb101, 5, none⟩ = some (.slice A0_5 l0_5.length c0_5) := (blk_cell BK101.out 5).trans rfl
             have hcz37_6 : wc.cell? ⟨gb101, 6, none⟩ = some (.slice A0_6 l0_6.length c0_6) := (blk_cell BK101.out 6).trans rfl
             have hfz37_0 := blk_frozen BK101.out 0
             have hfz37_1 := blk_frozen BK101.out 1
             have hfz37_2 := blk_frozen BK101.out 2
             have hfz37_3 := blk_frozen BK101.out 3
             have hfz37_4 := blk_frozen BK101.out 4
             have hfz37_5 := blk_frozen BK101.out 5
             have hfz37_6 := blk_frozen BK101.out 6
             go_wp2
             go_meet
             case rel => exact ⟨_, (decide ((l0_6.length : Int) > 64)), (by first | rfl | (simp; done) | (simp [*]; done)), H', ⟨by have := HJ1.out; first | omega | exact Nat.le_refl _⟩, ⟨by (with_reducible repeat (first | refine blk_drewN ?_ _ | refine blk_drew ?_ | refine blk_alloc ?_ _)); exact BK101.out⟩, ⟨by repeat (first | (with_reducible first | exact HB.out | apply below_alloc | apply pw_below_drewN | apply below_drew1 | refine below_set ?_ GE101.out) | exact HB.out)⟩⟩
      case rest =>
       clear HC16
       try clear c1
       try clear c2
       try clear p2
       try clear c3
       try clear c4
       try clear c4b0
       try clear c6
       try clear c6b0
       try clear c8
       try clear c8b0
       try clear c10
       try clear c10b0
       try clear c12
       try clear c12b0
       try clear c15
       try clear c17
       try clear c17b0
       try clear c17b1
       try clear c18
       try clear c18b0
       try clear c18b1
       try clear c19
       try clear c19b0
       try clear c19b1
       try clear c21
       try clear c21b0
       try clear c21b1
       try clear c22
       try clear c22b0
       try clear c24
       try clear c24b0
       try clear c29
       try clear c29b0
       try clear c29b1
       try clear c31
       try clear c31b0
       try clear c31b1
       try clear c32
       try clear c32b0
       try clear c34
       try clear c34b0
       try clear hcz11_0
       try clear hcz11_1
       try clear hcz11_2
       try clear hcz11_3
       try clear hcz11_4
       try clear hcz11_5
       try clear hcz11_6
       try clear hcz13_0
       try clear hcz13_1
       try clear hcz13_2
       try clear hcz13_3
       try clear hcz13_4
       try clear hcz13_5
       try clear hcz13_6
       try clear hcz14_0
       try clear hcz14_1
       try clear hcz14_2
       try clear hcz14_3
       try clear hcz14_4
       try clear hcz14_5
       try clear hcz14_6
       try clear hcz20_0
       try clear hcz20_1
       try clear hcz20_2
       try clear hcz20_3
       try clear hcz20_4
       try clear hcz20_5
       try clear hcz20_6
       try clear hcz23_0
       try clear hcz23_1
       try clear hcz23_2
       try clear hcz23_3
       try clear hcz23_4
       try clear hcz23_5
       try clear hcz23_6
       try clear hcz25_0
       try clear hcz25_1
       try clear hcz25_2
       try clear hcz25_3
       try clear hcz25_4
       try clear hcz25_5
       try clear hcz25_6
       try clear hcz26_0
       try clear hcz26_1
       try clear hcz26_2
       try clear hcz26_3
       try clear hcz26_4
       try clear hcz26_5
       try clear hcz26_6
       try clear hcz27_0
       try clear hcz27_1
       try clear hcz27_2
       try clear hcz27_3
       try clear hcz27_4
       try clear hcz27_5
       try clear hcz27_6
       try clear hcz28_0
       try clear hcz28_1
       try clear hcz28_2
       try clear hcz28_3
       try clear hcz28_4
       try clear hcz28_5
       try clear hcz28_6
       try clear hcz30_0
       try clear hcz30_1
       try clear hcz30_2
       try clear hcz30_3
       try clear hcz30_4
       try clear hcz30_5
       try clear hcz30_6
       try clear hcz33_0
       try clear hcz33_1
       try clear hcz33_2
       try clear hcz33_3
       try clear hcz33_4
       try clear hcz33_5
       try clear hcz33_6
       try clear hcz35_0
       try clear hcz35_1
       try clear hcz35_2
       try clear hcz35_3
       try clear hcz35_4
       try clear hcz35_5
       try clear hcz35_6
       try clear hcz36_0
       try clear hcz36_1
       try clear hcz36_2
       try clear hcz36_3
       try clear hcz36_4
       try clear hcz36_5
       try clear hcz36_6
       try clear hcz37_0
       try clear hcz37_1
       try clear hcz37_2
       try clear hcz37_3
       try clear hcz37_4
       try clear hcz37_5
       try clear hcz37_6
       try clear hcz5_0
       try clear hcz5_1
       try clear hcz5_2
       try clear hcz5_3
       try clear hcz5_4
       try clear hcz5_5
       try clear hcz5_6
       try clear hcz7_0
       try clear hcz7_1
       try clear hcz7_2
       try clear hcz7_3
       try clear hcz7_4
       try clear hcz7_5
       try clear hcz7_6
       try clear hcz9_0
       try clear hcz9_1
       try clear hcz9_2
       try clear hcz9_3
       try clear hcz9_4
       try clear hcz9_5
       try clear hcz9_6
       try clear hfz11_0
       try clear hfz11_1
       try clear hfz11_2
       try clear hfz11_3
       try clear hfz11_4
       try clear hfz11_5
       try clear hfz11_6
       try clear hfz13_0
       try clear hfz13_1
       try clear hfz13_2
       try clear hfz13_3
       try clear hfz13_4
       try clear hfz13_5
       try clear hfz13_6
       try clear hfz14_0
       try clear hfz14_1
       try clear hfz14_2
       try clear hfz14_3
       try clear hfz14_4
       try clear hfz14_5
       try clear hfz14_6
       try clear hfz20_0
       try clear hfz20_1
       try clear hfz20_2
       try clear hfz20_3
       try clear hfz20_4
       try clear hfz20_5
       try clear hfz20_6
       try clear hfz23_0
       try clear hfz23_1
       try clear hfz23_2
       try clear hfz23_3
       try clear hfz23_4
       try clear hfz23_5
       try clear hfz23_6
       try clear hfz25_0
       try clear hfz25_1
       try clear hfz25_2
       try clear hfz25_3
       try clear hfz25_4
       try clear hfz25_5
       try clear hfz25_6
       try clear hfz26_0
       try clear hfz26_1
       try clear hfz26_2
       try clear hfz26_3
       try clear hfz26_4
       try clear hfz26_5
       try clear hfz26_6
       try clear hfz27_0
       try clear hfz27_1
       try clear hfz27_2
       try clear hfz27_3
       try clear hfz27_4
       try clear hfz27_5
       try clear hfz27_6
       try clear hfz28_0
       try clear hfz28_1
       try clear hfz28_2
       try clear hfz28_3
       try clear hfz28_4
       try clear hfz28_5
       try clear hfz28_6
       try clear hfz30_0
       try clear hfz30_1
       try clear hfz30_2
       try clear hfz30_3
       try clear hfz30_4
       try clear hfz30_5
       try clear hfz30_6
       try clear hfz33_0
       try clear hfz33_1
       try clear hfz33_2
       try clear hfz33_3
       try clear hfz33_4
       try clear hfz33_5
       try clear hfz33_6
       try clear hfz35_0
       try clear hfz35_1
       try clear hfz35_2
       try clear hfz35_3
       try clear hfz35_4
       try clear hfz35_5
       try clear hfz35_6
       try clear hfz36_0
       try clear hfz36_1
       try clear hfz36_2
       try clear hfz36_3
       try clear hfz36_4
       try clear hfz36_5
       try clear hfz36_6
       try clear hfz37_0
       try clear hfz37_1
       try clear hfz37_2
       try clear hfz37_3
       try clear hfz37_4
       try clear hfz37_5
       try clear hfz37_6
       try clear hfz5_0
       try clear hfz5_1
       try clear hfz5_2
       try clear hfz5_3
       try clear hfz5_4
       try clear hfz5_5
       try clear hfz5_6
       try clear hfz7_0
       try clear hfz7_1
       try clear hfz7_2
       try clear hfz7_3
       try clear hfz7_4
       try clear hfz7_5
       try clear hfz7_6
       try clear hfz9_0
       try clear hfz9_1
       try clear hfz9_2
       try clear hfz9_3
       try clear hfz9_4
       try clear hfz9_5
       try clear hfz9_6
       try clear p2
       obtain ⟨kq, x68_15, rfl, HA, HJ15, BK101, HB⟩ := hcut
       cases kq with
       | zero => exact absurd HA.out (by simp [scullerref13_Right.j1])
       | succ kj15 =>
         have H := HA.out
         clear HA
         simp only [scullerref13_Right.j1] at H
         by_cases c38 : x68_15 = true
         · subst c38
           have H1 : (some false) = some r := by rw [if_pos rfl] at H; exact H
           clear H
           have H := H1
           clear H1
           obtain rfl := Option.some.inj H
           go_wp2
           go_ret
           exact ⟨by first | rfl | (simp [errW_none, errW_some] <;> rfl) | (simp [*, errW_none, errW_some] <;> rfl), by repeat (first | (with_reducible first | exact HB.out | apply below_alloc | apply pw_below_drewN | apply below_drew1 | refine below_set ?_ GE101.out) | exact HB.out)⟩
         · replace c38 := Bool.eq_false_iff.mpr c38
           subst c38
           have H1 : (scullerref13_Right.l0 kj15 0 a0_0 a0_1 a0_2 a0_3 a0_4 l0_5 l0_6) = some r := by rw [if_neg (show ¬ (false = true) by decide)] at H; exact H
           clear H
           have H := H1
           clear H1
           have H' := Aside0.mk H
           clear H
           go_wp2
           go_loopg [3] kj15 (fun kq v3 w' => ∃ (x3_3 : Int), v3 = .int .i64 x3_3 ∧ Aside0 (scullerref13_Right.l0 kq x3_3 a0_0 a0_1 a0_2 a0_3 a0_4 l0_5 l0_6 = some r) ∧ Aside0 (kq ≤ kj15) ∧ Aside0 (w'.heap[gb101]? = some (.cells #[.int .i64 a0_0, .int .u64 a0_1, .int .i64 a0_2, .int .i64 a0_3, .int .u32 a0_4, (.slice A0_5 l0_5.length c0_5), (.slice A0_6 l0_6.length c0_6)] 28 (0, 0))) ∧ Aside0 (Below w.heap.size w w'))
           case atStart => exact ⟨(0), (by first | rfl | (simp; done) | (simp [*]; done)), H', ⟨Nat.le_refl _⟩, ⟨by (with_reducible repeat (first | refine blk_drewN ?_ _ | refine blk_drew ?_ | refine blk_alloc ?_ _)); exact BK101.out⟩, ⟨by repeat (first | (with_reducible first | exact HB.out | apply below_alloc | apply pw_below_drewN | apply below_drew1 | refine below_set ?_ GE101.out) | exact HB.out)⟩⟩
           case round =>
            clear H'
            try clear c1
            try clear c2
            try clear p2
            try clear c3
            try clear c4
            try clear c4b0
            try clear c6
            try clear c6b0
            try clear c8
            try clear c8b0
            try clear c10
            try clear c10b0
            try clear c12
            try clear c12b0
            try clear c15
            try clear c17
            try clear c17b0
            try clear c17b1
            try clear c18
            try clear c18b0
            try clear c18b1
            try clear c19
            try clear c19b0
            try clear c19b1
            try clear c21
            try clear c21b0
            try clear c21b1
            try clear c22
            try clear c22b0
            try clear c24
            try clear c24b0
            try clear c29
            try clear c29b0
            try clear c29b1
            try clear c31
            try clear c31b0
            try clear c31b1
            try clear c32
            try clear c32b0
            try clear c34
            try clear c34b0
            try clear c38
            try clear hcz11_0
            try clear hcz11_1
            try clear hcz11_2
            try clear hcz11_3
            try clear hcz11_4
            try clear hcz11_5
            try clear hcz11_6
            try clear hcz13_0
            try clear hcz13_1
            try clear hcz13_2
            try clear hcz13_3
            try clear hcz13_4
            try clear hcz13_5
            try clear hcz13_6
            try clear hcz14_0
            try clear hcz14_1
            try clear hcz14_2
            try clear hcz14_3
            try clear hcz14_4
            try clear hcz14_5
            try clear hcz14_6
            try clear hcz20_0
            try clear hcz20_1
            try clear hcz20_2
            try clear hcz20_3
            try clear hcz20_4
            try clear hcz20_5
            try clear hcz20_6
            try clear hcz23_0
            try clear hcz23_1
            try clear hcz23_2
            try clear hcz23_3
            try clear hcz23_4
            try clear hcz23_5
            try clear hcz23_6
            try clear hcz25_0
            try clear hcz25_1
            try clear hcz25_2
            try clear hcz25_3
            try clear hcz25_4
            try clear hcz25_5
            try clear hcz25_6
            try clear hcz26_0
            try clear hcz26_1
            try clear hcz26_2
            try clear hcz26_3
            try clear hcz26_4
            try clear hcz26_5
            try clear hcz26_6
            try clear hcz27_0
            try clear hcz27_1
            try clear hcz27_2
            try clear hcz27_3
            try clear hcz27_4
            try clear hcz27_5
            try clear hcz27_6
            try clear hcz28_0
            try clear hcz28_1
            try clear hcz28_2
            try clear hcz28_3
            try clear hcz28_4
            try clear hcz28_5
            try clear hcz28_6
            try clear hcz30_0
            try clear hcz30_1
            try clear hcz30_2
            try clear hcz30_3
            try clear hcz30_4
            try clear hcz30_5
            try clear hcz30_6
            try clear hcz33_0
            try clear hcz33_1
            try clear hcz33_2
            try clear hcz33_3
            try clear hcz33_4
            try clear hcz33_5
            try clear hcz33_6
            try clear hcz35_0
            try clear hcz35_1
            try clear hcz35_2
            try clear hcz35_3
            try clear hcz35_4
            try clear hcz35_5
            try clear hcz35_6
            try clear hcz36_0
            try clear hcz36_1
            try clear hcz36_2
            try clear hcz36_3
            try clear hcz36_4
            try clear hcz36_5
            try clear hcz36_6
            try clear hcz37_0
            try clear hcz37_1
            try clear hcz37_2
            try clear hcz37_3
            try clear hcz37_4
            try clear hcz37_5
            try clear hcz37_6
            try clear hcz5_0
            try clear hcz5_1
            try clear hcz5_2
            try clear hcz5_3
            try clear hcz5_4
            try clear hcz5_5
            try clear hcz5_6
            try clear hcz7_0
            try clear hcz7_1
            try clear hcz7_2
            try clear hcz7_3
            try clear hcz7_4
            try clear hcz7_5
            try clear hcz7_6
            try clear hcz9_0
            try clear hcz9_1
            try clear hcz9_2
            try clear hcz9_3
            try clear hcz9_4
            try clear hcz9_5
            try clear hcz9_6
            try clear hfz11_0
            try clear hfz11_1
            try clear hfz11_2
            try clear hfz11_3
            try clear hfz11_4
            try clear hfz11_5
            try clear hfz11_6
            try clear hfz13_0
            try clear hfz13_1
            try clear hfz13_2
            try clear hfz13_3
            try clear hfz13_4
            try clear hfz13_5
            try clear hfz13_6
            try clear hfz14_0
            try clear hfz14_1
            try clear hfz14_2
            try clear hfz14_3
            try clear hfz14_4
            try clear hfz14_5
            try clear hfz14_6
            try clear hfz20_0
            try clear hfz20_1
            try clear hfz20_2
            try clear hfz20_3
            try clear hfz20_4
            try clear hfz20_5
            try clear hfz20_6
            try clear hfz23_0
            try clear hfz23_1
            try clear hfz23_2
            try clear hfz23_3
            try clear hfz23_4
            try clear hfz23_5
            try clear hfz23_6
            try clear hfz25_0
            try clear hfz25_1
            try clear hfz25_2
            try clear hfz25_3
            try clear hfz25_4
            try clear hfz25_5
            try clear hfz25_6
            try clear hfz26_0
            try clear hfz26_1
            try clear hfz26_2
            try clear hfz26_3
            try clear hfz26_4
            try clear hfz26_5
            try clear hfz26_6
            try clear hfz27_0
            try clear hfz27_1
            try clear hfz27_2
            try clear hfz27_3
            try clear hfz27_4
            try clear hfz27_5
            try clear hfz27_6
            try clear hfz28_0
            try clear hfz28_1
            try clear hfz28_2
            try clear hfz28_3
            try clear hfz28_4
            try clear hfz28_5
            try clear hfz28_6
            try clear hfz30_0
            try clear hfz30_1
            try clear hfz30_2
            try clear hfz30_3
            try clear hfz30_4
            try clear hfz30_5
            try clear hfz30_6
            try clear hfz33_0
            try clear hfz33_1
            try clear hfz33_2
            try clear hfz33_3
            try clear hfz33_4
            try clear hfz33_5
            try clear hfz33_6
            try clear hfz35_0
            try clear hfz35_1
            try clear hfz35_2
            try clear hfz35_3
            try clear hfz35_4
            try clear hfz35_5
            try clear hfz35_6
            try clear hfz36_0
            try clear hfz36_1
            try clear hfz36_2
            try clear hfz36_3
            try clear hfz36_4
            try clear hfz36_5
            try clear hfz36_6
            try clear hfz37_0
            try clear hfz37_1
            try clear hfz37_2
            try clear hfz37_3
            try clear hfz37_4
            try clear hfz37_5
            try clear hfz37_6
            try clear hfz5_0
            try clear hfz5_1
            try clear hfz5_2
            try clear hfz5_3
            try clear hfz5_4
            try clear hfz5_5
            try clear hfz5_6
            try clear hfz7_0
            try clear hfz7_1
            try clear hfz7_2
            try clear hfz7_3
            try clear hfz7_4
            try clear hfz7_5
            try clear hfz7_6
            try clear hfz9_0
            try clear hfz9_1
            try clear hfz9_2
            try clear hfz9_3
            try clear hfz9_4
            try clear hfz9_5
            try clear hfz9_6
            try clear p2
            obtain ⟨x3_3, rfl, HA, HK3, BK101, HB⟩ := hrel
            cases gk with
            | zero => exact absurd HA.out (by simp [scullerref13_Right.l0])
            | succ k3 =>
              have H := HA.out
              clear HA
              simp only [scullerref13_Right.l0] at H
              by_cases c39 : x3_3 < (l0_5.length : Int)
              · rw [if_pos c39] at H
                have c39b0 : decide (x3_3 < (l0_5.length : Int)) = true := decide_eq_true c39
                clear c39
                by_cases c40 : 0 ≤ x3_3
                · rw [if_pos c40] at H
                  have c40b0 : decide (0 ≤ x3_3) = true := decide_eq_true c40
                  clear c40
                  by_cases c41 : (rd l0_5 x3_3) < 0
                  · rw [if_pos c41] at H
                    have c41b0 : decide ((rd l0_5 x3_3) < 0) = true := decide_eq_true c41
                    clear c41
                    obtain rfl := Option.some.inj H
                    have hcz42_0 : wr.cell? ⟨gb101, 0, none⟩ = some (.int .i64 a0_0) := (blk_cell BK101.out 0).trans rfl
                    have hcz42_1 : wr.cell? ⟨gb101, 1, none⟩ = some (.int .u64 a0_1) := (blk_cell BK101.out 1).trans rfl
                    have hcz42_2 : wr.cell? ⟨gb101, 2, none⟩ = some (.int .i64 a0_2) := (blk_cell BK101.out 2).trans rfl
                    have hcz42_3 : wr.cell? ⟨gb101, 3, none⟩ = some (.int .i64 a0_3) := (blk_cell BK101.out 3).trans rfl
                    have hcz42_4 : wr.cell? ⟨gb101, 4, none⟩ = some (.int .u32 a0_4) := (blk_cell BK101.out 4).trans rfl
                    have hcz42_5 : wr.cell? ⟨gb101, 5, none⟩ = some (.slice A0_5 l0_5.length c0_5) := (blk_cell BK101.out 5).trans rfl
                    have hcz42_6 : wr.cell? ⟨gb101, 6, none⟩ = some (.slice A0_6 l0_6.length c0_6) := (blk_cell BK101.out 6).trans rfl
                    have hfz42_0 := blk_frozen BK101.out 0
                    have hfz42_1 := blk_frozen BK101.out 1
                    have hfz42_2 := blk_frozen BK101.out 2
                    have hfz42_3 := blk_frozen BK101.out 3
                    have hfz42_4 := blk_frozen BK101.out 4
                    have hfz42_5 := blk_frozen BK101.out 5
                    have hfz42_6 := blk_frozen BK101.out 6
                    have p102 : 0 ≤ (x3_3 : Int) := of_decide_eq_true (by first | (with_reducible assumption) | assumption)
                    have q102 : x3_3 < (l0_5.length : Int) := of_decide_eq_true (by first | (with_reducible assumption) | assumption)
                    obtain ⟨ad102, e102, hx102_0⟩ := Kd.at_int HR0_5.out x3_3 p102 q102
                    cases e102
                    replace hx102_0 := (HB.out.cell (World.block_lt_of_cell? w _ hx102_0)).trans hx102_0
                    replace p102 := eq_true p102
                    replace q102 := eq_true q102
                    go_wp2
                    go_ret
                    exact ⟨by first | rfl | (simp [errW_none, errW_some] <;> rfl) | (simp [*, errW_none, errW_some] <;> rfl), by repeat (first | (with_reducible first | exact HB.out | apply below_alloc | apply pw_below_drewN | apply below_drew1 | refine below_set ?_ GE101.out) | exact HB.out)⟩
                  · rw [if_neg c41] at H
                    have c41b0 : decide ((rd l0_5 x3_3) < 0) = false := decide_eq_false c41
                    clear c41
                    by_cases c43 : (rd l0_5 x3_3) > 4096
                    · rw [if_pos c43] at H
                      have c43b0 : decide (4096 < (rd l0_5 x3_3)) = true := decide_eq_true c43
                      clear c43
                      obtain rfl := Option.some.inj H
                      have hcz44_0 : wr.cell? ⟨gb101, 0, none⟩ = some (.int .i64 a0_0) := (blk_cell BK101.out 0).trans rfl
                      have hcz44_1 : wr.cell? ⟨gb101, 1, none⟩ = some (.int .u64 a0_1) := (blk_cell BK101.out 1).trans rfl
                      have hcz44_2 : wr.cell? ⟨gb101, 2, none⟩ = some (.int .i64 a0_2) := (blk_cell BK101.out 2).trans rfl
                      have hcz44_3 : wr.cell? ⟨gb101, 3, none⟩ = some (.int .i64 a0_3) := (blk_cell BK101.out 3).trans rfl
                      have hcz44_4 : wr.cell? ⟨gb101, 4, none⟩ = some (.int .u32 a0_4) := (blk_cell BK101.out 4).trans rfl
                      have hcz44_5 : wr.cell? ⟨gb101, 5, none⟩ = some (.slice A0_5 l0_5.length c0_5) := (blk_cell BK101.out 5).trans rfl
                      have hcz44_6 : wr.cell? ⟨gb101, 6, none⟩ = some (.slice A0_6 l0_6.length c0_6) := (blk_cell BK101.out 6).trans rfl
                      have hfz44_0 := blk_frozen BK101.out 0
                      have hfz44_1 := blk_frozen BK101.out 1
                      have hfz44_2 := blk_frozen BK101.out 2
                      have hfz44_3 := blk_frozen BK101.out 3
                      have hfz44_4 := blk_frozen BK101.out 4
                      have hfz44_5 := blk_frozen BK101.out 5
                      have hfz44_6 := blk_frozen BK101.out 6
                      have p102 : 0 ≤ (x3_3 : Int) := of_decide_eq_true (by first | (with_reducible assumption) | assumption)
                      have q102 : x3_3 < (l0_5.length : Int) := of_decide_eq_true (by first | (with_reducible assumption) | assumption)
                      obtain ⟨ad102, e102, hx102_0⟩ := Kd.at_int HR0_5.out x3_3 p102 q102
                      cases e102
                      replace hx102_0 := (HB.out.cell (World.block_lt_of_cell? w _ hx102_0)).trans hx102_0
                      replace p102 := eq_true p102
                      replace q102 := eq_true q102
                      have p103 : 0 ≤ (x3_3 : Int) := of_decide_eq_true (by first | (with_reducible assumption) | assumption)
                      have q103 : x3_3 < (l0_5.length : Int) := of_decide_eq_true (by first | (with_reducible assumption) | assumption)
                      obtain ⟨ad103, e103, hx103_0⟩ := Kd.at_int HR0_5.out x3_3 p103 q103
                      obtain rfl : ad102 = ad103 := (by injection e103)
                      replace hx103_0 := (HB.out.cell (World.block_lt_of_cell? w _ hx103_0)).trans hx103_0
                      replace p103 := eq_true p103
                      replace q103 := eq_true q103
                      go_wp2
                      go_ret
                      exact ⟨by first | rfl | (simp [errW_none, errW_some] <;> rfl) | (simp [*, errW_none, errW_some] <;> rfl), by repeat (first | (with_reducible first | exact HB.out | apply below_alloc | apply pw_below_drewN | apply below_drew1 | refine below_set ?_ GE101.out) | exact HB.out)⟩
                    · rw [if_neg c43] at H
                      have c43b0 : decide (4096 < (rd l0_5 x3_3)) = false := decide_eq_false c43
                      clear c43
                      have H' := Aside0.mk H
                      clear H
                      have hcz45_0 : wr.cell? ⟨gb101, 0, none⟩ = some (.int .i64 a0_0) := (blk_cell BK101.out 0).trans rfl
                      have hcz45_1 : wr.cell? ⟨gb101, 1, none⟩ = some (.int .u64 a0_1) := (blk_cell BK101.out 1).trans rfl
                      have hcz45_2 : wr.cell? ⟨gb101, 2, none⟩ = some (.int .i64 a0_2) := (blk_cell BK101.out 2).trans rfl
                      have hcz45_3 : wr.cell? ⟨gb101, 3, none⟩ = some (.int .i64 a0_3) := (blk_cell BK101.out 3).trans rfl
                      have hcz45_4 : wr.cell? ⟨gb101, 4, none⟩ = some (.int .u32 a0_4) := (blk_cell BK101.out 4).trans rfl
                      have hcz45_5 : wr.cell? ⟨gb101, 5, none⟩ = some (.slice A0_5 l0_5.length c0_5) := (blk_cell BK101.out 5).trans rfl
                      have hcz45_6 : wr.cell? ⟨gb101, 6, none⟩ = some (.slice A0_6 l0_6.length c0_6) := (blk_cell BK101.out 6).trans rfl
                      have hfz45_0 := blk_frozen BK101.out 0
                      have hfz45_1 := blk_frozen BK101.out 1
                      have hfz45_2 := blk_frozen BK101.out 2
                      have hfz45_3 := blk_frozen BK101.out 3
                      have hfz45_4 := blk_frozen BK101.out 4
                      have hfz45_5 := blk_frozen BK101.out 5
                      have hfz45_6 := blk_frozen BK101.out 6
                      have p102 : 0 ≤ (x3_3 : Int) := of_decide_eq_true (by first | (with_reducible assumption) | assumption)
                      have q102 : x3_3 < (l0_5.length : Int) := of_decide_eq_true (by first | (with_reducible assumption) | assumption)
                      obtain ⟨ad102, e102, hx102_0⟩ := Kd.at_int HR0_5.out x3_3 p102 q102
                      cases e102
                      replace hx102_0 := (HB.out.cell (World.block_lt_of_cell? w _ hx102_0)).trans hx102_0
                      replace p102 := eq_true p102
                      replace q102 := eq_true q102
                      have p103 : 0 ≤ (x3_3 : Int) := of_decide_eq_true (by first | (with_reducible assumption) | assumption)
                      have q103 : x3_3 < (l0_5.length : Int) := of_decide_eq_true (by first | (with_reducible assumption) | assumption)
                      obtain ⟨ad103, e103, hx103_0⟩ := Kd.at_int HR0_5.out x3_3 p103 q103
                      obtain rfl : ad102 = ad103 := (by injection e103)
                      replace hx103_0 := (HB.out.cell (World.block_lt_of_cell? w _ hx103_0)).trans hx103_0
                      replace p103 := eq_true p103
                      replace q103 := eq_true q103
                      go_wp2
                      go_roundg k3
                      case measure => have := HJ1.out; have := HJ15.out; have := HK3.out; omega
                      case rel => exact ⟨(wrap64 (x3_3 + 1)), (by first | rfl | (simp; done) | (simp [*]; done)), H', ⟨by have := HJ1.out; have := HJ15.out; have := HK3.out; omega⟩, ⟨by (with_reducible repeat (first | refine blk_drewN ?_ _ | refine blk_drew ?_ | refine blk_alloc ?_ _)); exact BK101.out⟩, ⟨by repeat (first | (with_reducible first | exact HB.out | apply below_alloc | apply pw_below_drewN | apply below_drew1 | refine below_set ?_ GE101.out) | exact HB.out)⟩⟩
                · rw [if_neg c40] at H
                  exact absurd H (by simp)
              · rw [if_neg c39] at H
                have c39b0 : decide (x3_3 < (l0_5.length : Int)) = false := decide_eq_false c39
                clear c39
                obtain rfl := Option.some.inj H
                have hcz46_0 : wr.cell? ⟨gb101, 0, none⟩ = some (.int .i64 a0_0) := (blk_cell BK101.out 0).trans rfl
                have hcz46_1 : wr.cell? ⟨gb101, 1, none⟩ = some (.int .u64 a0_1) := (blk_cell BK101.out 1).trans rfl
                have hcz46_2 : wr.cell? ⟨gb101, 2, none⟩ = some (.int .i64 a0_2) := (blk_cell BK101.out 2).trans rfl
                have hcz46_3 : wr.cell? ⟨gb101, 3, none⟩ = some (.int .i64 a0_3) := (blk_cell BK101.out 3).trans rfl
                have hcz46_4 : wr.cell? ⟨gb101, 4, none⟩ = some (.int .u32 a0_4) := (blk_cell BK101.out 4).trans rfl
                have hcz46_5 : wr.cell? ⟨gb101, 5, none⟩ = some (.slice A0_5 l0_5.length c0_5) := (blk_cell BK101.out 5).trans rfl
                have hcz46_6 : wr.cell? ⟨gb101, 6, none⟩ = some (.slice A0_6 l0_6.length c0_6) := (blk_cell BK101.out 6).trans rfl
                have hfz46_0 := blk_frozen BK101.out 0
                have hfz46_1 := blk_frozen BK101.out 1
                have hfz46_2 := blk_frozen BK101.out 2
                have hfz46_3 := blk_frozen BK101.out 3
                have hfz46_4 := blk_frozen BK101.out 4
                have hfz46_5 := blk_frozen BK101.out 5
                have hfz46_6 := blk_frozen BK101.out 6
                go_wp2
                go_ret
                exact ⟨by first | rfl | (simp [errW_none, errW_some] <;> rfl) | (simp [*, errW_none, errW_some] <;> rfl), by repeat (first | (with_reducible first | exact HB.out | apply below_alloc | apply pw_below_drewN | apply below_drew1 | refine below_set ?_ GE101.out) | exact HB.out)⟩

end Go.Proofs.Ytoooceaoggkeeaa.F
end

section
namespace Go.Proofs.Ytoooceaoggkeeaa.F
open Go.RowKit Go.Proofs.YtoooceaoggkeeaaW.PrintWords Go.Proofs.YtoooceaoggkeeaaW.PrintLast Go.Proofs.YtoooceaoggkeeaaW.PrintMore
attribute [local go_sem] max2_int min2_int max_two min_two max_three min_three max_four min_four   -- for this text's walks alone
set_option linter.unusedVariables false
set_option linter.unusedSimpArgs false

open Go.Proofs.Ytoooceaoggkeeaa.H
def scullerref13_Right_c.f (a0_0 a0_1 a0_2 a0_3 a0_4 : Int) (l0_5 l0_6 : List Int) : Option Bool := if l0_5.length ≤ 1000000 then some (rightG a0_0 a0_2 a0_3 l0_5 l0_6) else none
theorem rightG_is (k i o : Int) (z b : List Int) (c : Bool) (hc : c = true ↔ ¬ (1 ≤ k ∧ k ≤ 8 ∧ 0 ≤ i ∧ i ≤ 65535 ∧ 0 ≤ o ∧ o ≤ 65535 ∧ (k = 1 ∨ z.length = 0) ∧ z.length ≤ 4 ∧ (b.length = 0 ∨ (2 ≤ k ∧ k ≤ 4)) ∧ b.length ≤ 64)) :
 rightG k i o z b = (!c && !z.any badS) := by
 have h1 : (hasL k).1 = if k = 1 then 4 else 0 := by unfold hasL; split <;> (try split) <;> rfl
 have h2 : (hasL k).2 = if 2 ≤ k ∧ k ≤ 4 then 64 else 0 := by
  unfold hasL
  by_cases e : k = 1
  · rw [if_pos e, if_neg (by omega)]
  · rw [if_neg e]; split <;> rfl
 have key : (isKindB k && decide (0 ≤ i) && decide (0 ≤ o) && decide (i ≤ 65535) && decide (o ≤ 65535) && decide ((z.length : Int) ≤ (hasL k).1) && decide ((b.length : Int) ≤ (hasL k).2)) = !c := by
  rw [h1, h2, Bool.eq_iff_iff, Bool.not_eq_true', ← Bool.not_eq_true, hc]
  simp only [isKindB, Bool.and_eq_true, decide_eq_true_eq]
  by_cases e1 : k = 1
  · rw [if_pos e1, if_neg (show ¬ (2 ≤ k ∧ k ≤ 4) by omega)]; omega
  · rw [if_neg e1]
    by_cases e2 : 2 ≤ k ∧ k ≤ 4
    · rw [if_pos e2]; omega
    · rw [if_neg e2]; omega
 rw [rightG, key]
theorem scullerref13_Right.l0_to (k s i o m : Int) (z b : List Int) (hz : z.length ≤ 1000000) : ∀ (d j : Nat), z.length - j = d → j ≤ z.length → ∃ q, scullerref13_Right.l0 q (j : Int) k s i o m z b = some (!(z.drop j).any badS)
 | 0, j, hd, hj => ⟨1, by
   rw [scullerref13_Right.l0, if_neg (by omega), List.drop_of_length_le (by omega)]
   rfl⟩
 | d + 1, j, hd, hj => by
   have hlt : j < z.length := by omega
   obtain ⟨q, hq⟩ := scullerref13_Right.l0_to k s i o m z b hz d (j + 1) (by omega) (by omega)
   refine ⟨q + 1, ?_⟩
   rw [scullerref13_Right.l0, if_pos (by omega), if_pos (by omega), show rd z (j : Int) = z[j] from getD_toNat z 0 j hlt, drop_at z j hlt, List.any_cons, show wrap64 ((j : Int) + 1) = ((j + 1 : Nat) : Int) from by unfold wrap64; omega]
   by_cases h0 : z[j] < 0
   · rw [if_pos h0, show badS z[j] = true from by unfold badS; rw [decide_eq_true h0]; rfl]
     rfl
   · by_cases h1 : z[j] > 4096
     · rw [if_neg h0, if_pos h1, show badS z[j] = true from by unfold badS; rw [decide_eq_true (show 4096 < z[j] from h1), Bool.or_true]]
       rfl
     · rw [if_neg h0, if_neg h1, hq, show badS z[j] = false from by unfold badS; rw [decide_eq_false h0, decide_eq_false (show ¬ 4096 < z[j] from h1)]; rfl]
       simp
theorem scullerref13_Right_c.to {a0_0 a0_1 a0_2 a0_3 a0_4 : Int} {l0_5 l0_6 : List Int} {r : Bool} (h : scullerref13_Right_c.f a0_0 a0_1 a0_2 a0_3 a0_4 l0_5 l0_6 = some r) : ∃ k, scullerref13_Right.f k a0_0 a0_1 a0_2 a0_3 a0_4 l0_5 l0_6 = some r := by
 unfold scullerref13_Right_c.f at h
 split at h
 case isFalse => cases h
 case isTrue hz =>
 obtain rfl := Option.some.inj h
 obtain ⟨Q, hQ⟩ := scullerref13_Right.l0_to a0_0 a0_1 a0_2 a0_3 a0_4 l0_5 l0_6 hz l0_5.length 0 (by omega) (by omega)
 rw [List.drop_zero] at hQ
 have J1 : ∀ c, scullerref13_Right.j1 (Q + 1) c a0_0 a0_1 a0_2 a0_3 a0_4 l0_5 l0_6 = some (!c && !l0_5.any badS) := by
  intro c
  rw [scullerref13_Right.j1]
  cases c
  · rw [if_neg (by decide)]
    exact hQ
  · rw [if_pos rfl]
    rfl
 refine ⟨Q + 2, ?_⟩
 have J0 : ∀ c : Bool, (c = true ↔ ¬ (1 ≤ a0_0 ∧ a0_0 ≤ 8 ∧ 0 ≤ a0_2 ∧ a0_2 ≤ 65535 ∧ 0 ≤ a0_3 ∧ a0_3 ≤ 65535)) → scullerref13_Right.j0 (Q + 2) c a0_0 a0_1 a0_2 a0_3 a0_4 l0_5 l0_6 = some (rightG a0_0 a0_2 a0_3 l0_5 l0_6) := by
  intro c hc
  rw [scullerref13_Right.j0]
  cases c
  · rw [if_neg (by decide)]
    have hc2 : (1 ≤ a0_0 ∧ a0_0 ≤ 8 ∧ 0 ≤ a0_2 ∧ a0_2 ≤ 65535 ∧ 0 ≤ a0_3 ∧ a0_3 ≤ 65535) := by
     by_cases e : (1 ≤ a0_0 ∧ a0_0 ≤ 8 ∧ 0 ≤ a0_2 ∧ a0_2 ≤ 65535 ∧ 0 ≤ a0_3 ∧ a0_3 ≤ 65535)
     · exact e
     · exact absurd (hc.2 e) (by decide)
    have lf : ∀ c : Bool, (c = true ↔ ¬ ((a0_0 = 1 ∨ l0_5.length = 0) ∧ l0_5.length ≤ 4 ∧ (l0_6.length = 0 ∨ (2 ≤ a0_0 ∧ a0_0 ≤ 4)) ∧ l0_6.length ≤ 64)) → scullerref13_Right.j1 (Q + 1) c a0_0 a0_1 a0_2 a0_3 a0_4 l0_5 l0_6 = some (rightG a0_0 a0_2 a0_3 l0_5 l0_6) := by
     intro c hc
     rw [J1, rightG_is a0_0 a0_2 a0_3 l0_5 l0_6 c (by rw [hc]; omega)]
    split
    · split
      · split
        · exact lf true (by simp only [true_iff]; omega)
        · split
          · split
            · exact lf true (by simp only [true_iff]; omega)
            · split
              · exact lf true (by simp only [true_iff]; omega)
              · exact lf _ (by rw [decide_eq_true_eq]; omega)
          · exact lf _ (by rw [decide_eq_true_eq]; omega)
      · exact lf true (by simp only [true_iff]; omega)
    · split
      · exact lf true (by simp only [true_iff]; omega)
      · split
        · split
          · exact lf true (by simp only [true_iff]; omega)
          · split
            · exact lf true (by simp only [true_iff]; omega)
            · exact lf _ (by rw [decide_eq_true_eq]; omega)
        · exact lf _ (by rw [decide_eq_true_eq]; omega)
  · rw [if_pos rfl, rightG_is a0_0 a0_2 a0_3 l0_5 l0_6 true (by have := hc.1 rfl; simp only [true_iff]; omega)]
    rfl
 rw [scullerref13_Right.f]
 split
 · exact J0 true (by simp only [true_iff]; omega)
 · split
   · exact J0 true (by simp only [true_iff]; omega)
   · split
     · exact J0 true (by simp only [true_iff]; omega)
     · split
       · exact J0 true (by simp only [true_iff]; omega)
       · split
         · exact J0 true (by simp only [true_iff]; omega)
         · exact J0 _ (by rw [decide_eq_true_eq]; omega)

theorem scullerref13_Right_c.calls (a0_0 : Int) (a0_1 : Int) (a0_2 : Int) (a0_3 : Int) (a0_4 : Int) (A0_5 : Option Addr) (c0_5 : Nat) (l0_5 : List Int) (A0_6 : Option Addr) (c0_6 : Nat) (l0_6 : List Int) (r : Bool) (w : World) (hr0_5 : Kd.C (Kd.int .i64) w A0_5 l0_5.length l0_5) (hc0_5 : l0_5.length ≤ c0_5) (hr0_6 : Kd.C (Kd.int .u8) w A0_6 l0_6.length l0_6) (hc0_6 : l0_6.length ≤ c0_6) (h : scullerref13_Right_c.f a0_0 a0_1 a0_2 a0_3 a0_4 l0_5 l0_6 = some r) :
 Calls Try.prog 31 #[.agg #[.int .i64 a0_0, .int .u64 a0_1, .int .i64 a0_2, .int .i64 a0_3, .int .u32 a0_4, .slice A0_5 l0_5.length c0_5, .slice A0_6 l0_6.length c0_6]] w fun e w' => e = .returned (.bool r) ∧ Below w.heap.size w w' := by
 obtain ⟨k_, hk_⟩ := scullerref13_Right_c.to h
 exact scullerref13_Right.calls k_ a0_0 a0_1 a0_2 a0_3 a0_4 A0_5 c0_5 l0_5 A0_6 c0_6 l0_6 r w hr0_5 hc0_5 hr0_6 hc0_6 hk_

end Go.Proofs.Ytoooceaoggkeeaa.F
end

section
namespace Go.Proofs.Ytoooceaoggkeeaa.F
open Go.RowKit Go.Proofs.YtoooceaoggkeeaaW.PrintWords Go.Proofs.YtoooceaoggkeeaaW.PrintLast Go.Proofs.YtoooceaoggkeeaaW.PrintMore
attribute [local go_sem] max2_int min2_int max_two min_two max_three min_three max_four min_four   -- for this text's walks alone
set_option linter.unusedVariables false
set_option linter.unusedSimpArgs false

/-! ### scullerref13_Encode: function 15 -/
def scullerref13_Encode.l0 : Nat → List Int → Int → Int → Int → Int → Int → Int → List Int → List Int → Option (List Int × Int)
 | 0, _, _, _, _, _, _, _, _, _ => none
 | k + 1, x4, x5, x102000, x102001, x102002, x102003, x102004, x102005, x102006 => if x5 < (x102005.length : Int) then (if 0 ≤ x5 then ((scullerref13_put.f x4 (IntKind.u64.wrap (rd x102005 x5)) 2).bind fun t119 => (scullerref13_Encode.l0 k t119 (wrap64 (x5 + 1)) x102000 x102001 x102002 x102003 x102004 x102005 x102006)) else (none)) else (if x4.length + x102006.length < 140737488355328 then ((scullerref02_Seal.f (x4 ++ x102006)).bind fun t125 => (some (t125, 0))) else (none))
def scullerref13_Encode.f (k : Nat) (a0_0 : Int) (a0_1 : Int) (a0_2 : Int) (a0_3 : Int) (a0_4 : Int) (l0_5 : List Int) (l0_6 : List Int) : Option (List Int × Int) := (scullerref13_Right_c.f a0_0 a0_1 a0_2 a0_3 a0_4 l0_5 l0_6).bind fun t102 => (if t102 = true then ((scullerref13_put.f ([] : List Int) (IntKind.u64.wrap (a0_0)) 1).bind fun t103 => ((scullerref13_put.f t103 a0_1 8).bind fun t106 => ((scullerref13_put.f t106 (IntKind.u64.wrap (a0_2)) 2).bind fun t109 => ((scullerref13_put.f t109 (IntKind.u64.wrap (a0_3)) 2).bind fun t112 => ((scullerref13_put.f t112 (IntKind.u64.wrap (a0_4)) 4).bind fun t115 => (scullerref13_Encode.l0 k t115 0 a0_0 a0_1 a0_2 a0_3 a0_4 l0_5 l0_6)))))) else (some (([] : List Int), 1)))
theorem scullerref13_Encode.mono_l : ∀ k, (∀ y0 y1 y2 y3 y4 y5 y6 y7 y8, LeO (scullerref13_Encode.l0 k y0 y1 y2 y3 y4 y5 y6 y7 y8) (scullerref13_Encode.l0 (k + 1) y0 y1 y2 y3 y4 y5 y6 y7 y8))
 | 0 => fun _ _ _ _ _ _ _ _ _ r h => by simp [scullerref13_Encode.l0] at h
 | k + 1 => by
   have ih0 := scullerref13_Encode.mono_l k
   · intro y0 y1 y2 y3 y4 y5 y6 y7 y8
     unfold scullerref13_Encode.l0
     repeat' first
     | (with_reducible exact ih0 _ _ _ _ _ _ _ _ _)
     | (with_reducible exact LeO.refl _)
     | (with_reducible exact LeO.none _)
     | (with_reducible refine LeO.ite ?_ ?_)
     | (with_reducible refine LeO.bind ?_ (fun _ => ?_))
     | exact ih0 _ _ _ _ _ _ _ _ _
     | exact LeO.none _
     | refine LeO.ite ?_ ?_
     | refine LeO.bind ?_ (fun _ => ?_)
theorem scullerref13_Encode.mono : ∀ a0 a1 a2 a3 a4 a5 a6 k, LeO (scullerref13_Encode.f k a0 a1 a2 a3 a4 a5 a6) (scullerref13_Encode.f (k + 1) a0 a1 a2 a3 a4 a5 a6) := by
 intro a0 a1 a2 a3 a4 a5 a6 k
 have ih0 := scullerref13_Encode.mono_l k
 unfold scullerref13_Encode.f
 repeat' first
  | (with_reducible exact ih0 _ _ _ _ _ _ _ _ _)
  | (with_reducible exact LeO.refl _)
  | (with_reducible exact LeO.none _)
  | (with_reducible refine LeO.ite ?_ ?_)
  | (with_reducible refine LeO.bind ?_ (fun _ => ?_))
  | exact ih0 _ _ _ _ _ _ _ _ _
  | exact LeO.none _
  | refine LeO.ite ?_ ?_
  | refine LeO.bind ?_ (fun _ => ?_)
def scullerref13_Encode.T3 : Bool × List (List Nat × List Nat) := (true, [([], []), ([0], [0]), ([1], [1]), ([2], [2]), ([], []), ([4], [4]), ([3, 5, 3], [3, 5]), ([], []), ([7], [7]), ([8], [8]), ([6, 9, 6], [6, 9]), ([], []), ([11], [11]), ([12], [12]), ([10, 13, 10], [10, 13]), ([], []), ([15], [15]), ([16], [16]), ([14, 17, 14], [14, 17]), ([18, 18, 0, 1, 2, 3, 4, 5, 6, 7, 8, 9, 10, 11, 12, 13, 14, 15, 16, 17, 18], [18])])
def scullerref13_Encode.B3 : List Nat := [0, 1, 3, 7, 0, 16, 63, 0, 128, 384, 1023, 0, 2048, 6144, 16383, 0, 32768, 98304, 262143, 524287]
theorem scullerref13_Encode.tab3 : rtab .any (opsOf Try.f15 3) = scullerref13_Encode.T3 := by kernel_rfl
theorem scullerref13_Encode.bits3 : waitsOk scullerref13_Encode.T3.2 scullerref13_Encode.B3 = true := by kernel_rfl
set_option maxHeartbeats 8000000 in
set_option maxRecDepth 100000 in
theorem scullerref13_Encode.calls (k : Nat) (a0_0 : Int) (a0_1 : Int) (a0_2 : Int) (a0_3 : Int) (a0_4 : Int) (A0_5 : Option Addr) (c0_5 : Nat) (l0_5 : List Int) (A0_6 : Option Addr) (c0_6 : Nat) (l0_6 : List Int) (r1 : List Int) (r2 : Int) (w : World) (hr0_5 : Kd.C (Kd.int .i64) w A0_5 l0_5.length l0_5) (hc0_5 : l0_5.length ≤ c0_5) (hr0_6 : Kd.C (Kd.int .u8) w A0_6 l0_6.length l0_6) (hc0_6 : l0_6.length ≤ c0_6) (h : scullerref13_Encode.f k a0_0 a0_1 a0_2 a0_3 a0_4 l0_5 l0_6 = some (r1, r2)) :
 Calls Try.prog 15 #[.agg #[.int .i64 a0_0, .int .u64 a0_1, .int .i64 a0_2, .int .i64 a0_3, .int .u32 a0_4, .slice A0_5 l0_5.length c0_5, .slice A0_6 l0_6.length c0_6]] w fun e w' => ∃ v0_ : Value, e = .returned (.tuple #[v0_, .int .i64 r2]) ∧ Kd.R (Kd.int .u8) 5 w' w.heap.size (fun _ => True) v0_ r1 ∧ Below w.heap.size w w' := by
 have hu28 := Try.underlying28
 have HR0_5 := Aside0.mk hr0_5
 have HC0_5 := Aside0.mk hc0_5
 clear hr0_5 hc0_5
 have HR0_6 := Aside0.mk hr0_6
 have HC0_6 := Aside0.mk hc0_6
 clear hr0_6 hc0_6
 have HB := Aside0.mk (Below.refl w.heap.size w)
 have H : ((scullerref13_Right_c.f a0_0 a0_1 a0_2 a0_3 a0_4 l0_5 l0_6).bind fun t102 => (if t102 = true then ((scullerref13_put.f ([] : List Int) (IntKind.u64.wrap (a0_0)) 1).bind fun t103 => ((scullerref13_put.f t103 a0_1 8).bind fun t106 => ((scullerref13_put.f t106 (IntKind.u64.wrap (a0_2)) 2).bind fun t109 => ((scullerref13_put.f t109 (IntKind.u64.wrap (a0_3)) 2).bind fun t112 => ((scullerref13_put.f t112 (IntKind.u64.wrap (a0_4)) 4).bind fun t115 => (scullerref13_Encode.l0 k t115 0 a0_0 a0_1 a0_2 a0_3 a0_4 l0_5 l0_6)))))) else (some (([] : List Int), 1)))) = some (r1, r2) := h
 clear h
 replace H := Option.bind_eq_some_iff.mp H
 obtain ⟨t102, A20, H⟩ := H
 replace H : (if t102 = true then ((scullerref13_put.f ([] : List Int) (IntKind.u64.wrap (a0_0)) 1).bind fun t103 => ((scullerref13_put.f t103 a0_1 8).bind fun t106 => ((scullerref13_put.f t106 (IntKind.u64.wrap (a0_2)) 2).bind fun t109 => ((scullerref13_put.f t109 (IntKind.u64.wrap (a0_3)) 2).bind fun t112 => ((scullerref13_put.f t112 (IntKind.u64.wrap (a0_4)) 4).bind fun t115 => (scullerref13_Encode.l0 k t115 0 a0_0 a0_1 a0_2 a0_3 a0_4 l0_5 l0_6)))))) else (some (([] : List Int), 1))) = some (r1, r2) := H
 have A2 := Aside0.mk A20
 clear A20
 by_cases c3 : t102 = true
 · subst c3
   have H1 : ((scullerref13_put.f ([] : List Int) (IntKind.u64.wrap (a0_0)) 1).bind fun t103 => ((scullerref13_put.f t103 a0_1 8).bind fun t106 => ((scullerref13_put.f t106 (IntKind.u64.wrap (a0_2)) 2).bind fun t109 => ((scullerref13_put.f t109 (IntKind.u64.wrap (a0_3)) 2).bind fun t112 => ((scullerref13_put.f t112 (IntKind.u64.wrap (a0_4)) 4).bind fun t115 => (scullerref13_Encode.l0 k t115 0 a0_0 a0_1 a0_2 a0_3 a0_4 l0_5 l0_6)))))) = some (r1, r2) := by rw [if_pos rfl] at H; exact H
   clear H
   have H := H1
   clear H1
   replace H := Option.bind_eq_some_iff.mp H
   obtain ⟨t103, A40, H⟩ := H
   replace H : ((scullerref13_put.f t103 a0_1 8).bind fun t106 => ((scullerref13_put.f t106 (IntKind.u64.wrap (a0_2)) 2).bind fun t109 => ((scullerref13_put.f t109 (IntKind.u64.wrap (a0_3)) 2).bind fun t112 => ((scullerref13_put.f t112 (IntKind.u64.wrap (a0_4)) 4).bind fun t115 => (scullerref13_Encode.l0 k t115 0 a0_0 a0_1 a0_2 a0_3 a0_4 l0_5 l0_6))))) = some (r1, r2) := H
   have A4 := Aside0.mk A40
   clear A40
   replace H := Option.bind_eq_some_iff.mp H
   obtain ⟨t106, A50, H⟩ := H
   replace H : ((scullerref13_put.f t106 (IntKind.u64.wrap (a0_2)) 2).bind fun t109 => ((scullerref13_put.f t109 (IntKind.u64.wrap (a0_3)) 2).bind fun t112 => ((scullerref13_put.f t112 (IntKind.u64.wrap (a0_4)) 4).bind fun t115 => (scullerref13_Encode.l0 k t115 0 a0_0 a0_1 a0_2 a0_3 a0_4 l0_5 l0_6)))) = some (r1, r2) := H
   have A5 := Aside0.mk A50
   clear A50
   replace H := Option.bind_eq_some_iff.mp H
   obtain ⟨t109, A60, H⟩ := H
   replace H : ((scullerref13_put.f t109 (IntKind.u64.wrap (a0_3)) 2).bind fun t112 => ((scullerref13_put.f t112 (IntKind.u64.wrap (a0_4)) 4).bind fun t115 => (scullerref13_Encode.l0 k t115 0 a0_0 a0_1 a0_2 a0_3 a0_4 l0_5 l0_6))) = some (r1, r2) := H
   have A6 := Aside0.mk A60
   clear A60
   replace H := Option.bind_eq_some_iff.mp H
   obtain ⟨t112, A70, H⟩ := H
   replace H : ((scullerref13_put.f t112 (IntKind.u64.wrap (a0_4)) 4).bind fun t115 => (scullerref13_Encode.l0 k t115 0 a0_0 a0_1 a0_2 a0_3 a0_4 l0_5 l0_6)) = some (r1, r2) := H
   have A7 := Aside0.mk A70
   clear A70
   replace H := Option.bind_eq_some_iff.mp H
   obtain ⟨t115, A80, H⟩ := H
   replace H : (scullerref13_Encode.l0 k t115 0 a0_0 a0_1 a0_2 a0_3 a0_4 l0_5 l0_6) = some (r1, r2) := H
   have A8 := Aside0.mk A80
   clear A80
   have H' := Aside0.mk H
   clear H
   go_enter Try.func15, Try.ntmps15
   try go_wp2_with (first | ((with_reducible refine gate_dst (N := 1) rfl ?_); refine box_event ?hg (N := 1) ?hd (cs := #[.int .i64 a0_0, .int .u64 a0_1, .int .i64 a0_2, .int .i64 a0_3, .int .u32 a0_4, .slice A0_5 l0_5.length c0_5, .slice A0_6 l0_6.length c0_6]) (t := 28) ?hr ?_; (case hd => rfl); (case hg => rfl); (case hr => first | (go_simp; done) | (go_simp; rfl)); intro gb101 hg w9 hbox hb; have n0_ := Aside0.mk (below_step (by repeat (first | (with_reducible first | exact HB.out | apply below_alloc | apply pw_below_drewN | apply below_drew1) | exact HB.out)) hb); have n1_ := Aside0.mk (hbox); have n2_ := Aside0.mk ((by rw [hg]; exact (below_size (by repeat (first | (with_reducible first | exact HB.out | apply below_alloc | apply pw_below_drewN | apply below_drew1) | exact HB.out))) : w.heap.size ≤ gb101)); have n3_ := Aside0.mk ((by rw [hg]; exact (below_size (by repeat (first | (with_reducible first | exact HB.out | apply below_alloc | apply pw_below_drewN | apply below_drew1) | exact HB.out))) : w.heap.size ≤ gb101)); clear HB; have HB := n0_; have BK101 := n1_; have GW101 := n2_; have GE101 := n3_; clear n0_ n1_ n2_ n3_; clear hb hbox hg; have hcz10_0 : w9.cell? ⟨gb101, 0, none⟩ = some (.int .i64 a0_0) := (blk_cell BK101.out 0).trans rfl; have hcz10_1 : w9.cell? ⟨gb101, 1, none⟩ = some (.int .u64 a0_1) := (blk_cell BK101.out 1).trans rfl; have hcz10_2 : w9.cell? ⟨gb101, 2, none⟩ = some (.int .i64 a0_2) := (blk_cell BK101.out 2).trans rfl; have hcz10_3 : w9.cell? ⟨gb101, 3, none⟩ = some (.int .i64 a0_3) := (blk_cell BK101.out 3).trans rfl; have hcz10_4 : w9.cell? ⟨gb101, 4, none⟩ = some (.int .u32 a0_4) := (blk_cell BK101.out 4).trans rfl; have hcz10_5 : w9.cell? ⟨gb101, 5, none⟩ = some (.slice A0_5 l0_5.length c0_5) := (blk_cell BK101.out 5).trans rfl; have hcz10_6 : w9.cell? ⟨gb101, 6, none⟩ = some (.slice A0_6 l0_6.length c0_6) := (blk_cell BK101.out 6).trans rfl; have hfz10_0 := blk_frozen BK101.out 0; have hfz10_1 := blk_frozen BK101.out 1; have hfz10_2 := blk_frozen BK101.out 2; have hfz10_3 := blk_frozen BK101.out 3; have hfz10_4 := blk_frozen BK101.out 4; have hfz10_5 := blk_frozen BK101.out 5; have hfz10_6 := blk_frozen BK101.out 6) | ((with_reducible refine gate_callee (f := 31) rfl ?_); refine goesL_ (some 7) rfl rfl Try.func31 (by kernel_rfl) rfl #[.agg #[.int .i64 a0_0, .int .u64 a0_1, .int .i64 a0_2, .int .i64 a0_3, .int .u32 a0_4, .slice A0_5 l0_5.length c0_5, .slice A0_6 l0_6.length c0_6]] rfl (by (try simp only [List.map_toArray, List.map_cons, List.map_nil]); first | done | rfl | (simp only [List.length_drop, List.length_take]; rfl)) ?_; (with_reducible refine (scullerref13_Right_c.calls a0_0 a0_1 a0_2 a0_3 a0_4 _ _ l0_5 _ _ l0_6 true _ ?side1 ?side2 ?side3 ?side4 A2.out).mono ?_); (case side1 => repeat (first | exact (Kd.C_below HR0_5.out HB.out) | (with_reducible refine Kd.C_alloc ?_ _) | (with_reducible refine Kd.C_drewN ?_ _) | (with_reducible refine Kd.C_drew ?_))); (case side2 => exact HC0_5.out); (case side3 => repeat (first | exact (Kd.C_below HR0_6.out HB.out) | (with_reducible refine Kd.C_alloc ?_ _) | (with_reducible refine Kd.C_drewN ?_ _) | (with_reducible refine Kd.C_drew ?_))); (case side4 => exact HC0_6.out); rintro e w11 ⟨rfl, hb⟩; refine ⟨_, rfl, ?_⟩; have n0_ := Aside0.mk (blk_below (g := gb101) (o := .cells #[.int .i64 a0_0, .int .u64 a0_1, .int .i64 a0_2, .int .i64 a0_3, .int .u32 a0_4, .slice A0_5 l0_5.length c0_5, .slice A0_6 l0_6.length c0_6] 28 (0, 0)) (by (with_reducible repeat (first | refine blk_drewN ?_ _ | refine blk_drew ?_ | refine blk_alloc ?_ _)); exact BK101.out) hb); have n1_ := Aside0.mk (below_step (by repeat (first | (with_reducible first | exact HB.out | apply below_alloc | apply pw_below_drewN | apply below_drew1 | refine below_set ?_ GE101.out) | exact HB.out)) hb); clear BK101; clear HB; have BK101 := n0_; have HB := n1_; clear n0_ n1_; (try clear hb); (try clear hb2); (try clear hk); (try clear hi)))
   have n0_ := Aside0.mk (blk_drew BK101.out)
   have n1_ := Aside0.mk (below_drew1 HB.out)
   clear BK101
   clear HB
   have BK101 := n0_
   have HB := n1_
   clear n0_ n1_
   refine start_ (n := 20) (S := fun w' => w'.cell? ⟨gb101, 0, none⟩ = some (.int .i64 a0_0) ∧ w'.cell? ⟨gb101, 1, none⟩ = some (.int .u64 a0_1) ∧ w'.cell? ⟨gb101, 2, none⟩ = some (.int .i64 a0_2) ∧ w'.cell? ⟨gb101, 3, none⟩ = some (.int .i64 a0_3) ∧ w'.cell? ⟨gb101, 4, none⟩ = some (.int .u32 a0_4) ∧ w'.cell? ⟨gb101, 5, none⟩ = some (.slice A0_5 l0_5.length c0_5) ∧ w'.cell? ⟨gb101, 6, none⟩ = some (.slice A0_6 l0_6.length c0_6)) (ds := []) #[false, false, false, false, false, false, false, false, false, false, false, false, false, false, false, false, false, false, false, false] (by kernel_rfl) rfl rfl ⟨(blk_cell BK101.out 0).trans rfl, (blk_cell BK101.out 1).trans rfl, (blk_cell BK101.out 2).trans rfl, (blk_cell BK101.out 3).trans rfl, (blk_cell BK101.out 4).trans rfl, (blk_cell BK101.out 5).trans rfl, (blk_cell BK101.out 6).trans rfl⟩ (fun hHeld => ?_); refine with_tabW scullerref13_Encode.tab3 scullerref13_Encode.bits3 (fun HT_ HW_ => ?_)
   generalize w11.drew = w12 at BK101 HB hHeld ⊢
   refine pure_ (i := 0) (N := some 9) (v := ?_) (a' := ?_) #[true, false, false, false, false, false, false, false, false, false, false, false, false, false, false, false, false, false, false, false] rfl rfl (any_of HT_.out (by kernel_rfl)) (fun _ _ _ h => h) (Or.inl ⟨by rfl, ?_⟩) ?_ ?_
   rotate_left
   · intro w'
     go_simp
     with_reducible rfl
   rotate_left
   · simp only [Act.put, List.setIfInBounds_toArray, List.set_cons_zero, List.set_cons_succ, i64_w, i32_w]
     rfl
   refine pure_ (i := 4) (N := some 13) (v := ?_) (a' := ?_) #[true, false, false, false, true, false, false, false, false, false, false, false, false, false, false, false, false, false, false, false] rfl rfl (any_of HT_.out (by kernel_rfl)) (fun _ _ _ h => h) (Or.inl ⟨by rfl, ?_⟩) ?_ ?_
   rotate_left
   · intro w'
     go_simp
     with_reducible rfl
   rotate_left
   · simp only [Act.put, List.setIfInBounds_toArray, List.set_cons_zero, List.set_cons_succ, i64_w, i32_w]
     rfl
   refine pure_ (i := 7) (N := some 16) (v := ?_) (a' := ?_) #[true, false, false, false, true, false, false, true, false, false, false, false, false, false, false, false, false, false, false, false] rfl rfl (any_of HT_.out (by kernel_rfl)) (fun _ _ _ h => h) (Or.inl ⟨by rfl, ?_⟩) ?_ ?_
   rotate_left
   · intro w'
     go_simp
     with_reducible rfl
   rotate_left
   · simp only [Act.put, List.setIfInBounds_toArray, List.set_cons_zero, List.set_cons_succ, i64_w, i32_w]
     rfl
   refine pure_ (i := 11) (N := some 20) (v := ?_) (a' := ?_) #[true, false, false, false, true, false, false, true, false, false, false, true, false, false, false, false, false, false, false, false] rfl rfl (any_of HT_.out (by kernel_rfl)) (fun _ _ _ h => h) (Or.inl ⟨by rfl, ?_⟩) ?_ ?_
   rotate_left
   · intro w'
     go_simp
     with_reducible rfl
   rotate_left
   · simp only [Act.put, List.setIfInBounds_toArray, List.set_cons_zero, List.set_cons_succ, i64_w, i32_w]
     rfl
   refine pure_ (i := 15) (N := some 24) (v := ?_) (a' := ?_) #[true, false, false, false, true, false, false, true, false, false, false, true, false, false, false, true, false, false, false, false] rfl rfl (any_of HT_.out (by kernel_rfl)) (fun _ _ _ h => h) (Or.inl ⟨by rfl, ?_⟩) ?_ ?_
   rotate_left
   · intro w'
     go_simp
     with_reducible rfl
   rotate_left
   · simp only [Act.put, List.setIfInBounds_toArray, List.set_cons_zero, List.set_cons_succ, i64_w, i32_w]
     rfl
   refine take_ (i := 1) (N := some 10) (v := ?_) (a' := ?_) #[true, true, false, false, true, false, false, true, false, false, false, true, false, false, false, true, false, false, false, false] rfl rfl (take_ofW HT_.out HW_.out (by kernel_rfl)) (fun _ _ _ h => h) (Or.inl ⟨by rfl, ?_⟩) hHeld ?_ ?_
   rotate_left
   · rintro w' ⟨s0, s1, s2, s3, s4, s5, s6⟩
     go_simp
     with_reducible rfl
   rotate_left
   · simp only [Act.put, List.setIfInBounds_toArray, List.set_cons_zero, List.set_cons_succ, i64_w, i32_w]
     rfl
   refine pure_ (i := 2) (N := some 11) (v := ?_) (a' := ?_) #[true, true, true, false, true, false, false, true, false, false, false, true, false, false, false, true, false, false, false, false] rfl rfl (any_of HT_.out (by kernel_rfl)) (fun _ _ _ h => h) (Or.inl ⟨by rfl, ?_⟩) ?_ ?_
   rotate_left
   · intro w'
     go_simp
     with_reducible rfl
   rotate_left
   · simp only [Act.put, List.setIfInBounds_toArray, List.set_cons_zero, List.set_cons_succ, i64_w, i32_w]
     rfl
   refine take_ (i := 5) (N := some 14) (v := ?_) (a' := ?_) #[true, true, true, false, true, true, false, true, false, false, false, true, false, false, false, true, false, false, false, false] rfl rfl (take_ofW HT_.out HW_.out (by kernel_rfl)) (fun _ _ _ h => h) (Or.inl ⟨by rfl, ?_⟩) hHeld ?_ ?_
   rotate_left
   · rintro w' ⟨s0, s1, s2, s3, s4, s5, s6⟩
     go_simp
     with_reducible rfl
   rotate_left
   · simp only [Act.put, List.setIfInBounds_toArray, List.set_cons_zero, List.set_cons_succ, i64_w, i32_w]
     rfl
   refine take_ (i := 8) (N := some 17) (v := ?_) (a' := ?_) #[true, true, true, false, true, true, false, true, true, false, false, true, false, false, false, true, false, false, false, false] rfl rfl (take_ofW HT_.out HW_.out (by kernel_rfl)) (fun _ _ _ h => h) (Or.inl ⟨by rfl, ?_⟩) hHeld ?_ ?_
   rotate_left
   · rintro w' ⟨s0, s1, s2, s3, s4, s5, s6⟩
     go_simp
     with_reducible rfl
   rotate_left
   · simp only [Act.put, List.setIfInBounds_toArray, List.set_cons_zero, List.set_cons_succ, i64_w, i32_w]
     rfl
   refine pure_ (i := 9) (N := some 18) (v := ?_) (a' := ?_) #[true, true, true, false, true, true, false, true, true, true, false, true, false, false, false, true, false, false, false, false] rfl rfl (any_of HT_.out (by kernel_rfl)) (fun _ _ _ h => h) (Or.inl ⟨by rfl, ?_⟩) ?_ ?_
   rotate_left
   · intro w'
     go_simp
     with_reducible rfl
   rotate_left
   · simp only [Act.put, List.setIfInBounds_toArray, List.set_cons_zero, List.set_cons_succ, i64_w, i32_w]
     rfl
   refine take_ (i := 12) (N := some 21) (v := ?_) (a' := ?_) #[true, true, true, false, true, true, false, true, true, true, false, true, true, false, false, true, false, false, false, false] rfl rfl (take_ofW HT_.out HW_.out (by kernel_rfl)) (fun _ _ _ h => h) (Or.inl ⟨by rfl, ?_⟩) hHeld ?_ ?_
   rotate_left
   · rintro w' ⟨s0, s1, s2, s3, s4, s5, s6⟩
     go_simp
     with_reducible rfl
   rotate_left
   · simp only [Act.put, List.setIfInBounds_toArray, List.set_cons_zero, List.set_cons_succ, i64_w, i32_w]
     rfl
   refine pure_ (i := 13) (N := some 22) (v := ?_) (a' := ?_) #[true, true, true, false, true, true, false, true, true, true, false, true, true, true, false, true, false, false, false, false] rfl rfl (any_of HT_.out (by kernel_rfl)) (fun _ _ _ h => h) (Or.inl ⟨by rfl, ?_⟩) ?_ ?_
   rotate_left
   · intro w'
     go_simp
     with_reducible rfl
   rotate_left
   · simp only [Act.put, List.setIfInBounds_toArray, List.set_cons_zero, List.set_cons_succ, i64_w, i32_w]
     rfl
   refine take_ (i := 16) (N := some 25) (v := ?_) (a' := ?_) #[true, true, true, false, true, true, false, true, true, true, false, true, true, true, false, true, true, false, false, false] rfl rfl (take_ofW HT_.out HW_.out (by kernel_rfl)) (fun _ _ _ h => h) (Or.inl ⟨by rfl, ?_⟩) hHeld ?_ ?_
   rotate_left
   · rintro w' ⟨s0, s1, s2, s3, s4, s5, s6⟩
     go_simp
     with_reducible rfl
   rotate_left
   · simp only [Act.put, List.setIfInBounds_toArray, List.set_cons_zero, List.set_cons_succ, i64_w, i32_w]
     rfl
   refine pure_ (i := 17) (N := some 26) (v := ?_) (a' := ?_) #[true, true, true, false, true, true, false, true, true, true, false, true, true, true, false, true, true, true, false, false] rfl rfl (any_of HT_.out (by kernel_rfl)) (fun _ _ _ h => h) (Or.inl ⟨by rfl, ?_⟩) ?_ ?_
   rotate_left
   · intro w'
     go_simp
     with_reducible rfl
   rotate_left
   · simp only [Act.put, List.setIfInBounds_toArray, List.set_cons_zero, List.set_cons_succ, i64_w, i32_w]
     rfl
   refine one_ (i := 3) (N := some 12) #[true, true, true, true, true, true, false, true, true, true, false, true, true, true, false, true, true, true, false, false] rfl rfl (one_of HT_.out (by kernel_rfl)) (by decide) (fun K hK => ?_)
   refine goes_ Try.func32 (by kernel_rfl) rfl #[.slice none 0 0, .int .u64 (IntKind.u64.wrap (a0_0)), .int .i64 1] (by rfl) rfl rfl (by (try simp only [List.map_toArray, List.map_cons, List.map_nil]); first | done | rfl | (simp only [List.length_drop, List.length_take]; rfl)) ?_
   refine (scullerref13_put.calls _ _ ([] : List Int) (IntKind.u64.wrap (a0_0)) 1 t103 _ ?side1 ?side2 A4.out).mono ?_
   (case side1 => exact Kd.C_nil _ _)
   (case side2 => exact Nat.le_refl _)
   rintro e w13 ⟨v104, rfl, ho0, hb⟩
   refine ⟨_, rfl, ?_⟩
   have n0_ := Aside0.mk (Kd.R_lower ho0 (below_size (by repeat (first | (with_reducible first | exact HB.out | apply below_alloc | apply pw_below_drewN | apply below_drew1 | refine below_set ?_ GE101.out) | exact HB.out))))
   have n1_ := Aside0.mk (blk_below (g := gb101) (o := .cells #[.int .i64 a0_0, .int .u64 a0_1, .int .i64 a0_2, .int .i64 a0_3, .int .u32 a0_4, .slice A0_5 l0_5.length c0_5, .slice A0_6 l0_6.length c0_6] 28 (0, 0)) (by (with_reducible repeat (first | refine blk_drewN ?_ _ | refine blk_drew ?_ | refine blk_alloc ?_ _)); exact BK101.out) hb)
   have n2_ := Aside0.mk (below_step (by repeat (first | (with_reducible first | exact HB.out | apply below_alloc | apply pw_below_drewN | apply below_drew1 | refine below_set ?_ GE101.out) | exact HB.out)) hb)
   clear BK101
   clear HB
   have HO105 := n0_
   have BK101 := n1_
   have HB := n2_
   clear n0_ n1_ n2_
   (try clear hb)
   (try clear hb2)
   (try clear hk)
   (try clear hi)
   (try clear ho0)
   obtain ⟨Ao14, co14, eo14⟩ := Kd.R_slice HO105.out
   (first | subst eo14 | (injection eo14 with f1_ f2_ f3_; have f4_ := f1_.symm; have f5_ := f3_.symm; clear f1_ f2_ f3_; subst f4_; subst f5_))
   refine hK.out _ _ ⟨(blk_cell BK101.out 0).trans rfl, (blk_cell BK101.out 1).trans rfl, (blk_cell BK101.out 2).trans rfl, (blk_cell BK101.out 3).trans rfl, (blk_cell BK101.out 4).trans rfl, (blk_cell BK101.out 5).trans rfl, (blk_cell BK101.out 6).trans rfl⟩ (fun hHeld => ?_)
   clear hK K
   refine norm_ (a' := ?_) ?_ ?_
   rotate_left
   · show Act.put _ (some 12) _ = _
     simp only [Act.put, List.setIfInBounds_toArray, List.set_cons_zero, List.set_cons_succ, i64_w, i32_w]
     rfl
   refine one_ (i := 6) (N := some 15) #[true, true, true, true, true, true, true, true, true, true, false, true, true, true, false, true, true, true, false, false] rfl rfl (one_of HT_.out (by kernel_rfl)) (by decide) (fun K hK => ?_)
   refine goes_ Try.func32 (by kernel_rfl) rfl #[.slice Ao14 t103.length co14, .int .u64 a0_1, .int .i64 8] (by rfl) rfl rfl (by (try simp only [List.map_toArray, List.map_cons, List.map_nil]); first | done | rfl | (simp only [List.length_drop, List.length_take]; rfl)) ?_
   with_reducible refine (scullerref13_put.calls _ _ t103 a0_1 8 t106 _ ?side1 ?side2 A5.out).mono ?_
   (case side1 => repeat (first | exact (Kd.R_reads' HO105.out).2.2 | (with_reducible refine Kd.C_alloc ?_ _) | (with_reducible refine Kd.C_drewN ?_ _) | (with_reducible refine Kd.C_drew ?_)))
   (case side2 => exact (Kd.R_reads' HO105.out).2.1)
   rintro e w15 ⟨v107, rfl, ho0, hb⟩
   refine ⟨_, rfl, ?_⟩
   have n0_ := Aside0.mk (Kd.R_elder' (by (with_reducible repeat (first | apply Kd.R_alloc | apply Kd.R_drewN | apply Kd.R_drew)); exact HO105.out) (Kd.R_base ho0) hb)
   have n1_ := Aside0.mk (Kd.R_lower (Kd.R_new' ho0 (Kd.R_lt (by (with_reducible repeat (first | apply Kd.R_alloc | apply Kd.R_drewN | apply Kd.R_drew)); exact HO105.out))) (below_size (by repeat (first | (with_reducible first | exact HB.out | apply below_alloc | apply pw_below_drewN | apply below_drew1 | refine below_set ?_ GE101.out) | exact HB.out))))
   have n2_ := Aside0.mk (blk_below (g := gb101) (o := .cells #[.int .i64 a0_0, .int .u64 a0_1, .int .i64 a0_2, .int .i64 a0_3, .int .u32 a0_4, .slice A0_5 l0_5.length c0_5, .slice A0_6 l0_6.length c0_6] 28 (0, 0)) (by (with_reducible repeat (first | refine blk_drewN ?_ _ | refine blk_drew ?_ | refine blk_alloc ?_ _)); exact BK101.out) hb)
   have n3_ := Aside0.mk (below_step (by repeat (first | (with_reducible first | exact HB.out | apply below_alloc | apply pw_below_drewN | apply below_drew1 | refine below_set ?_ GE101.out) | exact HB.out)) hb)
   clear HO105
   clear BK101
   clear HB
   have HO105 := n0_
   have HO108 := n1_
   have BK101 := n2_
   have HB := n3_
   clear n0_ n1_ n2_ n3_
   (try clear hb)
   (try clear hb2)
   (try clear hk)
   (try clear hi)
   (try clear ho0)
   obtain ⟨Ao16, co16, eo16⟩ := Kd.R_slice HO108.out
   (first | subst eo16 | (injection eo16 with f1_ f2_ f3_; have f4_ := f1_.symm; have f5_ := f3_.symm; clear f1_ f2_ f3_; subst f4_; subst f5_))
   refine hK.out _ _ ⟨(blk_cell BK101.out 0).trans rfl, (blk_cell BK101.out 1).trans rfl, (blk_cell BK101.out 2).trans rfl, (blk_cell BK101.out 3).trans rfl, (blk_cell BK101.out 4).trans rfl, (blk_cell BK101.out 5).trans rfl, (blk_cell BK101.out 6).trans rfl⟩ (fun hHeld => ?_)
   clear hK K
   refine norm_ (a' := ?_) ?_ ?_
   rotate_left
   · show Act.put _ (some 15) _ = _
     simp only [Act.put, List.setIfInBounds_toArray, List.set_cons_zero, List.set_cons_succ, i64_w, i32_w]
     rfl
   refine one_ (i := 10) (N := some 19) #[true, true, true, true, true, true, true, true, true, true, true, true, true, true, false, true, true, true, false, false] rfl rfl (one_of HT_.out (by kernel_rfl)) (by decide) (fun K hK => ?_)
   refine goes_ Try.func32 (by kernel_rfl) rfl #[.slice Ao16 t106.length co16, .int .u64 (IntKind.u64.wrap (a0_2)), .int .i64 2] (by rfl) rfl rfl (by (try simp only [List.map_toArray, List.map_cons, List.map_nil]); first | done | rfl | (simp only [List.length_drop, List.length_take]; rfl)) ?_
   with_reducible refine (scullerref13_put.calls _ _ t106 (IntKind.u64.wrap (a0_2)) 2 t109 _ ?side1 ?side2 A6.out).mono ?_
   (case side1 => repeat (first | exact (Kd.R_reads' HO108.out).2.2 | (with_reducible refine Kd.C_alloc ?_ _) | (with_reducible refine Kd.C_drewN ?_ _) | (with_reducible refine Kd.C_drew ?_)))
   (case side2 => exact (Kd.R_reads' HO108.out).2.1)
   rintro e w17 ⟨v110, rfl, ho0, hb⟩
   refine ⟨_, rfl, ?_⟩
   have n0_ := Aside0.mk (Kd.R_elder' (by (with_reducible repeat (first | apply Kd.R_alloc | apply Kd.R_drewN | apply Kd.R_drew)); exact HO105.out) (Kd.R_base ho0) hb)
   have n1_ := Aside0.mk (Kd.R_elder' (by (with_reducible repeat (first | apply Kd.R_alloc | apply Kd.R_drewN | apply Kd.R_drew)); exact HO108.out) (Kd.R_base ho0) hb)
   have n2_ := Aside0.mk (Kd.R_lower (Kd.R_new' (Kd.R_new' ho0 (Kd.R_lt (by (with_reducible repeat (first | apply Kd.R_alloc | apply Kd.R_drewN | apply Kd.R_drew)); exact HO105.out))) (Kd.R_lt (by (with_reducible repeat (first | apply Kd.R_alloc | apply Kd.R_drewN | apply Kd.R_drew)); exact HO108.out))) (below_size (by repeat (first | (with_reducible first | exact HB.out | apply below_alloc | apply pw_below_drewN | apply below_drew1 | refine below_set ?_ GE101.out) | exact HB.out))))
   have n3_ := Aside0.mk (blk_below (g := gb101) (o := .cells #[.int .i64 a0_0, .int .u64 a0_1, .int .i64 a0_2, .int .i64 a0_3, .int .u32 a0_4, .slice A0_5 l0_5.length c0_5, .slice A0_6 l0_6.length c0_6] 28 (0, 0)) (by (with_reducible repeat (first | refine blk_drewN ?_ _ | refine blk_drew ?_ | refine blk_alloc ?_ _)); exact BK101.out) hb)
   have n4_ := Aside0.mk (below_step (by repeat (first | (with_reducible first | exact HB.out | apply below_alloc | apply pw_below_drewN | apply below_drew1 | refine below_set ?_ GE101.out) | exact HB.out)) hb)
   clear HO105
   clear HO108
   clear BK101
   clear HB
   have HO105 := n0_
   have HO108 := n1_
   have HO111 := n2_
   have BK101 := n3_
   have HB := n4_
   clear n0_ n1_ n2_ n3_ n4_
   (try clear hb)
   (try clear hb2)
   (try clear hk)
   (try clear hi)
   (try clear ho0)
   obtain ⟨Ao18, co18, eo18⟩ := Kd.R_slice HO111.out
   (first | subst eo18 | (injection eo18 with f1_ f2_ f3_; have f4_ := f1_.symm; have f5_ := f3_.symm; clear f1_ f2_ f3_; subst f4_; subst f5_))
   refine hK.out _ _ ⟨(blk_cell BK101.out 0).trans rfl, (blk_cell BK101.out 1).trans rfl, (blk_cell BK101.out 2).trans rfl, (blk_cell BK101.out 3).trans rfl, (blk_cell BK101.out 4).trans rfl, (blk_cell BK101.out 5).trans rfl, (blk_cell BK101.out 6).trans rfl⟩ (fun hHeld => ?_)
   clear hK K
   refine norm_ (a' := ?_) ?_ ?_
   rotate_left
   · show Act.put _ (some 19) _ = _
     simp only [Act.put, List.setIfInBounds_toArray, List.set_cons_zero, List.set_cons_succ, i64_w, i32_w]
     rfl
   refine one_ (i := 14) (N := some 23) #[true, true, true, true, true, true, true, true, true, true, true, true, true, true, true, true, true, true, false, false] rfl rfl (one_of HT_.out (by kernel_rfl)) (by decide) (fun K hK => ?_)
   refine goes_ Try.func32 (by kernel_rfl) rfl #[.slice Ao18 t109.length co18, .int .u64 (IntKind.u64.wrap (a0_3)), .int .i64 2] (by rfl) rfl rfl (by (try simp only [List.map_toArray, List.map_cons, List.map_nil]); first | done | rfl | (simp only [List.length_drop, List.length_take]; rfl)) ?_
   with_reducible refine (scullerref13_put.calls _ _ t109 (IntKind.u64.wrap (a0_3)) 2 t112 _ ?side1 ?side2 A7.out).mono ?_
   (case side1 => repeat (first | exact (Kd.R_reads' HO111.out).2.2 | (with_reducible refine Kd.C_alloc ?_ _) | (with_reducible refine Kd.C_drewN ?_ _) | (with_reducible refine Kd.C_drew ?_)))
   (case side2 => exact (Kd.R_reads' HO111.out).2.1)
   rintro e w19 ⟨v113, rfl, ho0, hb⟩
   refine ⟨_, rfl, ?_⟩
   have n0_ := Aside0.mk (Kd.R_elder' (by (with_reducible repeat (first | apply Kd.R_alloc | apply Kd.R_drewN | apply Kd.R_drew)); exact HO105.out) (Kd.R_base ho0) hb)
   have n1_ := Aside0.mk (Kd.R_elder' (by (with_reducible repeat (first | apply Kd.R_alloc | apply Kd.R_drewN | apply Kd.R_drew)); exact HO108.out) (Kd.R_base ho0) hb)
   have n2_ := Aside0.mk (Kd.R_elder' (by (with_reducible repeat (first | apply Kd.R_alloc | apply Kd.R_drewN | apply Kd.R_drew)); exact HO111.out) (Kd.R_base ho0) hb)
   have n3_ := Aside0.mk (Kd.R_lower (Kd.R_new' (Kd.R_new' (Kd.R_new' ho0 (Kd.R_lt (by (with_reducible repeat (first | apply Kd.R_alloc | apply Kd.R_drewN | apply Kd.R_drew)); exact HO105.out))) (Kd.R_lt (by (with_reducible repeat (first | apply Kd.R_alloc | apply Kd.R_drewN | apply Kd.R_drew)); exact HO108.out))) (Kd.R_lt (by (with_reducible repeat (first | apply Kd.R_alloc | apply Kd.R_drewN | apply Kd.R_drew)); exact HO111.out))) (below_size (by repeat (first | (with_reducible first | exact HB.out | apply below_alloc | apply pw_below_drewN | apply below_drew1 | refine below_set ?_ GE101.out) | exact HB.out))))
   have n4_ := Aside0.mk (blk_below (g := gb101) (o := .cells #[.int .i64 a0_0, .int .u64 a0_1, .int .i64 a0_2, .int .i64 a0_3, .int .u32 a0_4, .slice A0_5 l0_5.length c0_5, .slice A0_6 l0_6.length c0_6] 28 (0, 0)) (by (with_reducible repeat (first | refine blk_drewN ?_ _ | refine blk_drew ?_ | refine blk_alloc ?_ _)); exact BK101.out) hb)
   have n5_ := Aside0.mk (below_step (by repeat (first | (with_reducible first | exact HB.out | apply below_alloc | apply pw_below_drewN | apply below_drew1 | refine below_set ?_ GE101.out) | exact HB.out)) hb)
   clear HO105
   clear HO108
   clear HO111
   clear BK101
   clear HB
   have HO105 := n0_
   have HO108 := n1_
   have HO111 := n2_
   have HO114 := n3_
   have BK101 := n4_
   have HB := n5_
   clear n0_ n1_ n2_ n3_ n4_ n5_
   (try clear hb)
   (try clear hb2)
   (try clear hk)
   (try clear hi)
   (try clear ho0)
   obtain ⟨Ao20, co20, eo20⟩ := Kd.R_slice HO114.out
   (first | subst eo20 | (injection eo20 with f1_ f2_ f3_; have f4_ := f1_.symm; have f5_ := f3_.symm; clear f1_ f2_ f3_; subst f4_; subst f5_))
   refine hK.out _ _ ⟨(blk_cell BK101.out 0).trans rfl, (blk_cell BK101.out 1).trans rfl, (blk_cell BK101.out 2).trans rfl, (blk_cell BK101.out 3).trans rfl, (blk_cell BK101.out 4).trans rfl, (blk_cell BK101.out 5).trans rfl, (blk_cell BK101.out 6).trans rfl⟩ (fun hHeld => ?_)
   clear hK K
   refine norm_ (a' := ?_) ?_ ?_
   rotate_left
   · show Act.put _ (some 23) _ = _
     simp only [Act.put, List.setIfInBounds_toArray, List.set_cons_zero, List.set_cons_succ, i64_w, i32_w]
     rfl
   refine one_ (i := 18) (N := some 27) #[true, true, true, true, true, true, true, true, true, true, true, true, true, true, true, true, true, true, true, false] rfl rfl (one_of HT_.out (by kernel_rfl)) (by decide) (fun K hK => ?_)
   refine goes_ Try.func32 (by kernel_rfl) rfl #[.slice Ao20 t112.length co20, .int .u64 (IntKind.u64.wrap (a0_4)), .int .i64 4] (by rfl) rfl rfl (by (try simp only [List.map_toArray, List.map_cons, List.map_nil]); first | done | rfl | (simp only [List.length_drop, List.length_take]; rfl)) ?_
   with_reducible refine (scullerref13_put.calls _ _ t112 (IntKind.u64.wrap (a0_4)) 4 t115 _ ?side1 ?side2 A8.out).mono ?_
   (case side1 => repeat (first | exact (Kd.R_reads' HO114.out).2.2 | (with_reducible refine Kd.C_alloc ?_ _) | (with_reducible refine Kd.C_drewN ?_ _) | (with_reducible refine Kd.C_drew ?_)))
   (case side2 => exact (Kd.R_reads' HO114.out).2.1)
   rintro e w21 ⟨v116, rfl, ho0, hb⟩
   refine ⟨_, rfl, ?_⟩
   have n0_ := Aside0.mk (Kd.R_elder' (by (with_reducible repeat (first | apply Kd.R_alloc | apply Kd.R_drewN | apply Kd.R_drew)); exact HO105.out) (Kd.R_base ho0) hb)
   have n1_ := Aside0.mk (Kd.R_elder' (by (with_reducible repeat (first | apply Kd.R_alloc | apply Kd.R_drewN | apply Kd.R_drew)); exact HO108.out) (Kd.R_base ho0) hb)
   have n2_ := Aside0.mk (Kd.R_elder' (by (with_reducible repeat (first | apply Kd.R_alloc | apply Kd.R_drewN | apply Kd.R_drew)); exact HO111.out) (Kd.R_base ho0) hb)
   have n3_ := Aside0.mk (Kd.R_elder' (by (with_reducible repeat (first | apply Kd.R_alloc | apply Kd.R_drewN | apply Kd.R_drew)); exact HO114.out) (Kd.R_base ho0) hb)
   have n4_ := Aside0.mk (Kd.R_lower (Kd.R_new' (Kd.R_new' (Kd.R_new' (Kd.R_new' ho0 (Kd.R_lt (by (with_reducible repeat (first | apply Kd.R_alloc | apply Kd.R_drewN | apply Kd.R_drew)); exact HO105.out))) (Kd.R_lt (by (with_reducible repeat (first | apply Kd.R_alloc | apply Kd.R_drewN | apply Kd.R_drew)); exact HO108.out))) (Kd.R_lt (by (with_reducible repeat (first | apply Kd.R_alloc | apply Kd.R_drewN | apply Kd.R_drew)); exact HO111.out))) (Kd.R_lt (by (with_reducible repeat (first | apply Kd.R_alloc | apply Kd.R_drewN | apply Kd.R_drew)); exact HO114.out))) (below_size (by repeat (first | (with_reducible first | exact HB.out | apply below_alloc | apply pw_below_drewN | apply below_drew1 | refine below_set ?_ GE101.out) | exact HB.out))))
   have n5_ := Aside0.mk (blk_below (g := gb101) (o := .cells #[.int .i64 a0_0, .int .u64 a0_1, .int .i64 a0_2, .int .i64 a0_3, .int .u32 a0_4, .slice A0_5 l0_5.length c0_5, .slice A0_6 l0_6.length c0_6] 28 (0, 0)) (by (with_reducible repeat (first | refine blk_drewN ?_ _ | refine blk_drew ?_ | refine blk_alloc ?_ _)); exact BK101.out) hb)
   have n6_ := Aside0.mk (below_step (by repeat (first | (with_reducible first | exact HB.out | apply below_alloc | apply pw_below_drewN | apply below_drew1 | refine below_set ?_ GE101.out) | exact HB.out)) hb)
   clear HO105
   clear HO108
   clear HO111
   clear HO114
   clear BK101
   clear HB
   have HO105 := n0_
   have HO108 := n1_
   have HO111 := n2_
   have HO114 := n3_
   have HO117 := n4_
   have BK101 := n5_
   have HB := n6_
   clear n0_ n1_ n2_ n3_ n4_ n5_ n6_
   (try clear hb)
   (try clear hb2)
   (try clear hk)
   (try clear hi)
   (try clear ho0)
   refine hK.out _ _ ⟨(blk_cell BK101.out 0).trans rfl, (blk_cell BK101.out 1).trans rfl, (blk_cell BK101.out 2).trans rfl, (blk_cell BK101.out 3).trans rfl, (blk_cell BK101.out 4).trans rfl, (blk_cell BK101.out 5).trans rfl, (blk_cell BK101.out 6).trans rfl⟩ (fun hHeld => ?_)
   clear hK K
   refine norm_ (a' := ?_) ?_ ?_
   rotate_left
   · show Act.put _ (some 27) _ = _
     simp only [Act.put, List.setIfInBounds_toArray, List.set_cons_zero, List.set_cons_succ, i64_w, i32_w]
     rfl
   refine pure_ (i := 19) (N := some 4) (v := ?_) (a' := ?_) #[true, true, true, true, true, true, true, true, true, true, true, true, true, true, true, true, true, true, true, true] rfl rfl (any_of HT_.out (by kernel_rfl)) (fun _ _ _ h => h) (Or.inl ⟨by rfl, ?_⟩) ?_ ?_
   rotate_left
   · intro w'
     go_simp
     with_reducible rfl
   rotate_left
   · simp only [Act.put, List.setIfInBounds_toArray, List.set_cons_zero, List.set_cons_succ, i64_w, i32_w]
     rfl
   refine done_ (done_of HT_.out (by kernel_rfl)) ?_
   try go_wp2
   go_loopg [4, 5] k (fun kq v4 v5 w' => ∃ (x4_1 : List Int) (x5_1 : Int), v5 = .int .i64 x5_1 ∧ Aside0 (scullerref13_Encode.l0 kq x4_1 x5_1 a0_0 a0_1 a0_2 a0_3 a0_4 l0_5 l0_6 = some (r1, r2)) ∧ Aside0 (kq ≤ k) ∧ Aside0 (Kd.R (Kd.int .u8) 5 w' w.heap.size (fun _ => True) v4 x4_1) ∧ Aside0 (w'.heap[gb101]? = some (.cells #[.int .i64 a0_0, .int .u64 a0_1, .int .i64 a0_2, .int .i64 a0_3, .int .u32 a0_4, (.slice A0_5 l0_5.length c0_5), (.slice A0_6 l0_6.length c0_6)] 28 (0, 0))) ∧ Aside0 (Below w.heap.size w w'))
   case atStart => exact ⟨(t115), (0), (by first | rfl | (simp; done) | (simp [*]; done)), H', ⟨Nat.le_refl _⟩, ⟨by (with_reducible repeat (first | apply Kd.R_alloc | apply Kd.R_drewN | apply Kd.R_drew)); exact Kd.R_mono HO117.out (fun _ hk => trivial)⟩, ⟨by (with_reducible repeat (first | refine blk_drewN ?_ _ | refine blk_drew ?_ | refine blk_alloc ?_ _)); exact BK101.out⟩, ⟨by repeat (first | (with_reducible first | exact HB.out | apply below_alloc | apply pw_below_drewN | apply below_drew1 | refine below_set ?_ GE101.out) | exact HB.out)⟩⟩
   case round =>
    clear H'
    try clear c1
    try clear p2
    try clear c3
    try clear c15
    try clear hcz10_0
    try clear hcz10_1
    try clear hcz10_2
    try clear hcz10_3
    try clear hcz10_4
    try clear hcz10_5
    try clear hcz10_6
    try clear hfz10_0
    try clear hfz10_1
    try clear hfz10_2
    try clear hfz10_3
    try clear hfz10_4
    try clear hfz10_5
    try clear hfz10_6
    obtain ⟨x4_1, x5_1, rfl, HA, HK1, HO_4, BK101, HB⟩ := hrel
    cases gk with
    | zero => exact absurd HA.out (by simp [scullerref13_Encode.l0])
    | succ k1 =>
      have H := HA.out
      clear HA
      simp only [scullerref13_Encode.l0] at H
      by_cases c22 : x5_1 < (l0_5.length : Int)
      · rw [if_pos c22] at H
        have c22b0 : decide (x5_1 < (l0_5.length : Int)) = true := decide_eq_true c22
        clear c22
        by_cases c23 : 0 ≤ x5_1
        · rw [if_pos c23] at H
          have c23b0 : decide (0 ≤ x5_1) = true := decide_eq_true c23
          clear c23
          replace H := Option.bind_eq_some_iff.mp H
          obtain ⟨t119, A240, H⟩ := H
          replace H : (scullerref13_Encode.l0 k1 t119 (wrap64 (x5_1 + 1)) a0_0 a0_1 a0_2 a0_3 a0_4 l0_5 l0_6) = some (r1, r2) := H
          have A24 := Aside0.mk A240
          clear A240
          have H' := Aside0.mk H
          clear H
          have hcz25_0 : wr.cell? ⟨gb101, 0, none⟩ = some (.int .i64 a0_0) := (blk_cell BK101.out 0).trans rfl
          have hcz25_1 : wr.cell? ⟨gb101, 1, none⟩ = some (.int .u64 a0_1) := (blk_cell BK101.out 1).trans rfl
          have hcz25_2 : wr.cell? ⟨gb101, 2, none⟩ = some (.int .i64 a0_2) := (blk_cell BK101.out 2).trans rfl
          have hcz25_3 : wr.cell? ⟨gb101, 3, none⟩ = some (.int .i64 a0_3) := (blk_cell BK101.out 3).trans rfl
          have hcz25_4 : wr.cell? ⟨gb101, 4, none⟩ = some (.int .u32 a0_4) := (blk_cell BK101.out 4).trans rfl
          have hcz25_5 : wr.cell? ⟨gb101, 5, none⟩ = some (.slice A0_5 l0_5.length c0_5) := (blk_cell BK101.out 5).trans rfl
          have hcz25_6 : wr.cell? ⟨gb101, 6, none⟩ = some (.slice A0_6 l0_6.length c0_6) := (blk_cell BK101.out 6).trans rfl
          have hfz25_0 := blk_frozen BK101.out 0
          have hfz25_1 := blk_frozen BK101.out 1
          have hfz25_2 := blk_frozen BK101.out 2
          have hfz25_3 := blk_frozen BK101.out 3
          have hfz25_4 := blk_frozen BK101.out 4
          have hfz25_5 := blk_frozen BK101.out 5
          have hfz25_6 := blk_frozen BK101.out 6
          have p118 : 0 ≤ (x5_1 : Int) := of_decide_eq_true (by first | (with_reducible assumption) | assumption)
          have q118 : x5_1 < (l0_5.length : Int) := of_decide_eq_true (by first | (with_reducible assumption) | assumption)
          obtain ⟨ad118, e118, hx118_0⟩ := Kd.at_int HR0_5.out x5_1 p118 q118
          cases e118
          replace hx118_0 := (HB.out.cell (World.block_lt_of_cell? w _ hx118_0)).trans hx118_0
          replace p118 := eq_true p118
          replace q118 := eq_true q118
          obtain ⟨Ao26, co26, eo26⟩ := Kd.R_slice HO_4.out
          subst eo26
          go_wp2_with (first | ((with_reducible refine gate_callee (f := 32) rfl ?_); refine goesL_ (some 42) rfl rfl Try.func32 (by kernel_rfl) rfl #[.slice Ao26 x4_1.length co26, .int .u64 (IntKind.u64.wrap (rd l0_5 x5_1)), .int .i64 2] rfl (by (try simp only [List.map_toArray, List.map_cons, List.map_nil]); first | done | rfl | (simp only [List.length_drop, List.length_take]; rfl)) ?_; (with_reducible refine (scullerref13_put.calls _ _ x4_1 (IntKind.u64.wrap (rd l0_5 x5_1)) 2 t119 _ ?side1 ?side2 A24.out).mono ?_); (case side1 => repeat (first | exact (Kd.R_reads' HO_4.out).2.2 | (with_reducible refine Kd.C_alloc ?_ _) | (with_reducible refine Kd.C_drewN ?_ _) | (with_reducible refine Kd.C_drew ?_))); (case side2 => exact (Kd.R_reads' HO_4.out).2.1); rintro e w27 ⟨v120, rfl, ho0, hb⟩; refine ⟨_, rfl, ?_⟩; have n0_ := Aside0.mk (Kd.R_elder' (by (with_reducible repeat (first | apply Kd.R_alloc | apply Kd.R_drewN | apply Kd.R_drew)); exact HO_4.out) (Kd.R_base ho0) hb); have n1_ := Aside0.mk (Kd.R_lower (Kd.R_new' ho0 (Kd.R_lt (by (with_reducible repeat (first | apply Kd.R_alloc | apply Kd.R_drewN | apply Kd.R_drew)); exact HO_4.out))) (below_size (by repeat (first | (with_reducible first | exact HB.out | apply below_alloc | apply pw_below_drewN | apply below_drew1 | refine below_set ?_ GE101.out) | exact HB.out)))); have n2_ := Aside0.mk (blk_below (g := gb101) (o := .cells #[.int .i64 a0_0, .int .u64 a0_1, .int .i64 a0_2, .int .i64 a0_3, .int .u32 a0_4, .slice (some ad118) l0_5.length c0_5, .slice A0_6 l0_6.length c0_6] 28 (0, 0)) (by (with_reducible repeat (first | refine blk_drewN ?_ _ | refine blk_drew ?_ | refine blk_alloc ?_ _)); exact BK101.out) hb); have n3_ := Aside0.mk (below_step (by repeat (first | (with_reducible first | exact HB.out | apply below_alloc | apply pw_below_drewN | apply below_drew1 | refine below_set ?_ GE101.out) | exact HB.out)) hb); clear HO_4; clear BK101; clear HB; have HO_4 := n0_; have HO121 := n1_; have BK101 := n2_; have HB := n3_; clear n0_ n1_ n2_ n3_; (try clear hb); (try clear hb2); (try clear hk); (try clear hi); (try clear ho0)))
          go_roundg k1
          case measure => have := HK1.out; omega
          case rel => exact ⟨(t119), (wrap64 (x5_1 + 1)), (by first | rfl | (simp; done) | (simp [*]; done)), H', ⟨by have := HK1.out; omega⟩, ⟨by (with_reducible repeat (first | apply Kd.R_alloc | apply Kd.R_drewN | apply Kd.R_drew)); exact Kd.R_mono HO121.out (fun _ hk => trivial)⟩, ⟨by (with_reducible repeat (first | refine blk_drewN ?_ _ | refine blk_drew ?_ | refine blk_alloc ?_ _)); exact BK101.out⟩, ⟨by repeat (first | (with_reducible first | exact HB.out | apply below_alloc | apply pw_below_drewN | apply below_drew1 | refine below_set ?_ GE101.out) | exact HB.out)⟩⟩
        · rw [if_neg c23] at H
          exact absurd H (by simp)
      · rw [if_neg c22] at H
        have c22b0 : decide (x5_1 < (l0_5.length : Int)) = false := decide_eq_false c22
        clear c22
        by_cases c28 : x4_1.length + l0_6.length < 140737488355328
        · rw [if_pos c28] at H
          have LMc28 := Aside0.mk c28
          clear c28
          obtain ⟨y122, hy122⟩ : ∃ y_ : List Int, y_ = (x4_1 ++ l0_6) := ⟨_, rfl⟩
          replace H : ((scullerref02_Seal.f y122).bind fun t125 => (some (t125, 0))) = some (r1, r2) := by first | (rw [hy122]; with_reducible exact H) | (have H2_ := (Option.bind_some _ _).symm.trans H; rw [hy122]; with_reducible exact H2_) | (have H2_ := (Option.bind_some _ _).symm.trans H; with_reducible exact H2_) | with_reducible exact H | (rw [hy122]; exact H) | exact H
          have Ny122 := Aside0.mk hy122
          clear hy122
          replace H := Option.bind_eq_some_iff.mp H
          obtain ⟨t125, A290, H⟩ := H
          replace H : (some (t125, 0)) = some (r1, r2) := H
          have A29 := Aside0.mk A290
          clear A290
          simp only [Option.some.injEq, Prod.mk.injEq] at H
          obtain ⟨rfl, rfl⟩ := H
          have hcz30_0 : wr.cell? ⟨gb101, 0, none⟩ = some (.int .i64 a0_0) := (blk_cell BK101.out 0).trans rfl
          have hcz30_1 : wr.cell? ⟨gb101, 1, none⟩ = some (.int .u64 a0_1) := (blk_cell BK101.out 1).trans rfl
          have hcz30_2 : wr.cell? ⟨gb101, 2, none⟩ = some (.int .i64 a0_2) := (blk_cell BK101.out 2).trans rfl
          have hcz30_3 : wr.cell? ⟨gb101, 3, none⟩ = some (.int .i64 a0_3) := (blk_cell BK101.out 3).trans rfl
          have hcz30_4 : wr.cell? ⟨gb101, 4, none⟩ = some (.int .u32 a0_4) := (blk_cell BK101.out 4).trans rfl
          have hcz30_5 : wr.cell? ⟨gb101, 5, none⟩ = some (.slice A0_5 l0_5.length c0_5) := (blk_cell BK101.out 5).trans rfl
          have hcz30_6 : wr.cell? ⟨gb101, 6, none⟩ = some (.slice A0_6 l0_6.length c0_6) := (blk_cell BK101.out 6).trans rfl
          have hfz30_0 := blk_frozen BK101.out 0
          have hfz30_1 := blk_frozen BK101.out 1
          have hfz30_2 := blk_frozen BK101.out 2
          have hfz30_3 := blk_frozen BK101.out 3
          have hfz30_4 := blk_frozen BK101.out 4
          have hfz30_5 := blk_frozen BK101.out 5
          have hfz30_6 := blk_frozen BK101.out 6
          go_wp2_with (first | ((with_reducible refine gate_builtin (b := .append) (xs := #[.tmp 43, .tmp 45]) rfl ?_); at_builtin; refine Kd.R_append_rows (Kd.int .u8) (w0 := w) w.heap.size rfl (.tmp 43) (.tmp 45) 25 5 (.int .u8 0) 1 rfl Try.underlying25 info5 rfl (by decide) (by omega) u4 x4_1 l0_6 _ _ _ (fun _ => True) (fun _ => False) rfl rfl ?aO ?aR (fun _ _ h => h) (fun _ h => h.elim) ?aF ?aB ?aS ?aL ?_; (case aR => repeat (first | exact (Kd.C_below HR0_6.out HB.out) | (with_reducible refine Kd.C_alloc ?_ _) | (with_reducible refine Kd.C_drewN ?_ _) | (with_reducible refine Kd.C_drew ?_))); (case aB => exact (by repeat (first | (with_reducible first | exact HB.out | apply below_alloc | apply pw_below_drewN | apply below_drew1 | refine below_set ?_ GE101.out) | exact HB.out))); (case aF => exact (fun _ _ => trivial)); (case aO => exact (by (with_reducible repeat (first | apply Kd.R_alloc | apply Kd.R_drewN | apply Kd.R_drew)); exact HO_4.out)); (case aS => exact (below_size (by repeat (first | (with_reducible first | exact HB.out | apply below_alloc | apply pw_below_drewN | apply below_drew1 | refine below_set ?_ GE101.out) | exact HB.out)))); (case aL => have := LMc28.out; omega); intro v123 w31 ho hb hg hat; rw [← Ny122.out] at ho; have n0_ := Aside0.mk (blk_grown (g := gb101) (o := .cells #[.int .i64 a0_0, .int .u64 a0_1, .int .i64 a0_2, .int .i64 a0_3, .int .u32 a0_4, .slice A0_5 l0_5.length c0_5, .slice A0_6 l0_6.length c0_6] 28 (0, 0)) (by (with_reducible repeat (first | refine blk_drewN ?_ _ | refine blk_drew ?_ | refine blk_alloc ?_ _)); exact BK101.out) hg (Kd.R_ne HO_4.out BK101.out (by decide))); have n1_ := Aside0.mk (hb); have n2_ := Aside0.mk (ho); clear BK101; clear HB; clear HO_4; have BK101 := n0_; have HB := n1_; have HO124 := n2_; clear n0_ n1_ n2_; clear ho hb hg hat; obtain ⟨Ao32, co32, eo32⟩ := Kd.R_slice HO124.out; subst eo32) | ((with_reducible refine gate_callee (f := 14) rfl ?_); refine goesL_ (some 48) rfl rfl Try.func14 (by kernel_rfl) rfl #[.slice Ao32 y122.length co32] rfl (by (try simp only [List.map_toArray, List.map_cons, List.map_nil]); first | done | rfl | (simp only [List.length_drop, List.length_take]; rfl)) ?_; (with_reducible refine (scullerref02_Seal.calls _ _ y122 t125 _ ?side1 ?side2 A29.out).mono ?_); (case side1 => repeat (first | exact (Kd.R_reads' HO124.out).2.2 | (with_reducible refine Kd.C_alloc ?_ _) | (with_reducible refine Kd.C_drewN ?_ _) | (with_reducible refine Kd.C_drew ?_))); (case side2 => exact (Kd.R_reads' HO124.out).2.1); rintro e w33 ⟨v126, rfl, ho0, hb⟩; refine ⟨_, rfl, ?_⟩; have n0_ := Aside0.mk (Kd.R_elder' (by (with_reducible repeat (first | apply Kd.R_alloc | apply Kd.R_drewN | apply Kd.R_drew)); exact HO124.out) (Kd.R_base ho0) hb); have n1_ := Aside0.mk (Kd.R_lower (Kd.R_new' ho0 (Kd.R_lt (by (with_reducible repeat (first | apply Kd.R_alloc | apply Kd.R_drewN | apply Kd.R_drew)); exact HO124.out))) (below_size (by repeat (first | (with_reducible first | exact HB.out | apply below_alloc | apply pw_below_drewN | apply below_drew1 | refine below_set ?_ GE101.out) | exact HB.out)))); have n2_ := Aside0.mk (blk_below (g := gb101) (o := .cells #[.int .i64 a0_0, .int .u64 a0_1, .int .i64 a0_2, .int .i64 a0_3, .int .u32 a0_4, .slice A0_5 l0_5.length c0_5, .slice A0_6 l0_6.length c0_6] 28 (0, 0)) (by (with_reducible repeat (first | refine blk_drewN ?_ _ | refine blk_drew ?_ | refine blk_alloc ?_ _)); exact BK101.out) hb); have n3_ := Aside0.mk (below_step (by repeat (first | (with_reducible first | exact HB.out | apply below_alloc | apply pw_below_drewN | apply below_drew1 | refine below_set ?_ GE101.out) | exact HB.out)) hb); clear HO124; clear BK101; clear HB; have HO124 := n0_; have HO127 := n1_; have BK101 := n2_; have HB := n3_; clear n0_ n1_ n2_ n3_; (try clear hb); (try clear hb2); (try clear hk); (try clear hi); (try clear ho0)))
          go_ret2
          exact ⟨_, by first | rfl | (simp [errW_none, errW_some] <;> rfl) | (simp [*, errW_none, errW_some] <;> rfl), by (with_reducible repeat (first | apply Kd.R_alloc | apply Kd.R_drewN | apply Kd.R_drew)); exact Kd.R_mono HO127.out (fun _ hk => trivial), by repeat (first | (with_reducible first | exact HB.out | apply below_alloc | apply pw_below_drewN | apply below_drew1 | refine below_set ?_ GE101.out) | exact HB.out)⟩
        · rw [if_neg c28] at H
          exact absurd H (by simp)
 · replace c3 := Bool.eq_false_iff.mpr c3
   subst c3
   have H1 : (some (([] : List Int), 1)) = some (r1, r2) := by rw [if_neg (show ¬ (false = true) by decide)] at H; exact H
   clear H
   have H := H1
   clear H1
   simp only [Option.some.injEq, Prod.mk.injEq] at H
   obtain ⟨rfl, rfl⟩ := H
   go_enter Try.func15, Try.ntmps15
   go_wp2_with (first | ((with_reducible refine gate_dst (N := 1) rfl ?_); refine box_event ?hg (N := 1) ?hd (cs := #[.int .i64 a0_0, .int .u64 a0_1, .int .i64 a0_2, .int .i64 a0_3, .int .u32 a0_4, .slice A0_5 l0_5.length c0_5, .slice A0_6 l0_6.length c0_6]) (t := 28) ?hr ?_; (case hd => rfl); (case hg => rfl); (case hr => first | (go_simp; done) | (go_simp; rfl)); intro gb101 hg w34 hbox hb; have n0_ := Aside0.mk (below_step (by repeat (first | (with_reducible first | exact HB.out | apply below_alloc | apply pw_below_drewN | apply below_drew1) | exact HB.out)) hb); have n1_ := Aside0.mk (hbox); have n2_ := Aside0.mk ((by rw [hg]; exact (below_size (by repeat (first | (with_reducible first | exact HB.out | apply below_alloc | apply pw_below_drewN | apply below_drew1) | exact HB.out))) : w.heap.size ≤ gb101)); have n3_ := Aside0.mk ((by rw [hg]; exact (below_size (by repeat (first | (with_reducible first | exact HB.out | apply below_alloc | apply pw_below_drewN | apply below_drew1) | exact HB.out))) : w.heap.size ≤ gb101)); clear HB; have HB := n0_; have BK101 := n1_; have GW101 := n2_; have GE101 := n3_; clear n0_ n1_ n2_ n3_; clear hb hbox hg; have hcz35_0 : w34.cell? ⟨gb101, 0, none⟩ = some (.int .i64 a0_0) := (blk_cell BK101.out 0).trans rfl; have hcz35_1 : w34.cell? ⟨gb101, 1, none⟩ = some (.int .u64 a0_1) := (blk_cell BK101.out 1).trans rfl; have hcz35_2 : w34.cell? ⟨gb101, 2, none⟩ = some (.int .i64 a0_2) := (blk_cell BK101.out 2).trans rfl; have hcz35_3 : w34.cell? ⟨gb101, 3, none⟩ = some (.int .i64 a0_3) := (blk_cell BK101.out 3).trans rfl; have hcz35_4 : w34.cell? ⟨gb101, 4, none⟩ = some (.int .u32 a0_4) := (blk_cell BK101.out 4).trans rfl; have hcz35_5 : w34.cell? ⟨gb101, 5, none⟩ = some (.slice A0_5 l0_5.length c0_5) := (blk_cell BK101.out 5).trans rfl; have hcz35_6 : w34.cell? ⟨gb101, 6, none⟩ = some (.slice A0_6 l0_6.length c0_6) := (blk_cell BK101.out 6).trans rfl; have hfz35_0 := blk_frozen BK101.out 0; have hfz35_1 := blk_frozen BK101.out 1; have hfz35_2 := blk_frozen BK101.out 2; have hfz35_3 := blk_frozen BK101.out 3; have hfz35_4 := blk_frozen BK101.out 4; have hfz35_5 := blk_frozen BK101.out 5; have hfz35_6 := blk_frozen BK101.out 6) | ((with_reducible refine gate_callee (f := 31) rfl ?_); refine goesL_ (some 7) rfl rfl Try.func31 (by kernel_rfl) rfl #[.agg #[.int .i64 a0_0, .int .u64 a0_1, .int .i64 a0_2, .int .i64 a0_3, .int .u32 a0_4, .slice A0_5 l0_5.length c0_5, .slice A0_6 l0_6.length c0_6]] rfl (by (try simp only [List.map_toArray, List.map_cons, List.map_nil]); first | done | rfl | (simp only [List.length_drop, List.length_take]; rfl)) ?_; (with_reducible refine (scullerref13_Right_c.calls a0_0 a0_1 a0_2 a0_3 a0_4 _ _ l0_5 _ _ l0_6 false _ ?side1 ?side2 ?side3 ?side4 A2.out).mono ?_); (case side1 => repeat (first | exact (Kd.C_below HR0_5.out HB.out) | (with_reducible refine Kd.C_alloc ?_ _) | (with_reducible refine Kd.C_drewN ?_ _) | (with_reducible refine Kd.C_drew ?_))); (case side2 => exact HC0_5.out); (case side3 => repeat (first | exact (Kd.C_below HR0_6.out HB.out) | (with_reducible refine Kd.C_alloc ?_ _) | (with_reducible refine Kd.C_drewN ?_ _) | (with_reducible refine Kd.C_drew ?_))); (case side4 => exact HC0_6.out); rintro e w36 ⟨rfl, hb⟩; refine ⟨_, rfl, ?_⟩; have n0_ := Aside0.mk (blk_below (g := gb101) (o := .cells #[.int .i64 a0_0, .int .u64 a0_1, .int .i64 a0_2, .int .i64 a0_3, .int .u32 a0_4, .slice A0_5 l0_5.length c0_5, .slice A0_6 l0_6.length c0_6] 28 (0, 0)) (by (with_reducible repeat (first | refine blk_drewN ?_ _ | refine blk_drew ?_ | refine blk_alloc ?_ _)); exact BK101.out) hb); have n1_ := Aside0.mk (below_step (by repeat (first | (with_reducible first | exact HB.out | apply below_alloc | apply pw_below_drewN | apply below_drew1 | refine below_set ?_ GE101.out) | exact HB.out)) hb); clear BK101; clear HB; have BK101 := n0_; have HB := n1_; clear n0_ n1_; (try clear hb); (try clear hb2); (try clear hk); (try clear hi)))
   go_ret2
   exact ⟨_, by first | rfl | (simp [errW_none, errW_some] <;> rfl) | (simp [*, errW_none, errW_some] <;> rfl), by first | exact Kd.R_nil _ _ _ _ _ | exact Kd.N_nil _ _ _ _ _ | exact Kd.V_nil _ _ _ _ _ | exact Kd.Q_nil _ _ _ _ _ | exact Kd.S_nil _ _ _ _ _, by repeat (first | (with_reducible first | exact HB.out | apply below_alloc | apply pw_below_drewN | apply below_drew1 | refine below_set ?_ GE101.out) | exact HB.out)⟩

end Go.Proofs.Ytoooceaoggkeeaa.F
end

section
namespace Go.Proofs.Ytoooceaoggkeeaa.F
open Go.RowKit Go.Proofs.YtoooceaoggkeeaaW.PrintWords Go.Proofs.YtoooceaoggkeeaaW.PrintLast Go.Proofs.YtoooceaoggkeeaaW.PrintMore
attribute [local go_sem] max2_int min2_int max_two min_two max_three min_three max_four min_four   -- for this text's walks alone
set_option linter.unusedVariables false
set_option linter.unusedSimpArgs false

open Go.Proofs.Ytoooceaoggkeeaa.H
def scullerref13_Encode_c.f (a0_0 a0_1 a0_2 a0_3 a0_4 : Int) (l0_5 l0_6 : List Int) : Option (List Int × Int) :=
 if l0_5.length ≤ 1000000 ∧ l0_6.length ≤ 1000000 ∧ bytesB l0_6 = true ∧ (0 ≤ a0_1 ∧ a0_1 < 18446744073709551616) ∧ 0 ≤ a0_4 ∧ a0_4 < 4294967296 then some (encodeG a0_0 a0_1 a0_2 a0_3 a0_4 l0_5 l0_6) else none
theorem refSeal_is (l : List Int) (hb : bytesB l = true) (hl : l.length ≤ 100000000) : scullerref02_Seal.f l = some (sealL l) := by
 have hr := moreL_range 0 l (by omega) hb
 rw [scullerref02_Seal.f, if_pos (by simp; omega), List.nil_append, Option.bind_some, scullerref02_Sum.f, scullerref02_More_c.f, if_pos ⟨by omega, by omega, hb, by omega⟩, Option.bind_some, Option.bind_some, scullerref01_Put_c.f]
 have hw : IntKind.u64.wrap (moreL 0 l) = moreL 0 l := by simp only [IntKind.wrap, IntKind.signed, IntKind.bits]; simp; omega
 have hu : u64B (moreL 0 l) = true := by unfold u64B; simp; omega
 rw [hw, if_pos hu, Option.bind_some, show putN 4 = 4 from rfl, if_pos (by rw [putL_length]; omega)]
 rfl
theorem refPut_is (l : List Int) (x : Int) (m : Int) (hl : l.length ≤ 1000000) (h0 : 0 ≤ x) (h1 : x < 18446744073709551616) : scullerref13_put.f l (IntKind.u64.wrap x) m = some (l ++ putL x (putN m)) := by
 have hw : IntKind.u64.wrap x = x := by simp only [IntKind.wrap, IntKind.signed, IntKind.bits]; simp; omega
 have hu : u64B x = true := by unfold u64B; simp; omega
 have := putN_le m
 rw [scullerref13_put.f, if_pos (by simp; omega), List.nil_append, Option.bind_some, hw, scullerref01_Put_c.f, if_pos hu, Option.bind_some, if_pos (by rw [putL_length]; omega)]
theorem refPut_is' (l : List Int) (x : Int) (m : Int) (hl : l.length ≤ 1000000) (h0 : 0 ≤ x) (h1 : x < 18446744073709551616) : scullerref13_put.f l x m = some (l ++ putL x (putN m)) := by
 have h := refPut_is l x m hl h0 h1
 have hw : IntKind.u64.wrap x = x := by simp only [IntKind.wrap, IntKind.signed, IntKind.bits]; simp; omega
 rwa [hw] at h
theorem scullerref13_Encode.l0_to (k s i o m : Int) (z b F : List Int) (hF : F.length = 17) (hFb : bytesB F = true) (hz : z.length ≤ 4) (hzs : ∀ x ∈ z, 0 ≤ x ∧ x ≤ 4096) (hb : bytesB b = true) (hbl : b.length ≤ 1000000) : ∀ (d j : Nat), z.length - j = d → j ≤ z.length →
 ∃ q, scullerref13_Encode.l0 q (F ++ (z.take j).flatMap fun n => putL n 2) (j : Int) k s i o m z b = some (sealL (F ++ ((z.flatMap fun n => putL n 2) ++ b)), 0)
 | 0, j, hd, hj => by
   refine ⟨1, ?_⟩
   have hl := flat2_len z
   have hbb : bytesB (z.flatMap fun n => putL n 2) = true := bytesB_of fun c hc => by
    simp only [List.mem_flatMap] at hc
    obtain ⟨n, _, hc⟩ := hc
    exact putL_byte _ _ c hc
   rw [scullerref13_Encode.l0, if_neg (by omega), List.take_of_length_le (by omega), if_pos (by rw [List.length_append, hl]; omega), List.append_assoc,
    refSeal_is _ (by simp only [bytesB_append, hFb, hbb, hb, Bool.and_self]) (by simp only [List.length_append, hl]; omega), Option.bind_some]
 | d + 1, j, hd, hj => by
   have hlt : j < z.length := by omega
   obtain ⟨q, hq⟩ := scullerref13_Encode.l0_to k s i o m z b F hF hFb hz hzs hb hbl d (j + 1) (by omega) (by omega)
   refine ⟨q + 1, ?_⟩
   have hx := hzs _ (List.getElem_mem hlt)
   have hl := flat2_len (z.take j)
   rw [List.length_take] at hl
   rw [scullerref13_Encode.l0, if_pos (by omega), if_pos (by omega), show rd z (j : Int) = z[j] from getD_toNat z 0 j hlt, refPut_is _ _ 2 (by rw [List.length_append, hl]; omega) hx.1 (by omega), Option.bind_some, show wrap64 ((j : Int) + 1) = ((j + 1 : Nat) : Int) from by unfold wrap64; omega, show putN 2 = 2 from rfl, List.append_assoc, ← flat2_take z j hlt]
   exact hq
theorem scullerref13_Encode_c.to {a0_0 a0_1 a0_2 a0_3 a0_4 : Int} {l0_5 l0_6 : List Int} {r : List Int × Int} (h : scullerref13_Encode_c.f a0_0 a0_1 a0_2 a0_3 a0_4 l0_5 l0_6 = some r) : ∃ k, scullerref13_Encode.f k a0_0 a0_1 a0_2 a0_3 a0_4 l0_5 l0_6 = some r := by
 unfold scullerref13_Encode_c.f at h
 split at h
 case isFalse => cases h
 case isTrue hh =>
 obtain ⟨hz, hbl, hb, hs, hm0, hm1⟩ := hh
 obtain rfl := Option.some.inj h
 have hright : scullerref13_Right_c.f a0_0 a0_1 a0_2 a0_3 a0_4 l0_5 l0_6 = some (rightG a0_0 a0_2 a0_3 l0_5 l0_6) := by rw [scullerref13_Right_c.f, if_pos hz]
 by_cases hr : rightG a0_0 a0_2 a0_3 l0_5 l0_6 = true
 · have hk := kinds_small a0_0
   have h8 := hr
   simp only [rightG, isKindB, Bool.and_eq_true, decide_eq_true_eq, Bool.not_eq_true'] at h8
   obtain ⟨⟨⟨⟨⟨⟨⟨h1, h2⟩, h3⟩, h4⟩, h5⟩, h6⟩, h7⟩, h8⟩ := h8
   have hzs : ∀ x ∈ l0_5, 0 ≤ x ∧ x ≤ 4096 := fun x hx => badS_any h8 x hx
   have hFl := frontG_length a0_0 a0_1 a0_2 a0_3 a0_4
   have hFb : bytesB (frontG a0_0 a0_1 a0_2 a0_3 a0_4) = true := by
    unfold frontG
    simp only [bytesB_append, bytesB_of (putL_byte _ _), Bool.and_self]
   obtain ⟨q, hq⟩ := scullerref13_Encode.l0_to a0_0 a0_1 a0_2 a0_3 a0_4 l0_5 l0_6 _ hFl hFb (by omega) hzs hb hbl l0_5.length 0 (by omega) (by omega)
   refine ⟨q, ?_⟩
   have p1 := refPut_is [] a0_0 1 (by simp) (by omega) (by omega)
   have p2 := refPut_is' (putL a0_0 1) a0_1 8 (by rw [putL_length]; omega) hs.1 hs.2
   have p3 := refPut_is (putL a0_0 1 ++ putL a0_1 8) a0_2 2 (by simp only [List.length_append, putL_length]; omega) (by omega) (by omega)
   have p4 := refPut_is (putL a0_0 1 ++ putL a0_1 8 ++ putL a0_2 2) a0_3 2 (by simp only [List.length_append, putL_length]; omega) (by omega) (by omega)
   have p5 := refPut_is (putL a0_0 1 ++ putL a0_1 8 ++ putL a0_2 2 ++ putL a0_3 2) a0_4 4 (by simp only [List.length_append, putL_length]; omega) (by omega) (by omega)
   rw [List.nil_append] at p1
   rw [scullerref13_Encode.f, hright, Option.bind_some, if_pos hr, p1, Option.bind_some, show putN 1 = 1 from rfl, p2, Option.bind_some, show putN 8 = 8 from rfl, p3, Option.bind_some, show putN 2 = 2 from rfl, p4, Option.bind_some, show putN 2 = 2 from rfl, p5, Option.bind_some, show putN 4 = 4 from rfl, encodeG, if_pos hr, gramB]
   rw [List.take_zero, List.flatMap_nil, List.append_nil] at hq
   have e : putL a0_0 1 ++ putL a0_1 8 ++ putL a0_2 2 ++ putL a0_3 2 ++ putL a0_4 4 = frontG a0_0 a0_1 a0_2 a0_3 a0_4 := by simp [frontG, List.append_assoc]
   rw [e]
   exact hq
 · refine ⟨0, ?_⟩
   rw [scullerref13_Encode.f, hright, Option.bind_some, if_neg hr, encodeG, if_neg hr]

theorem scullerref13_Encode_c.calls (a0_0 : Int) (a0_1 : Int) (a0_2 : Int) (a0_3 : Int) (a0_4 : Int) (A0_5 : Option Addr) (c0_5 : Nat) (l0_5 : List Int) (A0_6 : Option Addr) (c0_6 : Nat) (l0_6 : List Int) (r1 : List Int) (r2 : Int) (w : World) (hr0_5 : Kd.C (Kd.int .i64) w A0_5 l0_5.length l0_5) (hc0_5 : l0_5.length ≤ c0_5) (hr0_6 : Kd.C (Kd.int .u8) w A0_6 l0_6.length l0_6) (hc0_6 : l0_6.length ≤ c0_6) (h : scullerref13_Encode_c.f a0_0 a0_1 a0_2 a0_3 a0_4 l0_5 l0_6 = some (r1, r2)) :
 Calls Try.prog 15 #[.agg #[.int .i64 a0_0, .int .u64 a0_1, .int .i64 a0_2, .int .i64 a0_3, .int .u32 a0_4, .slice A0_5 l0_5.length c0_5, .slice A0_6 l0_6.length c0_6]] w fun e w' => ∃ v0_ : Value, e = .returned (.tuple #[v0_, .int .i64 r2]) ∧ Kd.R (Kd.int .u8) 5 w' w.heap.size (fun _ => True) v0_ r1 ∧ Below w.heap.size w w' := by
 obtain ⟨k_, hk_⟩ := scullerref13_Encode_c.to h
 exact scullerref13_Encode.calls k_ a0_0 a0_1 a0_2 a0_3 a0_4 A0_5 c0_5 l0_5 A0_6 c0_6 l0_6 r1 r2 w hr0_5 hc0_5 hr0_6 hc0_6 hk_

end Go.Proofs.Ytoooceaoggkeeaa.F
end

section
namespace Go.Proofs.Ytoooceaoggkeeaa.F
open Go.RowKit Go.Proofs.YtoooceaoggkeeaaW.PrintWords Go.Proofs.YtoooceaoggkeeaaW.PrintLast Go.Proofs.YtoooceaoggkeeaaW.PrintMore
attribute [local go_sem] max2_int min2_int max_two min_two max_three min_three max_four min_four   -- for this text's walks alone
set_option linter.unusedVariables false
set_option linter.unusedSimpArgs false

/-! ### scullerlaw13_encodes: function 16 -/
def scullerlaw13_encodes.f (a0_0 : Int) (a0_1 : Int) (a0_2 : Int) (a0_3 : Int) (a0_4 : Int) (l0_5 : List Int) (l0_6 : List Int) : Option (Bool) := (pack_Encode.f a0_0 a0_1 a0_2 a0_3 a0_4 l0_5 l0_6).bind fun bt102 => ((scullerref13_Encode_c.f a0_0 a0_1 a0_2 a0_3 a0_4 l0_5 l0_6).bind fun bt106 => (if (strOfNums bt102.1).toList = (strOfNums bt106.1).toList then (some ((wrap64 (bt102.2)) == bt106.2)) else (some false)))
set_option maxHeartbeats 8000000 in
set_option maxRecDepth 100000 in
theorem scullerlaw13_encodes.calls (a0_0 : Int) (a0_1 : Int) (a0_2 : Int) (a0_3 : Int) (a0_4 : Int) (A0_5 : Option Addr) (c0_5 : Nat) (l0_5 : List Int) (A0_6 : Option Addr) (c0_6 : Nat) (l0_6 : List Int) (r : Bool) (w : World) (hr0_5 : Kd.C (Kd.int .i64) w A0_5 l0_5.length l0_5) (hc0_5 : l0_5.length ≤ c0_5) (hr0_6 : Kd.C (Kd.int .u8) w A0_6 l0_6.length l0_6) (hc0_6 : l0_6.length ≤ c0_6) (h : scullerlaw13_encodes.f a0_0 a0_1 a0_2 a0_3 a0_4 l0_5 l0_6 = some r) :
 Calls Try.prog 16 #[.agg #[.int .i64 a0_0, .int .u64 a0_1, .int .i64 a0_2, .int .i64 a0_3, .int .u32 a0_4, .slice A0_5 l0_5.length c0_5, .slice A0_6 l0_6.length c0_6]] w fun e w' => e = .returned (.bool r) ∧ Below w.heap.size w w' := by
 have hu28 := Try.underlying28
 have HR0_5 := Aside0.mk hr0_5
 have HC0_5 := Aside0.mk hc0_5
 clear hr0_5 hc0_5
 have HR0_6 := Aside0.mk hr0_6
 have HC0_6 := Aside0.mk hc0_6
 clear hr0_6 hc0_6
 have HB := Aside0.mk (Below.refl w.heap.size w)
 have H : ((pack_Encode.f a0_0 a0_1 a0_2 a0_3 a0_4 l0_5 l0_6).bind fun bt102 => ((scullerref13_Encode_c.f a0_0 a0_1 a0_2 a0_3 a0_4 l0_5 l0_6).bind fun bt106 => (if (strOfNums bt102.1).toList = (strOfNums bt106.1).toList then (some ((wrap64 (bt102.2)) == bt106.2)) else (some false)))) = some r := h
 clear h
 replace H := Option.bind_eq_some_iff.mp H
 obtain ⟨⟨t102, t105⟩, A20, H⟩ := H
 replace H : ((scullerref13_Encode_c.f a0_0 a0_1 a0_2 a0_3 a0_4 l0_5 l0_6).bind fun bt106 => (if (strOfNums t102).toList = (strOfNums bt106.1).toList then (some ((wrap64 (t105)) == bt106.2)) else (some false))) = some r := H
 have A2 := Aside0.mk A20
 clear A20
 replace H := Option.bind_eq_some_iff.mp H
 obtain ⟨⟨t106, t109⟩, A30, H⟩ := H
 replace H : (if (strOfNums t102).toList = (strOfNums t106).toList then (some ((wrap64 (t105)) == t109)) else (some false)) = some r := H
 have A3 := Aside0.mk A30
 clear A30
 by_cases c4 : (strOfNums t102).toList = (strOfNums t106).toList
 · rw [if_pos c4] at H
   have c4b0 : ((strOfNums t102).toList == (strOfNums t106).toList) = true := beq_iff_eq.mpr c4
   have c4b1 : ((strOfNums t102).toList != (strOfNums t106).toList) = false := bne_eq_false_iff_eq.mpr c4
   clear c4
   obtain rfl := Option.some.inj H
   go_enter Try.func16, Try.ntmps16
   go_wp2_with (first | ((with_reducible refine gate_dst (N := 1) rfl ?_); refine box_event ?hg (N := 1) ?hd (cs := #[.int .i64 a0_0, .int .u64 a0_1, .int .i64 a0_2, .int .i64 a0_3, .int .u32 a0_4, .slice A0_5 l0_5.length c0_5, .slice A0_6 l0_6.length c0_6]) (t := 28) ?hr ?_; (case hd => rfl); (case hg => rfl); (case hr => first | (go_simp; done) | (go_simp; rfl)); intro gb101 hg w5 hbox hb; have n0_ := Aside0.mk (below_step (by repeat (first | (with_reducible first | exact HB.out | apply below_alloc | apply pw_below_drewN | apply below_drew1) | exact HB.out)) hb); have n1_ := Aside0.mk (hbox); have n2_ := Aside0.mk ((by rw [hg]; exact (below_size (by repeat (first | (with_reducible first | exact HB.out | apply below_alloc | apply pw_below_drewN | apply below_drew1) | exact HB.out))) : w.heap.size ≤ gb101)); have n3_ := Aside0.mk ((by rw [hg]; exact (below_size (by repeat (first | (with_reducible first | exact HB.out | apply below_alloc | apply pw_below_drewN | apply below_drew1) | exact HB.out))) : w.heap.size ≤ gb101)); clear HB; have HB := n0_; have BK101 := n1_; have GW101 := n2_; have GE101 := n3_; clear n0_ n1_ n2_ n3_; clear hb hbox hg; have hcz6_0 : w5.cell? ⟨gb101, 0, none⟩ = some (.int .i64 a0_0) := (blk_cell BK101.out 0).trans rfl; have hcz6_1 : w5.cell? ⟨gb101, 1, none⟩ = some (.int .u64 a0_1) := (blk_cell BK101.out 1).trans rfl; have hcz6_2 : w5.cell? ⟨gb101, 2, none⟩ = some (.int .i64 a0_2) := (blk_cell BK101.out 2).trans rfl; have hcz6_3 : w5.cell? ⟨gb101, 3, none⟩ = some (.int .i64 a0_3) := (blk_cell BK101.out 3).trans rfl; have hcz6_4 : w5.cell? ⟨gb101, 4, none⟩ = some (.int .u32 a0_4) := (blk_cell BK101.out 4).trans rfl; have hcz6_5 : w5.cell? ⟨gb101, 5, none⟩ = some (.slice A0_5 l0_5.length c0_5) := (blk_cell BK101.out 5).trans rfl; have hcz6_6 : w5.cell? ⟨gb101, 6, none⟩ = some (.slice A0_6 l0_6.length c0_6) := (blk_cell BK101.out 6).trans rfl; have hfz6_0 := blk_frozen BK101.out 0; have hfz6_1 := blk_frozen BK101.out 1; have hfz6_2 := blk_frozen BK101.out 2; have hfz6_3 := blk_frozen BK101.out 3; have hfz6_4 := blk_frozen BK101.out 4; have hfz6_5 := blk_frozen BK101.out 5; have hfz6_6 := blk_frozen BK101.out 6) | ((with_reducible refine gate_callee (f := 10) rfl ?_); refine goesL_ (some 9) rfl rfl Try.func10 (by kernel_rfl) rfl #[.agg #[.int .i64 a0_0, .int .u64 a0_1, .int .i64 a0_2, .int .i64 a0_3, .int .u32 a0_4, .slice A0_5 l0_5.length c0_5, .slice A0_6 l0_6.length c0_6]] rfl (by (try simp only [List.map_toArray, List.map_cons, List.map_nil]); first | done | rfl | (simp only [List.length_drop, List.length_take]; rfl)) ?_; (with_reducible refine (pack_Encode.calls a0_0 a0_1 a0_2 a0_3 a0_4 _ _ l0_5 _ _ l0_6 t102 t105 _ ?side1 ?side2 ?side3 ?side4 A2.out).mono ?_); (case side1 => repeat (first | exact (Kd.C_below HR0_5.out HB.out) | (with_reducible refine Kd.C_alloc ?_ _) | (with_reducible refine Kd.C_drewN ?_ _) | (with_reducible refine Kd.C_drew ?_))); (case side2 => exact HC0_5.out); (case side3 => repeat (first | exact (Kd.C_below HR0_6.out HB.out) | (with_reducible refine Kd.C_alloc ?_ _) | (with_reducible refine Kd.C_drewN ?_ _) | (with_reducible refine Kd.C_drew ?_))); (case side4 => exact HC0_6.out); rintro e w7 ⟨v103, rfl, ho0, hb⟩; refine ⟨_, rfl, ?_⟩; have n0_ := Aside0.mk (Kd.R_lower ho0 (below_size (by repeat (first | (with_reducible first | exact HB.out | apply below_alloc | apply pw_below_drewN | apply below_drew1 | refine below_set ?_ GE101.out) | exact HB.out)))); have n1_ := Aside0.mk (blk_below (g := gb101) (o := .cells #[.int .i64 a0_0, .int .u64 a0_1, .int .i64 a0_2, .int .i64 a0_3, .int .u32 a0_4, .slice A0_5 l0_5.length c0_5, .slice A0_6 l0_6.length c0_6] 28 (0, 0)) (by (with_reducible repeat (first | refine blk_drewN ?_ _ | refine blk_drew ?_ | refine blk_alloc ?_ _)); exact BK101.out) hb); have n2_ := Aside0.mk (below_step (by repeat (first | (with_reducible first | exact HB.out | apply below_alloc | apply pw_below_drewN | apply below_drew1 | refine below_set ?_ GE101.out) | exact HB.out)) hb); clear BK101; clear HB; have HO104 := n0_; have BK101 := n1_; have HB := n2_; clear n0_ n1_ n2_; (try clear hb); (try clear hb2); (try clear hk); (try clear hi); (try clear ho0); have hcz8_0 : w7.cell? ⟨gb101, 0, none⟩ = some (.int .i64 a0_0) := (blk_cell BK101.out 0).trans rfl; have hcz8_1 : w7.cell? ⟨gb101, 1, none⟩ = some (.int .u64 a0_1) := (blk_cell BK101.out 1).trans rfl; have hcz8_2 : w7.cell? ⟨gb101, 2, none⟩ = some (.int .i64 a0_2) := (blk_cell BK101.out 2).trans rfl; have hcz8_3 : w7.cell? ⟨gb101, 3, none⟩ = some (.int .i64 a0_3) := (blk_cell BK101.out 3).trans rfl; have hcz8_4 : w7.cell? ⟨gb101, 4, none⟩ = some (.int .u32 a0_4) := (blk_cell BK101.out 4).trans rfl; have hcz8_5 : w7.cell? ⟨gb101, 5, none⟩ = some (.slice A0_5 l0_5.length c0_5) := (blk_cell BK101.out 5).trans rfl; have hcz8_6 : w7.cell? ⟨gb101, 6, none⟩ = some (.slice A0_6 l0_6.length c0_6) := (blk_cell BK101.out 6).trans rfl; have hfz8_0 := blk_frozen BK101.out 0; have hfz8_1 := blk_frozen BK101.out 1; have hfz8_2 := blk_frozen BK101.out 2; have hfz8_3 := blk_frozen BK101.out 3; have hfz8_4 := blk_frozen BK101.out 4; have hfz8_5 := blk_frozen BK101.out 5; have hfz8_6 := blk_frozen BK101.out 6) | ((with_reducible refine gate_callee (f := 15) rfl ?_); refine goesL_ (some 14) rfl rfl Try.func15 (by kernel_rfl) rfl #[.agg #[.int .i64 a0_0, .int .u64 a0_1, .int .i64 a0_2, .int .i64 a0_3, .int .u32 a0_4, .slice A0_5 l0_5.length c0_5, .slice A0_6 l0_6.length c0_6]] rfl (by (try simp only [List.map_toArray, List.map_cons, List.map_nil]); first | done | rfl | (simp only [List.length_drop, List.length_take]; rfl)) ?_; (with_reducible refine (scullerref13_Encode_c.calls a0_0 a0_1 a0_2 a0_3 a0_4 _ _ l0_5 _ _ l0_6 t106 t109 _ ?side1 ?side2 ?side3 ?side4 A3.out).mono ?_); (case side1 => repeat (first | exact (Kd.C_below HR0_5.out HB.out) | (with_reducible refine Kd.C_alloc ?_ _) | (with_reducible refine Kd.C_drewN ?_ _) | (with_reducible refine Kd.C_drew ?_))); (case side2 => exact HC0_5.out); (case side3 => repeat (first | exact (Kd.C_below HR0_6.out HB.out) | (with_reducible refine Kd.C_alloc ?_ _) | (with_reducible refine Kd.C_drewN ?_ _) | (with_reducible refine Kd.C_drew ?_))); (case side4 => exact HC0_6.out); rintro e w9 ⟨v107, rfl, ho0, hb⟩; refine ⟨_, rfl, ?_⟩; have n0_ := Aside0.mk (Kd.R_elder' (by (with_reducible repeat (first | apply Kd.R_alloc | apply Kd.R_drewN | apply Kd.R_drew)); exact HO104.out) (Kd.R_base ho0) hb); have n1_ := Aside0.mk (Kd.R_lower (Kd.R_new' ho0 (Kd.R_lt (by (with_reducible repeat (first | apply Kd.R_alloc | apply Kd.R_drewN | apply Kd.R_drew)); exact HO104.out))) (below_size (by repeat (first | (with_reducible first | exact HB.out | apply below_alloc | apply pw_below_drewN | apply below_drew1 | refine below_set ?_ GE101.out) | exact HB.out)))); have n2_ := Aside0.mk (blk_below (g := gb101) (o := .cells #[.int .i64 a0_0, .int .u64 a0_1, .int .i64 a0_2, .int .i64 a0_3, .int .u32 a0_4, .slice A0_5 l0_5.length c0_5, .slice A0_6 l0_6.length c0_6] 28 (0, 0)) (by (with_reducible repeat (first | refine blk_drewN ?_ _ | refine blk_drew ?_ | refine blk_alloc ?_ _)); exact BK101.out) hb); have n3_ := Aside0.mk (below_step (by repeat (first | (with_reducible first | exact HB.out | apply below_alloc | apply pw_below_drewN | apply below_drew1 | refine below_set ?_ GE101.out) | exact HB.out)) hb); clear HO104; clear BK101; clear HB; have HO104 := n0_; have HO108 := n1_; have BK101 := n2_; have HB := n3_; clear n0_ n1_ n2_ n3_; (try clear hb); (try clear hb2); (try clear hk); (try clear hi); (try clear ho0); have hcv10 := own_string (P := Try.prog) Try.underlying25 Try.underlying5 Try.underlying9 (Kd.own_of_R HO104.out); have hcv11 := own_string (P := Try.prog) Try.underlying25 Try.underlying5 Try.underlying9 (Kd.own_of_R HO108.out)))
   go_ret
   exact ⟨by first | rfl | (simp [errW_none, errW_some] <;> rfl) | (simp [*, errW_none, errW_some] <;> rfl), by repeat (first | (with_reducible first | exact HB.out | apply below_alloc | apply pw_below_drewN | apply below_drew1 | refine below_set ?_ GE101.out) | exact HB.out)⟩
 · rw [if_neg c4] at H
   have c4b0 : ((strOfNums t102).toList == (strOfNums t106).toList) = false := beq_eq_false_iff_ne.mpr c4
   have c4b1 : ((strOfNums t102).toList != (strOfNums t106).toList) = true := bne_iff_ne.mpr c4
   obtain rfl := Option.some.inj H
   go_enter Try.func16, Try.ntmps16
   go_wp2_with (first | ((with_reducible refine gate_dst (N := 1) rfl ?_); refine box_event ?hg (N := 1) ?hd (cs := #[.int .i64 a0_0, .int .u64 a0_1, .int .i64 a0_2, .int .i64 a0_3, .int .u32 a0_4, .slice A0_5 l0_5.length c0_5, .slice A0_6 l0_6.length c0_6]) (t := 28) ?hr ?_; (case hd => rfl); (case hg => rfl); (case hr => first | (go_simp; done) | (go_simp; rfl)); intro gb101 hg w12 hbox hb; have n0_ := Aside0.mk (below_step (by repeat (first | (with_reducible first | exact HB.out | apply below_alloc | apply pw_below_drewN | apply below_drew1) | exact HB.out)) hb); have n1_ := Aside0.mk (hbox); have n2_ := Aside0.mk ((by rw [hg]; exact (below_size (by repeat (first | (with_reducible first | exact HB.out | apply below_alloc | apply pw_below_drewN | apply below_drew1) | exact HB.out))) : w.heap.size ≤ gb101)); have n3_ := Aside0.mk ((by rw [hg]; exact (below_size (by repeat (first | (with_reducible first | exact HB.out | apply below_alloc | apply pw_below_drewN | apply below_drew1) | exact HB.out))) : w.heap.size ≤ gb101)); clear HB; have HB := n0_; have BK101 := n1_; have GW101 := n2_; have GE101 := n3_; clear n0_ n1_ n2_ n3_; clear hb hbox hg; have hcz13_0 : w12.cell? ⟨gb101, 0, none⟩ = some (.int .i64 a0_0) := (blk_cell BK101.out 0).trans rfl; have hcz13_1 : w12.cell? ⟨gb101, 1, none⟩ = some (.int .u64 a0_1) := (blk_cell BK101.out 1).trans rfl; have hcz13_2 : w12.cell? ⟨gb101, 2, none⟩ = some (.int .i64 a0_2) := (blk_cell BK101.out 2).trans rfl; have hcz13_3 : w12.cell? ⟨gb101, 3, none⟩ = some (.int .i64 a0_3) := (blk_cell BK101.out 3).trans rfl; have hcz13_4 : w12.cell? ⟨gb101, 4, none⟩ = some (.int .u32 a0_4) := (blk_cell BK101.out 4).trans rfl; have hcz13_5 : w12.cell? ⟨gb101, 5, none⟩ = some (.slice A0_5 l0_5.length c0_5) := (blk_cell BK101.out 5).trans rfl; have hcz13_6 : w12.cell? ⟨gb101, 6, none⟩ = some (.slice A0_6 l0_6.length c0_6) := (blk_cell BK101.out 6).trans rfl; have hfz13_0 := blk_frozen BK101.out 0; have hfz13_1 := blk_frozen BK101.out 1; have hfz13_2 := blk_frozen BK101.out 2; have hfz13_3 := blk_frozen BK101.out 3; have hfz13_4 := blk_frozen BK101.out 4; have hfz13_5 := blk_frozen BK101.out 5; have hfz13_6 := blk_frozen BK101.out 6) | ((with_reducible refine gate_callee (f := 10) rfl ?_); refine goesL_ (some 9) rfl rfl Try.func10 (by kernel_rfl) rfl #[.agg #[.int .i64 a0_0, .int .u64 a0_1, .int .i64 a0_2, .int .i64 a0_3, .int .u32 a0_4, .slice A0_5 l0_5.length c0_5, .slice A0_6 l0_6.length c0_6]] rfl (by (try simp only [List.map_toArray, List.map_cons, List.map_nil]); first | done | rfl | (simp only [List.length_drop, List.length_take]; rfl)) ?_; (with_reducible refine (pack_Encode.calls a0_0 a0_1 a0_2 a0_3 a0_4 _ _ l0_5 _ _ l0_6 t102 t105 _ ?side1 ?side2 ?side3 ?side4 A2.out).mono ?_); (case side1 => repeat (first | exact (Kd.C_below HR0_5.out HB.out) | (with_reducible refine Kd.C_alloc ?_ _) | (with_reducible refine Kd.C_drewN ?_ _) | (with_reducible refine Kd.C_drew ?_))); (case side2 => exact HC0_5.out); (case side3 => repeat (first | exact (Kd.C_below HR0_6.out HB.out) | (with_reducible refine Kd.C_alloc ?_ _) | (with_reducible refine Kd.C_drewN ?_ _) | (with_reducible refine Kd.C_drew ?_))); (case side4 => exact HC0_6.out); rintro e w14 ⟨v103, rfl, ho0, hb⟩; refine ⟨_, rfl, ?_⟩; have n0_ := Aside0.mk (Kd.R_lower ho0 (below_size (by repeat (first | (with_reducible first | exact HB.out | apply below_alloc | apply pw_below_drewN | apply below_drew1 | refine below_set ?_ GE101.out) | exact HB.out)))); have n1_ := Aside0.mk (blk_below (g := gb101) (o := .cells #[.int .i64 a0_0, .int .u64 a0_1, .int .i64 a0_2, .int .i64 a0_3, .int .u32 a0_4, .slice A0_5 l0_5.length c0_5, .slice A0_6 l0_6.length c0_6] 28 (0, 0)) (by (with_reducible repeat (first | refine blk_drewN ?_ _ | refine blk_drew ?_ | refine blk_alloc ?_ _)); exact BK101.out) hb); have n2_ := Aside0.mk (below_step (by repeat (first | (with_reducible first | exact HB.out | apply below_alloc | apply pw_below_drewN | apply below_drew1 | refine below_set ?_ GE101.out) | exact HB.out)) hb); clear BK101; clear HB; have HO104 := n0_; have BK101 := n1_; have HB := n2_; clear n0_ n1_ n2_; (try clear hb); (try clear hb2); (try clear hk); (try clear hi); (try clear ho0); have hcz15_0 : w14.cell? ⟨gb101, 0, none⟩ = some (.int .i64 a0_0) := (blk_cell BK101.out 0).trans rfl; have hcz15_1 : w14.cell? ⟨gb101, 1, none⟩ = some (.int .u64 a0_1) := (blk_cell BK101.out 1).trans rfl; have hcz15_2 : w14.cell? ⟨gb101, 2, none⟩ = some (.int .i64 a0_2) := (blk_cell BK101.out 2).trans rfl; have hcz15_3 : w14.cell? ⟨gb101, 3, none⟩ = some (.int .i64 a0_3) := (blk_cell BK101.out 3).trans rfl; have hcz15_4 : w14.cell? ⟨gb101, 4, none⟩ = some (.int .u32 a0_4) := (blk_cell BK101.out 4).trans rfl; have hcz15_5 : w14.cell? ⟨gb101, 5, none⟩ = some (.slice A0_5 l0_5.length c0_5) := (blk_cell BK101.out 5).trans rfl; have hcz15_6 : w14.cell? ⟨gb101, 6, none⟩ = some (.slice A0_6 l0_6.length c0_6) := (blk_cell BK101.out 6).trans rfl; have hfz15_0 := blk_frozen BK101.out 0; have hfz15_1 := blk_frozen BK101.out 1; have hfz15_2 := blk_frozen BK101.out 2; have hfz15_3 := blk_frozen BK101.out 3; have hfz15_4 := blk_frozen BK101.out 4; have hfz15_5 := blk_frozen BK101.out 5; have hfz15_6 := blk_frozen BK101.out 6) | ((with_reducible refine gate_callee (f := 15) rfl ?_); refine goesL_ (some 14) rfl rfl Try.func15 (by kernel_rfl) rfl #[.agg #[.int .i64 a0_0, .int .u64 a0_1, .int .i64 a0_2, .int .i64 a0_3, .int .u32 a0_4, .slice A0_5 l0_5.length c0_5, .slice A0_6 l0_6.length c0_6]] rfl (by (try simp only [List.map_toArray, List.map_cons, List.map_nil]); first | done | rfl | (simp only [List.length_drop, List.length_take]; rfl)) ?_; (with_reducible refine (scullerref13_Encode_c.calls a0_0 a0_1 a0_2 a0_3 a0_4 _ _ l0_5 _ _ l0_6 t106 t109 _ ?side1 ?side2 ?side3 ?side4 A3.out).mono ?_); (case side1 => repeat (first | exact (Kd.C_below HR0_5.out HB.out) | (with_reducible refine Kd.C_alloc ?_ _) | (with_reducible refine Kd.C_drewN ?_ _) | (with_reducible refine Kd.C_drew ?_))); (case side2 => exact HC0_5.out); (case side3 => repeat (first | exact (Kd.C_below HR0_6.out HB.out) | (with_reducible refine Kd.C_alloc ?_ _) | (with_reducible refine Kd.C_drewN ?_ _) | (with_reducible refine Kd.C_drew ?_))); (case side4 => exact HC0_6.out); rintro e w16 ⟨v107, rfl, ho0, hb⟩; refine ⟨_, rfl, ?_⟩; have n0_ := Aside0.mk (Kd.R_elder' (by (with_reducible repeat (first | apply Kd.R_alloc | apply Kd.R_drewN | apply Kd.R_drew)); exact HO104.out) (Kd.R_base ho0) hb); have n1_ := Aside0.mk (Kd.R_lower (Kd.R_new' ho0 (Kd.R_lt (by (with_reducible repeat (first | apply Kd.R_alloc | apply Kd.R_drewN | apply Kd.R_drew)); exact HO104.out))) (below_size (by repeat (first | (with_reducible first | exact HB.out | apply below_alloc | apply pw_below_drewN | apply below_drew1 | refine below_set ?_ GE101.out) | exact HB.out)))); have n2_ := Aside0.mk (blk_below (g := gb101) (o := .cells #[.int .i64 a0_0, .int .u64 a0_1, .int .i64 a0_2, .int .i64 a0_3, .int .u32 a0_4, .slice A0_5 l0_5.length c0_5, .slice A0_6 l0_6.length c0_6] 28 (0, 0)) (by (with_reducible repeat (first | refine blk_drewN ?_ _ | refine blk_drew ?_ | refine blk_alloc ?_ _)); exact BK101.out) hb); have n3_ := Aside0.mk (below_step (by repeat (first | (with_reducible first | exact HB.out | apply below_alloc | apply pw_below_drewN | apply below_drew1 | refine below_set ?_ GE101.out) | exact HB.out)) hb); clear HO104; clear BK101; clear HB; have HO104 := n0_; have HO108 := n1_; have BK101 := n2_; have HB := n3_; clear n0_ n1_ n2_ n3_; (try clear hb); (try clear hb2); (try clear hk); (try clear hi); (try clear ho0); have hcv17 := own_string (P := Try.prog) Try.underlying25 Try.underlying5 Try.underlying9 (Kd.own_of_R HO104.out); have hcv18 := own_string (P := Try.prog) Try.underlying25 Try.underlying5 Try.underlying9 (Kd.own_of_R HO108.out)))
   go_ret
   exact ⟨by first | rfl | (simp [errW_none, errW_some] <;> rfl) | (simp [*, errW_none, errW_some] <;> rfl), by repeat (first | (with_reducible first | exact HB.out | apply below_alloc | apply pw_below_drewN | apply below_drew1 | refine below_set ?_ GE101.out) | exact HB.out)⟩

end Go.Proofs.Ytoooceaoggkeeaa.F
end

section
/- slices.Backward over bytes: the closure's contract for whatever loop body keeps the slice's box and its bytes. -/
namespace Go.Proofs.Ytoooceaoggkeeaa.H
open Go.RowKit Go.Shelf
open Go.Proofs.YtoooceaoggkeeaaW.PrintWords
attribute [local go_sem] Oper.semAt_some

/-- What comes: from the last to the first, with its place. -/
def back (xs : List Int) (k : Nat) : List (Int × Int) := (List.range k).map fun (j : Nat) => ((xs.length : Int) - 1 - j, rd xs ((xs.length : Int) - 1 - j))
theorem back_succ (xs : List Int) (k : Nat) : back xs (k + 1) = back xs k ++ [((xs.length : Int) - 1 - k, rd xs ((xs.length : Int) - 1 - k))] := by simp [back, List.range_succ]
theorem back_length (xs : List Int) (k : Nat) : (back xs k).length = k := by simp [back]

theorem backward_in (a : Option Addr) (len cap : Nat) (w : World) :
 CallsIn Fence.wide 9 Try.prog 40 #[.slice a len cap] w fun e w' => e = .returned (.func (.func 49) #[] #[.pointer (some ⟨w.heap.size, 0, none⟩)]) ∧ w' = w.alloc (.cells #[.slice a len cap] 25) := by
 refine callsIn_of_wp Try.func40 rfl trivial ?_ rfl
 simp only [Try.ntmps40, List.size_toArray, List.length_cons, List.length_nil, Nat.reduceAdd, Nat.reduceSub, Array.replicate_succ, Array.replicate_zero, List.push_toArray, List.append_toArray, List.nil_append, List.cons_append]
 gi_wp2
 go_ret
 exact ⟨rfl, rfl⟩

set_option maxRecDepth 100000 in
set_option maxHeartbeats 2000000 in
theorem backward1_in (l Bs n₀ : Nat) (S : Nat → Prop) (A : Option Addr) (cap : Nat) (xs : List Int) (hx : xs.length ≤ 1000000) (J Jx : List (Int × Int) → World → Prop)
 (hY : ∀ pre x W, J pre W → pre.length < xs.length → YieldAt Fence.wide 8 Try.prog l #[.int .i64 x.1, .int .u8 x.2] W fun e W' =>
   (e = .returned (.bool true) ∧ J (pre ++ [x]) W' ∧ Kset n₀ S W W') ∨ (e = .returned (.bool false) ∧ Jx (pre ++ [x]) W'))
 (W : World) (hBs : W.cell? ⟨Bs, 0, none⟩ = some (.slice A xs.length cap)) (hC : ∀ W', Kset n₀ S W W' → (Kd.int .u8).C W' A xs.length xs) (hBn : Bs < n₀) (hBS : ¬ S Bs) (h0 : J [] W) :
 CallsIn Fence.wide 9 Try.prog 49 #[.func (.yield l) #[] #[], .pointer (some ⟨Bs, 0, none⟩)] W fun e W' => (∃ v, e = .returned v) ∧
  ((∃ ys, ys = back xs xs.length ∧ J ys W') ∨ (∃ pre, (∃ k, k ≤ xs.length ∧ pre = back xs k) ∧ Jx pre W')) := by
 refine callsIn_of_wp Try.func49 rfl trivial ?_ rfl
 simp only [Try.ntmps49, List.size_toArray, List.length_cons, List.length_nil, Nat.reduceAdd, Nat.reduceSub, Array.replicate_succ, Array.replicate_zero, List.push_toArray, List.append_toArray, List.nil_append, List.cons_append]
 gi_wp2
 gi_loopw [3] (fun i wr => ∃ k : Nat, k ≤ xs.length ∧ i = .int .i64 ((xs.length : Int) - 1 - k) ∧ J (back xs k) wr ∧ Kset n₀ S W wr)
  (fun i _ => (intOf i + 1).toNat)
 case atStart => exact ⟨0, Nat.zero_le _, by simp, h0, Kset.refl _ _ _⟩
 case round =>
  obtain ⟨k, hk, rfl, hJs, hnx⟩ := hrel
  have hBs' : wr.cell? ⟨Bs, 0, none⟩ = some (.slice A xs.length cap) := (hnx.cell (p := ⟨Bs, 0, none⟩) hBn hBS).trans hBs
  by_cases hlt : k < xs.length
  · obtain ⟨ad, hA, hcx⟩ := ReadsInt.at_ (Kd.reads_of_C (d := (0 : Int)) (hC wr hnx)) ((xs.length : Int) - 1 - k) (by omega) (by omega)
    obtain ⟨fn, tmps, assign, body, hy, hR⟩ := hY _ ((xs.length : Int) - 1 - k, rd xs ((xs.length : Int) - 1 - k)) wr hJs (by rw [back_length]; exact hlt)
    dsimp only at hy
    rw [← back_succ] at hR
    subst hA
    obtain ⟨i, hi⟩ : ∃ i : Int, (xs.length : Int) - 1 - k = i := ⟨_, rfl⟩
    rw [hi] at hy hcx ⊢
    have hi0 : 0 ≤ i := by omega
    have hi1 : i < (xs.length : Int) := by omega
    have hi2 : i ≤ 1000000 := by omega
    have HI : Hid _ := hi
    clear hi
    gi_wp2
    refine hR.mono ?_
    rintro e W3 (⟨rfl, hJ3, hk3⟩ | ⟨rfl, hJx3⟩)
    · gi_wp2
      go_roundw
      case rel => exact ⟨k + 1, by omega, by rw [← HI.out]; congr 1; omega, hJ3, hnx.trans hk3⟩
      case measure => simp [intOf]; omega
    · gi_wp2
      refine bodyPost_ret (results_none rfl _ _ _) rfl ?_
      exact ⟨⟨_, rfl⟩, .inr ⟨_, ⟨k + 1, by omega, rfl⟩, hJx3⟩⟩
  · obtain rfl : k = xs.length := by omega
    have hneg : ((xs.length : Int) - 1 - (xs.length : Int)) = -1 := by omega
    rw [hneg]
    clear hneg
    gi_wp2
    go_end0
    exact ⟨⟨_, rfl⟩, .inl ⟨_, rfl, hJs⟩⟩

end Go.Proofs.Ytoooceaoggkeeaa.H
end

section
namespace Go.Proofs.Ytoooceaoggkeeaa.F
open Go.RowKit Go.Proofs.YtoooceaoggkeeaaW.PrintWords Go.Proofs.YtoooceaoggkeeaaW.PrintLast Go.Proofs.YtoooceaoggkeeaaW.PrintMore
attribute [local go_sem] max2_int min2_int max_two min_two max_three min_three max_four min_four   -- for this text's walks alone
set_option linter.unusedVariables false
set_option linter.unusedSimpArgs false

open Go.Shelf Go.Proofs.Ytoooceaoggkeeaa.H
attribute [local go_sem] Oper.semAt_some
/-! ### word_Get: given -/
def word_Get.f (l0 : List Int) : Option Int := if bytesB (l0.take 8) = true then some (getL (l0.take 8)) else none
def stepB (n c : Int) : Int := Go.bits .or .u64 (IntKind.u64.wrap (n * 256)) (IntKind.u64.wrap c)
theorem stepB_byte (n c : Int) (h0 : 0 ≤ n) (h1 : n < 72057594037927936) (h2 : 0 ≤ c) (h3 : c ≤ 255) : stepB n c = c + 256 * n := by
 have hk : ∀ z : Int, 0 ≤ z → z < 2 ^ 64 → IntKind.u64.wrap z = z := by
  intro z hz hz2
  simp [IntKind.wrap, IntKind.signed, IntKind.bits]
  omega
 unfold stepB
 rw [hk _ (by omega) (by omega), hk c (by omega) (by omega), bits_join .u64 64 (by decide) hk 8 (n * 256) c (by omega) (by omega) (by omega) h2 (by omega) (by omega)]
 omega
def foldB (pre : List (Int × Int)) : Int := pre.foldl (fun n x => stepB n x.2) 0
theorem foldB_snoc (pre : List (Int × Int)) (x : Int × Int) : foldB (pre ++ [x]) = stepB (foldB pre) x.2 := by simp [foldB]
theorem foldB_back {xs : List Int} (h8 : xs.length ≤ 8) (hc : ∀ c ∈ xs, 0 ≤ c ∧ c ≤ 255) : ∀ k, k ≤ xs.length → foldB (back xs k) = getL (xs.drop (xs.length - k))
 | 0, _ => by simp [foldB, back, getL]
 | k + 1, hk => by
   rw [back_succ, foldB_snoc, foldB_back h8 hc k (by omega)]
   have hlt : xs.length - (k + 1) < xs.length := by omega
   have hd : xs.drop (xs.length - (k + 1)) = xs[xs.length - (k + 1)] :: xs.drop (xs.length - k) := by
    rw [List.drop_eq_getElem_cons hlt]; congr 2; omega
   have hr : rd xs ((xs.length : Int) - 1 - k) = xs[xs.length - (k + 1)] := by
    have e : ((xs.length : Int) - 1 - k).toNat = xs.length - (k + 1) := by omega
    simp [rd, e, List.getD_eq_getElem?_getD, List.getElem?_eq_getElem hlt]
   rw [hd, hr]
   have hb := getL_bound 7 (xs.drop (xs.length - k)) (by simp; omega) (fun c h => hc c (List.mem_of_mem_drop h))
   have hx := hc _ (List.getElem_mem hlt)
   exact stepB_byte _ _ hb.1 (by omega) hx.1 hx.2
set_option maxHeartbeats 1000000 in
set_option maxRecDepth 100000 in
theorem word_Get.calls (A0 : Option Addr) (c0 : Nat) (l0 : List Int) (r : Int) (w : World) (hr0 : Kd.C (Kd.int .u8) w A0 l0.length l0) (hc0 : l0.length ≤ c0) (h : word_Get.f l0 = some r) :
 Calls Try.prog 24 #[.slice A0 l0.length c0] w fun e w' => e = .returned (.int .u64 r) ∧ Below w.heap.size w w' := by
 unfold word_Get.f at h
 split at h
 case isFalse => cases h
 case isTrue hb =>
 obtain rfl := Option.some.inj h
 clear h
 refine (callsIn_wide (n := 10)).1 ?_
 obtain ⟨xs, hxs⟩ : ∃ xs, l0.take 8 = xs := ⟨_, rfl⟩
 have hxl : xs.length = min 8 l0.length := by rw [← hxs, List.length_take]
 have hx8 : xs.length ≤ 8 := by omega
 have hC : (Kd.int .u8).C w A0 xs.length xs := by
  have := (ReadsInt.take_ (Kd.reads_of_C (d := (0 : Int)) hr0) (min 8 l0.length) (by omega))
  rw [← hxl] at this
  have e : l0.take xs.length = xs := by rw [hxl, ← hxs]; simp [List.take_eq_take_iff]
  rw [e] at this
  exact Kd.C_of_reads (d := (0 : Int)) this
 have hmn : (if (8 : Int) < (l0.length : Int) then 8 else (l0.length : Int)) = (xs.length : Int) := by split <;> omega
 have hle : xs.length ≤ l0.length := by omega
 rw [hxs] at hb ⊢
 have hcb := bytesB_at hb
 clear hb hxs hxl hr0
 refine callsIn_of_wp_marks Try.func24 rfl trivial ?_ rfl
 simp only [Try.ntmps24, List.size_toArray, List.length_cons, List.length_nil, Nat.reduceAdd, Nat.reduceSub, Array.replicate_succ, Array.replicate_zero, List.push_toArray, List.append_toArray, List.nil_append, List.cons_append]
 gi_wp2_with (refine ⟨trivial, ?_⟩; gi_at_call 40; refine (backward_in _ _ _ _).mono ?_; rintro e w' ⟨rfl, rfl⟩)
 have bN := Boxed.new w 22 (.int .u64 0)
 have bS := Boxed.new (w.alloc (.cells #[.int .u64 0] 22)) 25 (.slice A0 xs.length c0)
 rw [World.size_alloc] at bS
 have hB0 : Below w.heap.size w ((w.alloc (.cells #[.int .u64 0] 22)).alloc (.cells #[.slice A0 xs.length c0] 25)) := ((Below.refl _ w).alloc (Nat.le_refl _) _).alloc (by simp) _
 refine wpIn_rangeFunc_ownG (F := Fence.wide) (n := 10) rfl (by omega) (gf := 49) (lb := #[.pointer (some ⟨w.heap.size + 1, 0, none⟩)]) rfl trivial (enters_of Try.func49 (by kernel_rfl) rfl)
  (encs := fun x : Int × Int => #[.int .i64 x.1, .int .u8 x.2]) (Kp := Kset (w.heap.size + 2) (fun k => k = w.heap.size)) (S := fun ys => ys = back xs xs.length) (Sp := fun _ => True) (N := xs.length)
  (w0 := (w.alloc (.cells #[.int .u64 0] 22)).alloc (.cells #[.slice A0 xs.length c0] 25)) ?seq ksetK_t (ksetK_b (by simp)) (Below.refl _ _) (fun _ => rfl)
  (fun pre W => Boxed W w.heap.size 22 (.int .u64 (foldB pre)) ∧ Kset (w.heap.size + 2) (fun k => k = w.heap.size) ((w.alloc (.cells #[.int .u64 0] 22)).alloc (.cells #[.slice A0 xs.length c0] 25)) W)
  (fun _ _ _ => False) ?own (fun _ _ _ _ _ hs _ _ => hs) ?start
  (fun x => { tmps := #[.slice A0 l0.length c0, undef, .int .u64 0, .pointer (some ⟨w.heap.size, 0, none⟩), undef, .int .u8 x.2, .slice A0 l0.length c0, .slice A0 l0.length c0, .int .i64 l0.length, .int .i64 xs.length, .slice A0 xs.length c0, .func (.func 49) #[] #[.pointer (some ⟨w.heap.size + 1, 0, none⟩)], .int .i64 x.1, .int .u8 x.2, undef, undef, undef, undef, undef, undef], defers := [] }) ?assign ?body ?done ?stop
 case seq =>
  intro l J Jx W hW hJ hJx hY h0
  refine (backward1_in l (w.heap.size + 1) (w.heap.size + 2) (fun k => k = w.heap.size) A0 c0 xs (by omega) J Jx hY W ((hW.cell (p := ⟨w.heap.size + 1, 0, none⟩) (by simp)).trans bS.cell) (fun W' hk => C_kset hC (hB0.trans (hW.mono (by simp; omega))) hk (by omega) (fun k e => by omega)) (by omega) (by omega) h0).mono ?_
  rintro e W' ⟨he, ⟨ys, rfl, hj⟩ | ⟨pre, _, hj⟩⟩
  · exact ⟨he, .inl ⟨_, rfl, hj⟩⟩
  · exact ⟨he, .inr ⟨_, trivial, hj⟩⟩
 case own => exact OwnFrom.and (Own.from (boxed_own _ _ _) _) (ownFrom_kset (by simp) (by simp))
 case start => exact ⟨by simpa [foldB] using bN.alloc _, Kset.refl _ _ _⟩
 case assign =>
  intro l x W K hK
  gi_wp2
  exact hK
 case body =>
  rintro l pre x W ⟨hb, hk⟩ hlen
  have hc := hb.cell
  have hf := hb.frozen
  gi_wp2
  exact ⟨(KeepsOthers.setCell _ _ _).from _, Kset.setCell (B := w.heap.size + 2) (S := fun k => k = w.heap.size) (Kset.refl _ _ _) (p := ⟨w.heap.size, 0, none⟩) (.inl rfl) _, by rw [foldB_snoc]; exact hb.set _, hk.setCell (p := ⟨w.heap.size, 0, none⟩) (.inl rfl) _⟩
 case done =>
  rintro D ys W hD rfl ⟨hb, hk⟩ hK
  have hc := hb.cell
  gi_wp2
  refine ⟨by simp, .inl ⟨_, _, rfl, run_takeDeferred hK, ?_⟩⟩
  refine ⟨_, results_tmp rfl _ _ _, ?_, ?_⟩
  · rw [foldB_back hx8 hcb _ (Nat.le_refl _)]; simp
  · exact (hB0.trans (hk.below (by omega) (fun k e => by omega))).trans (belowK_b (w := w) (Nat.le_refl _) W D _ _ (by simp at hD; omega) hK rfl rfl)
 case stop =>
  rintro D c pre W _ _ h _
  exact h.elim

end Go.Proofs.Ytoooceaoggkeeaa.F
end
