/- Proved: at every input in bounds the statement PackCodes of the pack layer answers yes: Encode, Parse and Same of any datagram and bytes, and of choices, are what the chapter says.
Text 24 of 30; functions told as plain ones, with the contracts of their calls. -/
import Derived.Test.YtoooceaoggkeeaaQPackCodes22
import Derived.Sort.QuietTacIn
import Derived.Test.YtoooceaoggkeeaaQPackCodes23
import Derived.Deep.LoopGhost
import Derived.RangeFuncWrites
import Derived.Deep.RegionHeld3
import Derived.Deep.DeepCutAuto
section
/- slices.Chunk over bytes: the closure's contract for whatever loop body keeps the slice's box. -/
namespace Go.Proofs.Ytoooceaoggkeeaa.H
open Go.RowKit Go.Shelf
open Go.Proofs.YtoooceaoggkeeaaW.PrintWords
set_option linter.unusedVariables false
set_option linter.unusedSimpArgs false
attribute [local go_sem] Oper.semAt_some
/-- How many pieces of m there are of L, and which the k-th is. -/
def chunkN (m L : Nat) : Nat := (L + m - 1) / m
theorem chunkN_lt {m L k : Nat} (hm : 1 ≤ m) : k < chunkN m L ↔ m * k < L := by
 unfold chunkN
 rw [Nat.lt_div_iff_mul_lt (by omega)]
 have : k * m = m * k := Nat.mul_comm _ _
 omega
def chunkE (m L k : Nat) : Nat := min m (L - m * k)
def chunkV (ad : Addr) (m L k : Nat) : Value := .slice (some (ad.add (m * k))) (chunkE m L k) (chunkE m L k)

theorem chunkB_in (a : Option Addr) (len cap : Nat) (m : Nat) (hm : 1 ≤ m) (w : World) :
 CallsIn Fence.wide 9 Try.prog 26 #[.slice a len cap, .int .i64 m] w fun e w' => e = .returned (.func (.func 41) #[] #[.pointer (some ⟨w.heap.size, 0, none⟩), .pointer (some ⟨w.heap.size + 1, 0, none⟩)]) ∧ w' = (w.alloc (.cells #[.slice a len cap] 25)).alloc (.cells #[.int .i64 m] 3) := by
 have hm1 : ¬ ((m : Int) < 1) := by omega
 refine callsIn_of_wp Try.func26 rfl trivial ?_ rfl
 simp only [Try.ntmps26, List.size_toArray, List.length_cons, List.length_nil, Nat.reduceAdd, Nat.reduceSub, Array.replicate_succ, Array.replicate_zero, List.push_toArray, List.append_toArray, List.nil_append, List.cons_append]
 have hb := (Boxed.new (w.alloc (.cells #[.slice a len cap] 25)) 3 (.int .i64 m)).cell
 rw [World.size_alloc] at hb
 gi_wp2
 go_ret
 exact ⟨rfl, rfl⟩

set_option maxRecDepth 100000 in
set_option maxHeartbeats 2000000 in
theorem chunkB1_in (l Bs Bn n₀ : Nat) (S : Nat → Prop) (A : Option Addr) (ad : Addr) (cap L m : Nat) (hA : 0 < L → A = some ad) (hm : 1 ≤ m) (hm2 : m ≤ 1000) (hx : L ≤ 1000000) (hcap : L ≤ cap) (J Jx : List Nat → World → Prop) (hJd : ∀ ys W n, J ys W → J ys (W.drewN n))
 (hY : ∀ pre k W, J pre W → pre.length < chunkN m L → YieldAt Fence.wide 8 Try.prog l #[chunkV ad m L k] W fun e W' =>
   (e = .returned (.bool true) ∧ J (pre ++ [k]) W' ∧ Kset n₀ S W W') ∨ (e = .returned (.bool false) ∧ Jx (pre ++ [k]) W'))
 (W : World) (hBs : W.cell? ⟨Bs, 0, none⟩ = some (.slice A L cap)) (hBnc : W.cell? ⟨Bn, 0, none⟩ = some (.int .i64 m)) (hBsn : Bs < n₀) (hBsS : ¬ S Bs) (hBnn : Bn < n₀) (hBnS : ¬ S Bn) (h0 : J [] W) :
 CallsIn Fence.wide 9 Try.prog 41 #[.func (.yield l) #[] #[], .pointer (some ⟨Bs, 0, none⟩), .pointer (some ⟨Bn, 0, none⟩)] W fun e W' => (∃ v, e = .returned v) ∧
  ((∃ ys, ys = List.range (chunkN m L) ∧ J ys W') ∨ (∃ pre, (∃ k, k ≤ chunkN m L ∧ pre = List.range k) ∧ Jx pre W')) := by
 refine callsIn_of_wp Try.func41 rfl trivial ?_ rfl
 simp only [Try.ntmps41, List.size_toArray, List.length_cons, List.length_nil, Nat.reduceAdd, Nat.reduceSub, Array.replicate_succ, Array.replicate_zero, List.push_toArray, List.append_toArray, List.nil_append, List.cons_append]
 gi_wp2
 gi_loopw [4] (fun v wr => ∃ k i : Nat, k ≤ chunkN m L ∧ i = m * k ∧ v = .int .i64 i ∧ J (List.range k) wr ∧ Kset n₀ S W wr)
  (fun v _ => L + m - (intOf v).toNat)
 case atStart => exact ⟨0, 0, Nat.zero_le _, rfl, rfl, h0, Kset.refl _ _ _⟩
 case round =>
  obtain ⟨k, i, hk, hi, rfl, hJs, hnx⟩ := hrel
  have hBs' : wr.cell? ⟨Bs, 0, none⟩ = some (.slice A L cap) := (hnx.cell (p := ⟨Bs, 0, none⟩) hBsn hBsS).trans hBs
  have hBn' : wr.cell? ⟨Bn, 0, none⟩ = some (.int .i64 m) := (hnx.cell (p := ⟨Bn, 0, none⟩) hBnn hBnS).trans hBnc
  by_cases hlt : i < L
  · have hkc : k < chunkN m L := (chunkN_lt hm).2 (by omega)
    obtain rfl := hA (by omega)
    have hik : i = m * k := hi
    obtain ⟨e, he⟩ : ∃ e, chunkE m L k = e := ⟨_, rfl⟩
    have he2 : e = min m (L - i) := by rw [hik, ← he]; rfl
    have he1 : 1 ≤ e := by omega
    have he3 : i + e ≤ L := by omega
    have hmn : (if L - i < m then ((L - i : Nat) : Int) else (m : Int)) = (e : Int) := by split <;> omega
    have hmn2 : min (m : Int) ((L - i : Nat) : Int) = (e : Int) := by omega
    have hsucc : i + m = m * (k + 1) := by rw [Nat.mul_succ]; omega
    have hV : chunkV ad m L k = .slice (some (ad.add i)) e e := by rw [chunkV, ← hik, he]
    have hiL : i ≤ L := by omega
    have hci : ¬ (cap = i) := by omega
    have HS : Hid _ := hsucc
    have HKC : Hid _ := hkc
    have HV : Hid _ := hV
    clear hi hik he he2 hsucc hkc hV
    gi_wp2
    refine wpIn_region_quiet_lit rfl (by kernel_rfl) (by kernel_rfl) ?_
    repeat (quiet_step_in (fail))
    refine wpQuietIn_nil ?_
    rintro _ ⟨nq, rfl⟩

    have hBs2 : (wr.drewN nq).cell? ⟨Bs, 0, none⟩ = some (.slice (some ad) L cap) := hBs'
    have hBn2 : (wr.drewN nq).cell? ⟨Bn, 0, none⟩ = some (.int .i64 m) := hBn'
    have hnx2 : Kset n₀ S W (wr.drewN nq) := hnx.trans ⟨rfl, rfl, rfl, Nat.le_refl _, fun _ _ _ => rfl⟩
    obtain ⟨fn, tmps, assign, body, hy, hR⟩ := hY (List.range k) k (wr.drewN nq) (hJd _ _ _ hJs) (by rw [List.length_range]; exact HKC.out)
    obtain ⟨w2, hw2⟩ : ∃ w2, wr.drewN nq = w2 := ⟨_, rfl⟩
    rw [HV.out] at hy
    rw [hw2] at hBs2 hBn2 hnx2 hy hR ⊢
    rw [← List.range_succ] at hR
    obtain ⟨x, hx⟩ : ∃ x, i + e = x := ⟨_, rfl⟩
    have hs1 : ((i : Int) + e) = (x : Int) := by omega
    have hie : i ≤ x := by omega
    have hec : x ≤ cap := by omega
    have hei : ¬ (x = i) := by omega
    have hes : x - i = e := by omega
    clear hx
    clear hBs' hBn' hw2 hmn hmn2 hci
    gi_wp2
    refine hR.mono ?_
    rintro e3 W3 (⟨rfl, hJ3, hk3⟩ | ⟨rfl, hJx3⟩)
    · have hBn3 : W3.cell? ⟨Bn, 0, none⟩ = some (.int .i64 m) := (hk3.cell (p := ⟨Bn, 0, none⟩) hBnn hBnS).trans hBn2
      obtain ⟨y, hy2⟩ : ∃ y, i + m = y := ⟨_, rfl⟩
      have hy3 : (i : Int) + m = (y : Int) := by omega
      have hy4 : y ≤ 1001000 := by omega
      have HY : Hid _ := hy2
      clear hy2
      gi_wp2
      go_roundw
      case rel => exact ⟨k + 1, y, HKC.out, by rw [← HY.out]; exact HS.out, rfl, hJ3, hnx2.trans hk3⟩
      case measure => have := HY.out; simp [intOf]; omega
    · gi_wp2
      refine bodyPost_ret (results_none rfl _ _ _) rfl ?_
      exact ⟨⟨_, rfl⟩, .inr ⟨_, ⟨k + 1, HKC.out, rfl⟩, hJx3⟩⟩
  · obtain rfl : k = chunkN m L := by
     have := mt (chunkN_lt (L := L) (k := k) hm).1 (by omega)
     omega
    clear hi
    gi_wp2
    go_end0
    exact ⟨⟨_, rfl⟩, .inl ⟨_, rfl, hJs⟩⟩
end Go.Proofs.Ytoooceaoggkeeaa.H
end

section
namespace Go.Proofs.Ytoooceaoggkeeaa.F
open Go.RowKit Go.Proofs.YtoooceaoggkeeaaW.PrintWords Go.Proofs.YtoooceaoggkeeaaW.PrintLast Go.Proofs.YtoooceaoggkeeaaW.PrintMore
attribute [local go_sem] max2_int min2_int max_two min_two max_three min_three max_four min_four   -- for this text's walks alone
set_option linter.unusedVariables false
set_option linter.unusedSimpArgs false

open Go.Shelf Go.Proofs.Ytoooceaoggkeeaa.H
attribute [local go_sem] Oper.semAt_some
/-! ### pack_Parse: given -/
def pairsL (l : List Int) : List Int := (List.range (chunkN 2 l.length)).map fun k => getL ((l.drop (2 * k)).take 2)
def midL (b : List Int) (i j : Nat) : List Int := (b.take j).drop i
def restG (b : List Int) : List Int := midL b 17 (b.length - 4)
def parseE (b : List Int) : Int × Int × Int × Int × Int × List Int × List Int :=
 (b.getD 0 0, getL (midL b 1 9), getL (midL b 9 11), getL (midL b 11 13), getL (midL b 13 17), if b.getD 0 0 = 1 then pairsL (restG b) else [], if b.getD 0 0 = 1 then [] else restG b)
def parseG (b : List Int) : Int × Int × Int × Int × Int × List Int × List Int × Int :=
 if b.length < 21 then (0, 0, 0, 0, 0, [], [], 10) else if rightC b = true then
  if encodeG (parseE b).1 (parseE b).2.1 (parseE b).2.2.1 (parseE b).2.2.2.1 (parseE b).2.2.2.2.1 (parseE b).2.2.2.2.2.1 (parseE b).2.2.2.2.2.2 = (b, 0)
  then ((parseE b).1, (parseE b).2.1, (parseE b).2.2.1, (parseE b).2.2.2.1, (parseE b).2.2.2.2.1, (parseE b).2.2.2.2.2.1, (parseE b).2.2.2.2.2.2, 0)
  else (0, 0, 0, 0, 0, [], [], 11)
 else (0, 0, 0, 0, 0, [], [], 12)
def pack_Parse.f (b : List Int) : Option (Int × Int × Int × Int × Int × List Int × List Int × Int) := if bytesB b = true ∧ b.length ≤ 1000000 then some (parseG b) else none
theorem getL_mid (b : List Int) (hb : bytesB b = true) (i j n : Nat) (h : j - i ≤ n) : 0 ≤ getL (midL b i j) ∧ getL (midL b i j) < 256 ^ n := by
 refine getL_bound n _ ?_ (bytesB_at (bytesB_drop (bytesB_take hb j) i))
 unfold midL
 rw [List.length_drop, List.length_take]
 omega
theorem midL_length (b : List Int) (i j : Nat) (h : j ≤ b.length) : (midL b i j).length = j - i := by
 unfold midL
 rw [List.length_drop, List.length_take, Nat.min_eq_left h]
theorem midL_byte {b : List Int} (hb : bytesB b = true) (i j : Nat) : bytesB (midL b i j) = true := bytesB_drop (bytesB_take hb j) i
theorem get_is (p : List Int) (hb : bytesB p = true) (h8 : p.length ≤ 8) : word_Get.f p = some (getL p) := by
 unfold word_Get.f
 rw [List.take_of_length_le (by omega), if_pos hb]
/-- A part of the bytes, told as a slice of them. -/
theorem mid_slice (A : Option Addr) (c : Nat) (l : List Int) (i j : Nat) (hij : i ≤ j) (hj : j ≤ l.length) (hc : l.length ≤ c) (w : World) (hC : Kd.C (Kd.int .u8) w A l.length l) :
 ∃ A', (∀ W : World, (Instr.slice 25 (.slice A l.length c) (some (.int .i64 i)) (some (.int .i64 j)) none).run Try.prog W = .ok (.slice A' (midL l i j).length (c - i)) W) ∧ Kd.C (Kd.int .u8) w A' (midL l i j).length (midL l i j) ∧ (midL l i j).length ≤ c - i := by
 obtain ⟨A', h1, h2, h3⟩ := print_mid_int (P := Try.prog) (k := .u8) 25 5 (i := (Try.prog.info? 5).get (by kernel_rfl)) Try.underlying25 (by kernel_rfl) (by kernel_rfl) A c l (i : Int) (j : Int) (by omega) (by omega) (by omega) hc
 exact ⟨A', h1, Kd.C_of_reads (d := (0 : Int)) (h2 w (Kd.reads_of_C (d := (0 : Int)) hC)), h3⟩
theorem gram_own {β : Type} (n₀ g : Nat) (t e : TypeId) (size : Nat) (cs : Value → Array Value) (k : β → Nat) (f : β → List Value) : Own (fun s W => ∃ v, W.heap[g]? = some (.cells (cs v) t (0, 0)) ∧ W.ownsRow n₀ e size v (k s) (f s) ∧ True) := by
 rintro s X Y row ⟨v, hv, hr, -⟩ hg hrow
 refine ⟨v, blk_grown hv hg (fun e' => ?_), hr.kept hg ?_, trivial⟩
 · obtain ⟨o, ho, hc⟩ := hrow g e'.symm
   rw [hv] at ho; cases ho; cases hc
 · rcases hr.2 with ⟨rfl, _⟩ | ⟨g, cap, cur, rfl, _, hgb, _⟩
   · exact .inl rfl
   · refine .inr fun e' => ?_
     obtain ⟨o, ho, hc⟩ := hrow g (by simpa [Value.ownBlock] using e'.symm)
     rw [hgb] at ho; cases ho; cases hc
theorem rowk_own {β : Type} (n₀ : Nat) (e : TypeId) (size : Nat) (v : Value) (k : Nat) (f : List Value) : Own (fun (_ : β) W => W.ownsRow n₀ e size v k f) := by
 rintro s X Y row hr hg hrow
 refine hr.kept hg ?_
 rcases hr.2 with ⟨rfl, _⟩ | ⟨g, cap, cur, rfl, _, hgb, _⟩
 · exact .inl rfl
 · refine .inr fun e' => ?_
   obtain ⟨o, ho, hc⟩ := hrow g (by simpa [Value.ownBlock] using e'.symm)
   rw [hgb] at ho; cases ho; cases hc
theorem piece_read {W : World} {A : Option Addr} {l : List Int} (h : Kd.C (Kd.int .u8) W A l.length l) (ad : Addr) (hA : 0 < l.length → A = some ad) (m x : Nat) :
 Kd.C (Kd.int .u8) W (some (ad.add (m * x))) (chunkE m l.length x) ((l.drop (m * x)).take m) ∧ ((l.drop (m * x)).take m).length = chunkE m l.length x := by
 have hl : ((l.drop (m * x)).take m).length = chunkE m l.length x := by simp [chunkE]
 have hl2 := h.2.1
 have hle : chunkE m l.length x ≤ l.length - m * x := by unfold chunkE; omega
 refine ⟨⟨hl, by omega, fun h0 => ⟨_, rfl, fun j p hj => ?_⟩⟩, hl⟩
 obtain ⟨ad2, e2, hc⟩ := h.2.2 (by omega)
 have e3 := hA (by omega)
 rw [e2] at e3
 cases e3
 have hjl : j < chunkE m l.length x := by rw [← hl]; exact (List.getElem?_eq_some_iff.1 hj).1
 have hjm : j < m := by unfold chunkE at hjl; omega
 rw [List.getElem?_take, if_pos hjm, List.getElem?_drop] at hj
 obtain ⟨c, h1, h3, h4⟩ := hc _ p hj
 refine ⟨c, h1, h3, fun i u hu => ?_⟩
 have h5 := h4 i u hu
 have e5 : (ad.add (m * x)).add (j * (Kd.int .u8).sz + i) = ad.add ((m * x + j) * (Kd.int .u8).sz + i) := by
  rw [Addr.add_add]
  show ad.add (m * x + (j * 1 + i)) = ad.add ((m * x + j) * 1 + i)
  congr 1
  omega
 rw [e5]
 exact h5
def wsG (rest : List Int) (ks : List Nat) : List Int := ks.map fun k => getL ((rest.drop (2 * k)).take 2)
theorem wsG_all (rest : List Int) : wsG rest (List.range (chunkN 2 rest.length)) = pairsL rest := rfl
theorem wsG_snoc (rest : List Int) (ks : List Nat) (k : Nat) : wsG rest (ks ++ [k]) = wsG rest ks ++ [getL ((rest.drop (2 * k)).take 2)] := by simp [wsG]
set_option maxHeartbeats 40000000 in
set_option maxRecDepth 100000 in
theorem pack_Parse.calls (A0 : Option Addr) (c0 : Nat) (l0 : List Int) (r1 r2 r3 r4 r5 : Int) (r6 r7 : List Int) (r8 : Int) (w : World) (hr0 : Kd.C (Kd.int .u8) w A0 l0.length l0) (hc0 : l0.length ≤ c0) (h : pack_Parse.f l0 = some (r1, r2, r3, r4, r5, r6, r7, r8)) :
 Calls Try.prog 11 #[.slice A0 l0.length c0] w fun e w' => ∃ v5_ v6_ : Value, e = .returned (.tuple #[.agg #[.int .i64 r1, .int .u64 r2, .int .i64 r3, .int .i64 r4, .int .u32 r5, v5_, v6_], .int .u16 r8]) ∧ Kd.R (Kd.int .i64) 3 w' w.heap.size (fun _ => True) v5_ r6 ∧ Kd.R (Kd.int .u8) 5 w' w.heap.size (fun _ => True) v6_ r7 ∧ Below w.heap.size w w' := by
 have hu28 := Try.underlying28
 unfold pack_Parse.f at h
 split at h
 case isFalse => cases h
 case isTrue hb =>
 obtain ⟨hbb, hbl⟩ := hb
 replace h := Option.some.inj h
 have HR0 := Aside0.mk hr0
 have HC0 := Aside0.mk hc0
 clear hr0 hc0
 by_cases h21 : l0.length < 21
 · have h21i : ((l0.length : Int) < 21) := by omega
   rw [parseG, if_pos h21] at h
   cases h
   go_enter Try.func11, Try.ntmps11
   go_wp2_with (first
    | ((with_reducible refine gate_dst (N := 2) rfl ?_); refine box_event ?hg (N := 2) ?hd (cs := #[.int .i64 0, .int .u64 0, .int .i64 0, .int .i64 0, .int .u32 0, .slice none 0 0, .slice none 0 0]) (t := 28) ?hr ?_; (case hd => rfl); (case hg => rfl); (case hr => first | (go_simp; done) | (go_simp; rfl)); intro g0 hg w1 hbox hb; have HB1 := Aside0.mk hb; have BK0 := Aside0.mk hbox; have GE0 := Aside0.mk (Nat.le_of_eq hg.symm); clear hb hbox hg; have z0 : w1.cell? ⟨g0, 0, none⟩ = _ := (blk_cell BK0.out 0).trans rfl; have z1 : w1.cell? ⟨g0, 1, none⟩ = _ := (blk_cell BK0.out 1).trans rfl; have z2 : w1.cell? ⟨g0, 2, none⟩ = _ := (blk_cell BK0.out 2).trans rfl; have z3 : w1.cell? ⟨g0, 3, none⟩ = _ := (blk_cell BK0.out 3).trans rfl; have z4 : w1.cell? ⟨g0, 4, none⟩ = _ := (blk_cell BK0.out 4).trans rfl; have z5 : w1.cell? ⟨g0, 5, none⟩ = _ := (blk_cell BK0.out 5).trans rfl; have z6 : w1.cell? ⟨g0, 6, none⟩ = _ := (blk_cell BK0.out 6).trans rfl; have zf0 := blk_frozen BK0.out 0; have zf1 := blk_frozen BK0.out 1; have zf2 := blk_frozen BK0.out 2; have zf3 := blk_frozen BK0.out 3; have zf4 := blk_frozen BK0.out 4; have zf5 := blk_frozen BK0.out 5; have zf6 := blk_frozen BK0.out 6))
   refine bodyPost_ret (results_ct rfl _ _ g0 28 #[.int .i64 0, .int .u64 0, .int .i64 0, .int .i64 0, .int .u32 0, .slice none 0 0, .slice none 0 0] (0, 0) _ rfl (blk_put (cs := #[.int .i64 0, .int .u64 0, .int .i64 0, .int .i64 0, .int .u32 0, .slice none 0 0, .slice none 0 0]) (blk_put (cs := #[.int .i64 0, .int .u64 0, .int .i64 0, .int .i64 0, .int .u32 0, .slice none 0 0, .slice none 0 0]) (blk_put (cs := #[.int .i64 0, .int .u64 0, .int .i64 0, .int .i64 0, .int .u32 0, .slice none 0 0, .slice none 0 0]) (blk_put (cs := #[.int .i64 0, .int .u64 0, .int .i64 0, .int .i64 0, .int .u32 0, .slice none 0 0, .slice none 0 0]) (blk_put (cs := #[.int .i64 0, .int .u64 0, .int .i64 0, .int .i64 0, .int .u32 0, .slice none 0 0, .slice none 0 0]) (blk_put (cs := #[.int .i64 0, .int .u64 0, .int .i64 0, .int .i64 0, .int .u32 0, .slice none 0 0, .slice none 0 0]) (blk_put (cs := #[.int .i64 0, .int .u64 0, .int .i64 0, .int .i64 0, .int .u32 0, .slice none 0 0, .slice none 0 0]) BK0.out 0 (.int .i64 0) rfl) 1 (.int .u64 0) rfl) 2 (.int .i64 0) rfl) 3 (.int .i64 0) rfl) 4 (.int .u32 0) rfl) 5 (.slice none 0 0) rfl) 6 (.slice none 0 0) rfl) Try.underlying28 rfl (by kernel_rfl)) rfl ?_
   exact ⟨_, _, rfl, Kd.R_nil _ _ _ _ _, Kd.R_nil _ _ _ _ _, (below_set (below_set (below_set (below_set (below_set (below_set (below_set HB1.out GE0.out) GE0.out) GE0.out) GE0.out) GE0.out) GE0.out) GE0.out)⟩
 · have h21i : ¬ ((l0.length : Int) < 21) := by omega
   by_cases hrc : rightC l0 = true
   · have hri : crc_Right_c.f l0 = some true := by unfold crc_Right_c.f; rw [if_pos ⟨hbb, hbl⟩, hrc]
     have HRI := Aside0.mk hri
     have h21n : 21 ≤ l0.length := by omega
     rw [parseG, if_neg h21, if_pos hrc] at h
     have HH := Aside0.mk h
     clear h hri hrc h21
     have HLN := Aside0.mk h21n
     obtain ⟨ad, b0, hA0, hb0c, hb00⟩ : ∃ ad b0, A0 = some ad ∧ (∀ W, Below w.heap.size w W → W.cell? ad = some (.int .u8 b0)) ∧ l0.getD 0 0 = b0 := by
      obtain ⟨ad, e, hx⟩ := ReadsInt.at_ (Kd.reads_of_C (d := (0 : Int)) HR0.out) 0 (by omega) (by omega)
      have e0 : ad.add (0 : Int).toNat = ad := by simp [Addr.add]
      rw [e0] at hx
      refine ⟨ad, rd l0 0, e, fun W hb => pw_cell_below hb hx, rfl⟩
     have hbb0 : 0 ≤ b0 ∧ b0 ≤ 255 := by
      rw [← hb00, List.getD_eq_getElem?_getD, List.getElem?_eq_getElem (by omega)]
      exact bytesB_at hbb _ (List.getElem_mem _)
     subst hA0
     obtain ⟨A1, s1, C1, L1⟩ := mid_slice (some ad) c0 l0 1 9 (by omega) (by omega) HC0.out w HR0.out
     obtain ⟨A2, s2, C2, L2⟩ := mid_slice (some ad) c0 l0 9 11 (by omega) (by omega) HC0.out w HR0.out
     obtain ⟨A3, s3, C3, L3⟩ := mid_slice (some ad) c0 l0 11 13 (by omega) (by omega) HC0.out w HR0.out
     obtain ⟨A4, s4, C4, L4⟩ := mid_slice (some ad) c0 l0 13 17 (by omega) (by omega) HC0.out w HR0.out
     obtain ⟨A5, s5, C5, L5⟩ := mid_slice (some ad) c0 l0 17 (l0.length - 4) (by omega) (by omega) HC0.out w HR0.out
     have g1 := get_is _ (midL_byte hbb 1 9) (by rw [midL_length _ _ _ (by omega)]; omega)
     have g2 := get_is _ (midL_byte hbb 9 11) (by rw [midL_length _ _ _ (by omega)]; omega)
     have g3 := get_is _ (midL_byte hbb 11 13) (by rw [midL_length _ _ _ (by omega)]; omega)
     have g4 := get_is _ (midL_byte hbb 13 17) (by rw [midL_length _ _ _ (by omega)]; omega)
     have x1 := getL_mid l0 hbb 1 9 8 (by omega)
     have x2 := getL_mid l0 hbb 9 11 2 (by omega)
     have x3 := getL_mid l0 hbb 11 13 2 (by omega)
     have x4 := getL_mid l0 hbb 13 17 4 (by omega)
     have hpe : parseE l0 = (b0, getL (midL l0 1 9), getL (midL l0 9 11), getL (midL l0 11 13), getL (midL l0 13 17), if b0 = 1 then pairsL (restG l0) else [], if b0 = 1 then [] else restG l0) := by rw [parseE, hb00]
     have hh := HH.out
     rw [hpe] at hh
     dsimp only at hh
     have hrl : (restG l0).length ≤ 1000000 := by unfold restG; rw [midL_length _ _ _ (by omega)]; omega
     have hrb : bytesB (restG l0) = true := midL_byte hbb _ _
     have hrest : midL l0 17 (l0.length - 4) = restG l0 := rfl
     rw [hrest] at s5 C5 L5
     generalize restG l0 = rest at *
     generalize midL l0 1 9 = p1 at *
     generalize midL l0 9 11 = p2 at *
     generalize midL l0 11 13 = p3 at *
     generalize midL l0 13 17 = p4 at *
     replace s1 : ∀ W : World, (Instr.slice 25 (.slice (some ad) l0.length c0) (some (.int .i64 1)) (some (.int .i64 9)) none).run Try.prog W = .ok (.slice A1 p1.length (c0 - 1)) W := s1
     replace s2 : ∀ W : World, (Instr.slice 25 (.slice (some ad) l0.length c0) (some (.int .i64 9)) (some (.int .i64 11)) none).run Try.prog W = .ok (.slice A2 p2.length (c0 - 9)) W := s2
     replace s3 : ∀ W : World, (Instr.slice 25 (.slice (some ad) l0.length c0) (some (.int .i64 11)) (some (.int .i64 13)) none).run Try.prog W = .ok (.slice A3 p3.length (c0 - 11)) W := s3
     replace s4 : ∀ W : World, (Instr.slice 25 (.slice (some ad) l0.length c0) (some (.int .i64 13)) (some (.int .i64 17)) none).run Try.prog W = .ok (.slice A4 p4.length (c0 - 13)) W := s4
     replace s5 : ∀ W : World, (Instr.slice 25 (.slice (some ad) l0.length c0) (some (.int .i64 17)) (some (.int .i64 ((l0.length : Int) - 4))) none).run Try.prog W = .ok (.slice A5 rest.length (c0 - 17)) W := (by intro W; have h9 := s5 W; rwa [show ((l0.length - 4 : Nat) : Int) = (l0.length : Int) - 4 from by omega] at h9)
     obtain ⟨n1, hn1⟩ : ∃ n, getL p1 = n := ⟨_, rfl⟩
     obtain ⟨n2, hn2⟩ : ∃ n, getL p2 = n := ⟨_, rfl⟩
     obtain ⟨n3, hn3⟩ : ∃ n, getL p3 = n := ⟨_, rfl⟩
     obtain ⟨n4, hn4⟩ : ∃ n, getL p4 = n := ⟨_, rfl⟩
     rw [hn1] at g1 x1 hh
     rw [hn2] at g2 x2 hh
     rw [hn3] at g3 x3 hh
     rw [hn4] at g4 x4 hh
     have w2c : IntKind.i64.wrap n2 = n2 := by rw [i64_w]; unfold wrap64; omega
     have w3c : IntKind.i64.wrap n3 = n3 := by rw [i64_w]; unfold wrap64; omega
     have w4c : IntKind.u32.wrap n4 = n4 := by simp only [IntKind.wrap, IntKind.signed, IntKind.bits]; simp; omega
     have G1 := Aside0.mk g1
     have G2 := Aside0.mk g2
     have G3 := Aside0.mk g3
     have G4 := Aside0.mk g4
     have CC1 := Aside0.mk C1
     have CC2 := Aside0.mk C2
     have CC3 := Aside0.mk C3
     have CC4 := Aside0.mk C4
     have CC5 := Aside0.mk C5
     have LL1 := Aside0.mk L1
     have LL2 := Aside0.mk L2
     have LL3 := Aside0.mk L3
     have LL4 := Aside0.mk L4
     have LL5 := Aside0.mk L5
     have HB0 := Aside0.mk hb0c
     have hwb : Go.RowKit.wrap64 b0 = b0 := by unfold Go.RowKit.wrap64; omega
     have HH2 := Aside0.mk hh
     clear hh HH hpe hrest g1 g2 g3 g4 C1 C2 C3 C4 C5 L1 L2 L3 L4 L5 hb0c hb00 hn1 hn2 hn3 hn4 h21n
     refine (callsIn_wide (n := 10)).1 ?_
     refine callsIn_of_wp_marks Try.func11 rfl trivial ?_ rfl
     refine wpIn_wide.2 ?_
     simp only [Try.ntmps11, List.size_toArray, List.length_cons, List.length_nil, Nat.reduceAdd, Nat.reduceSub, Array.replicate_succ, Array.replicate_zero, List.push_toArray, List.append_toArray, List.nil_append, List.cons_append]
     go_wp2_with (first
      | ((with_reducible refine gate_dst (N := 2) rfl ?_); refine box_event ?hg (N := 2) ?hd (cs := #[.int .i64 0, .int .u64 0, .int .i64 0, .int .i64 0, .int .u32 0, .slice none 0 0, .slice none 0 0]) (t := 28) ?hr ?_; (case hd => rfl); (case hg => rfl); (case hr => first | (go_simp; done) | (go_simp; rfl)); intro g0 hg w1 hbox hb; have HB1 := Aside0.mk hb; have BK0 := Aside0.mk hbox; have GE0 := Aside0.mk (Nat.le_of_eq hg.symm); clear hb hbox hg; have z0 : w1.cell? ⟨g0, 0, none⟩ = _ := (blk_cell BK0.out 0).trans rfl; have z1 : w1.cell? ⟨g0, 1, none⟩ = _ := (blk_cell BK0.out 1).trans rfl; have z2 : w1.cell? ⟨g0, 2, none⟩ = _ := (blk_cell BK0.out 2).trans rfl; have z3 : w1.cell? ⟨g0, 3, none⟩ = _ := (blk_cell BK0.out 3).trans rfl; have z4 : w1.cell? ⟨g0, 4, none⟩ = _ := (blk_cell BK0.out 4).trans rfl; have z5 : w1.cell? ⟨g0, 5, none⟩ = _ := (blk_cell BK0.out 5).trans rfl; have z6 : w1.cell? ⟨g0, 6, none⟩ = _ := (blk_cell BK0.out 6).trans rfl; have zf0 := blk_frozen BK0.out 0; have zf1 := blk_frozen BK0.out 1; have zf2 := blk_frozen BK0.out 2; have zf3 := blk_frozen BK0.out 3; have zf4 := blk_frozen BK0.out 4; have zf5 := blk_frozen BK0.out 5; have zf6 := blk_frozen BK0.out 6)
      | (go_at_call 23; refine (crc_Right_c.calls (some ad) c0 l0 true _ (Kd.C_below HR0.out HB1.out) HC0.out HRI.out).mono ?_; rintro e w2 ⟨rfl, hb2⟩; have HB2 := Aside0.mk (below_then HB1.out HB1.out.size hb2); have BK2 := Aside0.mk (blk_below BK0.out hb2); clear hb2 z0 zf0 z1 zf1 z2 zf2 z3 zf3 z4 zf4 z5 zf5 z6 zf6; have z0 : w2.cell? ⟨g0, 0, none⟩ = _ := (blk_cell BK2.out 0).trans rfl; have z1 : w2.cell? ⟨g0, 1, none⟩ = _ := (blk_cell BK2.out 1).trans rfl; have z2 : w2.cell? ⟨g0, 2, none⟩ = _ := (blk_cell BK2.out 2).trans rfl; have z3 : w2.cell? ⟨g0, 3, none⟩ = _ := (blk_cell BK2.out 3).trans rfl; have z4 : w2.cell? ⟨g0, 4, none⟩ = _ := (blk_cell BK2.out 4).trans rfl; have z5 : w2.cell? ⟨g0, 5, none⟩ = _ := (blk_cell BK2.out 5).trans rfl; have z6 : w2.cell? ⟨g0, 6, none⟩ = _ := (blk_cell BK2.out 6).trans rfl; have zf0 := blk_frozen BK2.out 0; have zf1 := blk_frozen BK2.out 1; have zf2 := blk_frozen BK2.out 2; have zf3 := blk_frozen BK2.out 3; have zf4 := blk_frozen BK2.out 4; have zf5 := blk_frozen BK2.out 5; have zf6 := blk_frozen BK2.out 6))
     clear z0 zf0 z1 zf1 z2 zf2 z3 zf3 z4 zf4 z5 zf5 z6 zf6
     have hcb := HB0.out w2 HB2.out
     have hna2 := World.new_ne w2 ad hcb
     have hpos : 0 < l0.length := by have := HLN.out; omega
     refine wp_region_noPanic ?_
     refine start_ (n := 22) (S := fun w' => w'.cell? ad = some (.int .u8 b0)) (ds := [21]) #[false, false, false, false, false, false, false, false, false, false, false, false, false, false, false, false, false, false, false, false, false, false] (by kernel_rfl) rfl rfl (HB0.out _ (below_drew HB2.out)) (fun hHeld => ?_)
     refine pure_ (i := 0) (N := some 19) (v := ?_) (a' := ?_) #[true, false, false, false, false, false, false, false, false, false, false, false, false, false, false, false, false, false, false, false, false, false] rfl rfl (by kernel_rfl) (fun _ _ _ h => h.elim) (Or.inl ⟨by rfl, ?_⟩) ?_ ?_
     rotate_left
     · intro w'
       go_simp
       with_reducible rfl
     rotate_left
     · simp only [Act.put, List.setIfInBounds_toArray, List.set_cons_zero, List.set_cons_succ, i64_w, i32_w]
       rfl
     refine pure_ (i := 1) (N := some 20) (v := ?_) (a' := ?_) #[true, true, false, false, false, false, false, false, false, false, false, false, false, false, false, false, false, false, false, false, false, false] rfl rfl (by kernel_rfl) (fun _ _ _ h => h.elim) (Or.inl ⟨by rfl, ?_⟩) ?_ ?_
     rotate_left
     · intro w'
       go_simp
       with_reducible rfl
     rotate_left
     · simp only [Act.put, List.setIfInBounds_toArray, List.set_cons_zero, List.set_cons_succ, i64_w, i32_w]
       rfl
     refine pure_ (i := 4) (N := some 23) (v := ?_) (a' := ?_) #[true, true, false, false, true, false, false, false, false, false, false, false, false, false, false, false, false, false, false, false, false, false] rfl rfl (by kernel_rfl) (fun _ _ _ h => h.elim) (Or.inl ⟨by rfl, ?_⟩) ?_ ?_
     rotate_left
     · intro w'
       go_simp
       with_reducible rfl
     rotate_left
     · simp only [Act.put, List.setIfInBounds_toArray, List.set_cons_zero, List.set_cons_succ, i64_w, i32_w]
       rfl
     refine pure_ (i := 5) (N := some 24) (v := ?_) (a' := ?_) #[true, true, false, false, true, true, false, false, false, false, false, false, false, false, false, false, false, false, false, false, false, false] rfl rfl (by kernel_rfl) (fun _ _ _ h => h.elim) (Or.inl ⟨by rfl, ?_⟩) ?_ ?_
     rotate_left
     · intro w'
       go_simp
       with_reducible rfl
     rotate_left
     · simp only [Act.put, List.setIfInBounds_toArray, List.set_cons_zero, List.set_cons_succ, i64_w, i32_w]
       rfl
     refine pure_ (i := 7) (N := some 26) (v := ?_) (a' := ?_) #[true, true, false, false, true, true, false, true, false, false, false, false, false, false, false, false, false, false, false, false, false, false] rfl rfl (by kernel_rfl) (fun _ _ _ h => h.elim) (Or.inl ⟨by rfl, ?_⟩) ?_ ?_
     rotate_left
     · intro w'
       go_simp
       with_reducible rfl
     rotate_left
     · simp only [Act.put, List.setIfInBounds_toArray, List.set_cons_zero, List.set_cons_succ, i64_w, i32_w]
       rfl
     refine pure_ (i := 8) (N := some 27) (v := ?_) (a' := ?_) #[true, true, false, false, true, true, false, true, true, false, false, false, false, false, false, false, false, false, false, false, false, false] rfl rfl (by kernel_rfl) (fun _ _ _ h => h.elim) (Or.inl ⟨by rfl, ?_⟩) ?_ ?_
     rotate_left
     · intro w'
       go_simp
       with_reducible rfl
     rotate_left
     · simp only [Act.put, List.setIfInBounds_toArray, List.set_cons_zero, List.set_cons_succ, i64_w, i32_w]
       rfl
     refine pure_ (i := 11) (N := some 30) (v := ?_) (a' := ?_) #[true, true, false, false, true, true, false, true, true, false, false, true, false, false, false, false, false, false, false, false, false, false] rfl rfl (by kernel_rfl) (fun _ _ _ h => h.elim) (Or.inl ⟨by rfl, ?_⟩) ?_ ?_
     rotate_left
     · intro w'
       go_simp
       with_reducible rfl
     rotate_left
     · simp only [Act.put, List.setIfInBounds_toArray, List.set_cons_zero, List.set_cons_succ, i64_w, i32_w]
       rfl
     refine pure_ (i := 12) (N := some 31) (v := ?_) (a' := ?_) #[true, true, false, false, true, true, false, true, true, false, false, true, true, false, false, false, false, false, false, false, false, false] rfl rfl (by kernel_rfl) (fun _ _ _ h => h.elim) (Or.inl ⟨by rfl, ?_⟩) ?_ ?_
     rotate_left
     · intro w'
       go_simp
       with_reducible rfl
     rotate_left
     · simp only [Act.put, List.setIfInBounds_toArray, List.set_cons_zero, List.set_cons_succ, i64_w, i32_w]
       rfl
     refine pure_ (i := 15) (N := some 34) (v := ?_) (a' := ?_) #[true, true, false, false, true, true, false, true, true, false, false, true, true, false, false, true, false, false, false, false, false, false] rfl rfl (by kernel_rfl) (fun _ _ _ h => h.elim) (Or.inl ⟨by rfl, ?_⟩) ?_ ?_
     rotate_left
     · intro w'
       go_simp
       with_reducible rfl
     rotate_left
     · simp only [Act.put, List.setIfInBounds_toArray, List.set_cons_zero, List.set_cons_succ, i64_w, i32_w]
       rfl
     refine pure_ (i := 16) (N := some 35) (v := ?_) (a' := ?_) #[true, true, false, false, true, true, false, true, true, false, false, true, true, false, false, true, true, false, false, false, false, false] rfl rfl (by kernel_rfl) (fun _ _ _ h => h.elim) (Or.inl ⟨by rfl, ?_⟩) ?_ ?_
     rotate_left
     · intro w'
       go_simp
       with_reducible rfl
     rotate_left
     · simp only [Act.put, List.setIfInBounds_toArray, List.set_cons_zero, List.set_cons_succ, i64_w, i32_w]
       rfl
     refine take_ (i := 2) (N := some 21) (v := ?_) (a' := ?_) #[true, true, true, false, true, true, false, true, true, false, false, true, true, false, false, true, true, false, false, false, false, false] rfl rfl (by kernel_rfl) (fun _ _ _ h => h.elim) (Or.inl ⟨by rfl, ?_⟩) hHeld ?_ ?_
     rotate_left
     · intro w' s0
       go_simp
       with_reducible rfl
     rotate_left
     · simp only [Act.put, List.setIfInBounds_toArray, List.set_cons_zero, List.set_cons_succ, i64_w, i32_w]
       rfl
     refine pure_ (i := 3) (N := some 22) (v := ?_) (a' := ?_) #[true, true, true, true, true, true, false, true, true, false, false, true, true, false, false, true, true, false, false, false, false, false] rfl rfl (by kernel_rfl) (fun _ _ _ h => h.elim) (Or.inl ⟨by rfl, ?_⟩) ?_ ?_
     rotate_left
     · intro w'
       go_simp
       with_reducible rfl
     rotate_left
     · simp only [Act.put, List.setIfInBounds_toArray, List.set_cons_zero, List.set_cons_succ, i64_w, i32_w]
       rfl
     have HX := Aside0.mk (below_drew (Below.refl w2.heap.size w2))
     generalize w2.drew = u at HX ⊢
     refine join_ (σ := Nat) 1 #[true, true, true, true, true, true, true, true, true, true, true, true, true, true, true, true, true, true, true, true, true, false] (fun g => [(25, .int .u64 n1), (28, .int .u64 n2), (29, .int .i64 n2), (32, .int .u64 n3), (33, .int .i64 n3), (36, .int .u64 n4), (37, .int .u32 n4), (38, .agg #[.int .i64 b0, .int .u64 n1, .int .i64 n2, .int .i64 n3, .int .u32 n4, .slice none 0 0, .slice none 0 0]), (4, .pointer (some ⟨g, 0, none⟩))]) (fun g w' => Aside0 (w'.heap[g]? = some (.cells #[.int .i64 0, .int .u64 0, .int .i64 0, .int .i64 0, .int .u32 0, .slice none 0 0, .slice none 0 0] 28 (0, 0))) ∧ Aside0 (Below w2.heap.size w2 w') ∧ Aside0 (w2.heap.size ≤ g)) ?_ ?_
     rotate_left
     · intro hCont
       refine two_ (i := 6) (j := 20) (Ni := some 25) (Nj := some 4) #[true, true, true, true, true, true, true, true, true, false, false, true, true, false, false, true, true, false, false, false, false, false] #[true, true, true, true, true, true, false, true, true, false, false, true, true, false, false, true, true, false, false, false, true, false] rfl rfl rfl rfl (by kernel_rfl) (by decide) (by decide) (fun K hK => ?_) (fun K hK => ?_)
       · skip
         refine call_ 24 #[.slice A1 p1.length (c0 - 1)] (by rfl) rfl (by
          have he := fun args w => enters_ (f := 24) Try.func24 (by kernel_rfl) rfl args w
          simp [go_sem, he]) ?_
         refine (word_Get.calls A1 (c0 - 1) p1 n1 _ (Kd.C_below CC1.out (below_then HB2.out HB2.out.size HX.out)) LL1.out G1.out).mono ?_
         rintro e v4 ⟨rfl, hbx⟩
         refine ⟨_, rfl, ?_⟩
         replace HX := Aside0.mk (below_then HX.out HX.out.size hbx)
         clear hbx
         clear hHeld u
         refine hK.out _ _ (HB0.out _ (below_then HB2.out HB2.out.size HX.out)) (fun hHeld => ?_)
         clear hK K
         refine norm_ (a' := ?_) ?_ ?_
         rotate_left
         · show Act.put _ (some 25) _ = _
           simp only [Act.put, List.setIfInBounds_toArray, List.set_cons_zero, List.set_cons_succ, i64_w, i32_w]
           rfl
         refine two_ (i := 9) (j := 20) (Ni := some 28) (Nj := some 4) #[true, true, true, true, true, true, true, true, true, true, false, true, true, false, false, true, true, false, false, false, false, false] #[true, true, true, true, true, true, true, true, true, false, false, true, true, false, false, true, true, false, false, false, true, false] rfl rfl rfl rfl (by kernel_rfl) (by decide) (by decide) (fun K hK => ?_) (fun K hK => ?_)
         · skip
           refine call_ 24 #[.slice A2 p2.length (c0 - 9)] (by rfl) rfl (by
            have he := fun args w => enters_ (f := 24) Try.func24 (by kernel_rfl) rfl args w
            simp [go_sem, he]) ?_
           refine (word_Get.calls A2 (c0 - 9) p2 n2 _ (Kd.C_below CC2.out (below_then HB2.out HB2.out.size HX.out)) LL2.out G2.out).mono ?_
           rintro e v5 ⟨rfl, hbx⟩
           refine ⟨_, rfl, ?_⟩
           replace HX := Aside0.mk (below_then HX.out HX.out.size hbx)
           clear hbx
           clear hHeld v4
           refine hK.out _ _ (HB0.out _ (below_then HB2.out HB2.out.size HX.out)) (fun hHeld => ?_)
           clear hK K
           refine norm_ (a' := ?_) ?_ ?_
           rotate_left
           · show Act.put _ (some 28) _ = _
             simp only [Act.put, List.setIfInBounds_toArray, List.set_cons_zero, List.set_cons_succ, i64_w, i32_w]
             rfl
           refine pure_ (i := 10) (N := some 29) (v := ?_) (a' := ?_) #[true, true, true, true, true, true, true, true, true, true, true, true, true, false, false, true, true, false, false, false, false, false] rfl rfl (by kernel_rfl) (fun _ _ _ h => h.elim) (Or.inl ⟨by rfl, ?_⟩) ?_ ?_
           rotate_left
           · intro w'
             go_simp
             with_reducible rfl
           rotate_left
           · simp only [Act.put, List.setIfInBounds_toArray, List.set_cons_zero, List.set_cons_succ, i64_w, i32_w]
             rfl
           refine two_ (i := 13) (j := 20) (Ni := some 32) (Nj := some 4) #[true, true, true, true, true, true, true, true, true, true, true, true, true, true, false, true, true, false, false, false, false, false] #[true, true, true, true, true, true, true, true, true, true, true, true, true, false, false, true, true, false, false, false, true, false] rfl rfl rfl rfl (by kernel_rfl) (by decide) (by decide) (fun K hK => ?_) (fun K hK => ?_)
           · skip
             refine call_ 24 #[.slice A3 p3.length (c0 - 11)] (by rfl) rfl (by
              have he := fun args w => enters_ (f := 24) Try.func24 (by kernel_rfl) rfl args w
              simp [go_sem, he]) ?_
             refine (word_Get.calls A3 (c0 - 11) p3 n3 _ (Kd.C_below CC3.out (below_then HB2.out HB2.out.size HX.out)) LL3.out G3.out).mono ?_
             rintro e v6 ⟨rfl, hbx⟩
             refine ⟨_, rfl, ?_⟩
             replace HX := Aside0.mk (below_then HX.out HX.out.size hbx)
             clear hbx
             clear hHeld v5
             refine hK.out _ _ (HB0.out _ (below_then HB2.out HB2.out.size HX.out)) (fun hHeld => ?_)
             clear hK K
             refine norm_ (a' := ?_) ?_ ?_
             rotate_left
             · show Act.put _ (some 32) _ = _
               simp only [Act.put, List.setIfInBounds_toArray, List.set_cons_zero, List.set_cons_succ, i64_w, i32_w]
               rfl
             refine pure_ (i := 14) (N := some 33) (v := ?_) (a' := ?_) #[true, true, true, true, true, true, true, true, true, true, true, true, true, true, true, true, true, false, false, false, false, false] rfl rfl (by kernel_rfl) (fun _ _ _ h => h.elim) (Or.inl ⟨by rfl, ?_⟩) ?_ ?_
             rotate_left
             · intro w'
               go_simp
               with_reducible rfl
             rotate_left
             · simp only [Act.put, List.setIfInBounds_toArray, List.set_cons_zero, List.set_cons_succ, i64_w, i32_w]
               rfl
             refine two_ (i := 17) (j := 20) (Ni := some 36) (Nj := some 4) #[true, true, true, true, true, true, true, true, true, true, true, true, true, true, true, true, true, true, false, false, false, false] #[true, true, true, true, true, true, true, true, true, true, true, true, true, true, true, true, true, false, false, false, true, false] rfl rfl rfl rfl (by kernel_rfl) (by decide) (by decide) (fun K hK => ?_) (fun K hK => ?_)
             · skip
               refine call_ 24 #[.slice A4 p4.length (c0 - 13)] (by rfl) rfl (by
                have he := fun args w => enters_ (f := 24) Try.func24 (by kernel_rfl) rfl args w
                simp [go_sem, he]) ?_
               refine (word_Get.calls A4 (c0 - 13) p4 n4 _ (Kd.C_below CC4.out (below_then HB2.out HB2.out.size HX.out)) LL4.out G4.out).mono ?_
               rintro e v7 ⟨rfl, hbx⟩
               refine ⟨_, rfl, ?_⟩
               replace HX := Aside0.mk (below_then HX.out HX.out.size hbx)
               clear hbx
               clear hHeld v6
               refine hK.out _ _ (HB0.out _ (below_then HB2.out HB2.out.size HX.out)) (fun hHeld => ?_)
               clear hK K
               refine norm_ (a' := ?_) ?_ ?_
               rotate_left
               · show Act.put _ (some 36) _ = _
                 simp only [Act.put, List.setIfInBounds_toArray, List.set_cons_zero, List.set_cons_succ, i64_w, i32_w]
                 rfl
               refine pure_ (i := 18) (N := some 37) (v := ?_) (a' := ?_) #[true, true, true, true, true, true, true, true, true, true, true, true, true, true, true, true, true, true, true, false, false, false] rfl rfl (by kernel_rfl) (fun _ _ _ h => h.elim) (Or.inl ⟨by rfl, ?_⟩) ?_ ?_
               rotate_left
               · intro w'
                 go_simp
                 with_reducible rfl
               rotate_left
               · simp only [Act.put, List.setIfInBounds_toArray, List.set_cons_zero, List.set_cons_succ, i64_w, i32_w]
                 rfl
               refine pure_ (i := 19) (N := some 38) (v := ?_) (a' := ?_) #[true, true, true, true, true, true, true, true, true, true, true, true, true, true, true, true, true, true, true, true, false, false] rfl rfl (by kernel_rfl) (fun _ _ _ h => h.elim) (Or.inl ⟨by rfl, ?_⟩) ?_ ?_
               rotate_left
               · intro w'
                 go_simp
                 with_reducible rfl
               rotate_left
               · simp only [Act.put, List.setIfInBounds_toArray, List.set_cons_zero, List.set_cons_succ, i64_w, i32_w]
                 rfl
               refine one_ (i := 20) (N := some 4) #[true, true, true, true, true, true, true, true, true, true, true, true, true, true, true, true, true, true, true, true, true, false] rfl rfl (by kernel_rfl) (by decide) (fun K hK => ?_)
               refine value_ (w1 := v7.alloc (.cells #[.int .i64 0, .int .u64 0, .int .i64 0, .int .i64 0, .int .u32 0, .slice none 0 0, .slice none 0 0] 28)) (v := .pointer (some ⟨v7.heap.size, 0, none⟩)) (by rfl) rfl (by go_simp; first | done | rfl) ?_
               have KZ := Aside0.mk (blk_new v7 (.cells #[.int .i64 0, .int .u64 0, .int .i64 0, .int .i64 0, .int .u32 0, .slice none 0 0, .slice none 0 0] 28))
               have GQ := Aside0.mk HX.out.size
               replace HX := Aside0.mk (below_alloc HX.out (.cells #[.int .i64 0, .int .u64 0, .int .i64 0, .int .i64 0, .int .u32 0, .slice none 0 0, .slice none 0 0] 28))
               generalize v7.alloc (.cells #[.int .i64 0, .int .u64 0, .int .i64 0, .int .i64 0, .int .u32 0, .slice none 0 0, .slice none 0 0] 28) = v8 at KZ HX ⊢
               generalize v7.heap.size = g at KZ GQ ⊢
               clear hHeld v7
               refine hK.out _ _ (HB0.out _ (below_then HB2.out HB2.out.size HX.out)) (fun hHeld => ?_)
               clear hK K
               refine norm_ (a' := ?_) ?_ ?_
               rotate_left
               · show Act.put _ (some 4) _ = _
                 simp only [Act.put, List.setIfInBounds_toArray, List.set_cons_zero, List.set_cons_succ, i64_w, i32_w]
                 rfl
               exact norm_ (by first | (simp only [putAll, Act.put, List.setIfInBounds_toArray, List.set_cons_zero, List.set_cons_succ]; done) | (simp only [putAll, Act.put, List.setIfInBounds_toArray, List.set_cons_zero, List.set_cons_succ]; rfl)) (hCont g v8 ⟨KZ, HX, GQ⟩)
             · skip
               refine value_ (w1 := v6.alloc (.cells #[.int .i64 0, .int .u64 0, .int .i64 0, .int .i64 0, .int .u32 0, .slice none 0 0, .slice none 0 0] 28)) (v := .pointer (some ⟨v6.heap.size, 0, none⟩)) (by rfl) rfl (by go_simp; first | done | rfl) ?_
               have KZ := Aside0.mk (blk_new v6 (.cells #[.int .i64 0, .int .u64 0, .int .i64 0, .int .i64 0, .int .u32 0, .slice none 0 0, .slice none 0 0] 28))
               have GQ := Aside0.mk HX.out.size
               replace HX := Aside0.mk (below_alloc HX.out (.cells #[.int .i64 0, .int .u64 0, .int .i64 0, .int .i64 0, .int .u32 0, .slice none 0 0, .slice none 0 0] 28))
               generalize v6.alloc (.cells #[.int .i64 0, .int .u64 0, .int .i64 0, .int .i64 0, .int .u32 0, .slice none 0 0, .slice none 0 0] 28) = v9 at KZ HX ⊢
               generalize v6.heap.size = g at KZ GQ ⊢
               clear hHeld v6
               refine hK.out _ _ (HB0.out _ (below_then HB2.out HB2.out.size HX.out)) (fun hHeld => ?_)
               clear hK K
               refine norm_ (a' := ?_) ?_ ?_
               rotate_left
               · show Act.put _ (some 4) _ = _
                 simp only [Act.put, List.setIfInBounds_toArray, List.set_cons_zero, List.set_cons_succ, i64_w, i32_w]
                 rfl
               refine one_ (i := 17) (N := some 36) #[true, true, true, true, true, true, true, true, true, true, true, true, true, true, true, true, true, true, false, false, true, false] rfl rfl (by kernel_rfl) (by decide) (fun K hK => ?_)
               refine call_ 24 #[.slice A4 p4.length (c0 - 13)] (by rfl) rfl (by
                have he := fun args w => enters_ (f := 24) Try.func24 (by kernel_rfl) rfl args w
                simp [go_sem, he]) ?_
               refine (word_Get.calls A4 (c0 - 13) p4 n4 _ (Kd.C_below CC4.out (below_then HB2.out HB2.out.size HX.out)) LL4.out G4.out).mono ?_
               rintro e v10 ⟨rfl, hbx⟩
               refine ⟨_, rfl, ?_⟩
               replace KZ := Aside0.mk (blk_below KZ.out hbx)
               replace HX := Aside0.mk (below_then HX.out HX.out.size hbx)
               clear hbx
               clear hHeld v9
               refine hK.out _ _ (HB0.out _ (below_then HB2.out HB2.out.size HX.out)) (fun hHeld => ?_)
               clear hK K
               refine norm_ (a' := ?_) ?_ ?_
               rotate_left
               · show Act.put _ (some 36) _ = _
                 simp only [Act.put, List.setIfInBounds_toArray, List.set_cons_zero, List.set_cons_succ, i64_w, i32_w]
                 rfl
               refine pure_ (i := 18) (N := some 37) (v := ?_) (a' := ?_) #[true, true, true, true, true, true, true, true, true, true, true, true, true, true, true, true, true, true, true, false, true, false] rfl rfl (by kernel_rfl) (fun _ _ _ h => h.elim) (Or.inl ⟨by rfl, ?_⟩) ?_ ?_
               rotate_left
               · intro w'
                 go_simp
                 with_reducible rfl
               rotate_left
               · simp only [Act.put, List.setIfInBounds_toArray, List.set_cons_zero, List.set_cons_succ, i64_w, i32_w]
                 rfl
               refine pure_ (i := 19) (N := some 38) (v := ?_) (a' := ?_) #[true, true, true, true, true, true, true, true, true, true, true, true, true, true, true, true, true, true, true, true, true, false] rfl rfl (by kernel_rfl) (fun _ _ _ h => h.elim) (Or.inl ⟨by rfl, ?_⟩) ?_ ?_
               rotate_left
               · intro w'
                 go_simp
                 with_reducible rfl
               rotate_left
               · simp only [Act.put, List.setIfInBounds_toArray, List.set_cons_zero, List.set_cons_succ, i64_w, i32_w]
                 rfl
               exact norm_ (by first | (simp only [putAll, Act.put, List.setIfInBounds_toArray, List.set_cons_zero, List.set_cons_succ]; done) | (simp only [putAll, Act.put, List.setIfInBounds_toArray, List.set_cons_zero, List.set_cons_succ]; rfl)) (hCont g v10 ⟨KZ, HX, GQ⟩)
           · skip
             refine value_ (w1 := v5.alloc (.cells #[.int .i64 0, .int .u64 0, .int .i64 0, .int .i64 0, .int .u32 0, .slice none 0 0, .slice none 0 0] 28)) (v := .pointer (some ⟨v5.heap.size, 0, none⟩)) (by rfl) rfl (by go_simp; first | done | rfl) ?_
             have KZ := Aside0.mk (blk_new v5 (.cells #[.int .i64 0, .int .u64 0, .int .i64 0, .int .i64 0, .int .u32 0, .slice none 0 0, .slice none 0 0] 28))
             have GQ := Aside0.mk HX.out.size
             replace HX := Aside0.mk (below_alloc HX.out (.cells #[.int .i64 0, .int .u64 0, .int .i64 0, .int .i64 0, .int .u32 0, .slice none 0 0, .slice none 0 0] 28))
             generalize v5.alloc (.cells #[.int .i64 0, .int .u64 0, .int .i64 0, .int .i64 0, .int .u32 0, .slice none 0 0, .slice none 0 0] 28) = v11 at KZ HX ⊢
             generalize v5.heap.size = g at KZ GQ ⊢
             clear hHeld v5
             refine hK.out _ _ (HB0.out _ (below_then HB2.out HB2.out.size HX.out)) (fun hHeld => ?_)
             clear hK K
             refine norm_ (a' := ?_) ?_ ?_
             rotate_left
             · show Act.put _ (some 4) _ = _
               simp only [Act.put, List.setIfInBounds_toArray, List.set_cons_zero, List.set_cons_succ, i64_w, i32_w]
               rfl
             refine one_ (i := 13) (N := some 32) #[true, true, true, true, true, true, true, true, true, true, true, true, true, true, false, true, true, false, false, false, true, false] rfl rfl (by kernel_rfl) (by decide) (fun K hK => ?_)
             refine call_ 24 #[.slice A3 p3.length (c0 - 11)] (by rfl) rfl (by
              have he := fun args w => enters_ (f := 24) Try.func24 (by kernel_rfl) rfl args w
              simp [go_sem, he]) ?_
             refine (word_Get.calls A3 (c0 - 11) p3 n3 _ (Kd.C_below CC3.out (below_then HB2.out HB2.out.size HX.out)) LL3.out G3.out).mono ?_
             rintro e v12 ⟨rfl, hbx⟩
             refine ⟨_, rfl, ?_⟩
             replace KZ := Aside0.mk (blk_below KZ.out hbx)
             replace HX := Aside0.mk (below_then HX.out HX.out.size hbx)
             clear hbx
             clear hHeld v11
             refine hK.out _ _ (HB0.out _ (below_then HB2.out HB2.out.size HX.out)) (fun hHeld => ?_)
             clear hK K
             refine norm_ (a' := ?_) ?_ ?_
             rotate_left
             · show Act.put _ (some 32) _ = _
               simp only [Act.put, List.setIfInBounds_toArray, List.set_cons_zero, List.set_cons_succ, i64_w, i32_w]
               rfl
             refine pure_ (i := 14) (N := some 33) (v := ?_) (a' := ?_) #[true, true, true, true, true, true, true, true, true, true, true, true, true, true, true, true, true, false, false, false, true, false] rfl rfl (by kernel_rfl) (fun _ _ _ h => h.elim) (Or.inl ⟨by rfl, ?_⟩) ?_ ?_
             rotate_left
             · intro w'
               go_simp
               with_reducible rfl
             rotate_left
             · simp only [Act.put, List.setIfInBounds_toArray, List.set_cons_zero, List.set_cons_succ, i64_w, i32_w]
               rfl
             refine one_ (i := 17) (N := some 36) #[true, true, true, true, true, true, true, true, true, true, true, true, true, true, true, true, true, true, false, false, true, false] rfl rfl (by kernel_rfl) (by decide) (fun K hK => ?_)
             refine call_ 24 #[.slice A4 p4.length (c0 - 13)] (by rfl) rfl (by
              have he := fun args w => enters_ (f := 24) Try.func24 (by kernel_rfl) rfl args w
              simp [go_sem, he]) ?_
             refine (word_Get.calls A4 (c0 - 13) p4 n4 _ (Kd.C_below CC4.out (below_then HB2.out HB2.out.size HX.out)) LL4.out G4.out).mono ?_
             rintro e v13 ⟨rfl, hbx⟩
             refine ⟨_, rfl, ?_⟩
             replace KZ := Aside0.mk (blk_below KZ.out hbx)
             replace HX := Aside0.mk (below_then HX.out HX.out.size hbx)
             clear hbx
             clear hHeld v12
             refine hK.out _ _ (HB0.out _ (below_then HB2.out HB2.out.size HX.out)) (fun hHeld => ?_)
             clear hK K
             refine norm_ (a' := ?_) ?_ ?_
             rotate_left
             · show Act.put _ (some 36) _ = _
               simp only [Act.put, List.setIfInBounds_toArray, List.set_cons_zero, List.set_cons_succ, i64_w, i32_w]
               rfl
             refine pure_ (i := 18) (N := some 37) (v := ?_) (a' := ?_) #[true, true, true, true, true, true, true, true, true, true, true, true, true, true, true, true, true, true, true, false, true, false] rfl rfl (by kernel_rfl) (fun _ _ _ h => h.elim) (Or.inl ⟨by rfl, ?_⟩) ?_ ?_
             rotate_left
             · intro w'
               go_simp
               with_reducible rfl
             rotate_left
             · simp only [Act.put, List.setIfInBounds_toArray, List.set_cons_zero, List.set_cons_succ, i64_w, i32_w]
               rfl
             refine pure_ (i := 19) (N := some 38) (v := ?_) (a' := ?_) #[true, true, true, true, true, true, true, true, true, true, true, true, true, true, true, true, true, true, true, true, true, false] rfl rfl (by kernel_rfl) (fun _ _ _ h => h.elim) (Or.inl ⟨by rfl, ?_⟩) ?_ ?_
             rotate_left
             · intro w'
               go_simp
               with_reducible rfl
             rotate_left
             · simp only [Act.put, List.setIfInBounds_toArray, List.set_cons_zero, List.set_cons_succ, i64_w, i32_w]
               rfl
             exact norm_ (by first | (simp only [putAll, Act.put, List.setIfInBounds_toArray, List.set_cons_zero, List.set_cons_succ]; done) | (simp only [putAll, Act.put, List.setIfInBounds_toArray, List.set_cons_zero, List.set_cons_succ]; rfl)) (hCont g v13 ⟨KZ, HX, GQ⟩)
         · skip
           refine value_ (w1 := v4.alloc (.cells #[.int .i64 0, .int .u64 0, .int .i64 0, .int .i64 0, .int .u32 0, .slice none 0 0, .slice none 0 0] 28)) (v := .pointer (some ⟨v4.heap.size, 0, none⟩)) (by rfl) rfl (by go_simp; first | done | rfl) ?_
           have KZ := Aside0.mk (blk_new v4 (.cells #[.int .i64 0, .int .u64 0, .int .i64 0, .int .i64 0, .int .u32 0, .slice none 0 0, .slice none 0 0] 28))
           have GQ := Aside0.mk HX.out.size
           replace HX := Aside0.mk (below_alloc HX.out (.cells #[.int .i64 0, .int .u64 0, .int .i64 0, .int .i64 0, .int .u32 0, .slice none 0 0, .slice none 0 0] 28))
           generalize v4.alloc (.cells #[.int .i64 0, .int .u64 0, .int .i64 0, .int .i64 0, .int .u32 0, .slice none 0 0, .slice none 0 0] 28) = v14 at KZ HX ⊢
           generalize v4.heap.size = g at KZ GQ ⊢
           clear hHeld v4
           refine hK.out _ _ (HB0.out _ (below_then HB2.out HB2.out.size HX.out)) (fun hHeld => ?_)
           clear hK K
           refine norm_ (a' := ?_) ?_ ?_
           rotate_left
           · show Act.put _ (some 4) _ = _
             simp only [Act.put, List.setIfInBounds_toArray, List.set_cons_zero, List.set_cons_succ, i64_w, i32_w]
             rfl
           refine one_ (i := 9) (N := some 28) #[true, true, true, true, true, true, true, true, true, true, false, true, true, false, false, true, true, false, false, false, true, false] rfl rfl (by kernel_rfl) (by decide) (fun K hK => ?_)
           refine call_ 24 #[.slice A2 p2.length (c0 - 9)] (by rfl) rfl (by
            have he := fun args w => enters_ (f := 24) Try.func24 (by kernel_rfl) rfl args w
            simp [go_sem, he]) ?_
           refine (word_Get.calls A2 (c0 - 9) p2 n2 _ (Kd.C_below CC2.out (below_then HB2.out HB2.out.size HX.out)) LL2.out G2.out).mono ?_
           rintro e v15 ⟨rfl, hbx⟩
           refine ⟨_, rfl, ?_⟩
           replace KZ := Aside0.mk (blk_below KZ.out hbx)
           replace HX := Aside0.mk (below_then HX.out HX.out.size hbx)
           clear hbx
           clear hHeld v14
           refine hK.out _ _ (HB0.out _ (below_then HB2.out HB2.out.size HX.out)) (fun hHeld => ?_)
           clear hK K
           refine norm_ (a' := ?_) ?_ ?_
           rotate_left
           · show Act.put _ (some 28) _ = _
             simp only [Act.put, List.setIfInBounds_toArray, List.set_cons_zero, List.set_cons_succ, i64_w, i32_w]
             rfl
           refine pure_ (i := 10) (N := some 29) (v := ?_) (a' := ?_) #[true, true, true, true, true, true, true, true, true, true, true, true, true, false, false, true, true, false, false, false, true, false] rfl rfl (by kernel_rfl) (fun _ _ _ h => h.elim) (Or.inl ⟨by rfl, ?_⟩) ?_ ?_
           rotate_left
           · intro w'
             go_simp
             with_reducible rfl
           rotate_left
           · simp only [Act.put, List.setIfInBounds_toArray, List.set_cons_zero, List.set_cons_succ, i64_w, i32_w]
             rfl
           refine one_ (i := 13) (N := some 32) #[true, true, true, true, true, true, true, true, true, true, true, true, true, true, false, true, true, false, false, false, true, false] rfl rfl (by kernel_rfl) (by decide) (fun K hK => ?_)
           refine call_ 24 #[.slice A3 p3.length (c0 - 11)] (by rfl) rfl (by
            have he := fun args w => enters_ (f := 24) Try.func24 (by kernel_rfl) rfl args w
            simp [go_sem, he]) ?_
           refine (word_Get.calls A3 (c0 - 11) p3 n3 _ (Kd.C_below CC3.out (below_then HB2.out HB2.out.size HX.out)) LL3.out G3.out).mono ?_
           rintro e v16 ⟨rfl, hbx⟩
           refine ⟨_, rfl, ?_⟩
           replace KZ := Aside0.mk (blk_below KZ.out hbx)
           replace HX := Aside0.mk (below_then HX.out HX.out.size hbx)
           clear hbx
           clear hHeld v15
           refine hK.out _ _ (HB0.out _ (below_then HB2.out HB2.out.size HX.out)) (fun hHeld => ?_)
           clear hK K
           refine norm_ (a' := ?_) ?_ ?_
           rotate_left
           · show Act.put _ (some 32) _ = _
             simp only [Act.put, List.setIfInBounds_toArray, List.set_cons_zero, List.set_cons_succ, i64_w, i32_w]
             rfl
           refine pure_ (i := 14) (N := some 33) (v := ?_) (a' := ?_) #[true, true, true, true, true, true, true, true, true, true, true, true, true, true, true, true, true, false, false, false, true, false] rfl rfl (by kernel_rfl) (fun _ _ _ h => h.elim) (Or.inl ⟨by rfl, ?_⟩) ?_ ?_
           rotate_left
           · intro w'
             go_simp
             with_reducible rfl
           rotate_left
           · simp only [Act.put, List.setIfInBounds_toArray, List.set_cons_zero, List.set_cons_succ, i64_w, i32_w]
             rfl
           refine one_ (i := 17) (N := some 36) #[true, true, true, true, true, true, true, true, true, true, true, true, true, true, true, true, true, true, false, false, true, false] rfl rfl (by kernel_rfl) (by decide) (fun K hK => ?_)
           refine call_ 24 #[.slice A4 p4.length (c0 - 13)] (by rfl) rfl (by
            have he := fun args w => enters_ (f := 24) Try.func24 (by kernel_rfl) rfl args w
            simp [go_sem, he]) ?_
           refine (word_Get.calls A4 (c0 - 13) p4 n4 _ (Kd.C_below CC4.out (below_then HB2.out HB2.out.size HX.out)) LL4.out G4.out).mono ?_
           rintro e v17 ⟨rfl, hbx⟩
           refine ⟨_, rfl, ?_⟩
           replace KZ := Aside0.mk (blk_below KZ.out hbx)
           replace HX := Aside0.mk (below_then HX.out HX.out.size hbx)
           clear hbx
           clear hHeld v16
           refine hK.out _ _ (HB0.out _ (below_then HB2.out HB2.out.size HX.out)) (fun hHeld => ?_)
           clear hK K
           refine norm_ (a' := ?_) ?_ ?_
           rotate_left
           · show Act.put _ (some 36) _ = _
             simp only [Act.put, List.setIfInBounds_toArray, List.set_cons_zero, List.set_cons_succ, i64_w, i32_w]
             rfl
           refine pure_ (i := 18) (N := some 37) (v := ?_) (a' := ?_) #[true, true, true, true, true, true, true, true, true, true, true, true, true, true, true, true, true, true, true, false, true, false] rfl rfl (by kernel_rfl) (fun _ _ _ h => h.elim) (Or.inl ⟨by rfl, ?_⟩) ?_ ?_
           rotate_left
           · intro w'
             go_simp
             with_reducible rfl
           rotate_left
           · simp only [Act.put, List.setIfInBounds_toArray, List.set_cons_zero, List.set_cons_succ, i64_w, i32_w]
             rfl
           refine pure_ (i := 19) (N := some 38) (v := ?_) (a' := ?_) #[true, true, true, true, true, true, true, true, true, true, true, true, true, true, true, true, true, true, true, true, true, false] rfl rfl (by kernel_rfl) (fun _ _ _ h => h.elim) (Or.inl ⟨by rfl, ?_⟩) ?_ ?_
           rotate_left
           · intro w'
             go_simp
             with_reducible rfl
           rotate_left
           · simp only [Act.put, List.setIfInBounds_toArray, List.set_cons_zero, List.set_cons_succ, i64_w, i32_w]
             rfl
           exact norm_ (by first | (simp only [putAll, Act.put, List.setIfInBounds_toArray, List.set_cons_zero, List.set_cons_succ]; done) | (simp only [putAll, Act.put, List.setIfInBounds_toArray, List.set_cons_zero, List.set_cons_succ]; rfl)) (hCont g v17 ⟨KZ, HX, GQ⟩)
       · skip
         refine value_ (w1 := u.alloc (.cells #[.int .i64 0, .int .u64 0, .int .i64 0, .int .i64 0, .int .u32 0, .slice none 0 0, .slice none 0 0] 28)) (v := .pointer (some ⟨u.heap.size, 0, none⟩)) (by rfl) rfl (by go_simp; first | done | rfl) ?_
         have KZ := Aside0.mk (blk_new u (.cells #[.int .i64 0, .int .u64 0, .int .i64 0, .int .i64 0, .int .u32 0, .slice none 0 0, .slice none 0 0] 28))
         have GQ := Aside0.mk HX.out.size
         replace HX := Aside0.mk (below_alloc HX.out (.cells #[.int .i64 0, .int .u64 0, .int .i64 0, .int .i64 0, .int .u32 0, .slice none 0 0, .slice none 0 0] 28))
         generalize u.alloc (.cells #[.int .i64 0, .int .u64 0, .int .i64 0, .int .i64 0, .int .u32 0, .slice none 0 0, .slice none 0 0] 28) = v18 at KZ HX ⊢
         generalize u.heap.size = g at KZ GQ ⊢
         clear hHeld u
         refine hK.out _ _ (HB0.out _ (below_then HB2.out HB2.out.size HX.out)) (fun hHeld => ?_)
         clear hK K
         refine norm_ (a' := ?_) ?_ ?_
         rotate_left
         · show Act.put _ (some 4) _ = _
           simp only [Act.put, List.setIfInBounds_toArray, List.set_cons_zero, List.set_cons_succ, i64_w, i32_w]
           rfl
         refine one_ (i := 6) (N := some 25) #[true, true, true, true, true, true, true, true, true, false, false, true, true, false, false, true, true, false, false, false, true, false] rfl rfl (by kernel_rfl) (by decide) (fun K hK => ?_)
         refine call_ 24 #[.slice A1 p1.length (c0 - 1)] (by rfl) rfl (by
          have he := fun args w => enters_ (f := 24) Try.func24 (by kernel_rfl) rfl args w
          simp [go_sem, he]) ?_
         refine (word_Get.calls A1 (c0 - 1) p1 n1 _ (Kd.C_below CC1.out (below_then HB2.out HB2.out.size HX.out)) LL1.out G1.out).mono ?_
         rintro e v19 ⟨rfl, hbx⟩
         refine ⟨_, rfl, ?_⟩
         replace KZ := Aside0.mk (blk_below KZ.out hbx)
         replace HX := Aside0.mk (below_then HX.out HX.out.size hbx)
         clear hbx
         clear hHeld v18
         refine hK.out _ _ (HB0.out _ (below_then HB2.out HB2.out.size HX.out)) (fun hHeld => ?_)
         clear hK K
         refine norm_ (a' := ?_) ?_ ?_
         rotate_left
         · show Act.put _ (some 25) _ = _
           simp only [Act.put, List.setIfInBounds_toArray, List.set_cons_zero, List.set_cons_succ, i64_w, i32_w]
           rfl
         refine one_ (i := 9) (N := some 28) #[true, true, true, true, true, true, true, true, true, true, false, true, true, false, false, true, true, false, false, false, true, false] rfl rfl (by kernel_rfl) (by decide) (fun K hK => ?_)
         refine call_ 24 #[.slice A2 p2.length (c0 - 9)] (by rfl) rfl (by
          have he := fun args w => enters_ (f := 24) Try.func24 (by kernel_rfl) rfl args w
          simp [go_sem, he]) ?_
         refine (word_Get.calls A2 (c0 - 9) p2 n2 _ (Kd.C_below CC2.out (below_then HB2.out HB2.out.size HX.out)) LL2.out G2.out).mono ?_
         rintro e v20 ⟨rfl, hbx⟩
         refine ⟨_, rfl, ?_⟩
         replace KZ := Aside0.mk (blk_below KZ.out hbx)
         replace HX := Aside0.mk (below_then HX.out HX.out.size hbx)
         clear hbx
         clear hHeld v19
         refine hK.out _ _ (HB0.out _ (below_then HB2.out HB2.out.size HX.out)) (fun hHeld => ?_)
         clear hK K
         refine norm_ (a' := ?_) ?_ ?_
         rotate_left
         · show Act.put _ (some 28) _ = _
           simp only [Act.put, List.setIfInBounds_toArray, List.set_cons_zero, List.set_cons_succ, i64_w, i32_w]
           rfl
         refine pure_ (i := 10) (N := some 29) (v := ?_) (a' := ?_) #[true, true, true, true, true, true, true, true, true, true, true, true, true, false, false, true, true, false, false, false, true, false] rfl rfl (by kernel_rfl) (fun _ _ _ h => h.elim) (Or.inl ⟨by rfl, ?_⟩) ?_ ?_
         rotate_left
         · intro w'
           go_simp
           with_reducible rfl
         rotate_left
         · simp only [Act.put, List.setIfInBounds_toArray, List.set_cons_zero, List.set_cons_succ, i64_w, i32_w]
           rfl
         refine one_ (i := 13) (N := some 32) #[true, true, true, true, true, true, true, true, true, true, true, true, true, true, false, true, true, false, false, false, true, false] rfl rfl (by kernel_rfl) (by decide) (fun K hK => ?_)
         refine call_ 24 #[.slice A3 p3.length (c0 - 11)] (by rfl) rfl (by
          have he := fun args w => enters_ (f := 24) Try.func24 (by kernel_rfl) rfl args w
          simp [go_sem, he]) ?_
         refine (word_Get.calls A3 (c0 - 11) p3 n3 _ (Kd.C_below CC3.out (below_then HB2.out HB2.out.size HX.out)) LL3.out G3.out).mono ?_
         rintro e v21 ⟨rfl, hbx⟩
         refine ⟨_, rfl, ?_⟩
         replace KZ := Aside0.mk (blk_below KZ.out hbx)
         replace HX := Aside0.mk (below_then HX.out HX.out.size hbx)
         clear hbx
         clear hHeld v20
         refine hK.out _ _ (HB0.out _ (below_then HB2.out HB2.out.size HX.out)) (fun hHeld => ?_)
         clear hK K
         refine norm_ (a' := ?_) ?_ ?_
         rotate_left
         · show Act.put _ (some 32) _ = _
           simp only [Act.put, List.setIfInBounds_toArray, List.set_cons_zero, List.set_cons_succ, i64_w, i32_w]
           rfl
         refine pure_ (i := 14) (N := some 33) (v := ?_) (a' := ?_) #[true, true, true, true, true, true, true, true, true, true, true, true, true, true, true, true, true, false, false, false, true, false] rfl rfl (by kernel_rfl) (fun _ _ _ h => h.elim) (Or.inl ⟨by rfl, ?_⟩) ?_ ?_
         rotate_left
         · intro w'
           go_simp
           with_reducible rfl
         rotate_left
         · simp only [Act.put, List.setIfInBounds_toArray, List.set_cons_zero, List.set_cons_succ, i64_w, i32_w]
           rfl
         refine one_ (i := 17) (N := some 36) #[true, true, true, true, true, true, true, true, true, true, true, true, true, true, true, true, true, true, false, false, true, false] rfl rfl (by kernel_rfl) (by decide) (fun K hK => ?_)
         refine call_ 24 #[.slice A4 p4.length (c0 - 13)] (by rfl) rfl (by
          have he := fun args w => enters_ (f := 24) Try.func24 (by kernel_rfl) rfl args w
          simp [go_sem, he]) ?_
         refine (word_Get.calls A4 (c0 - 13) p4 n4 _ (Kd.C_below CC4.out (below_then HB2.out HB2.out.size HX.out)) LL4.out G4.out).mono ?_
         rintro e v22 ⟨rfl, hbx⟩
         refine ⟨_, rfl, ?_⟩
         replace KZ := Aside0.mk (blk_below KZ.out hbx)
         replace HX := Aside0.mk (below_then HX.out HX.out.size hbx)
         clear hbx
         clear hHeld v21
         refine hK.out _ _ (HB0.out _ (below_then HB2.out HB2.out.size HX.out)) (fun hHeld => ?_)
         clear hK K
         refine norm_ (a' := ?_) ?_ ?_
         rotate_left
         · show Act.put _ (some 36) _ = _
           simp only [Act.put, List.setIfInBounds_toArray, List.set_cons_zero, List.set_cons_succ, i64_w, i32_w]
           rfl
         refine pure_ (i := 18) (N := some 37) (v := ?_) (a' := ?_) #[true, true, true, true, true, true, true, true, true, true, true, true, true, true, true, true, true, true, true, false, true, false] rfl rfl (by kernel_rfl) (fun _ _ _ h => h.elim) (Or.inl ⟨by rfl, ?_⟩) ?_ ?_
         rotate_left
         · intro w'
           go_simp
           with_reducible rfl
         rotate_left
         · simp only [Act.put, List.setIfInBounds_toArray, List.set_cons_zero, List.set_cons_succ, i64_w, i32_w]
           rfl
         refine pure_ (i := 19) (N := some 38) (v := ?_) (a' := ?_) #[true, true, true, true, true, true, true, true, true, true, true, true, true, true, true, true, true, true, true, true, true, false] rfl rfl (by kernel_rfl) (fun _ _ _ h => h.elim) (Or.inl ⟨by rfl, ?_⟩) ?_ ?_
         rotate_left
         · intro w'
           go_simp
           with_reducible rfl
         rotate_left
         · simp only [Act.put, List.setIfInBounds_toArray, List.set_cons_zero, List.set_cons_succ, i64_w, i32_w]
           rfl
         exact norm_ (by first | (simp only [putAll, Act.put, List.setIfInBounds_toArray, List.set_cons_zero, List.set_cons_succ]; done) | (simp only [putAll, Act.put, List.setIfInBounds_toArray, List.set_cons_zero, List.set_cons_succ]; rfl)) (hCont g v22 ⟨KZ, HX, GQ⟩)
     rintro g4 u3 ⟨KZ, HX3, GQ⟩
     refine norm_ (a' := ?_) ?_ ?_
     rotate_left
     · simp only [putAll, Act.put, List.setIfInBounds_toArray, List.set_cons_zero, List.set_cons_succ]
       rfl
     have y0 : u3.cell? ⟨g4, 0, none⟩ = _ := (blk_cell KZ.out 0).trans rfl
     have yf0 := blk_frozen KZ.out 0
     have y1 : u3.cell? ⟨g4, 1, none⟩ = _ := (blk_cell KZ.out 1).trans rfl
     have yf1 := blk_frozen KZ.out 1
     have y2 : u3.cell? ⟨g4, 2, none⟩ = _ := (blk_cell KZ.out 2).trans rfl
     have yf2 := blk_frozen KZ.out 2
     have y3 : u3.cell? ⟨g4, 3, none⟩ = _ := (blk_cell KZ.out 3).trans rfl
     have yf3 := blk_frozen KZ.out 3
     have y4 : u3.cell? ⟨g4, 4, none⟩ = _ := (blk_cell KZ.out 4).trans rfl
     have yf4 := blk_frozen KZ.out 4
     have y5 : u3.cell? ⟨g4, 5, none⟩ = _ := (blk_cell KZ.out 5).trans rfl
     have yf5 := blk_frozen KZ.out 5
     have y6 : u3.cell? ⟨g4, 6, none⟩ = _ := (blk_cell KZ.out 6).trans rfl
     have yf6 := blk_frozen KZ.out 6
     refine last_ (i := 21) (N := none) #[true, true, true, true, true, true, true, true, true, true, true, true, true, true, true, true, true, true, true, true, true, true] rfl rfl (by kernel_rfl) (by decide) (fun K hK => ?_)
     refine skip_ (w1 := (((((((u3.setCell ⟨g4, 0, none⟩ (.int .i64 b0)).setCell ⟨g4, 1, none⟩ (.int .u64 n1)).setCell ⟨g4, 2, none⟩ (.int .i64 n2)).setCell ⟨g4, 3, none⟩ (.int .i64 n3)).setCell ⟨g4, 4, none⟩ (.int .u32 n4)).setCell ⟨g4, 5, none⟩ (.slice none 0 0)).setCell ⟨g4, 6, none⟩ (.slice none 0 0))) (by rfl) rfl (by go_simp; done) ?_
     have KT := Aside0.mk (blk_put (cs := #[.int .i64 b0, .int .u64 n1, .int .i64 n2, .int .i64 n3, .int .u32 n4, .slice none 0 0, .slice none 0 0]) (blk_put (cs := #[.int .i64 b0, .int .u64 n1, .int .i64 n2, .int .i64 n3, .int .u32 n4, .slice none 0 0, .slice none 0 0]) (blk_put (cs := #[.int .i64 b0, .int .u64 n1, .int .i64 n2, .int .i64 n3, .int .u32 0, .slice none 0 0, .slice none 0 0]) (blk_put (cs := #[.int .i64 b0, .int .u64 n1, .int .i64 n2, .int .i64 0, .int .u32 0, .slice none 0 0, .slice none 0 0]) (blk_put (cs := #[.int .i64 b0, .int .u64 n1, .int .i64 0, .int .i64 0, .int .u32 0, .slice none 0 0, .slice none 0 0]) (blk_put (cs := #[.int .i64 b0, .int .u64 0, .int .i64 0, .int .i64 0, .int .u32 0, .slice none 0 0, .slice none 0 0]) (blk_put (cs := #[.int .i64 0, .int .u64 0, .int .i64 0, .int .i64 0, .int .u32 0, .slice none 0 0, .slice none 0 0]) KZ.out 0 (.int .i64 b0) rfl) 1 (.int .u64 n1) rfl) 2 (.int .i64 n2) rfl) 3 (.int .i64 n3) rfl) 4 (.int .u32 n4) rfl) 5 (.slice none 0 0) rfl) 6 (.slice none 0 0) rfl)
     have HX4 := Aside0.mk (show Below w2.heap.size w2 (((((((u3.setCell ⟨g4, 0, none⟩ (.int .i64 b0)).setCell ⟨g4, 1, none⟩ (.int .u64 n1)).setCell ⟨g4, 2, none⟩ (.int .i64 n2)).setCell ⟨g4, 3, none⟩ (.int .i64 n3)).setCell ⟨g4, 4, none⟩ (.int .u32 n4)).setCell ⟨g4, 5, none⟩ (.slice none 0 0)).setCell ⟨g4, 6, none⟩ (.slice none 0 0)) from (below_set (below_set (below_set (below_set (below_set (below_set (below_set HX3.out GQ.out) GQ.out) GQ.out) GQ.out) GQ.out) GQ.out) GQ.out))
     generalize (((((((u3.setCell ⟨g4, 0, none⟩ (.int .i64 b0)).setCell ⟨g4, 1, none⟩ (.int .u64 n1)).setCell ⟨g4, 2, none⟩ (.int .i64 n2)).setCell ⟨g4, 3, none⟩ (.int .i64 n3)).setCell ⟨g4, 4, none⟩ (.int .u32 n4)).setCell ⟨g4, 5, none⟩ (.slice none 0 0)).setCell ⟨g4, 6, none⟩ (.slice none 0 0)) = u4 at KT HX4 ⊢
     refine hK.out _ _ ?_
     clear hK K y0 yf0 y1 yf1 y2 yf2 y3 yf3 y4 yf4 y5 yf5 y6 yf6 KZ HX3
     refine done_ (by kernel_rfl) ?_
     refine NoPanic.normal ?_
     go_wp2_with fail
     have HCLO := Aside0.mk (show bytes_Clone.f rest = some rest from if_pos (by omega))
     refine (bytes_Clone.calls A5 (c0 - 17) rest rest _ (Kd.C_below CC5.out (below_then HB2.out HB2.out.size HX4.out)) LL5.out HCLO.out).mono ?_
     rintro e u6 ⟨v6, rfl, ho, hb⟩
     obtain ⟨A6, c6, eo⟩ := Kd.R_slice ho
     subst eo
     have HX64 := below_then HB2.out HB2.out.size HX4.out
     have BW6 := Aside0.mk (below_then HX64 HX64.size hb)
     have HO6 := Aside0.mk (Kd.R_lower ho HX64.size)
     have KT6 := Aside0.mk (blk_below KT.out hb)
     have K06 := Aside0.mk (blk_below (blk_below BK2.out HX4.out) hb)
     have NE := Aside0.mk (show g0 ≠ g4 by have := blk_lt BK2.out; have := GQ.out; omega)
     have GE4 := Aside0.mk (show w.heap.size ≤ g4 by have := HB2.out.size; have := GQ.out; omega)
     clear ho hb HX64 HX4 KT BK2 HCLO hcb hna2 hHeld hpos
     have y0 : u6.cell? ⟨g4, 0, none⟩ = _ := (blk_cell KT6.out 0).trans rfl
     have y1 : u6.cell? ⟨g4, 1, none⟩ = _ := (blk_cell KT6.out 1).trans rfl
     have y2 : u6.cell? ⟨g4, 2, none⟩ = _ := (blk_cell KT6.out 2).trans rfl
     have y3 : u6.cell? ⟨g4, 3, none⟩ = _ := (blk_cell KT6.out 3).trans rfl
     have y4 : u6.cell? ⟨g4, 4, none⟩ = _ := (blk_cell KT6.out 4).trans rfl
     have y5 : u6.cell? ⟨g4, 5, none⟩ = _ := (blk_cell KT6.out 5).trans rfl
     have y6 : u6.cell? ⟨g4, 6, none⟩ = _ := (blk_cell KT6.out 6).trans rfl
     have yf5 := blk_frozen KT6.out 5
     have yf6 := blk_frozen KT6.out 6
     by_cases hk : b0 = 1
     · subst hk
       obtain ⟨ad6, hA6⟩ : ∃ ad : Addr, 0 < rest.length → A6 = some ad := by
        by_cases h0 : 0 < rest.length
        · obtain ⟨ad, e, _⟩ := (Kd.R_reads' HO6.out).2.2.2.2 h0
          exact ⟨ad, fun _ => e⟩
        · exact ⟨⟨0, 0, none⟩, fun h => absurd h h0⟩
       go_wp2_with (go_at_call 26; refine ((callsIn_wide (n := 9)).1 (chunkB_in A6 rest.length c6 2 (by omega) u6)).mono ?_; rintro e w' ⟨rfl, rfl⟩)
       have b3 := (Boxed.new u6 25 (.slice A6 rest.length c6)).alloc (.cells #[.int .i64 2] 3)
       have b4 := Boxed.new (u6.alloc (.cells #[.slice A6 rest.length c6] 25)) 3 (.int .i64 2)
       rw [World.size_alloc] at b4
       have kg := blk_alloc (blk_alloc KT6.out (.cells #[.slice A6 rest.length c6] 25)) (.cells #[.int .i64 2] 3)
       have kz := blk_alloc (blk_alloc K06.out (.cells #[.slice A6 rest.length c6] 25)) (.cells #[.int .i64 2] 3)
       have bb := below_alloc (below_alloc BW6.out (.cells #[.slice A6 rest.length c6] 25)) (.cells #[.int .i64 2] 3)
       have q6 := Kd.R_below HO6.out (below_alloc (below_alloc (Below.refl u6.heap.size u6) (.cells #[.slice A6 rest.length c6] 25)) (.cells #[.int .i64 2] 3))
       have hs8 : ((u6.alloc (.cells #[.slice A6 rest.length c6] 25)).alloc (.cells #[.int .i64 2] 3)).heap.size = u6.heap.size + 2 := by simp
       have hg46 : g4 < u6.heap.size := blk_lt KT6.out
       have hg06 : g0 < u6.heap.size := blk_lt K06.out
       have hcap := (Kd.R_reads' HO6.out).2.1
       have hws := BW6.out.size
       clear KT6 K06 BW6 HO6 y0 y1 y2 y3 y4 y5 y6 yf5 yf6 HB1 HB2 HX GQ hwb
       generalize (u6.alloc (.cells #[.slice A6 rest.length c6] 25)).alloc (.cells #[.int .i64 2] 3) = w8 at b3 b4 kg kz bb q6 hs8 ⊢
       obtain ⟨B, hB⟩ : ∃ B, w8.heap.size = B := ⟨_, rfl⟩
       have hBB : B = u6.heap.size + 2 := by omega
       have hr8 := Kd.own_of_R q6
       refine (wpIn_wide (n := 10)).1 ?_
       refine wpIn_rangeFunc_ownG (F := Fence.wide) (n := 10) rfl (by omega) (gf := 41) (lb := #[.pointer (some ⟨u6.heap.size, 0, none⟩), .pointer (some ⟨u6.heap.size + 1, 0, none⟩)]) rfl trivial (enters_of Try.func41 (by kernel_rfl) rfl)
        (encs := fun x : Nat => #[chunkV ad6 2 rest.length x]) (Kp := Kset B (fun k => k = g4)) (S := fun ys => ys = List.range (chunkN 2 rest.length)) (Sp := fun _ => True) (N := chunkN 2 rest.length) (w0 := w8) ?seq ksetK_t (ksetK_b (by rw [hB]; exact Nat.le_refl _)) (Below.refl _ _) (fun _ => rfl)
        (fun pre W => (∃ v, W.heap[g4]? = some (.cells #[.int .i64 1, .int .u64 n1, .int .i64 n2, .int .i64 n3, .int .u32 n4, v, .slice none 0 0] 28 (0, 0)) ∧ W.ownsRow B 3 1 v (wsG rest pre).length (nums .i64 (wsG rest pre)) ∧ True) ∧ W.ownsRow w.heap.size 5 1 (.slice A6 rest.length c6) rest.length (nums .u8 rest) ∧ Kset B (fun k => k = g4) w8 W) (fun _ _ _ => False) ?own (fun _ _ _ _ _ hs _ _ => hs) ?start (fun x => { tmps := #[.slice (some ad) l0.length c0, undef, .pointer (some ⟨g0, 0, none⟩), .int .u16 0, .pointer (some ⟨g4, 0, none⟩), .slice A6 rest.length c6, chunkV ad6 2 rest.length x, undef, undef, .bool false, .slice (some ad) l0.length c0, .int .i64 (l0.length : Int), .bool false, undef, .bool false, .slice (some ad) l0.length c0, .bool true, .bool false, undef, .slice (some ad) l0.length c0, .pointer (some ad), .int .u8 1, .int .i64 1, .slice (some ad) l0.length c0, .slice A1 p1.length (c0 - 1), .int .u64 n1, .slice (some ad) l0.length c0, .slice A2 p2.length (c0 - 9), .int .u64 n2, .int .i64 n2, .slice (some ad) l0.length c0, .slice A3 p3.length (c0 - 11), .int .u64 n3, .int .i64 n3, .slice (some ad) l0.length c0, .slice A4 p4.length (c0 - 13), .int .u64 n4, .int .u32 n4, .agg #[.int .i64 1, .int .u64 n1, .int .i64 n2, .int .i64 n3, .int .u32 n4, .slice none 0 0, .slice none 0 0], .slice (some ad) l0.length c0, .slice (some ad) l0.length c0, .int .i64 (l0.length : Int), .int .i64 ((l0.length : Int) - 4), .slice A5 rest.length (c0 - 17), .slice A6 rest.length c6, .pointer (some ⟨g4, 0, none⟩), .int .i64 1, .bool true, .slice A6 rest.length c6, .func (.func 41) #[] #[.pointer (some ⟨u6.heap.size, 0, none⟩), .pointer (some ⟨u6.heap.size + 1, 0, none⟩)], chunkV ad6 2 rest.length x, undef, undef, undef, undef, undef, undef, undef, undef, undef, undef, undef, undef, undef, undef, undef, undef, undef, undef, undef, undef, undef, undef, undef, undef, undef, undef, undef, undef], defers := [] }) ?assign ?bdy ?done ?stop
       case seq =>
        intro l J Jx W hW hJ hJx hY h0
        refine (chunkB1_in l u6.heap.size (u6.heap.size + 1) B (fun k => k = g4) A6 ad6 c6 rest.length 2 hA6 (by omega) (by omega) (by omega) hcap J Jx (fun ys X n hx => hJ ys X _ none hx ⟨rfl, rfl, rfl, Nat.le_refl _, fun _ _ _ => rfl⟩ (fun r e => by cases e)) hY W
         (Boxed.cell ((hW.block _ (by rw [hB]; omega)).trans b3)) (Boxed.cell ((hW.block _ (by rw [hB]; omega)).trans b4)) (by omega) (by omega) (by omega) (by omega) h0).mono ?_
        rintro e W' ⟨he, ⟨ys, rfl, hj⟩ | ⟨pre, hp, hj⟩⟩
        · exact ⟨he, .inl ⟨_, rfl, hj⟩⟩
        · exact ⟨he, .inr ⟨_, trivial, hj⟩⟩
       case own => exact OwnFrom.and (Own.from (gram_own B g4 _ _ 1 (fun v => #[.int .i64 1, .int .u64 n1, .int .i64 n2, .int .i64 n3, .int .u32 n4, v, .slice none 0 0]) _ _) _) (OwnFrom.and (Own.from (rowk_own _ _ 1 _ _ _) _) (ownFrom_kset (by rw [hB]; exact Nat.le_refl _) (by rw [hB]; exact Nat.le_refl _)))
       case start => exact ⟨⟨_, kg, World.ownsRow_nil _ _ _ _, trivial⟩, (by simpa [nums, encs] using hr8), Kset.refl _ _ _⟩
       case assign =>
        intro l x W K hK
        gi_wp2
        exact hK
       case bdy =>
        rintro l pre x W ⟨⟨v, hg, ho, -⟩, hr6, hk⟩ hlen
        obtain ⟨hCp, hlp⟩ := piece_read (Kd.R_reads' (Kd.R_of_own (enc := Value.int .u8) (e := 5) (w := W) (base := w.heap.size) (ok := fun _ => True) (by simpa [nums, encs] using hr6) (fun _ _ => trivial))).2.2 ad6 hA6 2 x
        have hV : chunkV ad6 2 rest.length x = .slice (some (ad6.add (2 * x))) (chunkE 2 rest.length x) (chunkE 2 rest.length x) := rfl
        rw [hV, ← hlp]
        rw [← hlp] at hCp
        have hpb : bytesB ((rest.drop (2 * x)).take 2) = true := bytesB_take (bytesB_drop hrb _) _
        have hp2 : ((rest.drop (2 * x)).take 2).length ≤ 2 := by rw [List.length_take]; omega
        have hwl : (wsG rest (pre ++ [x])) = wsG rest pre ++ [getL ((rest.drop (2 * x)).take 2)] := wsG_snoc _ _ _
        obtain ⟨p, hp⟩ : ∃ p, (rest.drop (2 * x)).take 2 = p := ⟨_, rfl⟩
        rw [hp] at hCp hpb hp2 hwl ⊢
        have hget := get_is p hpb (by omega)
        have hnb := getL_bound 2 p hp2 (bytesB_at hpb)
        obtain ⟨n, hn⟩ : ∃ n, getL p = n := ⟨_, rfl⟩
        rw [hn] at hget hnb hwl
        have hwn : IntKind.i64.wrap n = n := by rw [i64_w]; unfold wrap64; omega
        have hlen8 : (wsG rest pre).length ≤ 1000000 := by
         have : pre.length < chunkN 2 rest.length := hlen
         have : 2 * pre.length < rest.length := (chunkN_lt (by omega)).1 this
         simp only [wsG, List.length_map]; omega
        clear hlen hlp hp hn hV
        gi_wp2
        have hsz : B ≤ W.heap.size := by have := hk.size; omega
        have hcell : ∀ X, Below W.heap.size W X → X.cell? ⟨g4, 5, none⟩ = some v := fun X hx => (blk_cell (blk_below hg hx) 5).trans rfl
        have hread : ∀ X, Below W.heap.size W X → Kd.C (Kd.int .u8) X (some (ad6.add (2 * x))) p.length p := fun X hx => Kd.C_below hCp hx
        refine wpIn_region_any (by kernel_rfl) ?_
        change wpAnyIn _ _ _ _ _ _ _ _ _ (World.drew W)
        have hx0 : Below W.heap.size W W.drew := (Below.refl _ W).drew
        have tail : ∀ (w2 : World) (gs : Nat), Below W.heap.size W w2 → W.heap.size ≤ gs → w2.heap[gs]? = some (.cells #[.int .i64 n] 3 (0, 0)) → ∀ Q, (∀ a w', ownPostG w8.heap.size (Kset B (fun k => k = g4)) (fun pre W => (∃ v, W.heap[g4]? = some (.cells #[.int .i64 1, .int .u64 n1, .int .i64 n2, .int .i64 n3, .int .u32 n4, v, .slice none 0 0] 28 (0, 0)) ∧ W.ownsRow B 3 1 v (wsG rest pre).length (nums .i64 (wsG rest pre)) ∧ True) ∧ W.ownsRow w.heap.size 5 1 (.slice A6 rest.length c6) rest.length (nums .u8 rest) ∧ Kset B (fun k => k = g4) w8 W) (fun _ _ _ => False) (pre ++ [x]) W .normal a w' → Q .normal a w') →
         wpAnyIn (Fence.wide.inRound l) 8 Try.prog .any
          #[{ dst := some 51, op := Op.fieldAddr 28 (Operand.tmp 4) 5, type := 0, pos := "pack.go:75", after := #[], guard := none },
         { dst := some 52, op := Op.load 26 (Operand.tmp 51), type := 26, pos := "pack.go:75", after := #[{ on := 0, ground := Ground.data }], guard := none },
         { dst := some 53, op := Op.move (Operand.tmp 6), type := 25, pos := "pack.go:75", after := #[], guard := none },
         { dst := some 54, op := Op.call { callee := Callee.value (Operand.func 24), args := #[Operand.tmp 53], argTypes := #[25] }, type := 22, pos := "pack.go:75", after := #[{ on := 2, ground := Ground.data }], guard := none },
         { dst := some 55, op := Op.convert 22 3 (Operand.tmp 54), type := 3, pos := "pack.go:75", after := #[{ on := 3, ground := Ground.data }], guard := none },
         { dst := some 56, op := Op.buildSlice 26 1 #[(0, Operand.tmp 55)], type := 26, pos := "pack.go:75", after := #[{ on := 4, ground := Ground.data }], guard := none },
         { dst := some 57, op := Op.call { callee := Callee.builtin Builtin.append, args := #[Operand.tmp 52, Operand.tmp 56], argTypes := #[26, 26] }, type := 26, pos := "pack.go:75", after := #[{ on := 1, ground := Ground.data }, { on := 5, ground := Ground.data }, { on := 3, ground := Ground.chain }], guard := none },
         { dst := some 58, op := Op.fieldAddr 28 (Operand.tmp 4) 5, type := 0, pos := "pack.go:75", after := #[{ on := 0, ground := Ground.phase }, { on := 1, ground := Ground.phase }, { on := 2, ground := Ground.phase }, { on := 3, ground := Ground.phase }, { on := 4, ground := Ground.phase }, { on := 5, ground := Ground.phase }, { on := 6, ground := Ground.phase }], guard := none },
         { dst := none, op := Op.store 26 (Operand.tmp 58) (Operand.tmp 57), type := 0, pos := "pack.go:75", after := #[{ on := 7, ground := Ground.data }, { on := 6, ground := Ground.data }, { on := 6, ground := Ground.chain }, { on := 0, ground := Ground.phase }, { on := 1, ground := Ground.phase }, { on := 2, ground := Ground.phase }, { on := 3, ground := Ground.phase }, { on := 4, ground := Ground.phase }, { on := 5, ground := Ground.phase }, { on := 6, ground := Ground.phase }], guard := none }]
          Q 3 #[true, true, true, true, true, true, false, false, false]
          { tmps := #[.slice (some ad) l0.length c0, undef, .pointer (some ⟨g0, 0, none⟩), .int .u16 0, .pointer (some ⟨g4, 0, none⟩), .slice A6 rest.length c6, .slice (some (ad6.add (2 * x))) p.length p.length, undef, undef, .bool false, .slice (some ad) l0.length c0, .int .i64 (l0.length : Int), .bool false, undef, .bool false, .slice (some ad) l0.length c0, .bool true, .bool false, undef, .slice (some ad) l0.length c0, .pointer (some ad), .int .u8 1, .int .i64 1, .slice (some ad) l0.length c0, .slice A1 p1.length (c0 - 1), .int .u64 n1, .slice (some ad) l0.length c0, .slice A2 p2.length (c0 - 9), .int .u64 n2, .int .i64 n2, .slice (some ad) l0.length c0, .slice A3 p3.length (c0 - 11), .int .u64 n3, .int .i64 n3, .slice (some ad) l0.length c0, .slice A4 p4.length (c0 - 13), .int .u64 n4, .int .u32 n4, .agg #[.int .i64 1, .int .u64 n1, .int .i64 n2, .int .i64 n3, .int .u32 n4, .slice none 0 0, .slice none 0 0], .slice (some ad) l0.length c0, .slice (some ad) l0.length c0, .int .i64 (l0.length : Int), .int .i64 ((l0.length : Int) - 4), .slice A5 rest.length (c0 - 17), .slice A6 rest.length c6, .pointer (some ⟨g4, 0, none⟩), .int .i64 1, .bool true, .slice A6 rest.length c6, .func (.func 41) #[] #[.pointer (some ⟨u6.heap.size, 0, none⟩), .pointer (some ⟨u6.heap.size + 1, 0, none⟩)], .slice (some (ad6.add (2 * x))) p.length p.length, .pointer (some ⟨g4, 5, none⟩), v, .slice (some (ad6.add (2 * x))) p.length p.length, .int .u64 n, .int .i64 n, .slice (some ⟨gs, 0, none⟩) 1 1, undef, undef, undef, undef, undef, undef, undef, undef, undef, undef, undef, undef, undef, undef, undef, undef, undef, undef, undef, undef, undef, undef], defers := [] } w2 := by
         intro w2 gs hb2 hgs hrs Q hQ
         have hg2 := blk_below hg hb2
         have ho2 := pw_own_below ho hb2
         have hr2 := pw_own_below hr6 hb2
         have hsz2 : B ≤ w2.heap.size := by have := hb2.size; omega
         have hRs : ReadsInt w2 .i64 (some ⟨gs, 0, none⟩) 1 [n] := ⟨rfl, by omega, fun _ => ⟨_, rfl, fun j hj => by
          obtain rfl : j = 0 := by omega
          rw [add_plain]
          exact (blk_cell hrs 0).trans rfl⟩⟩
         obtain ⟨v1, w3', hrun, ho1, hg1, hat⟩ := append_row_run (P := Try.prog) (W := w2) (t := 26) (ty := 26) B Try.underlying26 info3 (by decide) v (wsG rest pre) [n] (some ⟨gs, 0, none⟩) 1 1 ho2 hRs (by omega) (by omega)
         have hne4 : some g4 ≠ v.ownBlock := fun e => by
          obtain ⟨cells, hc⟩ := own_typed ho2 g4 e.symm
          rw [hg2] at hc
          simp at hc
         have hg3 := blk_grown hg2 hg1 hne4
         have hr3 := hr2.kept hg1 (own_type_ne hr2 ho2 (by decide))
         refine wpAnyIn_ready (rs := [6]) (by kernel_rfl) (by simp) (AllReadyIn.cons rfl (fun K hK => ?_) AllReadyIn.nil)
         refine stepIn_value rfl (by simp) (w1 := w3') (v := v1) ?_ (hK _ _ ?_)
         · simp [execOp, resolve, invoke, builtin, Act.eval, hrun, Result.andThen]
         refine wpAnyIn_ready (rs := [7]) (by kernel_rfl) (by simp) (AllReadyIn.cons rfl (fun K hK => ?_) AllReadyIn.nil)
         refine stepIn_value rfl (by simp) (w1 := w3') (v := .pointer (some ⟨g4, 5, none⟩)) (by simp [go_sem, Act.eval, Act.put]) (hK _ _ ?_)
         refine wpAnyIn_ready (rs := [8]) (by kernel_rfl) (by simp) (AllReadyIn.cons rfl (fun K hK => ?_) AllReadyIn.nil)
         obtain ⟨A1, c1, rfl⟩ := own_slice ho1
         refine stepIn_skip rfl (by simp) (w1 := w3'.setCell ⟨g4, 5, none⟩ (.slice A1 (wsG rest pre ++ [n]).length c1)) ?_ (hK _ _ ?_)
         · have hc3 := blk_cell hg3 5
           have hf3 := blk_frozen hg3 5
           simp [go_sem, Act.eval, Act.put, hc3, hf3]
         refine wpAnyIn_done (by kernel_rfl) (hQ _ _ ?_) _
         have hks : Kset B (fun k => k = g4) W w3' := (Kset.of_below (hb2.mono hsz)).grown hg1 hsz2 (fun k e => .inr (own_base ho2 k e))
         refine ⟨(((keepsOthers_below hb2).trans (keepsOthers_own ho2 hg1)).trans (KeepsOthers.setCell _ _ _)).from _, hks.setCell (p := ⟨g4, 5, none⟩) (.inl rfl) _, ⟨_, blk_put hg3 5 _ rfl, ?_, trivial⟩, ?_, (hk.trans hks).setCell (p := ⟨g4, 5, none⟩) (.inl rfl) _⟩
         · rw [hwl]
           refine own_setCell ho1 (p := ⟨g4, 5, none⟩) (fun e => ?_) _
           obtain ⟨cells, hc⟩ := own_typed ho1 g4 e.symm
           rw [hg3] at hc
           simp at hc
         · refine own_setCell hr3 (p := ⟨g4, 5, none⟩) (fun e => ?_) _
           obtain ⟨cells, hc⟩ := own_typed hr3 g4 e.symm
           rw [hg3] at hc
           simp at hc
        refine wpAnyIn_ready (rs := [0, 2]) (by kernel_rfl) (by simp) (AllReadyIn.cons rfl (fun K hK => ?_) (AllReadyIn.cons rfl (fun K hK => ?_) AllReadyIn.nil))
        · refine stepIn_value rfl (by simp) (w1 := W.drew) (v := .pointer (some ⟨g4, 5, none⟩)) (by go_simp; first | done | rfl) (hK _ _ ?_)
          refine wpAnyIn_ready (rs := [1, 2]) (by kernel_rfl) (by simp) (AllReadyIn.cons rfl (fun K hK => ?_) (AllReadyIn.cons rfl (fun K hK => ?_) AllReadyIn.nil))
          · refine stepIn_value rfl (by simp) (w1 := W.drew) (v := v) (by have hc5 := hcell W.drew hx0; go_simp; first | done | rfl) (hK _ _ ?_)
            refine wpAnyIn_ready (rs := [2]) (by kernel_rfl) (by simp) (AllReadyIn.cons rfl (fun K hK => ?_) AllReadyIn.nil)
            refine stepIn_value rfl (by simp) (w1 := W.drew) (v := .slice (some (ad6.add (2 * x))) p.length p.length) (by simp [go_sem, Act.eval, Act.put]) (hK _ _ ?_)
            refine wpAnyIn_ready (rs := [3]) (by kernel_rfl) (by simp) (AllReadyIn.cons rfl (fun K hK => ?_) AllReadyIn.nil)
            refine stepIn_call (w1 := W.drew) rfl (by simp) (by simp [go_sem, Act.eval, Act.put]) (word_Get.calls _ _ p n _ (hread W.drew hx0) (Nat.le_refl _) hget) ?_
            rintro e x1 ⟨rfl, hb⟩
            refine ⟨_, rfl, hK _ _ ?_⟩
            have hx1 := below_then hx0 hx0.size hb
            clear hb
            refine wpAnyIn_ready (rs := [4]) (by kernel_rfl) (by simp) (AllReadyIn.cons rfl (fun K hK => ?_) AllReadyIn.nil)
            refine stepIn_value rfl (by simp) (w1 := x1) (v := .int .i64 n) (by go_simp; first | done | rfl) (hK _ _ ?_)
            refine wpAnyIn_ready (rs := [5]) (by kernel_rfl) (by simp) (AllReadyIn.cons rfl (fun K hK => ?_) AllReadyIn.nil)
            refine stepIn_value rfl (by simp) (w1 := x1.alloc (.cells #[.int .i64 n] 3)) (v := .slice (some ⟨x1.heap.size, 0, none⟩) 1 1) (by go_simp; first | done | rfl) (hK _ _ ?_)
            have hrs := blk_new x1 (.cells #[.int .i64 n] 3)
            have hx2 := below_alloc hx1 (.cells #[.int .i64 n] 3)
            have hgs := hx1.size
            generalize x1.alloc (.cells #[.int .i64 n] 3) = x2 at hrs hx2 ⊢
            generalize x1.heap.size = gs2 at hrs hgs ⊢
            exact tail x2 _ hx2 hgs hrs _ (fun _ _ h => h)
          · refine stepIn_value rfl (by simp) (w1 := W.drew) (v := .slice (some (ad6.add (2 * x))) p.length p.length) (by simp [go_sem, Act.eval, Act.put]) (hK _ _ ?_)
            refine wpAnyIn_ready (rs := [1, 3]) (by kernel_rfl) (by simp) (AllReadyIn.cons rfl (fun K hK => ?_) (AllReadyIn.cons rfl (fun K hK => ?_) AllReadyIn.nil))
            · refine stepIn_value rfl (by simp) (w1 := W.drew) (v := v) (by have hc5 := hcell W.drew hx0; go_simp; first | done | rfl) (hK _ _ ?_)
              refine wpAnyIn_ready (rs := [3]) (by kernel_rfl) (by simp) (AllReadyIn.cons rfl (fun K hK => ?_) AllReadyIn.nil)
              refine stepIn_call (w1 := W.drew) rfl (by simp) (by simp [go_sem, Act.eval, Act.put]) (word_Get.calls _ _ p n _ (hread W.drew hx0) (Nat.le_refl _) hget) ?_
              rintro e x3 ⟨rfl, hb⟩
              refine ⟨_, rfl, hK _ _ ?_⟩
              have hx3 := below_then hx0 hx0.size hb
              clear hb
              refine wpAnyIn_ready (rs := [4]) (by kernel_rfl) (by simp) (AllReadyIn.cons rfl (fun K hK => ?_) AllReadyIn.nil)
              refine stepIn_value rfl (by simp) (w1 := x3) (v := .int .i64 n) (by go_simp; first | done | rfl) (hK _ _ ?_)
              refine wpAnyIn_ready (rs := [5]) (by kernel_rfl) (by simp) (AllReadyIn.cons rfl (fun K hK => ?_) AllReadyIn.nil)
              refine stepIn_value rfl (by simp) (w1 := x3.alloc (.cells #[.int .i64 n] 3)) (v := .slice (some ⟨x3.heap.size, 0, none⟩) 1 1) (by go_simp; first | done | rfl) (hK _ _ ?_)
              have hrs := blk_new x3 (.cells #[.int .i64 n] 3)
              have hx4 := below_alloc hx3 (.cells #[.int .i64 n] 3)
              have hgs := hx3.size
              generalize x3.alloc (.cells #[.int .i64 n] 3) = x4 at hrs hx4 ⊢
              generalize x3.heap.size = gs4 at hrs hgs ⊢
              exact tail x4 _ hx4 hgs hrs _ (fun _ _ h => h)
            · refine stepIn_call (w1 := W.drew) rfl (by simp) (by simp [go_sem, Act.eval, Act.put]) (word_Get.calls _ _ p n _ (hread W.drew hx0) (Nat.le_refl _) hget) ?_
              rintro e x5 ⟨rfl, hb⟩
              refine ⟨_, rfl, hK _ _ ?_⟩
              have hx5 := below_then hx0 hx0.size hb
              clear hb
              refine wpAnyIn_ready (rs := [1, 4]) (by kernel_rfl) (by simp) (AllReadyIn.cons rfl (fun K hK => ?_) (AllReadyIn.cons rfl (fun K hK => ?_) AllReadyIn.nil))
              · refine stepIn_value rfl (by simp) (w1 := x5) (v := v) (by have hc5 := hcell x5 hx5; go_simp; first | done | rfl) (hK _ _ ?_)
                refine wpAnyIn_ready (rs := [4]) (by kernel_rfl) (by simp) (AllReadyIn.cons rfl (fun K hK => ?_) AllReadyIn.nil)
                refine stepIn_value rfl (by simp) (w1 := x5) (v := .int .i64 n) (by go_simp; first | done | rfl) (hK _ _ ?_)
                refine wpAnyIn_ready (rs := [5]) (by kernel_rfl) (by simp) (AllReadyIn.cons rfl (fun K hK => ?_) AllReadyIn.nil)
                refine stepIn_value rfl (by simp) (w1 := x5.alloc (.cells #[.int .i64 n] 3)) (v := .slice (some ⟨x5.heap.size, 0, none⟩) 1 1) (by go_simp; first | done | rfl) (hK _ _ ?_)
                have hrs := blk_new x5 (.cells #[.int .i64 n] 3)
                have hx6 := below_alloc hx5 (.cells #[.int .i64 n] 3)
                have hgs := hx5.size
                generalize x5.alloc (.cells #[.int .i64 n] 3) = x6 at hrs hx6 ⊢
                generalize x5.heap.size = gs6 at hrs hgs ⊢
                exact tail x6 _ hx6 hgs hrs _ (fun _ _ h => h)
              · refine stepIn_value rfl (by simp) (w1 := x5) (v := .int .i64 n) (by go_simp; first | done | rfl) (hK _ _ ?_)
                refine wpAnyIn_ready (rs := [1, 5]) (by kernel_rfl) (by simp) (AllReadyIn.cons rfl (fun K hK => ?_) (AllReadyIn.cons rfl (fun K hK => ?_) AllReadyIn.nil))
                · refine stepIn_value rfl (by simp) (w1 := x5) (v := v) (by have hc5 := hcell x5 hx5; go_simp; first | done | rfl) (hK _ _ ?_)
                  refine wpAnyIn_ready (rs := [5]) (by kernel_rfl) (by simp) (AllReadyIn.cons rfl (fun K hK => ?_) AllReadyIn.nil)
                  refine stepIn_value rfl (by simp) (w1 := x5.alloc (.cells #[.int .i64 n] 3)) (v := .slice (some ⟨x5.heap.size, 0, none⟩) 1 1) (by go_simp; first | done | rfl) (hK _ _ ?_)
                  have hrs := blk_new x5 (.cells #[.int .i64 n] 3)
                  have hx7 := below_alloc hx5 (.cells #[.int .i64 n] 3)
                  have hgs := hx5.size
                  generalize x5.alloc (.cells #[.int .i64 n] 3) = x7 at hrs hx7 ⊢
                  generalize x5.heap.size = gs7 at hrs hgs ⊢
                  exact tail x7 _ hx7 hgs hrs _ (fun _ _ h => h)
                · refine stepIn_value rfl (by simp) (w1 := x5.alloc (.cells #[.int .i64 n] 3)) (v := .slice (some ⟨x5.heap.size, 0, none⟩) 1 1) (by go_simp; first | done | rfl) (hK _ _ ?_)
                  have hrs := blk_new x5 (.cells #[.int .i64 n] 3)
                  have hx8 := below_alloc hx5 (.cells #[.int .i64 n] 3)
                  have hgs := hx5.size
                  generalize x5.alloc (.cells #[.int .i64 n] 3) = x8 at hrs hx8 ⊢
                  generalize x5.heap.size = gs8 at hrs hgs ⊢
                  refine wpAnyIn_ready (rs := [1]) (by kernel_rfl) (by simp) (AllReadyIn.cons rfl (fun K hK => ?_) AllReadyIn.nil)
                  refine stepIn_value rfl (by simp) (w1 := x8) (v := v) (by have hc5 := hcell x8 hx8; go_simp; first | done | rfl) (hK _ _ ?_)
                  exact tail x8 _ hx8 hgs hrs _ (fun _ _ h => h)
        · refine stepIn_value rfl (by simp) (w1 := W.drew) (v := .slice (some (ad6.add (2 * x))) p.length p.length) (by simp [go_sem, Act.eval, Act.put]) (hK _ _ ?_)
          refine wpAnyIn_ready (rs := [0, 3]) (by kernel_rfl) (by simp) (AllReadyIn.cons rfl (fun K hK => ?_) (AllReadyIn.cons rfl (fun K hK => ?_) AllReadyIn.nil))
          · refine stepIn_value rfl (by simp) (w1 := W.drew) (v := .pointer (some ⟨g4, 5, none⟩)) (by go_simp; first | done | rfl) (hK _ _ ?_)
            refine wpAnyIn_ready (rs := [1, 3]) (by kernel_rfl) (by simp) (AllReadyIn.cons rfl (fun K hK => ?_) (AllReadyIn.cons rfl (fun K hK => ?_) AllReadyIn.nil))
            · refine stepIn_value rfl (by simp) (w1 := W.drew) (v := v) (by have hc5 := hcell W.drew hx0; go_simp; first | done | rfl) (hK _ _ ?_)
              refine wpAnyIn_ready (rs := [3]) (by kernel_rfl) (by simp) (AllReadyIn.cons rfl (fun K hK => ?_) AllReadyIn.nil)
              refine stepIn_call (w1 := W.drew) rfl (by simp) (by simp [go_sem, Act.eval, Act.put]) (word_Get.calls _ _ p n _ (hread W.drew hx0) (Nat.le_refl _) hget) ?_
              rintro e x9 ⟨rfl, hb⟩
              refine ⟨_, rfl, hK _ _ ?_⟩
              have hx9 := below_then hx0 hx0.size hb
              clear hb
              refine wpAnyIn_ready (rs := [4]) (by kernel_rfl) (by simp) (AllReadyIn.cons rfl (fun K hK => ?_) AllReadyIn.nil)
              refine stepIn_value rfl (by simp) (w1 := x9) (v := .int .i64 n) (by go_simp; first | done | rfl) (hK _ _ ?_)
              refine wpAnyIn_ready (rs := [5]) (by kernel_rfl) (by simp) (AllReadyIn.cons rfl (fun K hK => ?_) AllReadyIn.nil)
              refine stepIn_value rfl (by simp) (w1 := x9.alloc (.cells #[.int .i64 n] 3)) (v := .slice (some ⟨x9.heap.size, 0, none⟩) 1 1) (by go_simp; first | done | rfl) (hK _ _ ?_)
              have hrs := blk_new x9 (.cells #[.int .i64 n] 3)
              have hx10 := below_alloc hx9 (.cells #[.int .i64 n] 3)
              have hgs := hx9.size
              generalize x9.alloc (.cells #[.int .i64 n] 3) = x10 at hrs hx10 ⊢
              generalize x9.heap.size = gs10 at hrs hgs ⊢
              exact tail x10 _ hx10 hgs hrs _ (fun _ _ h => h)
            · refine stepIn_call (w1 := W.drew) rfl (by simp) (by simp [go_sem, Act.eval, Act.put]) (word_Get.calls _ _ p n _ (hread W.drew hx0) (Nat.le_refl _) hget) ?_
              rintro e x11 ⟨rfl, hb⟩
              refine ⟨_, rfl, hK _ _ ?_⟩
              have hx11 := below_then hx0 hx0.size hb
              clear hb
              refine wpAnyIn_ready (rs := [1, 4]) (by kernel_rfl) (by simp) (AllReadyIn.cons rfl (fun K hK => ?_) (AllReadyIn.cons rfl (fun K hK => ?_) AllReadyIn.nil))
              · refine stepIn_value rfl (by simp) (w1 := x11) (v := v) (by have hc5 := hcell x11 hx11; go_simp; first | done | rfl) (hK _ _ ?_)
                refine wpAnyIn_ready (rs := [4]) (by kernel_rfl) (by simp) (AllReadyIn.cons rfl (fun K hK => ?_) AllReadyIn.nil)
                refine stepIn_value rfl (by simp) (w1 := x11) (v := .int .i64 n) (by go_simp; first | done | rfl) (hK _ _ ?_)
                refine wpAnyIn_ready (rs := [5]) (by kernel_rfl) (by simp) (AllReadyIn.cons rfl (fun K hK => ?_) AllReadyIn.nil)
                refine stepIn_value rfl (by simp) (w1 := x11.alloc (.cells #[.int .i64 n] 3)) (v := .slice (some ⟨x11.heap.size, 0, none⟩) 1 1) (by go_simp; first | done | rfl) (hK _ _ ?_)
                have hrs := blk_new x11 (.cells #[.int .i64 n] 3)
                have hx12 := below_alloc hx11 (.cells #[.int .i64 n] 3)
                have hgs := hx11.size
                generalize x11.alloc (.cells #[.int .i64 n] 3) = x12 at hrs hx12 ⊢
                generalize x11.heap.size = gs12 at hrs hgs ⊢
                exact tail x12 _ hx12 hgs hrs _ (fun _ _ h => h)
              · refine stepIn_value rfl (by simp) (w1 := x11) (v := .int .i64 n) (by go_simp; first | done | rfl) (hK _ _ ?_)
                refine wpAnyIn_ready (rs := [1, 5]) (by kernel_rfl) (by simp) (AllReadyIn.cons rfl (fun K hK => ?_) (AllReadyIn.cons rfl (fun K hK => ?_) AllReadyIn.nil))
                · refine stepIn_value rfl (by simp) (w1 := x11) (v := v) (by have hc5 := hcell x11 hx11; go_simp; first | done | rfl) (hK _ _ ?_)
                  refine wpAnyIn_ready (rs := [5]) (by kernel_rfl) (by simp) (AllReadyIn.cons rfl (fun K hK => ?_) AllReadyIn.nil)
                  refine stepIn_value rfl (by simp) (w1 := x11.alloc (.cells #[.int .i64 n] 3)) (v := .slice (some ⟨x11.heap.size, 0, none⟩) 1 1) (by go_simp; first | done | rfl) (hK _ _ ?_)
                  have hrs := blk_new x11 (.cells #[.int .i64 n] 3)
                  have hx13 := below_alloc hx11 (.cells #[.int .i64 n] 3)
                  have hgs := hx11.size
                  generalize x11.alloc (.cells #[.int .i64 n] 3) = x13 at hrs hx13 ⊢
                  generalize x11.heap.size = gs13 at hrs hgs ⊢
                  exact tail x13 _ hx13 hgs hrs _ (fun _ _ h => h)
                · refine stepIn_value rfl (by simp) (w1 := x11.alloc (.cells #[.int .i64 n] 3)) (v := .slice (some ⟨x11.heap.size, 0, none⟩) 1 1) (by go_simp; first | done | rfl) (hK _ _ ?_)
                  have hrs := blk_new x11 (.cells #[.int .i64 n] 3)
                  have hx14 := below_alloc hx11 (.cells #[.int .i64 n] 3)
                  have hgs := hx11.size
                  generalize x11.alloc (.cells #[.int .i64 n] 3) = x14 at hrs hx14 ⊢
                  generalize x11.heap.size = gs14 at hrs hgs ⊢
                  refine wpAnyIn_ready (rs := [1]) (by kernel_rfl) (by simp) (AllReadyIn.cons rfl (fun K hK => ?_) AllReadyIn.nil)
                  refine stepIn_value rfl (by simp) (w1 := x14) (v := v) (by have hc5 := hcell x14 hx14; go_simp; first | done | rfl) (hK _ _ ?_)
                  exact tail x14 _ hx14 hgs hrs _ (fun _ _ h => h)
          · refine stepIn_call (w1 := W.drew) rfl (by simp) (by simp [go_sem, Act.eval, Act.put]) (word_Get.calls _ _ p n _ (hread W.drew hx0) (Nat.le_refl _) hget) ?_
            rintro e x15 ⟨rfl, hb⟩
            refine ⟨_, rfl, hK _ _ ?_⟩
            have hx15 := below_then hx0 hx0.size hb
            clear hb
            refine wpAnyIn_ready (rs := [0, 4]) (by kernel_rfl) (by simp) (AllReadyIn.cons rfl (fun K hK => ?_) (AllReadyIn.cons rfl (fun K hK => ?_) AllReadyIn.nil))
            · refine stepIn_value rfl (by simp) (w1 := x15) (v := .pointer (some ⟨g4, 5, none⟩)) (by go_simp; first | done | rfl) (hK _ _ ?_)
              refine wpAnyIn_ready (rs := [1, 4]) (by kernel_rfl) (by simp) (AllReadyIn.cons rfl (fun K hK => ?_) (AllReadyIn.cons rfl (fun K hK => ?_) AllReadyIn.nil))
              · refine stepIn_value rfl (by simp) (w1 := x15) (v := v) (by have hc5 := hcell x15 hx15; go_simp; first | done | rfl) (hK _ _ ?_)
                refine wpAnyIn_ready (rs := [4]) (by kernel_rfl) (by simp) (AllReadyIn.cons rfl (fun K hK => ?_) AllReadyIn.nil)
                refine stepIn_value rfl (by simp) (w1 := x15) (v := .int .i64 n) (by go_simp; first | done | rfl) (hK _ _ ?_)
                refine wpAnyIn_ready (rs := [5]) (by kernel_rfl) (by simp) (AllReadyIn.cons rfl (fun K hK => ?_) AllReadyIn.nil)
                refine stepIn_value rfl (by simp) (w1 := x15.alloc (.cells #[.int .i64 n] 3)) (v := .slice (some ⟨x15.heap.size, 0, none⟩) 1 1) (by go_simp; first | done | rfl) (hK _ _ ?_)
                have hrs := blk_new x15 (.cells #[.int .i64 n] 3)
                have hx16 := below_alloc hx15 (.cells #[.int .i64 n] 3)
                have hgs := hx15.size
                generalize x15.alloc (.cells #[.int .i64 n] 3) = x16 at hrs hx16 ⊢
                generalize x15.heap.size = gs16 at hrs hgs ⊢
                exact tail x16 _ hx16 hgs hrs _ (fun _ _ h => h)
              · refine stepIn_value rfl (by simp) (w1 := x15) (v := .int .i64 n) (by go_simp; first | done | rfl) (hK _ _ ?_)
                refine wpAnyIn_ready (rs := [1, 5]) (by kernel_rfl) (by simp) (AllReadyIn.cons rfl (fun K hK => ?_) (AllReadyIn.cons rfl (fun K hK => ?_) AllReadyIn.nil))
                · refine stepIn_value rfl (by simp) (w1 := x15) (v := v) (by have hc5 := hcell x15 hx15; go_simp; first | done | rfl) (hK _ _ ?_)
                  refine wpAnyIn_ready (rs := [5]) (by kernel_rfl) (by simp) (AllReadyIn.cons rfl (fun K hK => ?_) AllReadyIn.nil)
                  refine stepIn_value rfl (by simp) (w1 := x15.alloc (.cells #[.int .i64 n] 3)) (v := .slice (some ⟨x15.heap.size, 0, none⟩) 1 1) (by go_simp; first | done | rfl) (hK _ _ ?_)
                  have hrs := blk_new x15 (.cells #[.int .i64 n] 3)
                  have hx17 := below_alloc hx15 (.cells #[.int .i64 n] 3)
                  have hgs := hx15.size
                  generalize x15.alloc (.cells #[.int .i64 n] 3) = x17 at hrs hx17 ⊢
                  generalize x15.heap.size = gs17 at hrs hgs ⊢
                  exact tail x17 _ hx17 hgs hrs _ (fun _ _ h => h)
                · refine stepIn_value rfl (by simp) (w1 := x15.alloc (.cells #[.int .i64 n] 3)) (v := .slice (some ⟨x15.heap.size, 0, none⟩) 1 1) (by go_simp; first | done | rfl) (hK _ _ ?_)
                  have hrs := blk_new x15 (.cells #[.int .i64 n] 3)
                  have hx18 := below_alloc hx15 (.cells #[.int .i64 n] 3)
                  have hgs := hx15.size
                  generalize x15.alloc (.cells #[.int .i64 n] 3) = x18 at hrs hx18 ⊢
                  generalize x15.heap.size = gs18 at hrs hgs ⊢
                  refine wpAnyIn_ready (rs := [1]) (by kernel_rfl) (by simp) (AllReadyIn.cons rfl (fun K hK => ?_) AllReadyIn.nil)
                  refine stepIn_value rfl (by simp) (w1 := x18) (v := v) (by have hc5 := hcell x18 hx18; go_simp; first | done | rfl) (hK _ _ ?_)
                  exact tail x18 _ hx18 hgs hrs _ (fun _ _ h => h)
            · refine stepIn_value rfl (by simp) (w1 := x15) (v := .int .i64 n) (by go_simp; first | done | rfl) (hK _ _ ?_)
              refine wpAnyIn_ready (rs := [0, 5]) (by kernel_rfl) (by simp) (AllReadyIn.cons rfl (fun K hK => ?_) (AllReadyIn.cons rfl (fun K hK => ?_) AllReadyIn.nil))
              · refine stepIn_value rfl (by simp) (w1 := x15) (v := .pointer (some ⟨g4, 5, none⟩)) (by go_simp; first | done | rfl) (hK _ _ ?_)
                refine wpAnyIn_ready (rs := [1, 5]) (by kernel_rfl) (by simp) (AllReadyIn.cons rfl (fun K hK => ?_) (AllReadyIn.cons rfl (fun K hK => ?_) AllReadyIn.nil))
                · refine stepIn_value rfl (by simp) (w1 := x15) (v := v) (by have hc5 := hcell x15 hx15; go_simp; first | done | rfl) (hK _ _ ?_)
                  refine wpAnyIn_ready (rs := [5]) (by kernel_rfl) (by simp) (AllReadyIn.cons rfl (fun K hK => ?_) AllReadyIn.nil)
                  refine stepIn_value rfl (by simp) (w1 := x15.alloc (.cells #[.int .i64 n] 3)) (v := .slice (some ⟨x15.heap.size, 0, none⟩) 1 1) (by go_simp; first | done | rfl) (hK _ _ ?_)
                  have hrs := blk_new x15 (.cells #[.int .i64 n] 3)
                  have hx19 := below_alloc hx15 (.cells #[.int .i64 n] 3)
                  have hgs := hx15.size
                  generalize x15.alloc (.cells #[.int .i64 n] 3) = x19 at hrs hx19 ⊢
                  generalize x15.heap.size = gs19 at hrs hgs ⊢
                  exact tail x19 _ hx19 hgs hrs _ (fun _ _ h => h)
                · refine stepIn_value rfl (by simp) (w1 := x15.alloc (.cells #[.int .i64 n] 3)) (v := .slice (some ⟨x15.heap.size, 0, none⟩) 1 1) (by go_simp; first | done | rfl) (hK _ _ ?_)
                  have hrs := blk_new x15 (.cells #[.int .i64 n] 3)
                  have hx20 := below_alloc hx15 (.cells #[.int .i64 n] 3)
                  have hgs := hx15.size
                  generalize x15.alloc (.cells #[.int .i64 n] 3) = x20 at hrs hx20 ⊢
                  generalize x15.heap.size = gs20 at hrs hgs ⊢
                  refine wpAnyIn_ready (rs := [1]) (by kernel_rfl) (by simp) (AllReadyIn.cons rfl (fun K hK => ?_) AllReadyIn.nil)
                  refine stepIn_value rfl (by simp) (w1 := x20) (v := v) (by have hc5 := hcell x20 hx20; go_simp; first | done | rfl) (hK _ _ ?_)
                  exact tail x20 _ hx20 hgs hrs _ (fun _ _ h => h)
              · refine stepIn_value rfl (by simp) (w1 := x15.alloc (.cells #[.int .i64 n] 3)) (v := .slice (some ⟨x15.heap.size, 0, none⟩) 1 1) (by go_simp; first | done | rfl) (hK _ _ ?_)
                have hrs := blk_new x15 (.cells #[.int .i64 n] 3)
                have hx21 := below_alloc hx15 (.cells #[.int .i64 n] 3)
                have hgs := hx15.size
                generalize x15.alloc (.cells #[.int .i64 n] 3) = x21 at hrs hx21 ⊢
                generalize x15.heap.size = gs21 at hrs hgs ⊢
                refine wpAnyIn_ready (rs := [0]) (by kernel_rfl) (by simp) (AllReadyIn.cons rfl (fun K hK => ?_) AllReadyIn.nil)
                refine stepIn_value rfl (by simp) (w1 := x21) (v := .pointer (some ⟨g4, 5, none⟩)) (by go_simp; first | done | rfl) (hK _ _ ?_)
                refine wpAnyIn_ready (rs := [1]) (by kernel_rfl) (by simp) (AllReadyIn.cons rfl (fun K hK => ?_) AllReadyIn.nil)
                refine stepIn_value rfl (by simp) (w1 := x21) (v := v) (by have hc5 := hcell x21 hx21; go_simp; first | done | rfl) (hK _ _ ?_)
                exact tail x21 _ hx21 hgs hrs _ (fun _ _ h => h)
       case done =>
        rintro D ys W hD rfl ⟨⟨v, hg, ho, -⟩, hr6, hk⟩ hK
        rw [wsG_all] at ho
        have hpl : (pairsL rest).length ≤ 1000000 := by
         simp only [pairsL, List.length_map, List.length_range, chunkN]
         omega
        obtain ⟨ps, hps⟩ : ∃ ps, pairsL rest = ps := ⟨_, rfl⟩
        have HI5 : (if True then pairsL rest else []) = ps := (if_pos trivial).trans hps
        have HI6 : (if True then [] else rest) = [] := if_pos trivial
        rw [hps] at ho hpl
        have HLP := Aside0.mk hpl
        have hwB : w.heap.size ≤ B := by omega
        have hDB : B ≤ D := by rw [← hB]; exact hD
        have hR5 : Kd.R (Kd.int .i64) 3 W w.heap.size (fun _ => True) v ps := Kd.R_lower (Kd.R_of_own (enc := Value.int .i64) (by simpa [nums, encs] using ho) (fun _ _ => trivial)) hwB
        obtain ⟨A5v, c5v, ev⟩ := Kd.R_slice hR5
        subst ev
        have R59 := Aside0.mk hR5
        have K49 := Aside0.mk hg
        have K09 := Aside0.mk ((hk.block g0 (by omega) NE.out).trans kz)
        have BW9 := Aside0.mk (show Below w.heap.size w W from bb.trans (hk.below hwB (fun k e => by rw [e]; exact GE4.out)))
        have KD9 := Aside0.mk hK
        have NE0D := Aside0.mk (show D ≠ g0 by omega)
        have HSD := Aside0.mk (show w.heap.size ≤ D by omega)
        have y0 : W.cell? ⟨g4, 0, none⟩ = _ := (blk_cell K49.out 0).trans rfl
        have y1 : W.cell? ⟨g4, 1, none⟩ = _ := (blk_cell K49.out 1).trans rfl
        have y2 : W.cell? ⟨g4, 2, none⟩ = _ := (blk_cell K49.out 2).trans rfl
        have y3 : W.cell? ⟨g4, 3, none⟩ = _ := (blk_cell K49.out 3).trans rfl
        have y4 : W.cell? ⟨g4, 4, none⟩ = _ := (blk_cell K49.out 4).trans rfl
        have y5 : W.cell? ⟨g4, 5, none⟩ = _ := (blk_cell K49.out 5).trans rfl
        have y6 : W.cell? ⟨g4, 6, none⟩ = _ := (blk_cell K49.out 6).trans rfl
        clear hps hR5 ho hr6 hK hpl hg kg kz bb b3 b4 q6 hr8 hB hBB hs8 hD hDB hwB hg46 hg06 hcap hws
        obtain ⟨cc, ee, hce⟩ : ∃ cc ee, encodeG 1 n1 n2 n3 n4 ps [] = (cc, ee) := ⟨_, _, rfl⟩
        have hh := HH2.out
        rw [HI5, HI6, hce] at hh
        have HEN := Aside0.mk (show pack_Encode.f 1 n1 n2 n3 n4 ps [] = some (cc, ee) by rw [pack_Encode.f, if_pos ⟨by have := HLP.out; omega, by simp, rfl, by omega, by omega⟩, hce])
        have HCE := Aside0.mk hce
        clear hce
        by_cases hee : ee = 0
        · subst hee
          by_cases hcc : cc = l0
          · rw [if_pos (by rw [hcc])] at hh
            simp only [Prod.mk.injEq] at hh
            obtain ⟨e1, e2, e3, e4, e5, e6, e7, e8⟩ := hh
            subst e1 e2 e3 e4 e5 e6 e7 e8
            have HEQ := Aside0.mk (show bytes_Equal.f l0 cc = some true by rw [hcc, bytes_Equal.f, strs_beq l0 l0 hbb hbb]; simp)
            clear hcc
            go_wp2_with (first
             | (go_at_call 10; refine (pack_Encode.calls 1 n1 n2 n3 n4 A5v c5v ps none 0 [] cc 0 _ (Kd.R_reads' R59.out).2.2 (Kd.R_reads' R59.out).2.1 (Kd.R_reads' (Kd.R_nil (Kd.int .u8) 5 W w.heap.size (fun _ => True))).2.2 (Kd.R_reads' (Kd.R_nil (Kd.int .u8) 5 W w.heap.size (fun _ => True))).2.1 HEN.out).mono ?_; rintro e w13 ⟨v13, rfl, ho, hb⟩; obtain ⟨A13, c13, eo⟩ := Kd.R_slice ho; subst eo; have HO13 := Aside0.mk ho; have KT13 := Aside0.mk (blk_below K49.out hb); have K013 := Aside0.mk (blk_below K09.out hb); have R513 := Aside0.mk (Kd.R_below R59.out hb); have R613 := Aside0.mk (Kd.R_below (Kd.R_nil (Kd.int .u8) 5 W w.heap.size (fun _ => True)) hb); have BW13 := Aside0.mk (below_then BW9.out BW9.out.size hb); clear y0 y1 y2 y3 y4 y5 y6; have y0 : w13.cell? ⟨g4, 0, none⟩ = _ := (blk_cell KT13.out 0).trans rfl; have y1 : w13.cell? ⟨g4, 1, none⟩ = _ := (blk_cell KT13.out 1).trans rfl; have y2 : w13.cell? ⟨g4, 2, none⟩ = _ := (blk_cell KT13.out 2).trans rfl; have y3 : w13.cell? ⟨g4, 3, none⟩ = _ := (blk_cell KT13.out 3).trans rfl; have y4 : w13.cell? ⟨g4, 4, none⟩ = _ := (blk_cell KT13.out 4).trans rfl; have y5 : w13.cell? ⟨g4, 5, none⟩ = _ := (blk_cell KT13.out 5).trans rfl; have y6 : w13.cell? ⟨g4, 6, none⟩ = _ := (blk_cell KT13.out 6).trans rfl; have z0 : w13.cell? ⟨g0, 0, none⟩ = _ := (blk_cell K013.out 0).trans rfl; have z1 : w13.cell? ⟨g0, 1, none⟩ = _ := (blk_cell K013.out 1).trans rfl; have z2 : w13.cell? ⟨g0, 2, none⟩ = _ := (blk_cell K013.out 2).trans rfl; have z3 : w13.cell? ⟨g0, 3, none⟩ = _ := (blk_cell K013.out 3).trans rfl; have z4 : w13.cell? ⟨g0, 4, none⟩ = _ := (blk_cell K013.out 4).trans rfl; have z5 : w13.cell? ⟨g0, 5, none⟩ = _ := (blk_cell K013.out 5).trans rfl; have z6 : w13.cell? ⟨g0, 6, none⟩ = _ := (blk_cell K013.out 6).trans rfl; have zf0 := blk_frozen K013.out 0; have zf1 := blk_frozen K013.out 1; have zf2 := blk_frozen K013.out 2; have zf3 := blk_frozen K013.out 3; have zf4 := blk_frozen K013.out 4; have zf5 := blk_frozen K013.out 5; have zf6 := blk_frozen K013.out 6; have KD13 := Aside0.mk ((hb.block D (blk_lt KD9.out)).trans KD9.out); clear hb ho)
             | (go_at_call 27; refine (bytes_Equal.calls (some ad) c0 l0 A13 c13 cc true _ (Kd.C_below HR0.out BW13.out) HC0.out (Kd.R_reads' HO13.out).2.2 (Kd.R_reads' HO13.out).2.1 HEQ.out).mono ?_; rintro e w14 ⟨rfl, hd⟩; obtain ⟨nd, hd⟩ := hd; subst hd))
            have k0 := (blk_drewN K013.out nd)
            have q5 := (Kd.R_drewN R513.out nd)
            have q6 := (Kd.R_drewN R613.out nd)
            have bw := (pw_below_drewN BW13.out nd)
            have kd := (show (World.heap (w13.drewN nd))[D]? = some (.deferred (some [])) from KD13.out)
            have q5 := Kd.R_set q5 k0 (by decide) 0 (.int .i64 1)
            have q6 := Kd.R_set q6 k0 (by decide) 0 (.int .i64 1)
            have bw := below_set (j := 0) (v := .int .i64 1) bw GE0.out
            have kd := (show (World.heap (World.setCell _ ⟨g0, 0, none⟩ (.int .i64 1)))[D]? = _ from (Below.heap_setCell _ _ _ _ NE0D.out).trans kd)
            have k0 := blk_put (cs := #[.int .i64 0, .int .u64 0, .int .i64 0, .int .i64 0, .int .u32 0, .slice none 0 0, .slice none 0 0]) k0 0 (.int .i64 1) rfl
            have q5 := Kd.R_set q5 k0 (by decide) 1 (.int .u64 n1)
            have q6 := Kd.R_set q6 k0 (by decide) 1 (.int .u64 n1)
            have bw := below_set (j := 1) (v := .int .u64 n1) bw GE0.out
            have kd := (show (World.heap (World.setCell _ ⟨g0, 1, none⟩ (.int .u64 n1)))[D]? = _ from (Below.heap_setCell _ _ _ _ NE0D.out).trans kd)
            have k0 := blk_put (cs := #[.int .i64 1, .int .u64 0, .int .i64 0, .int .i64 0, .int .u32 0, .slice none 0 0, .slice none 0 0]) k0 1 (.int .u64 n1) rfl
            have q5 := Kd.R_set q5 k0 (by decide) 2 (.int .i64 n2)
            have q6 := Kd.R_set q6 k0 (by decide) 2 (.int .i64 n2)
            have bw := below_set (j := 2) (v := .int .i64 n2) bw GE0.out
            have kd := (show (World.heap (World.setCell _ ⟨g0, 2, none⟩ (.int .i64 n2)))[D]? = _ from (Below.heap_setCell _ _ _ _ NE0D.out).trans kd)
            have k0 := blk_put (cs := #[.int .i64 1, .int .u64 n1, .int .i64 0, .int .i64 0, .int .u32 0, .slice none 0 0, .slice none 0 0]) k0 2 (.int .i64 n2) rfl
            have q5 := Kd.R_set q5 k0 (by decide) 3 (.int .i64 n3)
            have q6 := Kd.R_set q6 k0 (by decide) 3 (.int .i64 n3)
            have bw := below_set (j := 3) (v := .int .i64 n3) bw GE0.out
            have kd := (show (World.heap (World.setCell _ ⟨g0, 3, none⟩ (.int .i64 n3)))[D]? = _ from (Below.heap_setCell _ _ _ _ NE0D.out).trans kd)
            have k0 := blk_put (cs := #[.int .i64 1, .int .u64 n1, .int .i64 n2, .int .i64 0, .int .u32 0, .slice none 0 0, .slice none 0 0]) k0 3 (.int .i64 n3) rfl
            have q5 := Kd.R_set q5 k0 (by decide) 4 (.int .u32 n4)
            have q6 := Kd.R_set q6 k0 (by decide) 4 (.int .u32 n4)
            have bw := below_set (j := 4) (v := .int .u32 n4) bw GE0.out
            have kd := (show (World.heap (World.setCell _ ⟨g0, 4, none⟩ (.int .u32 n4)))[D]? = _ from (Below.heap_setCell _ _ _ _ NE0D.out).trans kd)
            have k0 := blk_put (cs := #[.int .i64 1, .int .u64 n1, .int .i64 n2, .int .i64 n3, .int .u32 0, .slice none 0 0, .slice none 0 0]) k0 4 (.int .u32 n4) rfl
            have q5 := Kd.R_set q5 k0 (by decide) 5 (.slice A5v ps.length c5v)
            have q6 := Kd.R_set q6 k0 (by decide) 5 (.slice A5v ps.length c5v)
            have bw := below_set (j := 5) (v := .slice A5v ps.length c5v) bw GE0.out
            have kd := (show (World.heap (World.setCell _ ⟨g0, 5, none⟩ (.slice A5v ps.length c5v)))[D]? = _ from (Below.heap_setCell _ _ _ _ NE0D.out).trans kd)
            have k0 := blk_put (cs := #[.int .i64 1, .int .u64 n1, .int .i64 n2, .int .i64 n3, .int .u32 n4, .slice none 0 0, .slice none 0 0]) k0 5 (.slice A5v ps.length c5v) rfl
            have q5 := Kd.R_set q5 k0 (by decide) 6 (.slice none 0 0)
            have q6 := Kd.R_set q6 k0 (by decide) 6 (.slice none 0 0)
            have bw := below_set (j := 6) (v := .slice none 0 0) bw GE0.out
            have kd := (show (World.heap (World.setCell _ ⟨g0, 6, none⟩ (.slice none 0 0)))[D]? = _ from (Below.heap_setCell _ _ _ _ NE0D.out).trans kd)
            have k0 := blk_put (cs := #[.int .i64 1, .int .u64 n1, .int .i64 n2, .int .i64 n3, .int .u32 n4, .slice A5v ps.length c5v, .slice none 0 0]) k0 6 (.slice none 0 0) rfl
            refine ⟨by simp, .inl ⟨_, _, rfl, run_takeDeferred kd, ?_⟩⟩
            have k1 := blk_grown k0 (grownBy_putObj' _ D (.deferred none)) (fun e => NE0D.out (Option.some.inj e).symm)
            refine ⟨_, results_ct rfl _ _ g0 28 _ (0, 0) _ rfl k1 hu28 rfl (by kernel_rfl), ?_⟩
            exact ⟨_, _, rfl, Kd.R_of_own (ownsRow_putObj (Kd.own_of_R q5) (.deferred none) kd rfl) (fun _ _ => trivial), Kd.R_of_own (ownsRow_putObj (Kd.own_of_R q6) (.deferred none) kd rfl) (fun _ _ => trivial), bw.trans (belowK_b (w := w) (Nat.le_refl _) _ D _ _ HSD.out kd rfl rfl)⟩
          · rw [if_neg (by intro e; exact hcc (congrArg Prod.fst e))] at hh
            simp only [Prod.mk.injEq] at hh
            obtain ⟨e1, e2, e3, e4, e5, e6, e7, e8⟩ := hh
            subst e1 e2 e3 e4 e5 e6 e7 e8
            have hcb : bytesB cc = true := by
             have h9 := HCE.out
             unfold encodeG at h9
             split at h9
             · obtain rfl := congrArg Prod.fst h9
               exact sealL_byte _ (gramB_byte _ _ _ _ _ _ _ rfl)
             · cases h9
            have HEQ := Aside0.mk (show bytes_Equal.f l0 cc = some false by rw [bytes_Equal.f, strs_beq l0 cc hbb hcb, decide_eq_false (fun e => hcc e.symm)])
            clear hcc hcb
            go_wp2_with (first
             | (go_at_call 10; refine (pack_Encode.calls 1 n1 n2 n3 n4 A5v c5v ps none 0 [] cc 0 _ (Kd.R_reads' R59.out).2.2 (Kd.R_reads' R59.out).2.1 (Kd.R_reads' (Kd.R_nil (Kd.int .u8) 5 W w.heap.size (fun _ => True))).2.2 (Kd.R_reads' (Kd.R_nil (Kd.int .u8) 5 W w.heap.size (fun _ => True))).2.1 HEN.out).mono ?_; rintro e w13 ⟨v13, rfl, ho, hb⟩; obtain ⟨A13, c13, eo⟩ := Kd.R_slice ho; subst eo; have HO13 := Aside0.mk ho; have KT13 := Aside0.mk (blk_below K49.out hb); have K013 := Aside0.mk (blk_below K09.out hb); have R513 := Aside0.mk (Kd.R_below R59.out hb); have R613 := Aside0.mk (Kd.R_below (Kd.R_nil (Kd.int .u8) 5 W w.heap.size (fun _ => True)) hb); have BW13 := Aside0.mk (below_then BW9.out BW9.out.size hb); clear y0 y1 y2 y3 y4 y5 y6; have y0 : w13.cell? ⟨g4, 0, none⟩ = _ := (blk_cell KT13.out 0).trans rfl; have y1 : w13.cell? ⟨g4, 1, none⟩ = _ := (blk_cell KT13.out 1).trans rfl; have y2 : w13.cell? ⟨g4, 2, none⟩ = _ := (blk_cell KT13.out 2).trans rfl; have y3 : w13.cell? ⟨g4, 3, none⟩ = _ := (blk_cell KT13.out 3).trans rfl; have y4 : w13.cell? ⟨g4, 4, none⟩ = _ := (blk_cell KT13.out 4).trans rfl; have y5 : w13.cell? ⟨g4, 5, none⟩ = _ := (blk_cell KT13.out 5).trans rfl; have y6 : w13.cell? ⟨g4, 6, none⟩ = _ := (blk_cell KT13.out 6).trans rfl; have z0 : w13.cell? ⟨g0, 0, none⟩ = _ := (blk_cell K013.out 0).trans rfl; have z1 : w13.cell? ⟨g0, 1, none⟩ = _ := (blk_cell K013.out 1).trans rfl; have z2 : w13.cell? ⟨g0, 2, none⟩ = _ := (blk_cell K013.out 2).trans rfl; have z3 : w13.cell? ⟨g0, 3, none⟩ = _ := (blk_cell K013.out 3).trans rfl; have z4 : w13.cell? ⟨g0, 4, none⟩ = _ := (blk_cell K013.out 4).trans rfl; have z5 : w13.cell? ⟨g0, 5, none⟩ = _ := (blk_cell K013.out 5).trans rfl; have z6 : w13.cell? ⟨g0, 6, none⟩ = _ := (blk_cell K013.out 6).trans rfl; have zf0 := blk_frozen K013.out 0; have zf1 := blk_frozen K013.out 1; have zf2 := blk_frozen K013.out 2; have zf3 := blk_frozen K013.out 3; have zf4 := blk_frozen K013.out 4; have zf5 := blk_frozen K013.out 5; have zf6 := blk_frozen K013.out 6; have KD13 := Aside0.mk ((hb.block D (blk_lt KD9.out)).trans KD9.out); clear hb ho)
             | (go_at_call 27; refine (bytes_Equal.calls (some ad) c0 l0 A13 c13 cc false _ (Kd.C_below HR0.out BW13.out) HC0.out (Kd.R_reads' HO13.out).2.2 (Kd.R_reads' HO13.out).2.1 HEQ.out).mono ?_; rintro e w14 ⟨rfl, hd⟩; obtain ⟨nd, hd⟩ := hd; subst hd))
            have k0 := (blk_drewN K013.out nd)
            have q5 := (Kd.R_drewN R513.out nd)
            have q6 := (Kd.R_drewN R613.out nd)
            have bw := (pw_below_drewN BW13.out nd)
            have kd := (show (World.heap (w13.drewN nd))[D]? = some (.deferred (some [])) from KD13.out)
            have q5 := Kd.R_set q5 k0 (by decide) 0 (.int .i64 0)
            have q6 := Kd.R_set q6 k0 (by decide) 0 (.int .i64 0)
            have bw := below_set (j := 0) (v := .int .i64 0) bw GE0.out
            have kd := (show (World.heap (World.setCell _ ⟨g0, 0, none⟩ (.int .i64 0)))[D]? = _ from (Below.heap_setCell _ _ _ _ NE0D.out).trans kd)
            have k0 := blk_put (cs := #[.int .i64 0, .int .u64 0, .int .i64 0, .int .i64 0, .int .u32 0, .slice none 0 0, .slice none 0 0]) k0 0 (.int .i64 0) rfl
            have q5 := Kd.R_set q5 k0 (by decide) 1 (.int .u64 0)
            have q6 := Kd.R_set q6 k0 (by decide) 1 (.int .u64 0)
            have bw := below_set (j := 1) (v := .int .u64 0) bw GE0.out
            have kd := (show (World.heap (World.setCell _ ⟨g0, 1, none⟩ (.int .u64 0)))[D]? = _ from (Below.heap_setCell _ _ _ _ NE0D.out).trans kd)
            have k0 := blk_put (cs := #[.int .i64 0, .int .u64 0, .int .i64 0, .int .i64 0, .int .u32 0, .slice none 0 0, .slice none 0 0]) k0 1 (.int .u64 0) rfl
            have q5 := Kd.R_set q5 k0 (by decide) 2 (.int .i64 0)
            have q6 := Kd.R_set q6 k0 (by decide) 2 (.int .i64 0)
            have bw := below_set (j := 2) (v := .int .i64 0) bw GE0.out
            have kd := (show (World.heap (World.setCell _ ⟨g0, 2, none⟩ (.int .i64 0)))[D]? = _ from (Below.heap_setCell _ _ _ _ NE0D.out).trans kd)
            have k0 := blk_put (cs := #[.int .i64 0, .int .u64 0, .int .i64 0, .int .i64 0, .int .u32 0, .slice none 0 0, .slice none 0 0]) k0 2 (.int .i64 0) rfl
            have q5 := Kd.R_set q5 k0 (by decide) 3 (.int .i64 0)
            have q6 := Kd.R_set q6 k0 (by decide) 3 (.int .i64 0)
            have bw := below_set (j := 3) (v := .int .i64 0) bw GE0.out
            have kd := (show (World.heap (World.setCell _ ⟨g0, 3, none⟩ (.int .i64 0)))[D]? = _ from (Below.heap_setCell _ _ _ _ NE0D.out).trans kd)
            have k0 := blk_put (cs := #[.int .i64 0, .int .u64 0, .int .i64 0, .int .i64 0, .int .u32 0, .slice none 0 0, .slice none 0 0]) k0 3 (.int .i64 0) rfl
            have q5 := Kd.R_set q5 k0 (by decide) 4 (.int .u32 0)
            have q6 := Kd.R_set q6 k0 (by decide) 4 (.int .u32 0)
            have bw := below_set (j := 4) (v := .int .u32 0) bw GE0.out
            have kd := (show (World.heap (World.setCell _ ⟨g0, 4, none⟩ (.int .u32 0)))[D]? = _ from (Below.heap_setCell _ _ _ _ NE0D.out).trans kd)
            have k0 := blk_put (cs := #[.int .i64 0, .int .u64 0, .int .i64 0, .int .i64 0, .int .u32 0, .slice none 0 0, .slice none 0 0]) k0 4 (.int .u32 0) rfl
            have q5 := Kd.R_set q5 k0 (by decide) 5 (.slice none 0 0)
            have q6 := Kd.R_set q6 k0 (by decide) 5 (.slice none 0 0)
            have bw := below_set (j := 5) (v := .slice none 0 0) bw GE0.out
            have kd := (show (World.heap (World.setCell _ ⟨g0, 5, none⟩ (.slice none 0 0)))[D]? = _ from (Below.heap_setCell _ _ _ _ NE0D.out).trans kd)
            have k0 := blk_put (cs := #[.int .i64 0, .int .u64 0, .int .i64 0, .int .i64 0, .int .u32 0, .slice none 0 0, .slice none 0 0]) k0 5 (.slice none 0 0) rfl
            have q5 := Kd.R_set q5 k0 (by decide) 6 (.slice none 0 0)
            have q6 := Kd.R_set q6 k0 (by decide) 6 (.slice none 0 0)
            have bw := below_set (j := 6) (v := .slice none 0 0) bw GE0.out
            have kd := (show (World.heap (World.setCell _ ⟨g0, 6, none⟩ (.slice none 0 0)))[D]? = _ from (Below.heap_setCell _ _ _ _ NE0D.out).trans kd)
            have k0 := blk_put (cs := #[.int .i64 0, .int .u64 0, .int .i64 0, .int .i64 0, .int .u32 0, .slice none 0 0, .slice none 0 0]) k0 6 (.slice none 0 0) rfl
            refine ⟨by simp, .inl ⟨_, _, rfl, run_takeDeferred kd, ?_⟩⟩
            have k1 := blk_grown k0 (grownBy_putObj' _ D (.deferred none)) (fun e => NE0D.out (Option.some.inj e).symm)
            refine ⟨_, results_ct rfl _ _ g0 28 _ (0, 0) _ rfl k1 hu28 rfl (by kernel_rfl), ?_⟩
            exact ⟨_, _, rfl, Kd.R_nil _ _ _ _ _, Kd.R_nil _ _ _ _ _, bw.trans (belowK_b (w := w) (Nat.le_refl _) _ D _ _ HSD.out kd rfl rfl)⟩
        · rw [if_neg (by intro e; exact hee (congrArg Prod.snd e))] at hh
          simp only [Prod.mk.injEq] at hh
          obtain ⟨e1, e2, e3, e4, e5, e6, e7, e8⟩ := hh
          subst e1 e2 e3 e4 e5 e6 e7 e8
          have hee2 : (ee != 0) = true := by simpa using hee
          clear hee
          go_wp2_with (first
           | (go_at_call 10; refine (pack_Encode.calls 1 n1 n2 n3 n4 A5v c5v ps none 0 [] cc ee _ (Kd.R_reads' R59.out).2.2 (Kd.R_reads' R59.out).2.1 (Kd.R_reads' (Kd.R_nil (Kd.int .u8) 5 W w.heap.size (fun _ => True))).2.2 (Kd.R_reads' (Kd.R_nil (Kd.int .u8) 5 W w.heap.size (fun _ => True))).2.1 HEN.out).mono ?_; rintro e w13 ⟨v13, rfl, ho, hb⟩; obtain ⟨A13, c13, eo⟩ := Kd.R_slice ho; subst eo; have HO13 := Aside0.mk ho; have KT13 := Aside0.mk (blk_below K49.out hb); have K013 := Aside0.mk (blk_below K09.out hb); have R513 := Aside0.mk (Kd.R_below R59.out hb); have R613 := Aside0.mk (Kd.R_below (Kd.R_nil (Kd.int .u8) 5 W w.heap.size (fun _ => True)) hb); have BW13 := Aside0.mk (below_then BW9.out BW9.out.size hb); clear y0 y1 y2 y3 y4 y5 y6; have y0 : w13.cell? ⟨g4, 0, none⟩ = _ := (blk_cell KT13.out 0).trans rfl; have y1 : w13.cell? ⟨g4, 1, none⟩ = _ := (blk_cell KT13.out 1).trans rfl; have y2 : w13.cell? ⟨g4, 2, none⟩ = _ := (blk_cell KT13.out 2).trans rfl; have y3 : w13.cell? ⟨g4, 3, none⟩ = _ := (blk_cell KT13.out 3).trans rfl; have y4 : w13.cell? ⟨g4, 4, none⟩ = _ := (blk_cell KT13.out 4).trans rfl; have y5 : w13.cell? ⟨g4, 5, none⟩ = _ := (blk_cell KT13.out 5).trans rfl; have y6 : w13.cell? ⟨g4, 6, none⟩ = _ := (blk_cell KT13.out 6).trans rfl; have z0 : w13.cell? ⟨g0, 0, none⟩ = _ := (blk_cell K013.out 0).trans rfl; have z1 : w13.cell? ⟨g0, 1, none⟩ = _ := (blk_cell K013.out 1).trans rfl; have z2 : w13.cell? ⟨g0, 2, none⟩ = _ := (blk_cell K013.out 2).trans rfl; have z3 : w13.cell? ⟨g0, 3, none⟩ = _ := (blk_cell K013.out 3).trans rfl; have z4 : w13.cell? ⟨g0, 4, none⟩ = _ := (blk_cell K013.out 4).trans rfl; have z5 : w13.cell? ⟨g0, 5, none⟩ = _ := (blk_cell K013.out 5).trans rfl; have z6 : w13.cell? ⟨g0, 6, none⟩ = _ := (blk_cell K013.out 6).trans rfl; have zf0 := blk_frozen K013.out 0; have zf1 := blk_frozen K013.out 1; have zf2 := blk_frozen K013.out 2; have zf3 := blk_frozen K013.out 3; have zf4 := blk_frozen K013.out 4; have zf5 := blk_frozen K013.out 5; have zf6 := blk_frozen K013.out 6; have KD13 := Aside0.mk ((hb.block D (blk_lt KD9.out)).trans KD9.out); clear hb ho))
          have k0 := K013.out
          have q5 := R513.out
          have q6 := R613.out
          have bw := BW13.out
          have kd := (show (World.heap (w13))[D]? = some (.deferred (some [])) from KD13.out)
          have q5 := Kd.R_set q5 k0 (by decide) 0 (.int .i64 0)
          have q6 := Kd.R_set q6 k0 (by decide) 0 (.int .i64 0)
          have bw := below_set (j := 0) (v := .int .i64 0) bw GE0.out
          have kd := (show (World.heap (World.setCell _ ⟨g0, 0, none⟩ (.int .i64 0)))[D]? = _ from (Below.heap_setCell _ _ _ _ NE0D.out).trans kd)
          have k0 := blk_put (cs := #[.int .i64 0, .int .u64 0, .int .i64 0, .int .i64 0, .int .u32 0, .slice none 0 0, .slice none 0 0]) k0 0 (.int .i64 0) rfl
          have q5 := Kd.R_set q5 k0 (by decide) 1 (.int .u64 0)
          have q6 := Kd.R_set q6 k0 (by decide) 1 (.int .u64 0)
          have bw := below_set (j := 1) (v := .int .u64 0) bw GE0.out
          have kd := (show (World.heap (World.setCell _ ⟨g0, 1, none⟩ (.int .u64 0)))[D]? = _ from (Below.heap_setCell _ _ _ _ NE0D.out).trans kd)
          have k0 := blk_put (cs := #[.int .i64 0, .int .u64 0, .int .i64 0, .int .i64 0, .int .u32 0, .slice none 0 0, .slice none 0 0]) k0 1 (.int .u64 0) rfl
          have q5 := Kd.R_set q5 k0 (by decide) 2 (.int .i64 0)
          have q6 := Kd.R_set q6 k0 (by decide) 2 (.int .i64 0)
          have bw := below_set (j := 2) (v := .int .i64 0) bw GE0.out
          have kd := (show (World.heap (World.setCell _ ⟨g0, 2, none⟩ (.int .i64 0)))[D]? = _ from (Below.heap_setCell _ _ _ _ NE0D.out).trans kd)
          have k0 := blk_put (cs := #[.int .i64 0, .int .u64 0, .int .i64 0, .int .i64 0, .int .u32 0, .slice none 0 0, .slice none 0 0]) k0 2 (.int .i64 0) rfl
          have q5 := Kd.R_set q5 k0 (by decide) 3 (.int .i64 0)
          have q6 := Kd.R_set q6 k0 (by decide) 3 (.int .i64 0)
          have bw := below_set (j := 3) (v := .int .i64 0) bw GE0.out
          have kd := (show (World.heap (World.setCell _ ⟨g0, 3, none⟩ (.int .i64 0)))[D]? = _ from (Below.heap_setCell _ _ _ _ NE0D.out).trans kd)
          have k0 := blk_put (cs := #[.int .i64 0, .int .u64 0, .int .i64 0, .int .i64 0, .int .u32 0, .slice none 0 0, .slice none 0 0]) k0 3 (.int .i64 0) rfl
          have q5 := Kd.R_set q5 k0 (by decide) 4 (.int .u32 0)
          have q6 := Kd.R_set q6 k0 (by decide) 4 (.int .u32 0)
          have bw := below_set (j := 4) (v := .int .u32 0) bw GE0.out
          have kd := (show (World.heap (World.setCell _ ⟨g0, 4, none⟩ (.int .u32 0)))[D]? = _ from (Below.heap_setCell _ _ _ _ NE0D.out).trans kd)
          have k0 := blk_put (cs := #[.int .i64 0, .int .u64 0, .int .i64 0, .int .i64 0, .int .u32 0, .slice none 0 0, .slice none 0 0]) k0 4 (.int .u32 0) rfl
          have q5 := Kd.R_set q5 k0 (by decide) 5 (.slice none 0 0)
          have q6 := Kd.R_set q6 k0 (by decide) 5 (.slice none 0 0)
          have bw := below_set (j := 5) (v := .slice none 0 0) bw GE0.out
          have kd := (show (World.heap (World.setCell _ ⟨g0, 5, none⟩ (.slice none 0 0)))[D]? = _ from (Below.heap_setCell _ _ _ _ NE0D.out).trans kd)
          have k0 := blk_put (cs := #[.int .i64 0, .int .u64 0, .int .i64 0, .int .i64 0, .int .u32 0, .slice none 0 0, .slice none 0 0]) k0 5 (.slice none 0 0) rfl
          have q5 := Kd.R_set q5 k0 (by decide) 6 (.slice none 0 0)
          have q6 := Kd.R_set q6 k0 (by decide) 6 (.slice none 0 0)
          have bw := below_set (j := 6) (v := .slice none 0 0) bw GE0.out
          have kd := (show (World.heap (World.setCell _ ⟨g0, 6, none⟩ (.slice none 0 0)))[D]? = _ from (Below.heap_setCell _ _ _ _ NE0D.out).trans kd)
          have k0 := blk_put (cs := #[.int .i64 0, .int .u64 0, .int .i64 0, .int .i64 0, .int .u32 0, .slice none 0 0, .slice none 0 0]) k0 6 (.slice none 0 0) rfl
          refine ⟨by simp, .inl ⟨_, _, rfl, run_takeDeferred kd, ?_⟩⟩
          have k1 := blk_grown k0 (grownBy_putObj' _ D (.deferred none)) (fun e => NE0D.out (Option.some.inj e).symm)
          refine ⟨_, results_ct rfl _ _ g0 28 _ (0, 0) _ rfl k1 hu28 rfl (by kernel_rfl), ?_⟩
          exact ⟨_, _, rfl, Kd.R_nil _ _ _ _ _, Kd.R_nil _ _ _ _ _, bw.trans (belowK_b (w := w) (Nat.le_refl _) _ D _ _ HSD.out kd rfl rfl)⟩
       case stop =>
        rintro D c pre W _ _ h _
        exact h.elim
     · have HI5 : (if b0 = 1 then pairsL rest else []) = [] := if_neg hk
       have HI6 : (if b0 = 1 then [] else rest) = rest := if_neg hk
       by_cases hre : rest = []
       · subst hre
         clear HI6
         have HI6 : (if b0 = 1 then [] else ([] : List Int)) = [] := by split <;> rfl
         obtain ⟨cc, ee, hce⟩ : ∃ cc ee, encodeG b0 n1 n2 n3 n4 [] [] = (cc, ee) := ⟨_, _, rfl⟩
         have hh := HH2.out
         rw [HI5, HI6, hce] at hh
         have HEN := Aside0.mk (show pack_Encode.f b0 n1 n2 n3 n4 [] [] = some (cc, ee) by rw [pack_Encode.f, if_pos ⟨by simp, by simp, rfl, by omega, by omega⟩, hce])
         have HCE := Aside0.mk hce
         clear hce
         by_cases hee : ee = 0
         · subst hee
           by_cases hcc : cc = l0
           · rw [if_pos (by rw [hcc])] at hh
             simp only [Prod.mk.injEq] at hh
             obtain ⟨e1, e2, e3, e4, e5, e6, e7, e8⟩ := hh
             subst e1 e2 e3 e4 e5 e6 e7 e8
             have HEQ := Aside0.mk (show bytes_Equal.f l0 cc = some true by rw [hcc, bytes_Equal.f, strs_beq l0 l0 hbb hbb]; simp)
             clear hcc
             go_wp2_with (first
              | (go_at_call 10; refine (pack_Encode.calls b0 n1 n2 n3 n4 none 0 [] none 0 [] cc 0 _ (Kd.R_reads' (Kd.R_nil (Kd.int .i64) 3 u6 w.heap.size (fun _ => True))).2.2 (Kd.R_reads' (Kd.R_nil (Kd.int .i64) 3 u6 w.heap.size (fun _ => True))).2.1 (Kd.R_reads' (Kd.R_nil (Kd.int .u8) 5 u6 w.heap.size (fun _ => True))).2.2 (Kd.R_reads' (Kd.R_nil (Kd.int .u8) 5 u6 w.heap.size (fun _ => True))).2.1 HEN.out).mono ?_; rintro e w13 ⟨v13, rfl, ho, hb⟩; obtain ⟨A13, c13, eo⟩ := Kd.R_slice ho; subst eo; have HO13 := Aside0.mk ho; have KT13 := Aside0.mk (blk_below KT6.out hb); have K013 := Aside0.mk (blk_below K06.out hb); have R513 := Aside0.mk (Kd.R_below (Kd.R_nil (Kd.int .i64) 3 u6 w.heap.size (fun _ => True)) hb); have R613 := Aside0.mk (Kd.R_below (Kd.R_nil (Kd.int .u8) 5 u6 w.heap.size (fun _ => True)) hb); have BW13 := Aside0.mk (below_then BW6.out BW6.out.size hb); clear y0 y1 y2 y3 y4 y5 y6; have y0 : w13.cell? ⟨g4, 0, none⟩ = _ := (blk_cell KT13.out 0).trans rfl; have y1 : w13.cell? ⟨g4, 1, none⟩ = _ := (blk_cell KT13.out 1).trans rfl; have y2 : w13.cell? ⟨g4, 2, none⟩ = _ := (blk_cell KT13.out 2).trans rfl; have y3 : w13.cell? ⟨g4, 3, none⟩ = _ := (blk_cell KT13.out 3).trans rfl; have y4 : w13.cell? ⟨g4, 4, none⟩ = _ := (blk_cell KT13.out 4).trans rfl; have y5 : w13.cell? ⟨g4, 5, none⟩ = _ := (blk_cell KT13.out 5).trans rfl; have y6 : w13.cell? ⟨g4, 6, none⟩ = _ := (blk_cell KT13.out 6).trans rfl; have z0 : w13.cell? ⟨g0, 0, none⟩ = _ := (blk_cell K013.out 0).trans rfl; have z1 : w13.cell? ⟨g0, 1, none⟩ = _ := (blk_cell K013.out 1).trans rfl; have z2 : w13.cell? ⟨g0, 2, none⟩ = _ := (blk_cell K013.out 2).trans rfl; have z3 : w13.cell? ⟨g0, 3, none⟩ = _ := (blk_cell K013.out 3).trans rfl; have z4 : w13.cell? ⟨g0, 4, none⟩ = _ := (blk_cell K013.out 4).trans rfl; have z5 : w13.cell? ⟨g0, 5, none⟩ = _ := (blk_cell K013.out 5).trans rfl; have z6 : w13.cell? ⟨g0, 6, none⟩ = _ := (blk_cell K013.out 6).trans rfl; have zf0 := blk_frozen K013.out 0; have zf1 := blk_frozen K013.out 1; have zf2 := blk_frozen K013.out 2; have zf3 := blk_frozen K013.out 3; have zf4 := blk_frozen K013.out 4; have zf5 := blk_frozen K013.out 5; have zf6 := blk_frozen K013.out 6; skip; clear hb ho)
              | (go_at_call 27; refine (bytes_Equal.calls (some ad) c0 l0 A13 c13 cc true _ (Kd.C_below HR0.out BW13.out) HC0.out (Kd.R_reads' HO13.out).2.2 (Kd.R_reads' HO13.out).2.1 HEQ.out).mono ?_; rintro e w14 ⟨rfl, hd⟩; obtain ⟨nd, hd⟩ := hd; subst hd))
             have k0 := (blk_drewN K013.out nd)
             have q5 := (Kd.R_drewN R513.out nd)
             have q6 := (Kd.R_drewN R613.out nd)
             have bw := (pw_below_drewN BW13.out nd)
             have q5 := Kd.R_set q5 k0 (by decide) 0 (.int .i64 b0)
             have q6 := Kd.R_set q6 k0 (by decide) 0 (.int .i64 b0)
             have bw := below_set (j := 0) (v := .int .i64 b0) bw GE0.out
             have k0 := blk_put (cs := #[.int .i64 0, .int .u64 0, .int .i64 0, .int .i64 0, .int .u32 0, .slice none 0 0, .slice none 0 0]) k0 0 (.int .i64 b0) rfl
             have q5 := Kd.R_set q5 k0 (by decide) 1 (.int .u64 n1)
             have q6 := Kd.R_set q6 k0 (by decide) 1 (.int .u64 n1)
             have bw := below_set (j := 1) (v := .int .u64 n1) bw GE0.out
             have k0 := blk_put (cs := #[.int .i64 b0, .int .u64 0, .int .i64 0, .int .i64 0, .int .u32 0, .slice none 0 0, .slice none 0 0]) k0 1 (.int .u64 n1) rfl
             have q5 := Kd.R_set q5 k0 (by decide) 2 (.int .i64 n2)
             have q6 := Kd.R_set q6 k0 (by decide) 2 (.int .i64 n2)
             have bw := below_set (j := 2) (v := .int .i64 n2) bw GE0.out
             have k0 := blk_put (cs := #[.int .i64 b0, .int .u64 n1, .int .i64 0, .int .i64 0, .int .u32 0, .slice none 0 0, .slice none 0 0]) k0 2 (.int .i64 n2) rfl
             have q5 := Kd.R_set q5 k0 (by decide) 3 (.int .i64 n3)
             have q6 := Kd.R_set q6 k0 (by decide) 3 (.int .i64 n3)
             have bw := below_set (j := 3) (v := .int .i64 n3) bw GE0.out
             have k0 := blk_put (cs := #[.int .i64 b0, .int .u64 n1, .int .i64 n2, .int .i64 0, .int .u32 0, .slice none 0 0, .slice none 0 0]) k0 3 (.int .i64 n3) rfl
             have q5 := Kd.R_set q5 k0 (by decide) 4 (.int .u32 n4)
             have q6 := Kd.R_set q6 k0 (by decide) 4 (.int .u32 n4)
             have bw := below_set (j := 4) (v := .int .u32 n4) bw GE0.out
             have k0 := blk_put (cs := #[.int .i64 b0, .int .u64 n1, .int .i64 n2, .int .i64 n3, .int .u32 0, .slice none 0 0, .slice none 0 0]) k0 4 (.int .u32 n4) rfl
             have q5 := Kd.R_set q5 k0 (by decide) 5 (.slice none 0 0)
             have q6 := Kd.R_set q6 k0 (by decide) 5 (.slice none 0 0)
             have bw := below_set (j := 5) (v := .slice none 0 0) bw GE0.out
             have k0 := blk_put (cs := #[.int .i64 b0, .int .u64 n1, .int .i64 n2, .int .i64 n3, .int .u32 n4, .slice none 0 0, .slice none 0 0]) k0 5 (.slice none 0 0) rfl
             have q5 := Kd.R_set q5 k0 (by decide) 6 (.slice none 0 0)
             have q6 := Kd.R_set q6 k0 (by decide) 6 (.slice none 0 0)
             have bw := below_set (j := 6) (v := .slice none 0 0) bw GE0.out
             have k0 := blk_put (cs := #[.int .i64 b0, .int .u64 n1, .int .i64 n2, .int .i64 n3, .int .u32 n4, .slice none 0 0, .slice none 0 0]) k0 6 (.slice none 0 0) rfl
             refine ⟨_, results_ct rfl _ _ g0 28 _ (0, 0) _ rfl k0 hu28 rfl (by kernel_rfl), ?_⟩
             exact ⟨_, _, rfl, q5, q6, bw⟩
           · rw [if_neg (by intro e; exact hcc (congrArg Prod.fst e))] at hh
             simp only [Prod.mk.injEq] at hh
             obtain ⟨e1, e2, e3, e4, e5, e6, e7, e8⟩ := hh
             subst e1 e2 e3 e4 e5 e6 e7 e8
             have hcb : bytesB cc = true := by
              have h9 := HCE.out
              unfold encodeG at h9
              split at h9
              · obtain rfl := congrArg Prod.fst h9
                exact sealL_byte _ (gramB_byte _ _ _ _ _ _ _ rfl)
              · cases h9
             have HEQ := Aside0.mk (show bytes_Equal.f l0 cc = some false by rw [bytes_Equal.f, strs_beq l0 cc hbb hcb, decide_eq_false (fun e => hcc e.symm)])
             clear hcc hcb
             go_wp2_with (first
              | (go_at_call 10; refine (pack_Encode.calls b0 n1 n2 n3 n4 none 0 [] none 0 [] cc 0 _ (Kd.R_reads' (Kd.R_nil (Kd.int .i64) 3 u6 w.heap.size (fun _ => True))).2.2 (Kd.R_reads' (Kd.R_nil (Kd.int .i64) 3 u6 w.heap.size (fun _ => True))).2.1 (Kd.R_reads' (Kd.R_nil (Kd.int .u8) 5 u6 w.heap.size (fun _ => True))).2.2 (Kd.R_reads' (Kd.R_nil (Kd.int .u8) 5 u6 w.heap.size (fun _ => True))).2.1 HEN.out).mono ?_; rintro e w13 ⟨v13, rfl, ho, hb⟩; obtain ⟨A13, c13, eo⟩ := Kd.R_slice ho; subst eo; have HO13 := Aside0.mk ho; have KT13 := Aside0.mk (blk_below KT6.out hb); have K013 := Aside0.mk (blk_below K06.out hb); have R513 := Aside0.mk (Kd.R_below (Kd.R_nil (Kd.int .i64) 3 u6 w.heap.size (fun _ => True)) hb); have R613 := Aside0.mk (Kd.R_below (Kd.R_nil (Kd.int .u8) 5 u6 w.heap.size (fun _ => True)) hb); have BW13 := Aside0.mk (below_then BW6.out BW6.out.size hb); clear y0 y1 y2 y3 y4 y5 y6; have y0 : w13.cell? ⟨g4, 0, none⟩ = _ := (blk_cell KT13.out 0).trans rfl; have y1 : w13.cell? ⟨g4, 1, none⟩ = _ := (blk_cell KT13.out 1).trans rfl; have y2 : w13.cell? ⟨g4, 2, none⟩ = _ := (blk_cell KT13.out 2).trans rfl; have y3 : w13.cell? ⟨g4, 3, none⟩ = _ := (blk_cell KT13.out 3).trans rfl; have y4 : w13.cell? ⟨g4, 4, none⟩ = _ := (blk_cell KT13.out 4).trans rfl; have y5 : w13.cell? ⟨g4, 5, none⟩ = _ := (blk_cell KT13.out 5).trans rfl; have y6 : w13.cell? ⟨g4, 6, none⟩ = _ := (blk_cell KT13.out 6).trans rfl; have z0 : w13.cell? ⟨g0, 0, none⟩ = _ := (blk_cell K013.out 0).trans rfl; have z1 : w13.cell? ⟨g0, 1, none⟩ = _ := (blk_cell K013.out 1).trans rfl; have z2 : w13.cell? ⟨g0, 2, none⟩ = _ := (blk_cell K013.out 2).trans rfl; have z3 : w13.cell? ⟨g0, 3, none⟩ = _ := (blk_cell K013.out 3).trans rfl; have z4 : w13.cell? ⟨g0, 4, none⟩ = _ := (blk_cell K013.out 4).trans rfl; have z5 : w13.cell? ⟨g0, 5, none⟩ = _ := (blk_cell K013.out 5).trans rfl; have z6 : w13.cell? ⟨g0, 6, none⟩ = _ := (blk_cell K013.out 6).trans rfl; have zf0 := blk_frozen K013.out 0; have zf1 := blk_frozen K013.out 1; have zf2 := blk_frozen K013.out 2; have zf3 := blk_frozen K013.out 3; have zf4 := blk_frozen K013.out 4; have zf5 := blk_frozen K013.out 5; have zf6 := blk_frozen K013.out 6; skip; clear hb ho)
              | (go_at_call 27; refine (bytes_Equal.calls (some ad) c0 l0 A13 c13 cc false _ (Kd.C_below HR0.out BW13.out) HC0.out (Kd.R_reads' HO13.out).2.2 (Kd.R_reads' HO13.out).2.1 HEQ.out).mono ?_; rintro e w14 ⟨rfl, hd⟩; obtain ⟨nd, hd⟩ := hd; subst hd))
             have k0 := (blk_drewN K013.out nd)
             have q5 := (Kd.R_drewN R513.out nd)
             have q6 := (Kd.R_drewN R613.out nd)
             have bw := (pw_below_drewN BW13.out nd)
             have q5 := Kd.R_set q5 k0 (by decide) 0 (.int .i64 0)
             have q6 := Kd.R_set q6 k0 (by decide) 0 (.int .i64 0)
             have bw := below_set (j := 0) (v := .int .i64 0) bw GE0.out
             have k0 := blk_put (cs := #[.int .i64 0, .int .u64 0, .int .i64 0, .int .i64 0, .int .u32 0, .slice none 0 0, .slice none 0 0]) k0 0 (.int .i64 0) rfl
             have q5 := Kd.R_set q5 k0 (by decide) 1 (.int .u64 0)
             have q6 := Kd.R_set q6 k0 (by decide) 1 (.int .u64 0)
             have bw := below_set (j := 1) (v := .int .u64 0) bw GE0.out
             have k0 := blk_put (cs := #[.int .i64 0, .int .u64 0, .int .i64 0, .int .i64 0, .int .u32 0, .slice none 0 0, .slice none 0 0]) k0 1 (.int .u64 0) rfl
             have q5 := Kd.R_set q5 k0 (by decide) 2 (.int .i64 0)
             have q6 := Kd.R_set q6 k0 (by decide) 2 (.int .i64 0)
             have bw := below_set (j := 2) (v := .int .i64 0) bw GE0.out
             have k0 := blk_put (cs := #[.int .i64 0, .int .u64 0, .int .i64 0, .int .i64 0, .int .u32 0, .slice none 0 0, .slice none 0 0]) k0 2 (.int .i64 0) rfl
             have q5 := Kd.R_set q5 k0 (by decide) 3 (.int .i64 0)
             have q6 := Kd.R_set q6 k0 (by decide) 3 (.int .i64 0)
             have bw := below_set (j := 3) (v := .int .i64 0) bw GE0.out
             have k0 := blk_put (cs := #[.int .i64 0, .int .u64 0, .int .i64 0, .int .i64 0, .int .u32 0, .slice none 0 0, .slice none 0 0]) k0 3 (.int .i64 0) rfl
             have q5 := Kd.R_set q5 k0 (by decide) 4 (.int .u32 0)
             have q6 := Kd.R_set q6 k0 (by decide) 4 (.int .u32 0)
             have bw := below_set (j := 4) (v := .int .u32 0) bw GE0.out
             have k0 := blk_put (cs := #[.int .i64 0, .int .u64 0, .int .i64 0, .int .i64 0, .int .u32 0, .slice none 0 0, .slice none 0 0]) k0 4 (.int .u32 0) rfl
             have q5 := Kd.R_set q5 k0 (by decide) 5 (.slice none 0 0)
             have q6 := Kd.R_set q6 k0 (by decide) 5 (.slice none 0 0)
             have bw := below_set (j := 5) (v := .slice none 0 0) bw GE0.out
             have k0 := blk_put (cs := #[.int .i64 0, .int .u64 0, .int .i64 0, .int .i64 0, .int .u32 0, .slice none 0 0, .slice none 0 0]) k0 5 (.slice none 0 0) rfl
             have q5 := Kd.R_set q5 k0 (by decide) 6 (.slice none 0 0)
             have q6 := Kd.R_set q6 k0 (by decide) 6 (.slice none 0 0)
             have bw := below_set (j := 6) (v := .slice none 0 0) bw GE0.out
             have k0 := blk_put (cs := #[.int .i64 0, .int .u64 0, .int .i64 0, .int .i64 0, .int .u32 0, .slice none 0 0, .slice none 0 0]) k0 6 (.slice none 0 0) rfl
             refine ⟨_, results_ct rfl _ _ g0 28 _ (0, 0) _ rfl k0 hu28 rfl (by kernel_rfl), ?_⟩
             exact ⟨_, _, rfl, Kd.R_nil _ _ _ _ _, Kd.R_nil _ _ _ _ _, bw⟩
         · rw [if_neg (by intro e; exact hee (congrArg Prod.snd e))] at hh
           simp only [Prod.mk.injEq] at hh
           obtain ⟨e1, e2, e3, e4, e5, e6, e7, e8⟩ := hh
           subst e1 e2 e3 e4 e5 e6 e7 e8
           have hee2 : (ee != 0) = true := by simpa using hee
           clear hee
           go_wp2_with (first
            | (go_at_call 10; refine (pack_Encode.calls b0 n1 n2 n3 n4 none 0 [] none 0 [] cc ee _ (Kd.R_reads' (Kd.R_nil (Kd.int .i64) 3 u6 w.heap.size (fun _ => True))).2.2 (Kd.R_reads' (Kd.R_nil (Kd.int .i64) 3 u6 w.heap.size (fun _ => True))).2.1 (Kd.R_reads' (Kd.R_nil (Kd.int .u8) 5 u6 w.heap.size (fun _ => True))).2.2 (Kd.R_reads' (Kd.R_nil (Kd.int .u8) 5 u6 w.heap.size (fun _ => True))).2.1 HEN.out).mono ?_; rintro e w13 ⟨v13, rfl, ho, hb⟩; obtain ⟨A13, c13, eo⟩ := Kd.R_slice ho; subst eo; have HO13 := Aside0.mk ho; have KT13 := Aside0.mk (blk_below KT6.out hb); have K013 := Aside0.mk (blk_below K06.out hb); have R513 := Aside0.mk (Kd.R_below (Kd.R_nil (Kd.int .i64) 3 u6 w.heap.size (fun _ => True)) hb); have R613 := Aside0.mk (Kd.R_below (Kd.R_nil (Kd.int .u8) 5 u6 w.heap.size (fun _ => True)) hb); have BW13 := Aside0.mk (below_then BW6.out BW6.out.size hb); clear y0 y1 y2 y3 y4 y5 y6; have y0 : w13.cell? ⟨g4, 0, none⟩ = _ := (blk_cell KT13.out 0).trans rfl; have y1 : w13.cell? ⟨g4, 1, none⟩ = _ := (blk_cell KT13.out 1).trans rfl; have y2 : w13.cell? ⟨g4, 2, none⟩ = _ := (blk_cell KT13.out 2).trans rfl; have y3 : w13.cell? ⟨g4, 3, none⟩ = _ := (blk_cell KT13.out 3).trans rfl; have y4 : w13.cell? ⟨g4, 4, none⟩ = _ := (blk_cell KT13.out 4).trans rfl; have y5 : w13.cell? ⟨g4, 5, none⟩ = _ := (blk_cell KT13.out 5).trans rfl; have y6 : w13.cell? ⟨g4, 6, none⟩ = _ := (blk_cell KT13.out 6).trans rfl; have z0 : w13.cell? ⟨g0, 0, none⟩ = _ := (blk_cell K013.out 0).trans rfl; have z1 : w13.cell? ⟨g0, 1, none⟩ = _ := (blk_cell K013.out 1).trans rfl; have z2 : w13.cell? ⟨g0, 2, none⟩ = _ := (blk_cell K013.out 2).trans rfl; have z3 : w13.cell? ⟨g0, 3, none⟩ = _ := (blk_cell K013.out 3).trans rfl; have z4 : w13.cell? ⟨g0, 4, none⟩ = _ := (blk_cell K013.out 4).trans rfl; have z5 : w13.cell? ⟨g0, 5, none⟩ = _ := (blk_cell K013.out 5).trans rfl; have z6 : w13.cell? ⟨g0, 6, none⟩ = _ := (blk_cell K013.out 6).trans rfl; have zf0 := blk_frozen K013.out 0; have zf1 := blk_frozen K013.out 1; have zf2 := blk_frozen K013.out 2; have zf3 := blk_frozen K013.out 3; have zf4 := blk_frozen K013.out 4; have zf5 := blk_frozen K013.out 5; have zf6 := blk_frozen K013.out 6; skip; clear hb ho))
           have k0 := K013.out
           have q5 := R513.out
           have q6 := R613.out
           have bw := BW13.out
           have q5 := Kd.R_set q5 k0 (by decide) 0 (.int .i64 0)
           have q6 := Kd.R_set q6 k0 (by decide) 0 (.int .i64 0)
           have bw := below_set (j := 0) (v := .int .i64 0) bw GE0.out
           have k0 := blk_put (cs := #[.int .i64 0, .int .u64 0, .int .i64 0, .int .i64 0, .int .u32 0, .slice none 0 0, .slice none 0 0]) k0 0 (.int .i64 0) rfl
           have q5 := Kd.R_set q5 k0 (by decide) 1 (.int .u64 0)
           have q6 := Kd.R_set q6 k0 (by decide) 1 (.int .u64 0)
           have bw := below_set (j := 1) (v := .int .u64 0) bw GE0.out
           have k0 := blk_put (cs := #[.int .i64 0, .int .u64 0, .int .i64 0, .int .i64 0, .int .u32 0, .slice none 0 0, .slice none 0 0]) k0 1 (.int .u64 0) rfl
           have q5 := Kd.R_set q5 k0 (by decide) 2 (.int .i64 0)
           have q6 := Kd.R_set q6 k0 (by decide) 2 (.int .i64 0)
           have bw := below_set (j := 2) (v := .int .i64 0) bw GE0.out
           have k0 := blk_put (cs := #[.int .i64 0, .int .u64 0, .int .i64 0, .int .i64 0, .int .u32 0, .slice none 0 0, .slice none 0 0]) k0 2 (.int .i64 0) rfl
           have q5 := Kd.R_set q5 k0 (by decide) 3 (.int .i64 0)
           have q6 := Kd.R_set q6 k0 (by decide) 3 (.int .i64 0)
           have bw := below_set (j := 3) (v := .int .i64 0) bw GE0.out
           have k0 := blk_put (cs := #[.int .i64 0, .int .u64 0, .int .i64 0, .int .i64 0, .int .u32 0, .slice none 0 0, .slice none 0 0]) k0 3 (.int .i64 0) rfl
           have q5 := Kd.R_set q5 k0 (by decide) 4 (.int .u32 0)
           have q6 := Kd.R_set q6 k0 (by decide) 4 (.int .u32 0)
           have bw := below_set (j := 4) (v := .int .u32 0) bw GE0.out
           have k0 := blk_put (cs := #[.int .i64 0, .int .u64 0, .int .i64 0, .int .i64 0, .int .u32 0, .slice none 0 0, .slice none 0 0]) k0 4 (.int .u32 0) rfl
           have q5 := Kd.R_set q5 k0 (by decide) 5 (.slice none 0 0)
           have q6 := Kd.R_set q6 k0 (by decide) 5 (.slice none 0 0)
           have bw := below_set (j := 5) (v := .slice none 0 0) bw GE0.out
           have k0 := blk_put (cs := #[.int .i64 0, .int .u64 0, .int .i64 0, .int .i64 0, .int .u32 0, .slice none 0 0, .slice none 0 0]) k0 5 (.slice none 0 0) rfl
           have q5 := Kd.R_set q5 k0 (by decide) 6 (.slice none 0 0)
           have q6 := Kd.R_set q6 k0 (by decide) 6 (.slice none 0 0)
           have bw := below_set (j := 6) (v := .slice none 0 0) bw GE0.out
           have k0 := blk_put (cs := #[.int .i64 0, .int .u64 0, .int .i64 0, .int .i64 0, .int .u32 0, .slice none 0 0, .slice none 0 0]) k0 6 (.slice none 0 0) rfl
           refine ⟨_, results_ct rfl _ _ g0 28 _ (0, 0) _ rfl k0 hu28 rfl (by kernel_rfl), ?_⟩
           exact ⟨_, _, rfl, Kd.R_nil _ _ _ _ _, Kd.R_nil _ _ _ _ _, bw⟩
       · have hlp : ¬ rest.length = 0 := by simpa using hre
         have hlp2 : (0 : Int) < rest.length := by omega
         have KT7 := Aside0.mk (blk_put (cs := #[.int .i64 b0, .int .u64 n1, .int .i64 n2, .int .i64 n3, .int .u32 n4, .slice none 0 0, .slice none 0 0]) KT6.out 6 (.slice A6 rest.length c6) rfl)
         have K07 := Aside0.mk (blk_far (p := ⟨g4, 6, none⟩) K06.out NE.out (.slice A6 rest.length c6))
         have R67 := Aside0.mk (Kd.R_set HO6.out KT6.out (by decide) 6 (.slice A6 rest.length c6))
         have BW7 := Aside0.mk (below_set (g := g4) (j := 6) (v := .slice A6 rest.length c6) BW6.out GE4.out)
         clear hlp hre
         obtain ⟨cc, ee, hce⟩ : ∃ cc ee, encodeG b0 n1 n2 n3 n4 [] rest = (cc, ee) := ⟨_, _, rfl⟩
         have hh := HH2.out
         rw [HI5, HI6, hce] at hh
         have HEN := Aside0.mk (show pack_Encode.f b0 n1 n2 n3 n4 [] rest = some (cc, ee) by rw [pack_Encode.f, if_pos ⟨by simp, by omega, hrb, by omega, by omega⟩, hce])
         have HCE := Aside0.mk hce
         clear hce
         by_cases hee : ee = 0
         · subst hee
           by_cases hcc : cc = l0
           · rw [if_pos (by rw [hcc])] at hh
             simp only [Prod.mk.injEq] at hh
             obtain ⟨e1, e2, e3, e4, e5, e6, e7, e8⟩ := hh
             subst e1 e2 e3 e4 e5 e6 e7 e8
             have HEQ := Aside0.mk (show bytes_Equal.f l0 cc = some true by rw [hcc, bytes_Equal.f, strs_beq l0 l0 hbb hbb]; simp)
             clear hcc
             go_wp2_with (first
              | (go_at_call 10; refine (pack_Encode.calls b0 n1 n2 n3 n4 none 0 [] A6 c6 rest cc 0 _ (Kd.R_reads' (Kd.R_nil (Kd.int .i64) 3 (u6.setCell ⟨g4, 6, none⟩ (.slice A6 rest.length c6)) w.heap.size (fun _ => True))).2.2 (Kd.R_reads' (Kd.R_nil (Kd.int .i64) 3 (u6.setCell ⟨g4, 6, none⟩ (.slice A6 rest.length c6)) w.heap.size (fun _ => True))).2.1 (Kd.R_reads' R67.out).2.2 (Kd.R_reads' R67.out).2.1 HEN.out).mono ?_; rintro e w13 ⟨v13, rfl, ho, hb⟩; obtain ⟨A13, c13, eo⟩ := Kd.R_slice ho; subst eo; have HO13 := Aside0.mk ho; have KT13 := Aside0.mk (blk_below KT7.out hb); have K013 := Aside0.mk (blk_below K07.out hb); have R513 := Aside0.mk (Kd.R_below (Kd.R_nil (Kd.int .i64) 3 (u6.setCell ⟨g4, 6, none⟩ (.slice A6 rest.length c6)) w.heap.size (fun _ => True)) hb); have R613 := Aside0.mk (Kd.R_below R67.out hb); have BW13 := Aside0.mk (below_then BW7.out BW7.out.size hb); clear y0 y1 y2 y3 y4 y5 y6; have y0 : w13.cell? ⟨g4, 0, none⟩ = _ := (blk_cell KT13.out 0).trans rfl; have y1 : w13.cell? ⟨g4, 1, none⟩ = _ := (blk_cell KT13.out 1).trans rfl; have y2 : w13.cell? ⟨g4, 2, none⟩ = _ := (blk_cell KT13.out 2).trans rfl; have y3 : w13.cell? ⟨g4, 3, none⟩ = _ := (blk_cell KT13.out 3).trans rfl; have y4 : w13.cell? ⟨g4, 4, none⟩ = _ := (blk_cell KT13.out 4).trans rfl; have y5 : w13.cell? ⟨g4, 5, none⟩ = _ := (blk_cell KT13.out 5).trans rfl; have y6 : w13.cell? ⟨g4, 6, none⟩ = _ := (blk_cell KT13.out 6).trans rfl; have z0 : w13.cell? ⟨g0, 0, none⟩ = _ := (blk_cell K013.out 0).trans rfl; have z1 : w13.cell? ⟨g0, 1, none⟩ = _ := (blk_cell K013.out 1).trans rfl; have z2 : w13.cell? ⟨g0, 2, none⟩ = _ := (blk_cell K013.out 2).trans rfl; have z3 : w13.cell? ⟨g0, 3, none⟩ = _ := (blk_cell K013.out 3).trans rfl; have z4 : w13.cell? ⟨g0, 4, none⟩ = _ := (blk_cell K013.out 4).trans rfl; have z5 : w13.cell? ⟨g0, 5, none⟩ = _ := (blk_cell K013.out 5).trans rfl; have z6 : w13.cell? ⟨g0, 6, none⟩ = _ := (blk_cell K013.out 6).trans rfl; have zf0 := blk_frozen K013.out 0; have zf1 := blk_frozen K013.out 1; have zf2 := blk_frozen K013.out 2; have zf3 := blk_frozen K013.out 3; have zf4 := blk_frozen K013.out 4; have zf5 := blk_frozen K013.out 5; have zf6 := blk_frozen K013.out 6; skip; clear hb ho)
              | (go_at_call 27; refine (bytes_Equal.calls (some ad) c0 l0 A13 c13 cc true _ (Kd.C_below HR0.out BW13.out) HC0.out (Kd.R_reads' HO13.out).2.2 (Kd.R_reads' HO13.out).2.1 HEQ.out).mono ?_; rintro e w14 ⟨rfl, hd⟩; obtain ⟨nd, hd⟩ := hd; subst hd))
             have k0 := (blk_drewN K013.out nd)
             have q5 := (Kd.R_drewN R513.out nd)
             have q6 := (Kd.R_drewN R613.out nd)
             have bw := (pw_below_drewN BW13.out nd)
             have q5 := Kd.R_set q5 k0 (by decide) 0 (.int .i64 b0)
             have q6 := Kd.R_set q6 k0 (by decide) 0 (.int .i64 b0)
             have bw := below_set (j := 0) (v := .int .i64 b0) bw GE0.out
             have k0 := blk_put (cs := #[.int .i64 0, .int .u64 0, .int .i64 0, .int .i64 0, .int .u32 0, .slice none 0 0, .slice none 0 0]) k0 0 (.int .i64 b0) rfl
             have q5 := Kd.R_set q5 k0 (by decide) 1 (.int .u64 n1)
             have q6 := Kd.R_set q6 k0 (by decide) 1 (.int .u64 n1)
             have bw := below_set (j := 1) (v := .int .u64 n1) bw GE0.out
             have k0 := blk_put (cs := #[.int .i64 b0, .int .u64 0, .int .i64 0, .int .i64 0, .int .u32 0, .slice none 0 0, .slice none 0 0]) k0 1 (.int .u64 n1) rfl
             have q5 := Kd.R_set q5 k0 (by decide) 2 (.int .i64 n2)
             have q6 := Kd.R_set q6 k0 (by decide) 2 (.int .i64 n2)
             have bw := below_set (j := 2) (v := .int .i64 n2) bw GE0.out
             have k0 := blk_put (cs := #[.int .i64 b0, .int .u64 n1, .int .i64 0, .int .i64 0, .int .u32 0, .slice none 0 0, .slice none 0 0]) k0 2 (.int .i64 n2) rfl
             have q5 := Kd.R_set q5 k0 (by decide) 3 (.int .i64 n3)
             have q6 := Kd.R_set q6 k0 (by decide) 3 (.int .i64 n3)
             have bw := below_set (j := 3) (v := .int .i64 n3) bw GE0.out
             have k0 := blk_put (cs := #[.int .i64 b0, .int .u64 n1, .int .i64 n2, .int .i64 0, .int .u32 0, .slice none 0 0, .slice none 0 0]) k0 3 (.int .i64 n3) rfl
             have q5 := Kd.R_set q5 k0 (by decide) 4 (.int .u32 n4)
             have q6 := Kd.R_set q6 k0 (by decide) 4 (.int .u32 n4)
             have bw := below_set (j := 4) (v := .int .u32 n4) bw GE0.out
             have k0 := blk_put (cs := #[.int .i64 b0, .int .u64 n1, .int .i64 n2, .int .i64 n3, .int .u32 0, .slice none 0 0, .slice none 0 0]) k0 4 (.int .u32 n4) rfl
             have q5 := Kd.R_set q5 k0 (by decide) 5 (.slice none 0 0)
             have q6 := Kd.R_set q6 k0 (by decide) 5 (.slice none 0 0)
             have bw := below_set (j := 5) (v := .slice none 0 0) bw GE0.out
             have k0 := blk_put (cs := #[.int .i64 b0, .int .u64 n1, .int .i64 n2, .int .i64 n3, .int .u32 n4, .slice none 0 0, .slice none 0 0]) k0 5 (.slice none 0 0) rfl
             have q5 := Kd.R_set q5 k0 (by decide) 6 (.slice A6 rest.length c6)
             have q6 := Kd.R_set q6 k0 (by decide) 6 (.slice A6 rest.length c6)
             have bw := below_set (j := 6) (v := .slice A6 rest.length c6) bw GE0.out
             have k0 := blk_put (cs := #[.int .i64 b0, .int .u64 n1, .int .i64 n2, .int .i64 n3, .int .u32 n4, .slice none 0 0, .slice none 0 0]) k0 6 (.slice A6 rest.length c6) rfl
             refine ⟨_, results_ct rfl _ _ g0 28 _ (0, 0) _ rfl k0 hu28 rfl (by kernel_rfl), ?_⟩
             exact ⟨_, _, rfl, q5, q6, bw⟩
           · rw [if_neg (by intro e; exact hcc (congrArg Prod.fst e))] at hh
             simp only [Prod.mk.injEq] at hh
             obtain ⟨e1, e2, e3, e4, e5, e6, e7, e8⟩ := hh
             subst e1 e2 e3 e4 e5 e6 e7 e8
             have hcb : bytesB cc = true := by
              have h9 := HCE.out
              unfold encodeG at h9
              split at h9
              · obtain rfl := congrArg Prod.fst h9
                exact sealL_byte _ (gramB_byte _ _ _ _ _ _ _ hrb)
              · cases h9
             have HEQ := Aside0.mk (show bytes_Equal.f l0 cc = some false by rw [bytes_Equal.f, strs_beq l0 cc hbb hcb, decide_eq_false (fun e => hcc e.symm)])
             clear hcc hcb
             go_wp2_with (first
              | (go_at_call 10; refine (pack_Encode.calls b0 n1 n2 n3 n4 none 0 [] A6 c6 rest cc 0 _ (Kd.R_reads' (Kd.R_nil (Kd.int .i64) 3 (u6.setCell ⟨g4, 6, none⟩ (.slice A6 rest.length c6)) w.heap.size (fun _ => True))).2.2 (Kd.R_reads' (Kd.R_nil (Kd.int .i64) 3 (u6.setCell ⟨g4, 6, none⟩ (.slice A6 rest.length c6)) w.heap.size (fun _ => True))).2.1 (Kd.R_reads' R67.out).2.2 (Kd.R_reads' R67.out).2.1 HEN.out).mono ?_; rintro e w13 ⟨v13, rfl, ho, hb⟩; obtain ⟨A13, c13, eo⟩ := Kd.R_slice ho; subst eo; have HO13 := Aside0.mk ho; have KT13 := Aside0.mk (blk_below KT7.out hb); have K013 := Aside0.mk (blk_below K07.out hb); have R513 := Aside0.mk (Kd.R_below (Kd.R_nil (Kd.int .i64) 3 (u6.setCell ⟨g4, 6, none⟩ (.slice A6 rest.length c6)) w.heap.size (fun _ => True)) hb); have R613 := Aside0.mk (Kd.R_below R67.out hb); have BW13 := Aside0.mk (below_then BW7.out BW7.out.size hb); clear y0 y1 y2 y3 y4 y5 y6; have y0 : w13.cell? ⟨g4, 0, none⟩ = _ := (blk_cell KT13.out 0).trans rfl; have y1 : w13.cell? ⟨g4, 1, none⟩ = _ := (blk_cell KT13.out 1).trans rfl; have y2 : w13.cell? ⟨g4, 2, none⟩ = _ := (blk_cell KT13.out 2).trans rfl; have y3 : w13.cell? ⟨g4, 3, none⟩ = _ := (blk_cell KT13.out 3).trans rfl; have y4 : w13.cell? ⟨g4, 4, none⟩ = _ := (blk_cell KT13.out 4).trans rfl; have y5 : w13.cell? ⟨g4, 5, none⟩ = _ := (blk_cell KT13.out 5).trans rfl; have y6 : w13.cell? ⟨g4, 6, none⟩ = _ := (blk_cell KT13.out 6).trans rfl; have z0 : w13.cell? ⟨g0, 0, none⟩ = _ := (blk_cell K013.out 0).trans rfl; have z1 : w13.cell? ⟨g0, 1, none⟩ = _ := (blk_cell K013.out 1).trans rfl; have z2 : w13.cell? ⟨g0, 2, none⟩ = _ := (blk_cell K013.out 2).trans rfl; have z3 : w13.cell? ⟨g0, 3, none⟩ = _ := (blk_cell K013.out 3).trans rfl; have z4 : w13.cell? ⟨g0, 4, none⟩ = _ := (blk_cell K013.out 4).trans rfl; have z5 : w13.cell? ⟨g0, 5, none⟩ = _ := (blk_cell K013.out 5).trans rfl; have z6 : w13.cell? ⟨g0, 6, none⟩ = _ := (blk_cell K013.out 6).trans rfl; have zf0 := blk_frozen K013.out 0; have zf1 := blk_frozen K013.out 1; have zf2 := blk_frozen K013.out 2; have zf3 := blk_frozen K013.out 3; have zf4 := blk_frozen K013.out 4; have zf5 := blk_frozen K013.out 5; have zf6 := blk_frozen K013.out 6; skip; clear hb ho)
              | (go_at_call 27; refine (bytes_Equal.calls (some ad) c0 l0 A13 c13 cc false _ (Kd.C_below HR0.out BW13.out) HC0.out (Kd.R_reads' HO13.out).2.2 (Kd.R_reads' HO13.out).2.1 HEQ.out).mono ?_; rintro e w14 ⟨rfl, hd⟩; obtain ⟨nd, hd⟩ := hd; subst hd))
             have k0 := (blk_drewN K013.out nd)
             have q5 := (Kd.R_drewN R513.out nd)
             have q6 := (Kd.R_drewN R613.out nd)
             have bw := (pw_below_drewN BW13.out nd)
             have q5 := Kd.R_set q5 k0 (by decide) 0 (.int .i64 0)
             have q6 := Kd.R_set q6 k0 (by decide) 0 (.int .i64 0)
             have bw := below_set (j := 0) (v := .int .i64 0) bw GE0.out
             have k0 := blk_put (cs := #[.int .i64 0, .int .u64 0, .int .i64 0, .int .i64 0, .int .u32 0, .slice none 0 0, .slice none 0 0]) k0 0 (.int .i64 0) rfl
             have q5 := Kd.R_set q5 k0 (by decide) 1 (.int .u64 0)
             have q6 := Kd.R_set q6 k0 (by decide) 1 (.int .u64 0)
             have bw := below_set (j := 1) (v := .int .u64 0) bw GE0.out
             have k0 := blk_put (cs := #[.int .i64 0, .int .u64 0, .int .i64 0, .int .i64 0, .int .u32 0, .slice none 0 0, .slice none 0 0]) k0 1 (.int .u64 0) rfl
             have q5 := Kd.R_set q5 k0 (by decide) 2 (.int .i64 0)
             have q6 := Kd.R_set q6 k0 (by decide) 2 (.int .i64 0)
             have bw := below_set (j := 2) (v := .int .i64 0) bw GE0.out
             have k0 := blk_put (cs := #[.int .i64 0, .int .u64 0, .int .i64 0, .int .i64 0, .int .u32 0, .slice none 0 0, .slice none 0 0]) k0 2 (.int .i64 0) rfl
             have q5 := Kd.R_set q5 k0 (by decide) 3 (.int .i64 0)
             have q6 := Kd.R_set q6 k0 (by decide) 3 (.int .i64 0)
             have bw := below_set (j := 3) (v := .int .i64 0) bw GE0.out
             have k0 := blk_put (cs := #[.int .i64 0, .int .u64 0, .int .i64 0, .int .i64 0, .int .u32 0, .slice none 0 0, .slice none 0 0]) k0 3 (.int .i64 0) rfl
             have q5 := Kd.R_set q5 k0 (by decide) 4 (.int .u32 0)
             have q6 := Kd.R_set q6 k0 (by decide) 4 (.int .u32 0)
             have bw := below_set (j := 4) (v := .int .u32 0) bw GE0.out
             have k0 := blk_put (cs := #[.int .i64 0, .int .u64 0, .int .i64 0, .int .i64 0, .int .u32 0, .slice none 0 0, .slice none 0 0]) k0 4 (.int .u32 0) rfl
             have q5 := Kd.R_set q5 k0 (by decide) 5 (.slice none 0 0)
             have q6 := Kd.R_set q6 k0 (by decide) 5 (.slice none 0 0)
             have bw := below_set (j := 5) (v := .slice none 0 0) bw GE0.out
             have k0 := blk_put (cs := #[.int .i64 0, .int .u64 0, .int .i64 0, .int .i64 0, .int .u32 0, .slice none 0 0, .slice none 0 0]) k0 5 (.slice none 0 0) rfl
             have q5 := Kd.R_set q5 k0 (by decide) 6 (.slice none 0 0)
             have q6 := Kd.R_set q6 k0 (by decide) 6 (.slice none 0 0)
             have bw := below_set (j := 6) (v := .slice none 0 0) bw GE0.out
             have k0 := blk_put (cs := #[.int .i64 0, .int .u64 0, .int .i64 0, .int .i64 0, .int .u32 0, .slice none 0 0, .slice none 0 0]) k0 6 (.slice none 0 0) rfl
             refine ⟨_, results_ct rfl _ _ g0 28 _ (0, 0) _ rfl k0 hu28 rfl (by kernel_rfl), ?_⟩
             exact ⟨_, _, rfl, Kd.R_nil _ _ _ _ _, Kd.R_nil _ _ _ _ _, bw⟩
         · rw [if_neg (by intro e; exact hee (congrArg Prod.snd e))] at hh
           simp only [Prod.mk.injEq] at hh
           obtain ⟨e1, e2, e3, e4, e5, e6, e7, e8⟩ := hh
           subst e1 e2 e3 e4 e5 e6 e7 e8
           have hee2 : (ee != 0) = true := by simpa using hee
           clear hee
           go_wp2_with (first
            | (go_at_call 10; refine (pack_Encode.calls b0 n1 n2 n3 n4 none 0 [] A6 c6 rest cc ee _ (Kd.R_reads' (Kd.R_nil (Kd.int .i64) 3 (u6.setCell ⟨g4, 6, none⟩ (.slice A6 rest.length c6)) w.heap.size (fun _ => True))).2.2 (Kd.R_reads' (Kd.R_nil (Kd.int .i64) 3 (u6.setCell ⟨g4, 6, none⟩ (.slice A6 rest.length c6)) w.heap.size (fun _ => True))).2.1 (Kd.R_reads' R67.out).2.2 (Kd.R_reads' R67.out).2.1 HEN.out).mono ?_; rintro e w13 ⟨v13, rfl, ho, hb⟩; obtain ⟨A13, c13, eo⟩ := Kd.R_slice ho; subst eo; have HO13 := Aside0.mk ho; have KT13 := Aside0.mk (blk_below KT7.out hb); have K013 := Aside0.mk (blk_below K07.out hb); have R513 := Aside0.mk (Kd.R_below (Kd.R_nil (Kd.int .i64) 3 (u6.setCell ⟨g4, 6, none⟩ (.slice A6 rest.length c6)) w.heap.size (fun _ => True)) hb); have R613 := Aside0.mk (Kd.R_below R67.out hb); have BW13 := Aside0.mk (below_then BW7.out BW7.out.size hb); clear y0 y1 y2 y3 y4 y5 y6; have y0 : w13.cell? ⟨g4, 0, none⟩ = _ := (blk_cell KT13.out 0).trans rfl; have y1 : w13.cell? ⟨g4, 1, none⟩ = _ := (blk_cell KT13.out 1).trans rfl; have y2 : w13.cell? ⟨g4, 2, none⟩ = _ := (blk_cell KT13.out 2).trans rfl; have y3 : w13.cell? ⟨g4, 3, none⟩ = _ := (blk_cell KT13.out 3).trans rfl; have y4 : w13.cell? ⟨g4, 4, none⟩ = _ := (blk_cell KT13.out 4).trans rfl; have y5 : w13.cell? ⟨g4, 5, none⟩ = _ := (blk_cell KT13.out 5).trans rfl; have y6 : w13.cell? ⟨g4, 6, none⟩ = _ := (blk_cell KT13.out 6).trans rfl; have z0 : w13.cell? ⟨g0, 0, none⟩ = _ := (blk_cell K013.out 0).trans rfl; have z1 : w13.cell? ⟨g0, 1, none⟩ = _ := (blk_cell K013.out 1).trans rfl; have z2 : w13.cell? ⟨g0, 2, none⟩ = _ := (blk_cell K013.out 2).trans rfl; have z3 : w13.cell? ⟨g0, 3, none⟩ = _ := (blk_cell K013.out 3).trans rfl; have z4 : w13.cell? ⟨g0, 4, none⟩ = _ := (blk_cell K013.out 4).trans rfl; have z5 : w13.cell? ⟨g0, 5, none⟩ = _ := (blk_cell K013.out 5).trans rfl; have z6 : w13.cell? ⟨g0, 6, none⟩ = _ := (blk_cell K013.out 6).trans rfl; have zf0 := blk_frozen K013.out 0; have zf1 := blk_frozen K013.out 1; have zf2 := blk_frozen K013.out 2; have zf3 := blk_frozen K013.out 3; have zf4 := blk_frozen K013.out 4; have zf5 := blk_frozen K013.out 5; have zf6 := blk_frozen K013.out 6; skip; clear hb ho))
           have k0 := K013.out
           have q5 := R513.out
           have q6 := R613.out
           have bw := BW13.out
           have q5 := Kd.R_set q5 k0 (by decide) 0 (.int .i64 0)
           have q6 := Kd.R_set q6 k0 (by decide) 0 (.int .i64 0)
           have bw := below_set (j := 0) (v := .int .i64 0) bw GE0.out
           have k0 := blk_put (cs := #[.int .i64 0, .int .u64 0, .int .i64 0, .int .i64 0, .int .u32 0, .slice none 0 0, .slice none 0 0]) k0 0 (.int .i64 0) rfl
           have q5 := Kd.R_set q5 k0 (by decide) 1 (.int .u64 0)
           have q6 := Kd.R_set q6 k0 (by decide) 1 (.int .u64 0)
           have bw := below_set (j := 1) (v := .int .u64 0) bw GE0.out
           have k0 := blk_put (cs := #[.int .i64 0, .int .u64 0, .int .i64 0, .int .i64 0, .int .u32 0, .slice none 0 0, .slice none 0 0]) k0 1 (.int .u64 0) rfl
           have q5 := Kd.R_set q5 k0 (by decide) 2 (.int .i64 0)
           have q6 := Kd.R_set q6 k0 (by decide) 2 (.int .i64 0)
           have bw := below_set (j := 2) (v := .int .i64 0) bw GE0.out
           have k0 := blk_put (cs := #[.int .i64 0, .int .u64 0, .int .i64 0, .int .i64 0, .int .u32 0, .slice none 0 0, .slice none 0 0]) k0 2 (.int .i64 0) rfl
           have q5 := Kd.R_set q5 k0 (by decide) 3 (.int .i64 0)
           have q6 := Kd.R_set q6 k0 (by decide) 3 (.int .i64 0)
           have bw := below_set (j := 3) (v := .int .i64 0) bw GE0.out
           have k0 := blk_put (cs := #[.int .i64 0, .int .u64 0, .int .i64 0, .int .i64 0, .int .u32 0, .slice none 0 0, .slice none 0 0]) k0 3 (.int .i64 0) rfl
           have q5 := Kd.R_set q5 k0 (by decide) 4 (.int .u32 0)
           have q6 := Kd.R_set q6 k0 (by decide) 4 (.int .u32 0)
           have bw := below_set (j := 4) (v := .int .u32 0) bw GE0.out
           have k0 := blk_put (cs := #[.int .i64 0, .int .u64 0, .int .i64 0, .int .i64 0, .int .u32 0, .slice none 0 0, .slice none 0 0]) k0 4 (.int .u32 0) rfl
           have q5 := Kd.R_set q5 k0 (by decide) 5 (.slice none 0 0)
           have q6 := Kd.R_set q6 k0 (by decide) 5 (.slice none 0 0)
           have bw := below_set (j := 5) (v := .slice none 0 0) bw GE0.out
           have k0 := blk_put (cs := #[.int .i64 0, .int .u64 0, .int .i64 0, .int .i64 0, .int .u32 0, .slice none 0 0, .slice none 0 0]) k0 5 (.slice none 0 0) rfl
           have q5 := Kd.R_set q5 k0 (by decide) 6 (.slice none 0 0)
           have q6 := Kd.R_set q6 k0 (by decide) 6 (.slice none 0 0)
           have bw := below_set (j := 6) (v := .slice none 0 0) bw GE0.out
           have k0 := blk_put (cs := #[.int .i64 0, .int .u64 0, .int .i64 0, .int .i64 0, .int .u32 0, .slice none 0 0, .slice none 0 0]) k0 6 (.slice none 0 0) rfl
           refine ⟨_, results_ct rfl _ _ g0 28 _ (0, 0) _ rfl k0 hu28 rfl (by kernel_rfl), ?_⟩
           exact ⟨_, _, rfl, Kd.R_nil _ _ _ _ _, Kd.R_nil _ _ _ _ _, bw⟩
   · have hri : crc_Right_c.f l0 = some false := by unfold crc_Right_c.f; rw [if_pos ⟨hbb, hbl⟩]; simpa using hrc
     have HRI := Aside0.mk hri
     rw [parseG, if_neg h21, if_neg hrc] at h
     cases h
     clear hri hrc h21
     go_enter Try.func11, Try.ntmps11
     go_wp2_with (first
      | ((with_reducible refine gate_dst (N := 2) rfl ?_); refine box_event ?hg (N := 2) ?hd (cs := #[.int .i64 0, .int .u64 0, .int .i64 0, .int .i64 0, .int .u32 0, .slice none 0 0, .slice none 0 0]) (t := 28) ?hr ?_; (case hd => rfl); (case hg => rfl); (case hr => first | (go_simp; done) | (go_simp; rfl)); intro g0 hg w1 hbox hb; have HB1 := Aside0.mk hb; have BK0 := Aside0.mk hbox; have GE0 := Aside0.mk (Nat.le_of_eq hg.symm); clear hb hbox hg; have z0 : w1.cell? ⟨g0, 0, none⟩ = _ := (blk_cell BK0.out 0).trans rfl; have z1 : w1.cell? ⟨g0, 1, none⟩ = _ := (blk_cell BK0.out 1).trans rfl; have z2 : w1.cell? ⟨g0, 2, none⟩ = _ := (blk_cell BK0.out 2).trans rfl; have z3 : w1.cell? ⟨g0, 3, none⟩ = _ := (blk_cell BK0.out 3).trans rfl; have z4 : w1.cell? ⟨g0, 4, none⟩ = _ := (blk_cell BK0.out 4).trans rfl; have z5 : w1.cell? ⟨g0, 5, none⟩ = _ := (blk_cell BK0.out 5).trans rfl; have z6 : w1.cell? ⟨g0, 6, none⟩ = _ := (blk_cell BK0.out 6).trans rfl; have zf0 := blk_frozen BK0.out 0; have zf1 := blk_frozen BK0.out 1; have zf2 := blk_frozen BK0.out 2; have zf3 := blk_frozen BK0.out 3; have zf4 := blk_frozen BK0.out 4; have zf5 := blk_frozen BK0.out 5; have zf6 := blk_frozen BK0.out 6)
      | (go_at_call 23; refine (crc_Right_c.calls A0 c0 l0 false _ (Kd.C_below HR0.out HB1.out) HC0.out HRI.out).mono ?_; rintro e w2 ⟨rfl, hb2⟩; have HB2 := Aside0.mk (below_then HB1.out HB1.out.size hb2); have BK2 := Aside0.mk (blk_below BK0.out hb2); clear hb2 z0 zf0 z1 zf1 z2 zf2 z3 zf3 z4 zf4 z5 zf5 z6 zf6; have z0 : w2.cell? ⟨g0, 0, none⟩ = _ := (blk_cell BK2.out 0).trans rfl; have z1 : w2.cell? ⟨g0, 1, none⟩ = _ := (blk_cell BK2.out 1).trans rfl; have z2 : w2.cell? ⟨g0, 2, none⟩ = _ := (blk_cell BK2.out 2).trans rfl; have z3 : w2.cell? ⟨g0, 3, none⟩ = _ := (blk_cell BK2.out 3).trans rfl; have z4 : w2.cell? ⟨g0, 4, none⟩ = _ := (blk_cell BK2.out 4).trans rfl; have z5 : w2.cell? ⟨g0, 5, none⟩ = _ := (blk_cell BK2.out 5).trans rfl; have z6 : w2.cell? ⟨g0, 6, none⟩ = _ := (blk_cell BK2.out 6).trans rfl; have zf0 := blk_frozen BK2.out 0; have zf1 := blk_frozen BK2.out 1; have zf2 := blk_frozen BK2.out 2; have zf3 := blk_frozen BK2.out 3; have zf4 := blk_frozen BK2.out 4; have zf5 := blk_frozen BK2.out 5; have zf6 := blk_frozen BK2.out 6))
     refine bodyPost_ret (results_ct rfl _ _ g0 28 #[.int .i64 0, .int .u64 0, .int .i64 0, .int .i64 0, .int .u32 0, .slice none 0 0, .slice none 0 0] (0, 0) _ rfl (blk_put (cs := #[.int .i64 0, .int .u64 0, .int .i64 0, .int .i64 0, .int .u32 0, .slice none 0 0, .slice none 0 0]) (blk_put (cs := #[.int .i64 0, .int .u64 0, .int .i64 0, .int .i64 0, .int .u32 0, .slice none 0 0, .slice none 0 0]) (blk_put (cs := #[.int .i64 0, .int .u64 0, .int .i64 0, .int .i64 0, .int .u32 0, .slice none 0 0, .slice none 0 0]) (blk_put (cs := #[.int .i64 0, .int .u64 0, .int .i64 0, .int .i64 0, .int .u32 0, .slice none 0 0, .slice none 0 0]) (blk_put (cs := #[.int .i64 0, .int .u64 0, .int .i64 0, .int .i64 0, .int .u32 0, .slice none 0 0, .slice none 0 0]) (blk_put (cs := #[.int .i64 0, .int .u64 0, .int .i64 0, .int .i64 0, .int .u32 0, .slice none 0 0, .slice none 0 0]) (blk_put (cs := #[.int .i64 0, .int .u64 0, .int .i64 0, .int .i64 0, .int .u32 0, .slice none 0 0, .slice none 0 0]) BK2.out 0 (.int .i64 0) rfl) 1 (.int .u64 0) rfl) 2 (.int .i64 0) rfl) 3 (.int .i64 0) rfl) 4 (.int .u32 0) rfl) 5 (.slice none 0 0) rfl) 6 (.slice none 0 0) rfl) Try.underlying28 rfl (by kernel_rfl)) rfl ?_
     exact ⟨_, _, rfl, Kd.R_nil _ _ _ _ _, Kd.R_nil _ _ _ _ _, (below_set (below_set (below_set (below_set (below_set (below_set (below_set HB2.out GE0.out) GE0.out) GE0.out) GE0.out) GE0.out) GE0.out) GE0.out)⟩

end Go.Proofs.Ytoooceaoggkeeaa.F
end

section
namespace Go.Proofs.Ytoooceaoggkeeaa.F
open Go.RowKit Go.Proofs.YtoooceaoggkeeaaW.PrintWords Go.Proofs.YtoooceaoggkeeaaW.PrintLast Go.Proofs.YtoooceaoggkeeaaW.PrintMore
attribute [local go_sem] max2_int min2_int max_two min_two max_three min_three max_four min_four   -- for this text's walks alone
set_option linter.unusedVariables false
set_option linter.unusedSimpArgs false

/-! ### scullerref02_Right: function 43 -/
def scullerref02_Right.f (l0 : List Int) : Option (Bool) := if (wrap64 ((l0.length : Int) - 4)) ≥ 0 then (if 0 ≤ (wrap64 ((l0.length : Int) - 4)) then (if (wrap64 ((l0.length : Int) - 4)) ≤ (l0.length : Int) then ((scullerref02_Seal.f (l0.take ((wrap64 ((l0.length : Int) - 4)) : Int).toNat)).bind fun t102 => (some ((strOfNums t102).toList == (strOfNums l0).toList))) else (none)) else (none)) else (some false)
def scullerref02_Right.T2 : Bool × List (List Nat × List Nat) := (true, [([], []), ([0], [0]), ([1], [1]), ([2], [2]), ([2], [2]), ([3, 4, 2], [2, 3, 4]), ([5, 2, 2], [2, 5]), ([6, 2], [2, 6]), ([2], [2]), ([8, 2], [2, 8]), ([7, 9, 2], [2, 7, 9]), ([2, 10], [2, 10]), ([11, 6, 0, 1, 2, 3, 4, 5, 6, 7, 8, 9, 10, 11], [11])])
def scullerref02_Right.B2 : List Nat := [0, 1, 3, 7, 7, 31, 63, 127, 7, 263, 1023, 2047, 4095]
theorem scullerref02_Right.tab2 : rtab .any (opsOf Try.f43 2) = scullerref02_Right.T2 := by kernel_rfl
theorem scullerref02_Right.bits2 : waitsOk scullerref02_Right.T2.2 scullerref02_Right.B2 = true := by kernel_rfl
set_option maxHeartbeats 8000000 in
set_option maxRecDepth 100000 in
theorem scullerref02_Right.calls (A0 : Option Addr) (c0 : Nat) (l0 : List Int) (r : Bool) (w : World) (hr0 : Kd.C (Kd.int .u8) w A0 l0.length l0) (hc0 : l0.length ≤ c0) (h : scullerref02_Right.f l0 = some r) :
 Calls Try.prog 43 #[.slice A0 l0.length c0] w fun e w' => e = .returned (.bool r) ∧ Below w.heap.size w w' := by
 have HR0 := Aside0.mk hr0
 have HC0 := Aside0.mk hc0
 clear hr0 hc0
 have HB := Aside0.mk (Below.refl w.heap.size w)
 have H : (if (wrap64 ((l0.length : Int) - 4)) ≥ 0 then (if 0 ≤ (wrap64 ((l0.length : Int) - 4)) then (if (wrap64 ((l0.length : Int) - 4)) ≤ (l0.length : Int) then ((scullerref02_Seal.f (l0.take ((wrap64 ((l0.length : Int) - 4)) : Int).toNat)).bind fun t102 => (some ((strOfNums t102).toList == (strOfNums l0).toList))) else (none)) else (none)) else (some false)) = some r := h
 clear h
 by_cases c2 : (wrap64 ((l0.length : Int) - 4)) ≥ 0
 · rw [if_pos c2] at H
   have c2b0 : decide (0 ≤ (wrap64 ((l0.length : Int) - 4))) = true := decide_eq_true c2
   clear c2
   obtain ⟨ji3, hji3⟩ : ∃ j_ : Int, (wrap64 ((l0.length : Int) - 4)) = j_ := ⟨_, rfl⟩
   replace H : (if 0 ≤ (ji3) then (if (ji3) ≤ (l0.length : Int) then ((scullerref02_Seal.f (l0.take ((ji3) : Int).toNat)).bind fun t102 => (some ((strOfNums t102).toList == (strOfNums l0).toList))) else (none)) else (none)) = some r := by first | (rw [hji3] at H; exact H) | (simp only [hji3] at H ⊢; exact H)
   (try rw [hji3] at c2b0)
   have hji3w : (IntKind.i64.wrap ((l0.length : Int) - 4)) = ji3 := (i64_w _).trans hji3
   by_cases c4 : 0 ≤ (ji3)
   · rw [if_pos c4] at H
     have c4b0 := eq_true c4
     have c4b1 : decide (0 ≤ (ji3)) = true := decide_eq_true c4
     clear c4
     by_cases c5 : (ji3) ≤ (l0.length : Int)
     · rw [if_pos c5] at H
       have c5b0 := eq_true c5
       have c5b1 : decide ((ji3) ≤ (l0.length : Int)) = true := decide_eq_true c5
       clear c5
       replace H := Option.bind_eq_some_iff.mp H
       obtain ⟨t102, A60, H⟩ := H
       replace H : (some ((strOfNums t102).toList == (strOfNums l0).toList)) = some r := H
       have A6 := Aside0.mk A60
       clear A60
       obtain rfl := Option.some.inj H
       go_enter Try.func43, Try.ntmps43
       try go_wp2
       have n0_ := Aside0.mk (below_drew1 HB.out)
       clear HB
       have HB := n0_
       clear n0_
       obtain ⟨i08, hi08, _, hsz8, _⟩ := info_parts info5
       obtain ⟨hcut8, hA8, hC8⟩ := print_take_of (P := Try.prog) (Value.int .u8) 0 25 5 .i64 Try.underlying25 hi08 hsz8 A0 c0 l0 (ji3) (of_decide_eq_true (by first | (with_reducible assumption) | assumption)) (of_decide_eq_true (by first | (with_reducible assumption) | assumption)) HC0.out
       have HR101 := Aside0.mk (Kd.C_of_reads (h1 := fun _ => rfl) (hA8 _ (Kd.reads_of_C HR0.out)))
       have HC101 := Aside0.mk hC8
       clear hA8 hC8 hi08 hsz8
       refine start_ (n := 13) (S := fun w' => (convert 25 9 (.slice A0 l0.length c0)).run Try.prog w' = .ok (.string (strOfNums l0)) w') (ds := []) #[false, false, false, false, false, false, false, false, false, false, false, false, false] (by kernel_rfl) rfl rfl ((Kd.C_string (P := Try.prog) (A := A0) (c := c0) Try.underlying25 Try.underlying5 Try.underlying9 (by first | exact (Kd.C_below HR0.out HB.out) | ((with_reducible repeat (first | apply Kd.C_alloc | apply Kd.C_drewN | apply Kd.C_drew)); exact (Kd.C_below HR0.out HB.out))))) (fun hHeld => ?_); refine with_tabW scullerref02_Right.tab2 scullerref02_Right.bits2 (fun HT_ HW_ => ?_)
       generalize w.drew = w7 at HB HR101 hHeld ⊢
       refine pure_ (i := 0) (N := some 7) (v := ?_) (a' := ?_) #[true, false, false, false, false, false, false, false, false, false, false, false, false] rfl rfl (any_of HT_.out (by kernel_rfl)) (fun _ _ _ h => h) (Or.inl ⟨by rfl, ?_⟩) ?_ ?_
       rotate_left
       · intro w'
         go_simp
         with_reducible rfl
       rotate_left
       · simp only [Act.put, List.setIfInBounds_toArray, List.set_cons_zero, List.set_cons_succ, i64_w, i32_w]
         rfl
       refine pure_ (i := 1) (N := some 8) (v := ?_) (a' := ?_) #[true, true, false, false, false, false, false, false, false, false, false, false, false] rfl rfl (any_of HT_.out (by kernel_rfl)) (fun _ _ _ h => h) (Or.inl ⟨by rfl, ?_⟩) ?_ ?_
       rotate_left
       · intro w'
         go_simp
         with_reducible rfl
       rotate_left
       · simp only [Act.put, List.setIfInBounds_toArray, List.set_cons_zero, List.set_cons_succ, i64_w, i32_w]
         rfl
       refine pure_ (i := 2) (N := some 9) (v := ?_) (a' := ?_) #[true, true, true, false, false, false, false, false, false, false, false, false, false] rfl rfl (any_of HT_.out (by kernel_rfl)) (fun _ _ _ h => h) (Or.inl ⟨by rfl, ?_⟩) ?_ ?_
       rotate_left
       · intro w'
         go_simp
         with_reducible rfl
       rotate_left
       · simp only [Act.put, List.setIfInBounds_toArray, List.set_cons_zero, List.set_cons_succ, i64_w, i32_w]
         rfl
       refine pure_ (i := 3) (N := some 10) (v := ?_) (a' := ?_) #[true, true, true, true, false, false, false, false, false, false, false, false, false] rfl rfl (any_of HT_.out (by kernel_rfl)) (fun _ _ _ h => h) (Or.inl ⟨by rfl, ?_⟩) ?_ ?_
       rotate_left
       · intro w'
         go_simp
         with_reducible rfl
       rotate_left
       · simp only [Act.put, List.setIfInBounds_toArray, List.set_cons_zero, List.set_cons_succ, i64_w, i32_w]
         rfl
       refine pure_ (i := 4) (N := some 11) (v := ?_) (a' := ?_) #[true, true, true, true, true, false, false, false, false, false, false, false, false] rfl rfl (any_of HT_.out (by kernel_rfl)) (fun _ _ _ h => h) (Or.inl ⟨by rfl, ?_⟩) ?_ ?_
       rotate_left
       · intro w'
         go_simp
         with_reducible rfl
       rotate_left
       · simp only [Act.put, List.setIfInBounds_toArray, List.set_cons_zero, List.set_cons_succ, i64_w, i32_w]
         rfl
       refine pure_ (i := 5) (N := some 12) (v := ?_) (a' := ?_) #[true, true, true, true, true, true, false, false, false, false, false, false, false] rfl rfl (any_of HT_.out (by kernel_rfl)) (fun _ _ _ h => h) (Or.inl ⟨by rfl, ?_⟩) ?_ ?_
       rotate_left
       · intro w'
         go_simp
         with_reducible rfl
       rotate_left
       · simp only [Act.put, List.setIfInBounds_toArray, List.set_cons_zero, List.set_cons_succ, i64_w, i32_w]
         rfl
       refine pure_ (i := 8) (N := some 15) (v := ?_) (a' := ?_) #[true, true, true, true, true, true, false, false, true, false, false, false, false] rfl rfl (any_of HT_.out (by kernel_rfl)) (fun _ _ _ h => h) (Or.inl ⟨by rfl, ?_⟩) ?_ ?_
       rotate_left
       · intro w'
         go_simp
         with_reducible rfl
       rotate_left
       · simp only [Act.put, List.setIfInBounds_toArray, List.set_cons_zero, List.set_cons_succ, i64_w, i32_w]
         rfl
       refine take_ (i := 9) (N := some 16) (v := ?_) (a' := ?_) #[true, true, true, true, true, true, false, false, true, true, false, false, false] rfl rfl (take_ofW HT_.out HW_.out (by kernel_rfl)) (fun _ _ _ h => h) (Or.inl ⟨by rfl, ?_⟩) hHeld ?_ ?_
       rotate_left
       · intro w' s0
         go_simp
         with_reducible rfl
       rotate_left
       · simp only [Act.put, List.setIfInBounds_toArray, List.set_cons_zero, List.set_cons_succ, i64_w, i32_w]
         rfl
       refine one_ (i := 6) (N := some 13) #[true, true, true, true, true, true, true, false, true, true, false, false, false] rfl rfl (one_of HT_.out (by kernel_rfl)) (by decide) (fun K hK => ?_)
       refine goes_ Try.func14 (by kernel_rfl) rfl #[.slice A0 (l0.take ((ji3) : Int).toNat).length c0] (by rfl) rfl rfl (by (try simp only [List.map_toArray, List.map_cons, List.map_nil]); first | done | (rw [show (l0.take ((ji3) : Int).toNat).length = (ji3).toNat from (by rw [List.length_take]; have h_ : ((ji3) : Int) ≤ (l0.length : Int) := of_decide_eq_true (by first | (with_reducible assumption) | assumption); omega)] <;> rfl) | (simp only [hji3]; rfl) | rfl | (simp only [List.length_drop, List.length_take]; rfl)) ?_
       with_reducible refine (scullerref02_Seal.calls _ _ (l0.take ((ji3) : Int).toNat) t102 _ ?side1 ?side2 A6.out).mono ?_
       (case side1 => repeat (first | exact (Kd.C_below HR101.out HB.out) | (with_reducible refine Kd.C_alloc ?_ _) | (with_reducible refine Kd.C_drewN ?_ _) | (with_reducible refine Kd.C_drew ?_)))
       (case side2 => exact HC101.out)
       rintro e w9 ⟨v103, rfl, ho0, hb⟩
       refine ⟨_, rfl, ?_⟩
       have n0_ := Aside0.mk (Kd.R_lower ho0 (below_size (by repeat (first | (with_reducible first | exact HB.out | apply below_alloc | apply pw_below_drewN | apply below_drew1) | exact HB.out))))
       have n1_ := Aside0.mk (below_step (by repeat (first | (with_reducible first | exact HB.out | apply below_alloc | apply pw_below_drewN | apply below_drew1) | exact HB.out)) hb)
       clear HB
       have HO104 := n0_
       have HB := n1_
       clear n0_ n1_
       (try clear hb)
       (try clear hb2)
       (try clear hk)
       (try clear hi)
       (try clear ho0)
       refine hK.out _ _ ((Kd.C_string (P := Try.prog) (A := A0) (c := c0) Try.underlying25 Try.underlying5 Try.underlying9 (by first | exact (Kd.C_below HR0.out HB.out) | ((with_reducible repeat (first | apply Kd.C_alloc | apply Kd.C_drewN | apply Kd.C_drew)); exact (Kd.C_below HR0.out HB.out))))) (fun hHeld => ?_)
       clear hK K
       refine norm_ (a' := ?_) ?_ ?_
       rotate_left
       · show Act.put _ (some 13) _ = _
         simp only [Act.put, List.setIfInBounds_toArray, List.set_cons_zero, List.set_cons_succ, i64_w, i32_w]
         rfl
       refine one_ (i := 7) (N := some 14) #[true, true, true, true, true, true, true, true, true, true, false, false, false] rfl rfl (one_of HT_.out (by kernel_rfl)) (by decide) (fun K hK => ?_)
       have hcv10 := own_string (P := Try.prog) Try.underlying25 Try.underlying5 Try.underlying9 (Kd.own_of_R HO104.out)
       refine value_ (w1 := ?_) (v := ?_) (by rfl) rfl ?_ ?_
       rotate_left 2
       · go_simp
         constructor
         · rfl
         · rfl
       clear hcv10
       refine hK.out _ _ ((Kd.C_string (P := Try.prog) (A := A0) (c := c0) Try.underlying25 Try.underlying5 Try.underlying9 (by first | exact (Kd.C_below HR0.out HB.out) | ((with_reducible repeat (first | apply Kd.C_alloc | apply Kd.C_drewN | apply Kd.C_drew)); exact (Kd.C_below HR0.out HB.out))))) (fun hHeld => ?_)
       clear hK K
       refine norm_ (a' := ?_) ?_ ?_
       rotate_left
       · show Act.put _ (some 14) _ = _
         simp only [Act.put, List.setIfInBounds_toArray, List.set_cons_zero, List.set_cons_succ, i64_w, i32_w]
         rfl
       refine pure_ (i := 10) (N := some 17) (v := ?_) (a' := ?_) #[true, true, true, true, true, true, true, true, true, true, true, false, false] rfl rfl (any_of HT_.out (by kernel_rfl)) (fun _ _ _ h => h) (Or.inl ⟨by rfl, ?_⟩) ?_ ?_
       rotate_left
       · intro w'
         go_simp
         with_reducible rfl
       rotate_left
       · simp only [Act.put, List.setIfInBounds_toArray, List.set_cons_zero, List.set_cons_succ, i64_w, i32_w]
         rfl
       refine pure_ (i := 11) (N := some 18) (v := ?_) (a' := ?_) #[true, true, true, true, true, true, true, true, true, true, true, true, false] rfl rfl (any_of HT_.out (by kernel_rfl)) (fun _ _ _ h => h) (Or.inl ⟨by rfl, ?_⟩) ?_ ?_
       rotate_left
       · intro w'
         go_simp
         with_reducible rfl
       rotate_left
       · simp only [Act.put, List.setIfInBounds_toArray, List.set_cons_zero, List.set_cons_succ, i64_w, i32_w]
         rfl
       refine pure_ (i := 12) (N := some 2) (v := ?_) (a' := ?_) #[true, true, true, true, true, true, true, true, true, true, true, true, true] rfl rfl (any_of HT_.out (by kernel_rfl)) (fun _ _ _ h => h) (Or.inl ⟨by rfl, ?_⟩) ?_ ?_
       rotate_left
       · intro w'
         go_simp
         with_reducible rfl
       rotate_left
       · simp only [Act.put, List.setIfInBounds_toArray, List.set_cons_zero, List.set_cons_succ, i64_w, i32_w]
         rfl
       refine done_ (done_of HT_.out (by kernel_rfl)) ?_
       try go_wp2
       go_ret
       exact ⟨by first | rfl | (simp [errW_none, errW_some] <;> rfl) | (simp only [← hji3]; first | rfl | (simp [errW_none, errW_some] <;> rfl)) | (simp [*, errW_none, errW_some] <;> rfl), by repeat (first | (with_reducible first | exact HB.out | apply below_alloc | apply pw_below_drewN | apply below_drew1) | exact HB.out)⟩
     · rw [if_neg c5] at H
       exact absurd H (by simp)
   · rw [if_neg c4] at H
     exact absurd H (by simp)
 · rw [if_neg c2] at H
   have c2b0 : decide (0 ≤ (wrap64 ((l0.length : Int) - 4))) = false := decide_eq_false c2
   clear c2
   obtain rfl := Option.some.inj H
   go_enter Try.func43, Try.ntmps43
   try go_wp2
   have n0_ := Aside0.mk (below_drew1 HB.out)
   clear HB
   have HB := n0_
   clear n0_
   refine start_ (n := 13) (S := fun w' => True) (ds := []) #[false, false, false, false, false, false, false, false, false, false, false, false, false] (by kernel_rfl) rfl rfl trivial (fun hHeld => ?_); refine with_tabW scullerref02_Right.tab2 scullerref02_Right.bits2 (fun HT_ HW_ => ?_)
   generalize w.drew = w13 at HB hHeld ⊢
   refine pure_ (i := 0) (N := some 7) (v := ?_) (a' := ?_) #[true, false, false, false, false, false, false, false, false, false, false, false, false] rfl rfl (any_of HT_.out (by kernel_rfl)) (fun _ _ _ h => h) (Or.inl ⟨by rfl, ?_⟩) ?_ ?_
   rotate_left
   · intro w'
     go_simp
     with_reducible rfl
   rotate_left
   · simp only [Act.put, List.setIfInBounds_toArray, List.set_cons_zero, List.set_cons_succ, i64_w, i32_w]
     rfl
   refine pure_ (i := 1) (N := some 8) (v := ?_) (a' := ?_) #[true, true, false, false, false, false, false, false, false, false, false, false, false] rfl rfl (any_of HT_.out (by kernel_rfl)) (fun _ _ _ h => h) (Or.inl ⟨by rfl, ?_⟩) ?_ ?_
   rotate_left
   · intro w'
     go_simp
     with_reducible rfl
   rotate_left
   · simp only [Act.put, List.setIfInBounds_toArray, List.set_cons_zero, List.set_cons_succ, i64_w, i32_w]
     rfl
   refine pure_ (i := 2) (N := some 9) (v := ?_) (a' := ?_) #[true, true, true, false, false, false, false, false, false, false, false, false, false] rfl rfl (any_of HT_.out (by kernel_rfl)) (fun _ _ _ h => h) (Or.inl ⟨by rfl, ?_⟩) ?_ ?_
   rotate_left
   · intro w'
     go_simp
     with_reducible rfl
   rotate_left
   · simp only [Act.put, List.setIfInBounds_toArray, List.set_cons_zero, List.set_cons_succ, i64_w, i32_w]
     rfl
   refine pure_ (i := 3) (N := some 10) (v := undef) (a' := ?_) #[true, true, true, true, false, false, false, false, false, false, false, false, false] rfl rfl (any_of HT_.out (by kernel_rfl)) (fun _ _ _ h => h) (Or.inr ⟨by rfl, rfl⟩) ?_ ?_
   rotate_left
   · simp only [Act.put, List.setIfInBounds_toArray, List.set_cons_zero, List.set_cons_succ, i64_w, i32_w]
     rfl
   refine pure_ (i := 4) (N := some 11) (v := undef) (a' := ?_) #[true, true, true, true, true, false, false, false, false, false, false, false, false] rfl rfl (any_of HT_.out (by kernel_rfl)) (fun _ _ _ h => h) (Or.inr ⟨by rfl, rfl⟩) ?_ ?_
   rotate_left
   · simp only [Act.put, List.setIfInBounds_toArray, List.set_cons_zero, List.set_cons_succ, i64_w, i32_w]
     rfl
   refine pure_ (i := 5) (N := some 12) (v := undef) (a' := ?_) #[true, true, true, true, true, true, false, false, false, false, false, false, false] rfl rfl (any_of HT_.out (by kernel_rfl)) (fun _ _ _ h => h) (Or.inr ⟨by rfl, rfl⟩) ?_ ?_
   rotate_left
   · simp only [Act.put, List.setIfInBounds_toArray, List.set_cons_zero, List.set_cons_succ, i64_w, i32_w]
     rfl
   refine pure_ (i := 6) (N := some 13) (v := undef) (a' := ?_) #[true, true, true, true, true, true, true, false, false, false, false, false, false] rfl rfl (any_of HT_.out (by kernel_rfl)) (fun _ _ _ h => h) (Or.inr ⟨by rfl, rfl⟩) ?_ ?_
   rotate_left
   · simp only [Act.put, List.setIfInBounds_toArray, List.set_cons_zero, List.set_cons_succ, i64_w, i32_w]
     rfl
   refine pure_ (i := 7) (N := some 14) (v := undef) (a' := ?_) #[true, true, true, true, true, true, true, true, false, false, false, false, false] rfl rfl (any_of HT_.out (by kernel_rfl)) (fun _ _ _ h => h) (Or.inr ⟨by rfl, rfl⟩) ?_ ?_
   rotate_left
   · simp only [Act.put, List.setIfInBounds_toArray, List.set_cons_zero, List.set_cons_succ, i64_w, i32_w]
     rfl
   refine pure_ (i := 8) (N := some 15) (v := undef) (a' := ?_) #[true, true, true, true, true, true, true, true, true, false, false, false, false] rfl rfl (any_of HT_.out (by kernel_rfl)) (fun _ _ _ h => h) (Or.inr ⟨by rfl, rfl⟩) ?_ ?_
   rotate_left
   · simp only [Act.put, List.setIfInBounds_toArray, List.set_cons_zero, List.set_cons_succ, i64_w, i32_w]
     rfl
   refine pure_ (i := 9) (N := some 16) (v := undef) (a' := ?_) #[true, true, true, true, true, true, true, true, true, true, false, false, false] rfl rfl (any_of HT_.out (by kernel_rfl)) (fun _ _ _ h => h) (Or.inr ⟨by rfl, rfl⟩) ?_ ?_
   rotate_left
   · simp only [Act.put, List.setIfInBounds_toArray, List.set_cons_zero, List.set_cons_succ, i64_w, i32_w]
     rfl
   refine pure_ (i := 10) (N := some 17) (v := undef) (a' := ?_) #[true, true, true, true, true, true, true, true, true, true, true, false, false] rfl rfl (any_of HT_.out (by kernel_rfl)) (fun _ _ _ h => h) (Or.inr ⟨by rfl, rfl⟩) ?_ ?_
   rotate_left
   · simp only [Act.put, List.setIfInBounds_toArray, List.set_cons_zero, List.set_cons_succ, i64_w, i32_w]
     rfl
   refine pure_ (i := 11) (N := some 18) (v := ?_) (a' := ?_) #[true, true, true, true, true, true, true, true, true, true, true, true, false] rfl rfl (any_of HT_.out (by kernel_rfl)) (fun _ _ _ h => h) (Or.inl ⟨by rfl, ?_⟩) ?_ ?_
   rotate_left
   · intro w'
     go_simp
     with_reducible rfl
   rotate_left
   · simp only [Act.put, List.setIfInBounds_toArray, List.set_cons_zero, List.set_cons_succ, i64_w, i32_w]
     rfl
   refine pure_ (i := 12) (N := some 2) (v := ?_) (a' := ?_) #[true, true, true, true, true, true, true, true, true, true, true, true, true] rfl rfl (any_of HT_.out (by kernel_rfl)) (fun _ _ _ h => h) (Or.inl ⟨by rfl, ?_⟩) ?_ ?_
   rotate_left
   · intro w'
     go_simp
     with_reducible rfl
   rotate_left
   · simp only [Act.put, List.setIfInBounds_toArray, List.set_cons_zero, List.set_cons_succ, i64_w, i32_w]
     rfl
   refine done_ (done_of HT_.out (by kernel_rfl)) ?_
   try go_wp2
   go_ret
   exact ⟨by first | rfl | (simp [errW_none, errW_some] <;> rfl) | (simp [*, errW_none, errW_some] <;> rfl), by repeat (first | (with_reducible first | exact HB.out | apply below_alloc | apply pw_below_drewN | apply below_drew1) | exact HB.out)⟩

end Go.Proofs.Ytoooceaoggkeeaa.F
end

section
namespace Go.Proofs.Ytoooceaoggkeeaa.F
open Go.RowKit Go.Proofs.YtoooceaoggkeeaaW.PrintWords Go.Proofs.YtoooceaoggkeeaaW.PrintLast Go.Proofs.YtoooceaoggkeeaaW.PrintMore
attribute [local go_sem] max2_int min2_int max_two min_two max_three min_three max_four min_four   -- for this text's walks alone
set_option linter.unusedVariables false
set_option linter.unusedSimpArgs false

/-! ### scullerref01_Get: function 44 -/
def scullerref01_Get.l0 : Nat → List Int → Int → Int → Option (Int)
 | 0, _, _, _ => none
 | k + 1, x0, x3, x4 => if x4 ≥ 0 then (if 0 ≤ x4 then (if x4 < (x0.length : Int) then (scullerref01_Get.l0 k x0 (IntKind.u64.wrap ((IntKind.u64.wrap (256 * x3)) + (IntKind.u64.wrap (rd x0 x4)))) (wrap64 (x4 - 1))) else (none)) else (none)) else (some x3)
def scullerref01_Get.f (k : Nat) (l0 : List Int) : Option (Int) := scullerref01_Get.l0 k l0 0 ((mn (l0.length : Int) 8) - 1)
theorem scullerref01_Get.mono_l : ∀ k, (∀ y0 y1 y2, LeO (scullerref01_Get.l0 k y0 y1 y2) (scullerref01_Get.l0 (k + 1) y0 y1 y2))
 | 0 => fun _ _ _ r h => by simp [scullerref01_Get.l0] at h
 | k + 1 => by
   have ih0 := scullerref01_Get.mono_l k
   · intro y0 y1 y2
     unfold scullerref01_Get.l0
     repeat' first
     | (with_reducible exact ih0 _ _ _)
     | (with_reducible exact LeO.refl _)
     | (with_reducible exact LeO.none _)
     | (with_reducible refine LeO.ite ?_ ?_)
     | (with_reducible refine LeO.bind ?_ (fun _ => ?_))
     | exact ih0 _ _ _
     | exact LeO.none _
     | refine LeO.ite ?_ ?_
     | refine LeO.bind ?_ (fun _ => ?_)
theorem scullerref01_Get.mono : ∀ a0 k, LeO (scullerref01_Get.f k a0) (scullerref01_Get.f (k + 1) a0) := by
 intro a0 k
 have ih0 := scullerref01_Get.mono_l k
 unfold scullerref01_Get.f
 repeat' first
  | (with_reducible exact ih0 _ _ _)
  | (with_reducible exact LeO.refl _)
  | (with_reducible exact LeO.none _)
  | (with_reducible refine LeO.ite ?_ ?_)
  | (with_reducible refine LeO.bind ?_ (fun _ => ?_))
  | exact ih0 _ _ _
  | exact LeO.none _
  | refine LeO.ite ?_ ?_
  | refine LeO.bind ?_ (fun _ => ?_)
set_option maxHeartbeats 8000000 in
set_option maxRecDepth 100000 in
theorem scullerref01_Get.calls (k : Nat) (A0 : Option Addr) (c0 : Nat) (l0 : List Int) (r : Int) (w : World) (hr0 : Kd.C (Kd.int .u8) w A0 l0.length l0) (hc0 : l0.length ≤ c0) (h : scullerref01_Get.f k l0 = some r) :
 Calls Try.prog 44 #[.slice A0 l0.length c0] w fun e w' => e = .returned (.int .u64 r) ∧ Below w.heap.size w w' := by
 have HR0 := Aside0.mk hr0
 have HC0 := Aside0.mk hc0
 clear hr0 hc0
 have HB := Aside0.mk (Below.refl w.heap.size w)
 have H : (scullerref01_Get.l0 k l0 0 ((mn (l0.length : Int) 8) - 1)) = some r := h
 clear h
 obtain ⟨ji2, hji2⟩ : ∃ j_ : Int, (mn (l0.length : Int) 8) = j_ := ⟨_, rfl⟩
 replace H : (scullerref01_Get.l0 k l0 0 ((ji2) - 1)) = some r := by first | (rw [hji2] at H; exact H) | (simp only [hji2] at H ⊢; exact H)
 (try (have hji2h : ji2 ≤ 8 := by (rw [← hji2]; unfold mn; (repeat' split) <;> omega)))
 (try (have hji2g : ji2 ≤ 64 := by omega))
 (try (have hji2l : 0 ≤ ji2 := by (rw [← hji2]; unfold mn; (repeat' split) <;> omega)))
 (try (have hji2m : 0 ≤ ji2 := by omega))
 have hji2_ : (if 8 < (l0.length : Int) then 8 else (l0.length : Int)) = ji2 := hji2
 have H' := Aside0.mk H
 clear H
 go_enter Try.func44, Try.ntmps44
 go_wp2
 go_loopg [3, 4] k (fun kq v3 v4 w' => ∃ (x3_1 : Int) (x4_1 : Int), v3 = .int .u64 x3_1 ∧ v4 = .int .i64 x4_1 ∧ Aside0 (scullerref01_Get.l0 kq l0 x3_1 x4_1 = some r) ∧ Aside0 (kq ≤ k) ∧ Aside0 (Below w.heap.size w w'))
 case atStart => exact ⟨(0), ((ji2) - 1), (by first | rfl | (simp; done) | (simp [*]; done)), (by first | rfl | (simp; done) | (simp only [← hji2] <;> (first | rfl | simp)) | (simp [*]; done)), H', ⟨Nat.le_refl _⟩, ⟨by repeat (first | (with_reducible first | exact HB.out | apply below_alloc | apply pw_below_drewN | apply below_drew1) | exact HB.out)⟩⟩
 case round =>
  clear H'
  try clear p2
  obtain ⟨x3_1, x4_1, rfl, rfl, HA, HK1, HB⟩ := hrel
  cases gk with
  | zero => exact absurd HA.out (by simp [scullerref01_Get.l0])
  | succ k1 =>
    have H := HA.out
    clear HA
    simp only [scullerref01_Get.l0] at H
    by_cases c3 : x4_1 ≥ 0
    · rw [if_pos c3] at H
      have c3b0 : decide (0 ≤ x4_1) = true := decide_eq_true c3
      clear c3
      by_cases c4 : 0 ≤ x4_1
      · rw [if_pos c4] at H
        have c4b0 : decide (0 ≤ x4_1) = true := decide_eq_true c4
        clear c4
        by_cases c5 : x4_1 < (l0.length : Int)
        · rw [if_pos c5] at H
          have c5b0 : decide (x4_1 < (l0.length : Int)) = true := decide_eq_true c5
          clear c5
          have H' := Aside0.mk H
          clear H
          have p101 : 0 ≤ (x4_1 : Int) := of_decide_eq_true (by first | (with_reducible assumption) | assumption)
          have q101 : x4_1 < (l0.length : Int) := of_decide_eq_true (by first | (with_reducible assumption) | assumption)
          obtain ⟨ad101, e101, hx101_0⟩ := Kd.at_int HR0.out x4_1 p101 q101
          cases e101
          replace hx101_0 := (HB.out.cell (World.block_lt_of_cell? w _ hx101_0)).trans hx101_0
          replace p101 := eq_true p101
          replace q101 := eq_true q101
          go_wp2
          go_roundg k1
          case measure => have := HK1.out; omega
          case rel => exact ⟨(IntKind.u64.wrap ((IntKind.u64.wrap (256 * x3_1)) + (IntKind.u64.wrap (rd l0 x4_1)))), (wrap64 (x4_1 - 1)), (by first | rfl | (simp; done) | (simp [*]; done)), (by first | rfl | (simp; done) | (simp [*]; done)), H', ⟨by have := HK1.out; omega⟩, ⟨by repeat (first | (with_reducible first | exact HB.out | apply below_alloc | apply pw_below_drewN | apply below_drew1) | exact HB.out)⟩⟩
        · rw [if_neg c5] at H
          exact absurd H (by simp)
      · rw [if_neg c4] at H
        exact absurd H (by simp)
    · rw [if_neg c3] at H
      have c3b0 : decide (0 ≤ x4_1) = false := decide_eq_false c3
      clear c3
      obtain rfl := Option.some.inj H
      go_wp2
      go_ret
      exact ⟨by first | rfl | (simp [errW_none, errW_some] <;> rfl) | (simp only [← hji2]; first | rfl | (simp [errW_none, errW_some] <;> rfl)) | (simp [*, errW_none, errW_some] <;> rfl), by repeat (first | (with_reducible first | exact HB.out | apply below_alloc | apply pw_below_drewN | apply below_drew1) | exact HB.out)⟩

end Go.Proofs.Ytoooceaoggkeeaa.F
end

section
namespace Go.Proofs.Ytoooceaoggkeeaa.F
open Go.RowKit Go.Proofs.YtoooceaoggkeeaaW.PrintWords Go.Proofs.YtoooceaoggkeeaaW.PrintLast Go.Proofs.YtoooceaoggkeeaaW.PrintMore
attribute [local go_sem] max2_int min2_int max_two min_two max_three min_three max_four min_four   -- for this text's walks alone
set_option linter.unusedVariables false
set_option linter.unusedSimpArgs false

open Go.Proofs.Ytoooceaoggkeeaa.H
def scullerref01_Get_c.f (l0 : List Int) : Option Int := if bytesB (l0.take 8) = true ∧ l0.length ≤ 1000000 then some (getL (l0.take 8)) else none
theorem scullerref01_Get.l0_to (l xs : List Int) (hxs : l.take 8 = xs) (hl : l.length ≤ 1000000) (hc : ∀ c ∈ xs, 0 ≤ c ∧ c ≤ 255) : ∀ (i : Nat), i ≤ xs.length → ∃ k, scullerref01_Get.l0 k l (getL (xs.drop i)) ((i : Int) - 1) = some (getL xs)
 | 0, hi => ⟨1, by simp [scullerref01_Get.l0]⟩
 | i + 1, hi => by
   have hxl : xs.length = min 8 l.length := by rw [← hxs, List.length_take]
   have hlt : i < xs.length := by omega
   have hr : rd l i = xs[i] := by
    rw [show rd l i = l[i]'(by omega) from getD_toNat l 0 i (by omega)]
    subst hxs
    simp
   obtain ⟨k, hk⟩ := scullerref01_Get.l0_to l xs hxs hl hc i (by omega)
   have hb := getL_bound 7 (xs.drop (i + 1)) (by simp; omega) (fun c h => hc c (List.mem_of_mem_drop h))
   have hx := hc _ (List.getElem_mem hlt)
   have h7 : (256 : Int) ^ 7 = 72057594037927936 := by decide
   have hw : ∀ z : Int, 0 ≤ z → z < 18446744073709551616 → IntKind.u64.wrap z = z := by
    intro z hz hz2
    simp [IntKind.wrap, IntKind.signed, IntKind.bits]
    omega
   refine ⟨k + 1, ?_⟩
   simp only [scullerref01_Get.l0]
   rw [show ((i + 1 : Nat) : Int) - 1 = (i : Int) from by omega, if_pos (by omega), if_pos (by omega), if_pos (by omega), hr]
   rw [hw (256 * getL (xs.drop (i + 1))) (by omega) (by omega), hw _ hx.1 (by omega), hw _ (by omega) (by omega)]
   rw [show wrap64 ((i : Int) - 1) = (i : Int) - 1 from by unfold wrap64; omega]
   rw [drop_at xs i hlt, getL] at hk
   rw [show 256 * getL (xs.drop (i + 1)) + xs[i] = xs[i] + 256 * getL (xs.drop (i + 1)) from by omega]
   exact hk
theorem scullerref01_Get_c.to {l0 : List Int} {r : Int} (h : scullerref01_Get_c.f l0 = some r) : ∃ k, scullerref01_Get.f k l0 = some r := by
 unfold scullerref01_Get_c.f at h
 split at h
 case isFalse => cases h
 case isTrue hl =>
 obtain rfl := Option.some.inj h
 obtain ⟨xs, hxs⟩ : ∃ xs, l0.take 8 = xs := ⟨_, rfl⟩
 obtain ⟨hl1, hl2⟩ := hl
 rw [hxs] at hl1
 have hxl : xs.length = min 8 l0.length := by rw [← hxs, List.length_take]
 obtain ⟨k, hk⟩ := scullerref01_Get.l0_to l0 xs hxs hl2 (bytesB_at hl1) xs.length (by omega)
 refine ⟨k, ?_⟩
 unfold scullerref01_Get.f
 rw [show mn (l0.length : Int) 8 = (xs.length : Int) from by unfold mn; split <;> omega, hxs]
 simpa [getL] using hk

theorem scullerref01_Get_c.calls (A0 : Option Addr) (c0 : Nat) (l0 : List Int) (r : Int) (w : World) (hr0 : Kd.C (Kd.int .u8) w A0 l0.length l0) (hc0 : l0.length ≤ c0) (h : scullerref01_Get_c.f l0 = some r) :
 Calls Try.prog 44 #[.slice A0 l0.length c0] w fun e w' => e = .returned (.int .u64 r) ∧ Below w.heap.size w w' := by
 obtain ⟨k_, hk_⟩ := scullerref01_Get_c.to h
 exact scullerref01_Get.calls k_ A0 c0 l0 r w hr0 hc0 hk_

end Go.Proofs.Ytoooceaoggkeeaa.F
end

section
namespace Go.Proofs.Ytoooceaoggkeeaa.F
open Go.RowKit Go.Proofs.YtoooceaoggkeeaaW.PrintWords Go.Proofs.YtoooceaoggkeeaaW.PrintLast Go.Proofs.YtoooceaoggkeeaaW.PrintMore
attribute [local go_sem] max2_int min2_int max_two min_two max_three min_three max_four min_four   -- for this text's walks alone
set_option linter.unusedVariables false
set_option linter.unusedSimpArgs false

/-! ### scullerref13_get: function 45 -/
def scullerref13_get.f (l0 : List Int) (a1 : Int) (a2 : Int) : Option (Int) := if 0 ≤ a1 then (if a1 ≤ (wrap64 (a1 + a2)) then (if (wrap64 (a1 + a2)) ≤ (l0.length : Int) then ((scullerref01_Get_c.f ((l0.take ((wrap64 (a1 + a2)) : Int).toNat).drop (a1 : Int).toNat)).bind fun t102 => (some (wrap64 (t102)))) else (none)) else (none)) else (none)
set_option maxHeartbeats 8000000 in
set_option maxRecDepth 100000 in
theorem scullerref13_get.calls (A0 : Option Addr) (c0 : Nat) (l0 : List Int) (a1 : Int) (a2 : Int) (r : Int) (w : World) (hr0 : Kd.C (Kd.int .u8) w A0 l0.length l0) (hc0 : l0.length ≤ c0) (h : scullerref13_get.f l0 a1 a2 = some r) :
 Calls Try.prog 45 #[.slice A0 l0.length c0, .int .i64 a1, .int .i64 a2] w fun e w' => e = .returned (.int .i64 r) ∧ Below w.heap.size w w' := by
 have HR0 := Aside0.mk hr0
 have HC0 := Aside0.mk hc0
 clear hr0 hc0
 have HB := Aside0.mk (Below.refl w.heap.size w)
 have H : (if 0 ≤ a1 then (if a1 ≤ (wrap64 (a1 + a2)) then (if (wrap64 (a1 + a2)) ≤ (l0.length : Int) then ((scullerref01_Get_c.f ((l0.take ((wrap64 (a1 + a2)) : Int).toNat).drop (a1 : Int).toNat)).bind fun t102 => (some (wrap64 (t102)))) else (none)) else (none)) else (none)) = some r := h
 clear h
 by_cases c4 : 0 ≤ a1
 · rw [if_pos c4] at H
   have c4b0 := eq_true c4
   have c4b1 : decide (0 ≤ a1) = true := decide_eq_true c4
   clear c4
   by_cases c5 : a1 ≤ (wrap64 (a1 + a2))
   · rw [if_pos c5] at H
     have c5b0 := eq_true c5
     have c5b1 : decide (a1 ≤ (wrap64 (a1 + a2))) = true := decide_eq_true c5
     by_cases c6 : (wrap64 (a1 + a2)) ≤ (l0.length : Int)
     · rw [if_pos c6] at H
       have c6b0 := eq_true c6
       have c6b1 : decide ((wrap64 (a1 + a2)) ≤ (l0.length : Int)) = true := decide_eq_true c6
       replace H := Option.bind_eq_some_iff.mp H
       obtain ⟨t102, A70, H⟩ := H
       replace H : (some (wrap64 (t102))) = some r := H
       have A7 := Aside0.mk A70
       clear A70
       obtain rfl := Option.some.inj H
       obtain ⟨i08, hi08, _, hsz8, _⟩ := info_parts info5
       obtain ⟨A8, hcut8, hA8, hC8⟩ := print_mid_of (P := Try.prog) (Value.int .u8) 0 25 5 .i64 .i64 Try.underlying25 hi08 hsz8 A0 c0 l0 a1 (wrap64 (a1 + a2)) (of_decide_eq_true (by first | (with_reducible assumption) | assumption)) (by first | omega | exact of_decide_eq_true (by first | (with_reducible assumption) | assumption)) (of_decide_eq_true (by first | (with_reducible assumption) | assumption)) HC0.out
       have HR101 := Aside0.mk (Kd.C_of_reads (h1 := fun _ => rfl) (hA8 _ (Kd.reads_of_C HR0.out)))
       have HC101 := Aside0.mk hC8
       clear hA8 hC8 hi08 hsz8
       go_enter Try.func45, Try.ntmps45
       go_wp2_with (first | ((with_reducible refine gate_callee (f := 44) rfl ?_); refine goesL_ (some 13) rfl rfl Try.func44 (by kernel_rfl) rfl #[.slice A8 ((l0.take ((wrap64 (a1 + a2)) : Int).toNat).drop (a1 : Int).toNat).length (c0 - a1.toNat)] rfl (by (try simp only [List.map_toArray, List.map_cons, List.map_nil]); first | done | (rw [show ((l0.take ((wrap64 (a1 + a2)) : Int).toNat).drop (a1 : Int).toNat).length = ((wrap64 (a1 + a2)).toNat - a1.toNat) from (by rw [List.length_drop, List.length_take]; have h_ : ((wrap64 (a1 + a2)) : Int) ≤ (l0.length : Int) := of_decide_eq_true (by first | (with_reducible assumption) | assumption); omega)] <;> rfl) | rfl | (simp only [List.length_drop, List.length_take]; rfl)) ?_; (with_reducible refine (scullerref01_Get_c.calls _ _ ((l0.take ((wrap64 (a1 + a2)) : Int).toNat).drop (a1 : Int).toNat) t102 _ ?side1 ?side2 A7.out).mono ?_); (case side1 => repeat (first | exact HR101.out | (with_reducible refine Kd.C_alloc ?_ _) | (with_reducible refine Kd.C_drewN ?_ _) | (with_reducible refine Kd.C_drew ?_))); (case side2 => exact HC101.out); rintro e w9 ⟨rfl, hb⟩; refine ⟨_, rfl, ?_⟩; have n0_ := Aside0.mk (below_step (by repeat (first | (with_reducible first | exact HB.out | apply below_alloc | apply pw_below_drewN | apply below_drew1) | exact HB.out)) hb); clear HB; have HB := n0_; clear n0_; (try clear hb); (try clear hb2); (try clear hk); (try clear hi)))
       go_ret
       exact ⟨by first | rfl | (simp [errW_none, errW_some] <;> rfl) | (simp [*, errW_none, errW_some] <;> rfl), by repeat (first | (with_reducible first | exact HB.out | apply below_alloc | apply pw_below_drewN | apply below_drew1) | exact HB.out)⟩
     · rw [if_neg c6] at H
       exact absurd H (by simp)
   · rw [if_neg c5] at H
     exact absurd H (by simp)
 · rw [if_neg c4] at H
   exact absurd H (by simp)

end Go.Proofs.Ytoooceaoggkeeaa.F
end
