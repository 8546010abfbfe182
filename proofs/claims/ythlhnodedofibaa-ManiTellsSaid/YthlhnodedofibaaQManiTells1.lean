/- Proved: at every input in bounds the statement ManiTells of the manifest layer answers yes: a manifest is told apart by its session, by any one byte of the arena, and by where its segments end.
Text 1 of 5; functions told as plain ones, with the contracts of their calls. -/
import Derived.Test.YthlhnodedofibaaProg
import Derived.Below
import Derived.Deep.Draws
import Derived.Deep.AppendLies
import Derived.Maps.AppendAt
import Derived.OwnWalk
import Derived.Laws.BytesArg
import Derived.Laws.MakeOwn
import Derived.Laws.OwnMore
import Derived.Deep.OwnRows
import Derived.Tactics
import Derived.Lib.ConvBytes
import Derived.Laws.Slices
import Derived.WalkKit
import Derived.KernelRfl
import Derived.RowKit3
import Derived.Deep.LoopGhost
import Derived.Deep.QuietTactic
import Derived.BigQuiet
import Derived.WideLaws
import Derived.Deep.DeepCutAuto
import Derived.Deep.CutBlock
import Derived.Deep.RegionHeld3
import Derived.Laws.Rows
import Derived.Lib.AppendStr
import Derived.ArgAppend
import Derived.Laws.IdiomCopy
import Derived.OrdersHeld
import Derived.Laws.BitsLemmas
import Derived.RowKit
import Derived.Test.YthlhnodedofibaaWWords
import Derived.Test.YthlhnodedofibaaWLast
import Derived.Test.YthlhnodedofibaaWTab
import Derived.Test.YthlhnodedofibaaWFour
import Derived.Test.YthlhnodedofibaaWQPut
import Derived.Test.YthlhnodedofibaaWApart
import Derived.Test.YthlhnodedofibaaWArr
import Derived.Test.YthlhnodedofibaaWZeros
import Derived.Test.YthlhnodedofibaaWFoot
import Derived.Test.YthlhnodedofibaaWKept
import Derived.Test.YthlhnodedofibaaWShare
import Derived.Test.YthlhnodedofibaaWN
import Derived.Test.YthlhnodedofibaaWFootNe
import Derived.Test.YthlhnodedofibaaWAt
import Derived.Test.YthlhnodedofibaaWEqStruct
import Derived.Test.YthlhnodedofibaaWRepsOne
import Derived.Test.YthlhnodedofibaaWInv
import Derived.Test.YthlhnodedofibaaWInvWords
import Derived.Test.YthlhnodedofibaaWGuard
import Derived.Test.YthlhnodedofibaaWNEv
import Derived.Test.YthlhnodedofibaaWMore
import Derived.RangeFuncNested
import Derived.RangeFuncBound
import Derived.RangeFuncCalls
import Derived.RangeFuncLeaves
import Derived.Shelf.Abstract
import Derived.Shelf.RegionOpen
import Derived.OwnWalkIn
import Derived.TacticsInMore
import Derived.LoopNIn
import Derived.LoopIn
import Derived.Laws.BitsAllLaws
import Derived.Great.Walk
section
namespace Go.Proofs.Ythlhnodedofibaa.F
open Go.RowKit Go.Proofs.YthlhnodedofibaaW.PrintWords Go.Proofs.YthlhnodedofibaaW.PrintLast Go.Proofs.YthlhnodedofibaaW.PrintMore
attribute [local go_sem] max2_int min2_int max_two min_two max_three min_three max_four min_four   -- for this text's walks alone
set_option linter.unusedVariables false
set_option linter.unusedSimpArgs false



def errW : Option Int → Value
  | none => .nilIface
  | some c => .iface 0 (.int .i64 c)
theorem errW_none : errW none = .nilIface := rfl
theorem errW_some (c : Int) : errW (some c) = .iface 0 (.int .i64 c) := rfl

theorem info3 : (Try.prog.info? 3).map (fun i => (i.zero, i.size, i.bytes)) = some (some (.int .i64 0), 1, 8) := by kernel_rfl
theorem info5 : (Try.prog.info? 5).map (fun i => (i.zero, i.size, i.bytes)) = some (some (.int .u8 0), 1, 1) := by kernel_rfl
theorem info22 : (Try.prog.info? 22).map (fun i => (i.zero, i.size, i.bytes)) = some (some (.slice none 0 0), 1, 24) := by kernel_rfl
theorem info37 : (Try.prog.info? 37).map (fun i => (i.zero, i.size, i.bytes)) = some (some (.slice none 0 0), 1, 24) := by kernel_rfl
theorem info42 : (Try.prog.info? 42).map (fun i => (i.zero, i.size, i.bytes)) = some (some (.int .u64 0), 1, 8) := by kernel_rfl
-- the values' own types
def rd_L1 (xs : List (List Int)) (i : Int) : (List Int) := xs.getD i.toNat ([] : List Int)
theorem at_L1 {w : World} {A : Option Addr} {n : Nat} {xs : List (List Int)} (h : Kd.C (Kd.slice 5 (Kd.int .u8)) w A n xs) (i : Int) (h0 : 0 ≤ i) (h1 : i < n) : ∃ ad A0 c0, A = some ad ∧ w.cell? (ad.add i.toNat) = some (.slice A0 (rd_L1 xs i).length c0) ∧ (rd_L1 xs i).length ≤ c0 ∧ (Kd.int .u8).C w A0 (rd_L1 xs i).length (rd_L1 xs i) := by
  obtain ⟨ad, c, e, _, hK, hc0⟩ := Kd.C_get h ([] : List Int) i h0 h1
  have hc : ∀ j u, c[j]? = some u → w.cell? (ad.add (i.toNat * 1 + j)) = some u := hc0
  obtain ⟨A0, c0, rfl, l0, g0⟩ := hK
  exact ⟨ad, A0, c0, e, by have hq := hc 0 _ rfl; rwa [Nat.mul_one, Nat.add_zero] at hq, l0, g0⟩

def rd_L3 (xs : List (List Int)) (i : Int) : (List Int) := xs.getD i.toNat ([] : List Int)
theorem at_L3 {w : World} {A : Option Addr} {n : Nat} {xs : List (List Int)} (h : Kd.C (Kd.slice 42 (Kd.int .u64)) w A n xs) (i : Int) (h0 : 0 ≤ i) (h1 : i < n) : ∃ ad A0 c0, A = some ad ∧ w.cell? (ad.add i.toNat) = some (.slice A0 (rd_L3 xs i).length c0) ∧ (rd_L3 xs i).length ≤ c0 ∧ (Kd.int .u64).C w A0 (rd_L3 xs i).length (rd_L3 xs i) := by
  obtain ⟨ad, c, e, _, hK, hc0⟩ := Kd.C_get h ([] : List Int) i h0 h1
  have hc : ∀ j u, c[j]? = some u → w.cell? (ad.add (i.toNat * 1 + j)) = some u := hc0
  obtain ⟨A0, c0, rfl, l0, g0⟩ := hK
  exact ⟨ad, A0, c0, e, by have hq := hc 0 _ rfl; rwa [Nat.mul_one, Nat.add_zero] at hq, l0, g0⟩

def rd_L4 (xs : List (List (List Int))) (i : Int) : (List (List Int)) := xs.getD i.toNat ([] : List (List Int))
theorem at_L4 {w : World} {A : Option Addr} {n : Nat} {xs : List (List (List Int))} (h : Kd.C (Kd.slice 37 (Kd.slice 42 (Kd.int .u64))) w A n xs) (i : Int) (h0 : 0 ≤ i) (h1 : i < n) : ∃ ad A0 c0, A = some ad ∧ w.cell? (ad.add i.toNat) = some (.slice A0 (rd_L4 xs i).length c0) ∧ (rd_L4 xs i).length ≤ c0 ∧ (Kd.slice 42 (Kd.int .u64)).C w A0 (rd_L4 xs i).length (rd_L4 xs i) := by
  obtain ⟨ad, c, e, _, hK, hc0⟩ := Kd.C_get h ([] : List (List Int)) i h0 h1
  have hc : ∀ j u, c[j]? = some u → w.cell? (ad.add (i.toNat * 1 + j)) = some u := hc0
  obtain ⟨A0, c0, rfl, l0, g0⟩ := hK
  exact ⟨ad, A0, c0, e, by have hq := hc 0 _ rfl; rwa [Nat.mul_one, Nat.add_zero] at hq, l0, g0⟩

def rd_L6 (xs : List (List Int)) (i : Int) : (List Int) := xs.getD i.toNat ([] : List Int)
theorem at_L6 {w : World} {A : Option Addr} {n : Nat} {xs : List (List Int)} (h : Kd.C (Kd.slice 3 (Kd.int .i64)) w A n xs) (i : Int) (h0 : 0 ≤ i) (h1 : i < n) : ∃ ad A0 c0, A = some ad ∧ w.cell? (ad.add i.toNat) = some (.slice A0 (rd_L6 xs i).length c0) ∧ (rd_L6 xs i).length ≤ c0 ∧ (Kd.int .i64).C w A0 (rd_L6 xs i).length (rd_L6 xs i) := by
  obtain ⟨ad, c, e, _, hK, hc0⟩ := Kd.C_get h ([] : List Int) i h0 h1
  have hc : ∀ j u, c[j]? = some u → w.cell? (ad.add (i.toNat * 1 + j)) = some u := hc0
  obtain ⟨A0, c0, rfl, l0, g0⟩ := hK
  exact ⟨ad, A0, c0, e, by have hq := hc 0 _ rfl; rwa [Nat.mul_one, Nat.add_zero] at hq, l0, g0⟩

/-! #### struct type 46 -/
structure S46 where
  f0 : Int
  f1 : (List Int)
  f2 : Int
def z46 : S46 := ⟨(0 : Int), ([] : List Int), (0 : Int)⟩
def k46 : Kd S46 := Kd.iso (Kd.pair (Kd.int .u64) (Kd.pair (Kd.slice 3 (Kd.int .i64)) (Kd.int .u32))) (fun x : S46 => (x.f0, x.f1, x.f2))
theorem k46_open {w : World} {x : S46} {cs : List Value} (h : k46.K w x cs) : ∃ A1 c1, cs = [.int .u64 x.f0, .slice A1 x.f1.length c1, .int .u32 x.f2] ∧ x.f1.length ≤ c1 ∧ (Kd.int .i64).C w A1 x.f1.length x.f1 := by
  obtain ⟨_, _, rfl, rfl, ⟨_, _, rfl, ⟨A1, c1, rfl, l1, g1⟩, rfl⟩⟩ := h
  exact ⟨A1, c1, rfl, l1, g1⟩
theorem k46_openM {w : World} {base : Nat} {ok : Nat → Prop} {x : S46} {cs : List Value} (h : k46.M w base ok x cs) : ∃ v1, cs = [.int .u64 x.f0, v1, .int .u32 x.f2] ∧ (Kd.int .i64).R 3 w base ok v1 x.f1 := by
  obtain ⟨_, _, rfl, rfl, ⟨_, _, rfl, ⟨v1, rfl, g1⟩, rfl⟩⟩ := h
  exact ⟨v1, rfl, g1⟩
theorem k46_mk (w : World) (x : S46) {A1 : Option Addr} {c1 : Nat} (l1 : x.f1.length ≤ c1) (g1 : (Kd.int .i64).C w A1 x.f1.length x.f1) : k46.K w x [.int .u64 x.f0, .slice A1 x.f1.length c1, .int .u32 x.f2] := ⟨[.int .u64 x.f0], [.slice A1 x.f1.length c1, .int .u32 x.f2], rfl, rfl, ⟨[.slice A1 x.f1.length c1], [.int .u32 x.f2], rfl, ⟨A1, c1, rfl, l1, g1⟩, rfl⟩⟩
theorem k46_mkM (w : World) (base : Nat) (ok : Nat → Prop) (x : S46) {v1 : Value} (g1 : (Kd.int .i64).R 3 w base ok v1 x.f1) : k46.M w base ok x [.int .u64 x.f0, v1, .int .u32 x.f2] := ⟨[.int .u64 x.f0], [v1, .int .u32 x.f2], rfl, rfl, ⟨[v1], [.int .u32 x.f2], rfl, ⟨v1, rfl, g1⟩, rfl⟩⟩
theorem k46_openF {W : World} {ok : Nat → Prop} {x : S46} {cs : List Value} (h : Kd.FK k46 W ok x cs) : ∃ A1 c1, cs = [.int .u64 x.f0, .slice A1 x.f1.length c1, .int .u32 x.f2] ∧ x.f1.length ≤ c1 ∧ Kd.F (Kd.int .i64) W ok A1 x.f1.length x.f1 := by
  obtain ⟨A1, c1, rfl, l1, _⟩ := k46_open (Kd.FK_now h)
  exact ⟨A1, c1, rfl, l1, (fun W' hW => by obtain ⟨A1_, c1_, he, l1_, g1_⟩ := k46_open (h W' hW); injection (Option.some.inj (show some (Value.slice A1 x.f1.length c1) = some (Value.slice A1_ x.f1.length c1_) from congrArg (fun l => l[1]?) he)) with ha_ _ _; rw [ha_]; exact g1_)⟩
theorem k46_mkF (W : World) (ok : Nat → Prop) (x : S46) {A1 : Option Addr} {c1 : Nat} (l1 : x.f1.length ≤ c1) (g1 : Kd.F (Kd.int .i64) W ok A1 x.f1.length x.f1) : Kd.FK k46 W ok x [.int .u64 x.f0, .slice A1 x.f1.length c1, .int .u32 x.f2] := fun W2 hW => k46_mk W2 x l1 (g1 W2 hW)
def rd_T46 (xs : List S46) (i : Int) : S46 := xs.getD i.toNat z46
theorem at_T46 {w : World} {A : Option Addr} {n : Nat} {xs : List S46} (h : Kd.C k46 w A n xs) (i : Int) (h0 : 0 ≤ i) (h1 : i < n) : ∃ ad A1 c1, A = some ad ∧ w.cell? (ad.add (i.toNat * 3)) = some (.int .u64 (rd_T46 xs i).f0) ∧ w.cell? ⟨(ad.add (i.toNat * 3)).block, (ad.add (i.toNat * 3)).off + 1, none⟩ = some (.slice A1 (rd_T46 xs i).f1.length c1) ∧ w.cell? ⟨(ad.add (i.toNat * 3)).block, (ad.add (i.toNat * 3)).off + 2, none⟩ = some (.int .u32 (rd_T46 xs i).f2) ∧ (rd_T46 xs i).f1.length ≤ c1 ∧ (Kd.int .i64).C w A1 (rd_T46 xs i).f1.length (rd_T46 xs i).f1 := by
  obtain ⟨ad, c, e, _, hK, hc0⟩ := Kd.C_get h z46 i h0 h1
  have hc : ∀ j u, c[j]? = some u → w.cell? (ad.add (i.toNat * 3 + j)) = some u := hc0
  obtain ⟨A1, c1, rfl, l1, g1⟩ := k46_open hK
  exact ⟨ad, A1, c1, e, hc 0 _ rfl, by rw [← add_field _ _ 1 (by omega)]; exact hc 1 _ rfl, by rw [← add_field _ _ 2 (by omega)]; exact hc 2 _ rfl, l1, g1⟩

def rd_L9 (xs : List (List (List Int))) (i : Int) : (List (List Int)) := xs.getD i.toNat ([] : List (List Int))
theorem at_L9 {w : World} {A : Option Addr} {n : Nat} {xs : List (List (List Int))} (h : Kd.C (Kd.slice 22 (Kd.slice 3 (Kd.int .i64))) w A n xs) (i : Int) (h0 : 0 ≤ i) (h1 : i < n) : ∃ ad A0 c0, A = some ad ∧ w.cell? (ad.add i.toNat) = some (.slice A0 (rd_L9 xs i).length c0) ∧ (rd_L9 xs i).length ≤ c0 ∧ (Kd.slice 3 (Kd.int .i64)).C w A0 (rd_L9 xs i).length (rd_L9 xs i) := by
  obtain ⟨ad, c, e, _, hK, hc0⟩ := Kd.C_get h ([] : List (List Int)) i h0 h1
  have hc : ∀ j u, c[j]? = some u → w.cell? (ad.add (i.toNat * 1 + j)) = some u := hc0
  obtain ⟨A0, c0, rfl, l0, g0⟩ := hK
  exact ⟨ad, A0, c0, e, by have hq := hc 0 _ rfl; rwa [Nat.mul_one, Nat.add_zero] at hq, l0, g0⟩

end Go.Proofs.Ythlhnodedofibaa.F
end

section
/- Plain functions on lists and numbers: what the functions of the program compute. No program in sight. -/
namespace Go.Proofs.Ythlhnodedofibaa.H
theorem getD_toNat {α : Type} (l : List α) (d : α) (i : Nat) (h : i < l.length) : l.getD ((i : Int)).toNat d = l[i]'h := by
  simp [List.getD_eq_getElem?_getD, List.getElem?_eq_getElem h]
theorem drop_at {α : Type} (l : List α) (i : Nat) (h : i < l.length) : l.drop i = l[i]'h :: l.drop (i + 1) := List.drop_eq_getElem_cons h
theorem take_at {α : Type} (l : List α) (i : Nat) (h : i < l.length) : l.take (i + 1) = l.take i ++ [l[i]'h] := by
  rw [List.take_succ_eq_append_getElem h]

theorem decide_cons_eq {x y : Int} {xs ys : List Int} (h : x = y) : decide (x :: xs = y :: ys) = decide (xs = ys) := by subst h; simp
theorem decide_cons_ne {x y : Int} {xs ys : List Int} (h : ¬ x = y) : decide (x :: xs = y :: ys) = false := by simp [h]

/-! ### Layer 01 -/
/-- The m lowest bytes of n, the least first. -/
def putL (n : Int) (m : Nat) : List Int := (List.range m).map fun j => n / 2 ^ (8 * j) % 256
theorem putL_length (n : Int) (m : Nat) : (putL n m).length = m := by simp [putL]
theorem putL_zero (n : Int) : putL n 0 = [] := rfl
theorem pow8 (j : Nat) : (2 : Int) ^ (8 * (j + 1)) = 256 * 2 ^ (8 * j) := by
  rw [show 8 * (j + 1) = 8 * j + 8 from by omega, Int.pow_add]; omega
theorem putL_succ (n : Int) (m : Nat) : putL n (m + 1) = n % 256 :: putL (n / 256) m := by
  unfold putL
  rw [List.range_succ_eq_map, List.map_cons, List.map_map]
  congr 1
  · simp
  · apply List.map_congr_left
    intro j _
    simp only [Function.comp, Nat.succ_eq_add_one]
    rw [pow8, Int.ediv_ediv_of_nonneg (by omega)]
theorem putL_byte (n : Int) (m : Nat) : ∀ c ∈ putL n m, 0 ≤ c ∧ c ≤ 255 := by
  intro c hc
  simp only [putL, List.mem_map] at hc
  obtain ⟨j, _, rfl⟩ := hc
  omega
/-- How many bytes word.Put gives. -/
def putN (a1 : Int) : Nat := (max 0 (min a1 8)).toNat
theorem putN_le (a1 : Int) : putN a1 ≤ 8 := by unfold putN; omega
/-- A number out of its bytes, the least first. -/
def getL : List Int → Int
  | [] => 0
  | c :: cs => c + 256 * getL cs
def bytesB (l : List Int) : Bool := l.all fun c => decide (0 ≤ c) && decide (c ≤ 255)
theorem bytesB_at {l : List Int} (h : bytesB l = true) : ∀ c ∈ l, 0 ≤ c ∧ c ≤ 255 := by
  intro c hc
  have := List.all_eq_true.1 h c hc
  simpa using this
theorem bytesB_of {l : List Int} (h : ∀ c ∈ l, 0 ≤ c ∧ c ≤ 255) : bytesB l = true := by
  refine List.all_eq_true.2 fun c hc => ?_
  have := h c hc
  simpa using this
theorem bytesB_append {a b : List Int} : bytesB (a ++ b) = (bytesB a && bytesB b) := by simp [bytesB]
theorem bytesB_take {l : List Int} (h : bytesB l = true) (n : Nat) : bytesB (l.take n) = true := bytesB_of fun c hc => bytesB_at h c (List.mem_of_mem_take hc)
theorem bytesB_drop {l : List Int} (h : bytesB l = true) (n : Nat) : bytesB (l.drop n) = true := bytesB_of fun c hc => bytesB_at h c (List.mem_of_mem_drop hc)
theorem getL_bound : ∀ (n : Nat) (l : List Int), l.length ≤ n → (∀ c ∈ l, 0 ≤ c ∧ c ≤ 255) → 0 ≤ getL l ∧ getL l < 256 ^ n
  | n, [], _, _ => ⟨by simp [getL], by simpa [getL] using Int.pow_pos (by omega : (0 : Int) < 256)⟩
  | 0, c :: cs, hl, _ => by simp at hl
  | n + 1, c :: cs, hl, h => by
    have h1 := h c (by simp)
    have h2 := getL_bound n cs (by simpa using hl) (fun x hx => h x (by simp [hx]))
    simp only [getL, Int.pow_succ]
    omega
/-- What was put comes back. -/
theorem getL_putL : ∀ (m : Nat) (n : Int), 0 ≤ n → n < 256 ^ m → getL (putL n m) = n
  | 0, n, h0, h1 => by simp [putL, getL] at *; omega
  | m + 1, n, h0, h1 => by
    rw [putL_succ, getL, getL_putL m (n / 256) (by omega) (by rw [Int.pow_succ] at h1; omega)]
    omega
theorem putL_getL : ∀ (m : Nat) (l : List Int), l.length = m → (∀ c ∈ l, 0 ≤ c ∧ c ≤ 255) → putL (getL l) m = l
  | 0, [], _, _ => rfl
  | m + 1, c :: cs, hl, h => by
    have h1 := h c (by simp)
    have hl' : cs.length = m := by simpa using hl
    have hc : ∀ x ∈ cs, 0 ≤ x ∧ x ≤ 255 := fun x hx => h x (by simp [hx])
    have h2 := getL_bound m cs (by omega) hc
    rw [putL_succ, getL, show (c + 256 * getL cs) / 256 = getL cs from by omega, putL_getL m cs hl' hc]
    congr 1
    omega

/-! ### Layer 07 -/
/-- How many words each segment has. -/
def sizesL (a : List (List Int)) : List Int := a.map fun s => (s.length : Int)
theorem sizesL_cons (s : List Int) (a : List (List Int)) : sizesL (s :: a) = (s.length : Int) :: sizesL a := rfl
theorem sizesL_length (a : List (List Int)) : (sizesL a).length = a.length := by simp [sizesL]
/-- How many all have. -/
def wordsL (a : List (List Int)) : Nat := a.flatten.length
theorem wordsL_cons (s : List Int) (a : List (List Int)) : wordsL (s :: a) = s.length + wordsL a := by simp [wordsL]
/-- From n on, so many more fit. -/
def restB (n : Int) (l : List Int) : Bool := l.all (fun x => decide (0 ≤ x)) && decide (n + l.sum ≤ 4096)
theorem sum_nonneg {l : List Int} (h : l.all (fun x => decide (0 ≤ x)) = true) : 0 ≤ l.sum := by
  induction l with
  | nil => simp
  | cons x xs ih =>
    simp only [List.all_cons, Bool.and_eq_true, decide_eq_true_eq] at h
    have := ih h.2
    simp only [List.sum_cons]
    omega
theorem restB_cons (n x : Int) (xs : List Int) : restB n (x :: xs) = if x < 0 then false else if x > 4096 - n then false else restB (n + x) xs := by
  unfold restB
  split
  · rename_i h
    have : decide (0 ≤ x) = false := by simp; omega
    simp [this]
  · split
    · rename_i h1 h2
      by_cases hx : xs.all (fun x => decide (0 ≤ x)) = true
      · have := sum_nonneg hx
        have e : decide (n + (x :: xs).sum ≤ 4096) = false := decide_eq_false (by rw [List.sum_cons]; omega)
        simp only [e, Bool.and_false]
      · simp only [List.all_cons]
        rw [Bool.not_eq_true] at hx
        rw [hx]; simp
    · rename_i h1 h2
      have : decide (0 ≤ x) = true := by simp; omega
      simp only [List.all_cons, this, Bool.true_and, List.sum_cons]
      congr 2
      simp only [eq_iff_iff]
      omega
/-- May so many segments have so many words each? -/
def fitsB (l : List Int) : Bool := decide (1 ≤ l.length) && decide (l.length ≤ 16) && decide (1 ≤ l.getD 0 0) && restB 0 l
def rightB (a : List (List Int)) : Bool := fitsB (sizesL a)
/-- All words' bytes. -/
def bytesL (a : List (List Int)) : List Int := a.flatten.flatMap fun w => putL w 8
theorem bytesL_cons (s : List Int) (a : List (List Int)) : bytesL (s :: a) = (s.flatMap fun w => putL w 8) ++ bytesL a := by simp [bytesL]
theorem flat8_length (s : List Int) : (s.flatMap fun w => putL w 8).length = 8 * s.length := by
  induction s with
  | nil => rfl
  | cons x xs ih => rw [List.flatMap_cons, List.length_append, ih, putL_length, List.length_cons]; omega
theorem bytesL_length (a : List (List Int)) : (bytesL a).length = 8 * wordsL a := flat8_length _
theorem bytesL_byte (a : List (List Int)) : ∀ c ∈ bytesL a, 0 ≤ c ∧ c ≤ 255 := by
  intro c hc
  simp only [bytesL, List.mem_flatMap] at hc
  obtain ⟨w, _, hw⟩ := hc
  exact putL_byte _ _ c hw
/-- Words of 64 bits, and not too many of them. -/
def u64B (x : Int) : Bool := decide (0 ≤ x) && decide (x < 18446744073709551616)
def okA (a : List (List Int)) : Bool := decide (a.length ≤ 1000000) && decide (wordsL a ≤ 1000000) && a.all fun s => s.all u64B
/-- m words out of bytes. -/
def segL : Nat → List Int → List Int
  | 0, _ => []
  | m + 1, b => getL (b.take 8) :: segL m (b.drop 8)
theorem segL_length : ∀ (m : Nat) (b : List Int), (segL m b).length = m
  | 0, _ => rfl
  | m + 1, b => by simp [segL, segL_length m]
theorem segL_snoc : ∀ (m : Nat) (b : List Int), segL (m + 1) b = segL m b ++ [getL ((b.drop (8 * m)).take 8)]
  | 0, b => by simp [segL]
  | m + 1, b => by
    rw [segL, segL_snoc m, segL, List.cons_append, List.drop_drop, show 8 + 8 * m = 8 * (m + 1) from by omega]
def cutWords : List Int → List Int → List (List Int)
  | [], _ => []
  | s :: ss, b => segL s.toNat b :: cutWords ss (b.drop (8 * s.toNat))
def cutL (sizes b : List Int) : List (List Int) × Int :=
  if fitsB sizes = true then if (b.length : Int) = 8 * sizes.sum then (cutWords sizes b, 0) else ([], 10) else ([], 1)
def withinB (sizes : List Int) (seg at_ n : Int) : Bool :=
  decide (0 ≤ seg) && decide (seg < sizes.length) && decide (0 ≤ at_) && decide (0 ≤ n) && decide (at_ + n ≤ sizes.getD seg.toNat 0)
def placeL (sizes : List Int) (seg at_ : Int) : Int :=
  if fitsB sizes = true ∧ withinB sizes seg at_ 1 = true then at_ + (sizes.take seg.toNat).sum else -1
theorem fitsB_at {l : List Int} (h : fitsB l = true) : 1 ≤ l.length ∧ l.length ≤ 16 ∧ 1 ≤ l.getD 0 0 ∧ (∀ x ∈ l, 0 ≤ x) ∧ l.sum ≤ 4096 := by
  simp only [fitsB, restB, Bool.and_eq_true, decide_eq_true_eq] at h
  obtain ⟨⟨⟨h1, h2⟩, h3⟩, h4, h5⟩ := h
  exact ⟨h1, h2, h3, fun x hx => by simpa using List.all_eq_true.1 h4 x hx, by omega⟩
theorem sum_nonneg' {l : List Int} (h : ∀ x ∈ l, 0 ≤ x) : 0 ≤ l.sum := sum_nonneg (List.all_eq_true.2 fun x hx => by simpa using h x hx)
theorem sum_drop_le {l : List Int} (h : ∀ x ∈ l, 0 ≤ x) (i : Nat) : (l.drop i).sum ≤ l.sum := by
  have := List.take_append_drop i l
  have h2 : l.sum = (l.take i).sum + (l.drop i).sum := by rw [← List.sum_append, this]
  have := sum_nonneg' (l := l.take i) (fun x hx => h x (List.mem_of_mem_take hx))
  omega
theorem sum_take_le {l : List Int} (h : ∀ x ∈ l, 0 ≤ x) (i : Nat) : (l.take i).sum ≤ l.sum := by
  have := List.take_append_drop i l
  have h2 : l.sum = (l.take i).sum + (l.drop i).sum := by rw [← List.sum_append, this]
  have := sum_nonneg' (l := l.drop i) (fun x hx => h x (List.mem_of_mem_drop hx))
  omega
theorem mem_le_sum {l : List Int} (h : ∀ x ∈ l, 0 ≤ x) (i : Nat) (hi : i < l.length) : l[i] ≤ l.sum := by
  have h1 := sum_drop_le h i
  rw [drop_at l i hi, List.sum_cons] at h1
  have := sum_nonneg' (l := l.drop (i + 1)) (fun x hx => h x (List.mem_of_mem_drop hx))
  omega
theorem sum_take_succ (l : List Int) (i : Nat) (hi : i < l.length) : (l.take (i + 1)).sum = (l.take i).sum + l[i] := by rw [take_at l i hi, List.sum_append]; simp

/-- Rows that are not too long. -/
def smallA (a : List (List Int)) : Bool := decide (a.length ≤ 1000000) && a.all fun s => decide (s.length ≤ 1000000)
theorem smallA_at {a : List (List Int)} (h : smallA a = true) : a.length ≤ 1000000 ∧ ∀ s ∈ a, s.length ≤ 1000000 := by
  simp only [smallA, Bool.and_eq_true, decide_eq_true_eq] at h
  exact ⟨h.1, fun s hs => by simpa using List.all_eq_true.1 h.2 s hs⟩
theorem dec2_eq {x y : List Int} {xs ys : List (List Int)} (h : x = y) : decide (x :: xs = y :: ys) = decide (xs = ys) := by subst h; simp
theorem dec2_ne {x y : List Int} {xs ys : List (List Int)} (h : ¬ x = y) : decide (x :: xs = y :: ys) = false := by simp [h]

theorem cutWords_snoc : ∀ (s b : List Int) (i : Nat), (∀ x ∈ s, 0 ≤ x) → (h : i < s.length) → cutWords (s.take (i + 1)) b = cutWords (s.take i) b ++ [segL (s[i]'h).toNat (b.drop (8 * ((s.take i).sum).toNat))]
  | [], _, _, _, h => by simp at h
  | x :: s, b, 0, _, _ => by simp [cutWords]
  | x :: s, b, i + 1, hn, h => by
    have h0 := hn x (by simp)
    have h1 := sum_nonneg' (l := s.take i) (fun y hy => hn y (by simp [List.mem_of_mem_take hy]))
    have e := cutWords_snoc s (b.drop (8 * x.toNat)) i (fun y hy => hn y (by simp [hy])) (by simpa using h)
    rw [List.take_succ_cons, cutWords, e, List.take_succ_cons, cutWords, List.cons_append, List.drop_drop, List.sum_cons, List.getElem_cons_succ]
    rw [show 8 * x.toNat + 8 * ((s.take i).sum).toNat = 8 * (x + (s.take i).sum).toNat from by omega]

/-- The i-th piece of n each. -/
def pieceL (l : List Int) (n i : Int) : List Int := if 0 ≤ i ∧ n * i < l.length then (l.drop (n * i).toNat).take n.toNat else []

/-- Pages that may be joined: none is empty or longer than four, all but the last have four. -/
def wholeB : List (List Int) → Bool
  | [] => true
  | x :: r => decide (1 ≤ x.length) && decide (x.length ≤ 4) && (r.isEmpty || decide (4 ≤ x.length)) && wholeB r
def joinL (p : List (List Int)) : List Int × Bool := if wholeB p = true ∧ fitsB p.flatten = true then (p.flatten, true) else ([], false)

/-! ### The statements' own arenas -/
def wordC (c : List Int) (k : Nat) : Int := c.getD (k % c.length) 0 * 4311810305 + k
def sizeC (c : List Int) (i : Nat) : Nat := (if i < c.length then (c.getD i 0 % 12).toNat else 1) + (if i = 0 then 1 else 0)
def segC (c : List Int) (k m : Nat) : List Int := (List.range m).map fun j => wordC c (k + j)
theorem segC_length (c : List Int) (k m : Nat) : (segC c k m).length = m := by simp [segC]
theorem segC_succ (c : List Int) (k m : Nat) : segC c k (m + 1) = segC c k m ++ [wordC c (k + m)] := by simp [segC, List.range_succ]
def arenaC (c : List Int) : Nat → Nat → Nat → List (List Int)
  | 0, _, _ => []
  | m + 1, i, k => segC c k (sizeC c i) :: arenaC c m (i + 1) (k + sizeC c i)
def arenaL (c : List Int) (n : Int) : List (List Int) := arenaC c (1 + (n % 5)).toNat 0 0
theorem sizeC_le (c : List Int) (i : Nat) : sizeC c i ≤ 12 := by unfold sizeC; split <;> split <;> omega
theorem sizeC_pos (c : List Int) : 1 ≤ sizeC c 0 := by unfold sizeC; rw [if_pos rfl]; omega
end Go.Proofs.Ythlhnodedofibaa.H
end

section
namespace Go.Proofs.Ythlhnodedofibaa.F
open Go.RowKit Go.Proofs.YthlhnodedofibaaW.PrintWords Go.Proofs.YthlhnodedofibaaW.PrintLast Go.Proofs.YthlhnodedofibaaW.PrintMore
attribute [local go_sem] max2_int min2_int max_two min_two max_three min_three max_four min_four   -- for this text's walks alone
set_option linter.unusedVariables false
set_option linter.unusedSimpArgs false

open Go.Proofs.Ythlhnodedofibaa.H
/-! ### word_Put: given -/
def word_Put.f (a0 : Int) (a1 : Int) : Option (List Int) := some (putL a0 (putN a1))
theorem putL_step (n : Int) (m k : Nat) (h : k < m) : ((putL n m).take k ++ List.replicate (m - k) 0).set k (n / 2 ^ (8 * k) % 256) = (putL n m).take (k + 1) ++ List.replicate (m - (k + 1)) 0 := by
  apply List.ext_getElem
  · simp [putL]; omega
  · intro i h1 h2
    by_cases e : i = k
    · subst e
      rw [List.getElem_set_self]
      rw [List.getElem_append_left (by simp [putL]; omega)]
      simp [putL]
    · rw [List.getElem_set_ne (by omega)]
      by_cases hlt : i < k
      · rw [List.getElem_append_left (by simp [putL]; omega), List.getElem_append_left (by simp [putL]; omega)]
        simp [putL]
      · rw [List.getElem_append_right (by simp [putL]; omega), List.getElem_append_right (by simp [putL]; omega)]
        simp
set_option maxHeartbeats 1000000 in
set_option maxRecDepth 100000 in
theorem word_Put.calls (a0 : Int) (a1 : Int) (r : List Int) (w : World) (h : word_Put.f a0 a1 = some r) :
    Calls Try.prog 51 #[.int .u64 a0, .int .i64 a1] w fun e w' => ∃ v0_ : Value, e = .returned (v0_) ∧ Kd.R (Kd.int .u8) 5 w' w.heap.size (fun _ => True) v0_ r ∧ Below w.heap.size w w' := by
  obtain rfl := Option.some.inj h
  clear h
  obtain ⟨m, hm⟩ : ∃ m : Nat, putN a1 = m := ⟨_, rfl⟩
  have hm8 : m ≤ 8 := hm ▸ putN_le a1
  have hmx : (max 0 (min a1 8)) = (m : Int) := by rw [← hm]; unfold putN; omega
  have hmn : ∃ q : Int, (if 8 < a1 then 8 else a1) = q ∧ (if 0 < q then q else 0) = (m : Int) := ⟨_, rfl, by split <;> split <;> omega⟩
  obtain ⟨q, hq, hqm⟩ := hmn
  rw [hm]
  clear hmx hm
  have hi := info5
  have hmk : ∀ W : World, (Instr.makeSlice 23 (.int .i64 (m : Int)) (.int .i64 (m : Int))).run Try.prog W = .ok (.slice (some ⟨W.heap.size, 0, none⟩) m m) (W.alloc (.cells (madeCells #[.int .u8 0] m) 5)) := print_make 23 5 .u8 1 Try.underlying23 info5 (by decide) m (by omega)
  have ho0 := own_made w w.heap.size 5 .u8 m (Nat.le_refl _) (by omega)
  go_enter Try.func51, Try.ntmps51
  go_wp2
  go_loopw [13] (fun v wr => ∃ k : Nat, k ≤ m ∧ v = .int .i64 k ∧ Aside0 (wr.ownsRow w.heap.size 5 1 (.slice (some ⟨w.heap.size, 0, none⟩) m m) m (nums .u8 ((putL a0 m).take k ++ List.replicate (m - k) 0))) ∧ Aside0 (Below w.heap.size w wr))
    (fun v _ => m - (intOf v).toNat)
  case atStart => exact ⟨0, Nat.zero_le _, rfl, ⟨by simpa using ho0⟩, ⟨(Below.refl _ _).alloc (Nat.le_refl _) _⟩⟩
  case round =>
    obtain ⟨k, hk, rfl, HO, HB⟩ := hrel
    by_cases hlt : k < m
    · obtain ⟨hx, hf⟩ := own_at HO.out (k : Int) (by omega) (by omega)
      have hst := own_store HO.out (k : Int) (a0 / 2 ^ (8 * k) % 256)
      rw [Int.toNat_natCast] at hx hf hst
      rw [putL_step _ _ _ hlt] at hst
      have HS := Aside0.mk hst
      clear hst
      go_wp2
      go_roundw
      case rel => exact ⟨k + 1, by omega, by go_num, ⟨HS.out.1⟩, ⟨HB.out.setCell (p := ⟨w.heap.size, k, none⟩) (Nat.le_refl _) _⟩⟩
      case measure => simp [intOf]; omega
    · obtain rfl : k = m := by omega
      go_wp2
      go_ret
      have ho := HO.out
      rw [List.take_of_length_le (by rw [putL_length]; exact Nat.le_refl _), Nat.sub_self] at ho
      exact ⟨_, rfl, Kd.R_of_own (enc := Value.int .u8) (by rw [putL_length]; simpa [nums, encs] using ho) (fun _ _ => trivial), HB.out⟩

end Go.Proofs.Ythlhnodedofibaa.F
end

section
/- What every hand-proved function of this seat that ranges over an iterator leans on: a relation on worlds ('Kset': below a bound all blocks but some named ones lie as they lay) and small lemmas. -/
namespace Go.Proofs.Ythlhnodedofibaa.H
open Go.RowKit Go.Shelf
open Go.Proofs.YthlhnodedofibaaW.PrintWords

/-- Below B all blocks but those of S lie as they lay; the streams are as they were; no block has gone. -/
structure Kset (B : Nat) (S : Nat → Prop) (w w' : World) : Prop where
  os : w'.os = w.os
  tape : w'.tape = w.tape
  output : w'.output = w.output
  size : w.heap.size ≤ w'.heap.size
  block : ∀ k, k < B → ¬ S k → w'.heap[k]? = w.heap[k]?

theorem Kset.refl (B : Nat) (S : Nat → Prop) (w : World) : Kset B S w w := ⟨rfl, rfl, rfl, Nat.le_refl _, fun _ _ _ => rfl⟩
theorem Kset.trans {B : Nat} {S : Nat → Prop} {a b c : World} (h : Kset B S a b) (k : Kset B S b c) : Kset B S a c :=
  ⟨k.os.trans h.os, k.tape.trans h.tape, k.output.trans h.output, Nat.le_trans h.size k.size, fun i hi hs => (k.block i hi hs).trans (h.block i hi hs)⟩
theorem Kset.of_below {B : Nat} {S : Nat → Prop} {a b : World} (h : Below B a b) : Kset B S a b := ⟨h.os, h.tape, h.output, h.size, fun k hk _ => h.block k hk⟩
theorem Kset.below {B C : Nat} {S : Nat → Prop} {a b : World} (h : Kset B S a b) (hC : C ≤ B) (hS : ∀ k, S k → C ≤ k) : Below C a b :=
  ⟨h.os, h.tape, h.output, h.size, fun k hk => h.block k (by omega) (fun hs => by have := hS k hs; omega)⟩
theorem Kset.cell {B : Nat} {S : Nat → Prop} {a b : World} (h : Kset B S a b) {p : Addr} (hp : p.block < B) (hs : ¬ S p.block) : b.cell? p = a.cell? p := World.cell?_of_block (w := a) (h.block p.block hp hs)
theorem Kset.setCell {B : Nat} {S : Nat → Prop} {a b : World} (h : Kset B S a b) {p : Addr} (hp : S p.block ∨ B ≤ p.block) (u : Value) : Kset B S a (b.setCell p u) :=
  h.trans ⟨rfl, rfl, rfl, by simp [World.setCell], fun k hk hs => Below.heap_setCell _ _ _ _ (fun e => by subst e; rcases hp with hp | hp; exact hs hp; omega)⟩
theorem Kset.alloc {B : Nat} {S : Nat → Prop} {a b : World} (h : Kset B S a b) (hB : B ≤ b.heap.size) (o : Obj) : Kset B S a (b.alloc o) :=
  h.trans ⟨rfl, rfl, rfl, by simp, fun k hk _ => Below.heap_alloc _ _ _ (by omega)⟩
theorem Kset.drew {B : Nat} {S : Nat → Prop} {a b : World} (h : Kset B S a b) : Kset B S a b.drew := ⟨h.os, h.tape, h.output, h.size, h.block⟩
theorem Kset.grown {B : Nat} {S : Nat → Prop} {a w w' : World} {row : Option Nat} (h : Kset B S a w) (hg : w.grownBy w' row) (hB : B ≤ w.heap.size) (hr : ∀ k, row = some k → S k ∨ B ≤ k) : Kset B S a w' :=
  h.trans ⟨hg.os, hg.tape, hg.output, hg.size, fun k hk hs => hg.block k (by omega) (fun e => by rcases hr k e.symm with h | h; exact hs h; omega)⟩
theorem ksetK_t {n₀ : Nat} {S : Nat → Prop} {A B C : World} (h : Kset n₀ S A B) (k : Kset n₀ S B C) : Kset n₀ S A C := h.trans k
theorem ksetK_b {n₀ : Nat} {S : Nat → Prop} {w : World} (hn : n₀ ≤ w.heap.size) (W : World) (l : Nat) (o o' : Obj) (hl : w.heap.size ≤ l) (h : W.heap[l]? = some o) (_ : o.isCells = false) (_ : o.isWalk = false) : Kset n₀ S W (W.putObj l o') :=
  (Kset.refl n₀ S W).grown (grownBy_putObj' W l o') (by have := (Array.getElem?_eq_some_iff.1 h).1; omega) (fun k e => by cases e; right; omega)
theorem ownFrom_kset {β : Type} {n₀ B : Nat} {S : Nat → Prop} {w : World} (h : n₀ ≤ B) (hw : n₀ ≤ w.heap.size) : OwnFrom B (fun (_ : β) W => Kset n₀ S w W) :=
  fun _ X Y row hs hg hr => hs.trans ⟨hg.os, hg.tape, hg.output, hg.size, fun k hk _ => hg.block k (by have := hs.size; omega) (fun e => by have := (hr k e.symm).1; omega)⟩

/-- What has been read of a row that lies below B and is none of S is still there. -/
theorem C_kset {α : Type} {d : Kd α} {B : Nat} {S : Nat → Prop} {w w' w1 : World} {A : Option Addr} {n : Nat} {xs : List α} (h : d.C w A n xs) (hb : Below w.heap.size w w1) (hk : Kset B S w1 w') (hB : w.heap.size ≤ B) (hS : ∀ k, S k → w.heap.size ≤ k) : d.C w' A n xs :=
  Kd.C_below h (hb.trans (hk.below hB hS))

/-! ### A region that draws its order, within a round: op by op -/
section
variable {P : Program} {ops : Array Oper} {Q : Exit → Act → World → Prop} {K : Act → World → Prop} {o : Oper} {a : Act} {w w1 : World} {n l : Nat}
/-- What an operation of a round comes to: one that gives a value. -/
theorem stepIn_value {v : Value} (hg : o.guard = none) (hd : ∀ c, o.op ≠ .defer c) (hrun : (execOp a.eval o).run P w = .ok (.value v) w1) (h : K (a.put o.dst v) w1) :
    if Region.wanted o (yielded ops a.tmps) = true then Oper.wpIn (Fence.wide.inRound l) n P o a w K Q else (∀ f, o.about P w a.eval = some f → (Fence.wide.inRound l).fn f) ∧ K (a.put o.dst undef) w := by
  have hw : Region.wanted o (yielded ops a.tmps) = true := by simp [Region.wanted, hg]
  rw [if_pos hw]
  refine ⟨fun _ _ => trivial, ?_⟩
  have e : o.semAt (Fence.wide.inRound l).round a.eval = execOp a.eval o := Oper.semAt_eq _ _ _ hd
  rw [e, hrun]
  exact h
/-- One that gives none. -/
theorem stepIn_skip (hg : o.guard = none) (hd : ∀ c, o.op ≠ .defer c) (hrun : (execOp a.eval o).run P w = .ok .skip w1) (h : K (a.put o.dst undef) w1) :
    if Region.wanted o (yielded ops a.tmps) = true then Oper.wpIn (Fence.wide.inRound l) n P o a w K Q else (∀ f, o.about P w a.eval = some f → (Fence.wide.inRound l).fn f) ∧ K (a.put o.dst undef) w := by
  have hw : Region.wanted o (yielded ops a.tmps) = true := by simp [Region.wanted, hg]
  rw [if_pos hw]
  refine ⟨fun _ _ => trivial, ?_⟩
  have e : o.semAt (Fence.wide.inRound l).round a.eval = execOp a.eval o := Oper.semAt_eq _ _ _ hd
  rw [e, hrun]
  exact h
/-- One that calls a function. -/
theorem stepIn_call {f : FuncId} {args : Array Value} {R : Ending → World → Prop} (hg : o.guard = none) (hd : ∀ c, o.op ≠ .defer c) (hrun : (execOp a.eval o).run P w = .ok (.enter f args) w1) (hc : Calls P f args w1 R)
    (h : ∀ e w', R e w' → ∃ v, e = .returned v ∧ K (a.put o.dst v) w') :
    if Region.wanted o (yielded ops a.tmps) = true then Oper.wpIn (Fence.wide.inRound l) n P o a w K Q else (∀ f, o.about P w a.eval = some f → (Fence.wide.inRound l).fn f) ∧ K (a.put o.dst undef) w := by
  have hw : Region.wanted o (yielded ops a.tmps) = true := by simp [Region.wanted, hg]
  rw [if_pos hw]
  refine ⟨fun _ _ => trivial, ?_⟩
  have e : o.semAt (Fence.wide.inRound l).round a.eval = execOp a.eval o := Oper.semAt_eq _ _ _ hd
  rw [e, hrun]
  refine ⟨fun h => by simp [Fence.inRound, Fence.wide] at h, CallsIn.inRound l (CallsIn.mono (callsIn_wide.2 hc) fun e w' hR => ?_)⟩
  obtain ⟨v, rfl, hk⟩ := h e w' hR
  exact hk
end

theorem keepsOthers_below {W w2 : World} (h : Below W.heap.size W w2) : KeepsOthers W w2 :=
  ⟨h.size, fun k _ hk _ => (h.block k (Array.getElem?_eq_some_iff.1 hk).1).trans hk⟩
theorem keepsOthers_own {W w1 : World} {base n : Nat} {e : TypeId} {size : Nat} {v : Value} {xs : List Value} (ho : W.ownsRow base e size v n xs) (hg : W.grownBy w1 v.ownBlock) : KeepsOthers W w1 :=
  KeepsOthers.of_grownBy hg fun j o ej hj => by
    obtain ⟨cells, hc⟩ := own_typed ho j ej
    rw [hc] at hj; cases hj; rfl

/-- 'append(v, ys...)', v a row of the call's own, ys a slice that is read: what the operation comes to. -/
theorem append_row_run {P : Program} {W : World} (base : Nat) {t ty e : TypeId} {k : IntKind} {bytes : Nat}
    (ht : P.underlying t = some (.slice e)) (hinfo : (P.info? e).map (fun i => (i.zero, i.size, i.bytes)) = some (some (.int k 0), 1, bytes)) (hb0 : 0 < bytes)
    (v : Value) (xs ys : List Int) (A : Option Addr) (m c : Nat)
    (HO : W.ownsRow base e 1 v xs.length (nums k xs)) (HR : ReadsInt W k A m ys) (hbase : base ≤ W.heap.size) (hl : (xs.length + m) * bytes ≤ 140737488355328) :
    ∃ v1 w1, (Builtin.append_ #[t, t] ty #[v, .slice A m c]).run P W = .ok v1 w1 ∧ w1.ownsRow base e 1 v1 (xs ++ ys).length (nums k (xs ++ ys)) ∧ W.grownBy w1 v.ownBlock ∧ (v1.ownBlock = v.ownBlock ∨ v1.ownBlock = some W.heap.size) := by
  obtain ⟨i0, hi, hzz⟩ := Option.map_eq_some_iff.1 hinfo
  simp only [Prod.mk.injEq] at hzz
  obtain ⟨hz0, hz1, hz2⟩ := hzz
  have hm : ys.length = m := HR.1
  have hlen : xs.length + m ≤ 140737488355328 := Nat.le_trans (Nat.le_mul_of_pos_right _ hb0) hl
  rcases A with _ | ad
  · have h0 : m = 0 := by
      rcases Nat.eq_zero_or_pos m with h0 | h0
      · exact h0
      · obtain ⟨ad, h, _⟩ := HR.2.2 h0
        cases h
    subst h0
    obtain rfl : ys = [] := List.eq_nil_of_length_eq_zero hm
    refine ⟨v, W, ?_, by simpa using HO, World.grownBy.refl W _, .inl rfl⟩
    rcases HO.2 with ⟨rfl, hn⟩ | ⟨g, cap, cur, rfl, _, _, hnc, _⟩
    · simp [Builtin.append_, run_underlying ht, sizeOf, typeInfo, hi, Builtin.lenOf, Builtin.firstCells]
    · simp [Builtin.append_, run_underlying ht, sizeOf, typeInfo, hi, Builtin.lenOf, Builtin.firstCells, hnc, storeCells]
  · have hcells : ∀ j u, (nums k ys)[j]? = some u → W.cell? (ad.add j) = some u := by
      intro j u hu
      have hj : j < ys.length := by
        rcases Nat.lt_or_ge j ys.length with h | h
        · exact h
        · simp [nums, List.getElem?_eq_none h] at hu
      obtain ⟨ad', h', hc⟩ := HR.2.2 (by omega)
      injection h' with h'
      subst h'
      have := hc j (by omega)
      simp [nums, List.getElem?_eq_getElem hj] at hu
      subst hu
      rw [this]
      simp [List.getD_eq_getElem?_getD, List.getElem?_eq_getElem hj]
    obtain ⟨v1, w1, hr, h2, h3, _, h5⟩ := run_append_own_at (P := P) W base t ty e i0 (.int k 0) 1 bytes ht hi hz0 hz1 hz2 rfl (by omega) v xs.length (nums k xs) HO ad m c (nums k ys) (by simp [nums, hm]) hcells
      (by intro u hu; simp only [nums, List.mem_map] at hu; obtain ⟨q, _, rfl⟩ := hu; rfl) (by simp only [maxLen]; omega) hl hbase
    exact ⟨v1, w1, hr, by simpa [nums, hm] using h2, h3, h5⟩

theorem results_cell1 {P : Program} {fn : Func} {p : Tmp} {ty e : TypeId} (h : fn.results = #[.cell p ty]) (tmps : Array Value) (w : World) (g : Nat) (v : Value) (hp : tmps.getD p undef = .pointer (some ⟨g, 0, none⟩)) (hc : w.cell? ⟨g, 0, none⟩ = some v)
    (hu : P.underlying ty = some (.slice e)) : (results fn tmps).run P w = .ok v w := by
  have hp' : tmps[p]?.getD undef = .pointer (some ⟨g, 0, none⟩) := by simpa using hp
  simp [results, h, hp', asAddr, loadVar, isAgg, run_underlying hu, go_sem, hc]
end Go.Proofs.Ythlhnodedofibaa.H
end

section
/- arena.words: the closure's contract for whatever loop body keeps the arena. -/
namespace Go.Proofs.Ythlhnodedofibaa.H
open Go.RowKit Go.Shelf
open Go.Proofs.YthlhnodedofibaaW.PrintWords
open Go.Proofs.Ythlhnodedofibaa.F (at_L3 rd_L3)
attribute [local go_sem] Oper.semAt_some

/-- What comes: the words in order, each with its place. -/
def upW (xs : List Int) (k : Nat) : List (Int × Int) := (List.range k).map fun (j : Nat) => ((j : Int), rd xs j)
theorem upW_succ (xs : List Int) (k : Nat) : upW xs (k + 1) = upW xs k ++ [((k : Int), rd xs k)] := by simp [upW, List.range_succ]
theorem upW_length (xs : List Int) (k : Nat) : (upW xs k).length = k := by simp [upW]

theorem words_in (a : Option Addr) (len cap : Nat) (w : World) :
    CallsIn Fence.wide 9 Try.prog 50 #[.slice a len cap] w fun e w' => e = .returned (.func (.func 72) #[] #[.pointer (some ⟨w.heap.size, 0, none⟩)]) ∧ w' = w.alloc (.cells #[.slice a len cap] 26) := by
  refine callsIn_of_wp Try.func50 rfl trivial ?_ rfl
  simp only [Try.ntmps50, List.size_toArray, List.length_cons, List.length_nil, Nat.reduceAdd, Nat.reduceSub, Array.replicate_succ, Array.replicate_zero, List.push_toArray, List.append_toArray, List.nil_append, List.cons_append]
  gi_wp2
  go_ret
  exact ⟨rfl, rfl⟩

/-- How many words lie ahead of segment i. -/
def offW (a : List (List Int)) (i : Nat) : Nat := (a.take i).flatten.length
theorem offW_succ (a : List (List Int)) (i : Nat) (h : i < a.length) : offW a (i + 1) = offW a i + (a[i]).length := by
  unfold offW; rw [take_at a i h, List.flatten_append, List.length_append]; simp
theorem offW_all (a : List (List Int)) : offW a a.length = a.flatten.length := by unfold offW; rw [List.take_length]
theorem offW_le (a : List (List Int)) (i : Nat) : offW a i ≤ a.flatten.length := by
  have h : a.flatten.length = (a.take i).flatten.length + (a.drop i).flatten.length := by rw [← List.length_append, ← List.flatten_append, List.take_append_drop]
  unfold offW; omega
theorem rd_flat (a : List (List Int)) (i j : Nat) (h : i < a.length) (hj : j < (a[i]).length) : rd a.flatten ((offW a i + j : Nat) : Int) = rd (a[i]) j := by
  have e : a.flatten = (a.take i).flatten ++ ((a[i]) ++ (a.drop (i + 1)).flatten) := by
    conv => lhs; rw [← List.take_append_drop i a, drop_at a i h]
    rw [List.flatten_append, List.flatten_cons]
  unfold rd
  rw [e, Int.toNat_natCast, Int.toNat_natCast, List.getD_eq_getElem?_getD, List.getD_eq_getElem?_getD]
  rw [List.getElem?_append_right (by unfold offW; omega), List.getElem?_append_left (by unfold offW; omega)]
  congr 2
  unfold offW; omega

set_option maxRecDepth 100000 in
set_option maxHeartbeats 4000000 in
theorem words1_in (l Bs n₀ : Nat) (S : Nat → Prop) (A : Option Addr) (cap : Nat) (a : List (List Int)) (ha : a.length ≤ 1000000) (hw : a.flatten.length ≤ 1000000) (J Jx : List (Int × Int) → World → Prop)
    (hY : ∀ pre x W, J pre W → pre.length < a.flatten.length → YieldAt Fence.wide 8 Try.prog l #[.int .i64 x.1, .int .u64 x.2] W fun e W' =>
      (e = .returned (.bool true) ∧ J (pre ++ [x]) W' ∧ Kset n₀ S W W') ∨ (e = .returned (.bool false) ∧ Jx (pre ++ [x]) W'))
    (W w0 : World) (hBs : W.cell? ⟨Bs, 0, none⟩ = some (.slice A a.length cap)) (hC : (Kd.slice 42 (Kd.int .u64)).C w0 A a.length a) (hB : ∀ W', Kset n₀ S W W' → Below w0.heap.size w0 W') (h0 : J [] W) :
    CallsIn Fence.wide 9 Try.prog 72 #[.func (.yield l) #[] #[], .pointer (some ⟨Bs, 0, none⟩)] W fun e W' => (∃ v, e = .returned v) ∧
      ((∃ ys, ys = upW a.flatten a.flatten.length ∧ J ys W') ∨ (∃ pre, (∃ k, k ≤ a.flatten.length ∧ pre = upW a.flatten k) ∧ Jx pre W')) := by
  refine callsIn_of_wp Try.func72 rfl trivial ?_ rfl
  simp only [Try.ntmps72, List.size_toArray, List.length_cons, List.length_nil, Nat.reduceAdd, Nat.reduceSub, Array.replicate_succ, Array.replicate_zero, List.push_toArray, List.append_toArray, List.nil_append, List.cons_append]
  gi_wp2
  gi_loopw [3, 10] (fun vat vi wr => ∃ i : Nat, i ≤ a.length ∧ vi = .int .i64 i ∧ vat = .int .i64 (offW a i) ∧ J (upW a.flatten (offW a i)) wr ∧ Kset n₀ S W wr)
    (fun _ vi _ => a.length - (intOf vi).toNat)
  case atStart => exact ⟨0, Nat.zero_le _, rfl, rfl, h0, Kset.refl _ _ _⟩
  case round =>
    obtain ⟨i, hi, rfl, rfl, hJs, hnx⟩ := hrel
    obtain ⟨wo, rfl⟩ : ∃ wo : World, wo = wr := ⟨_, rfl⟩
    by_cases hlt : i < a.length
    · obtain ⟨ad, A0, c0, e0, hc1, hl0, hC0⟩ := at_L3 hC i (by omega) (by omega)
      have er : rd_L3 a i = a[i] := getD_toNat a [] i hlt
      have hrf : ∀ j, j < (a[i]).length → rd a.flatten ((offW a i + j : Nat) : Int) = rd (a[i]) j := fun j hj => rd_flat a i j hlt hj
      have hoff := offW_succ a i hlt
      have hofl := offW_le a (i + 1)
      rw [er] at hc1 hl0 hC0
      obtain ⟨s, hs⟩ : ∃ s, a[i] = s := ⟨_, rfl⟩
      rw [hs] at hc1 hl0 hC0 hrf hoff
      rw [Int.toNat_natCast] at hc1
      subst e0
      have hc0 := pw_cell_below (hB wo hnx) hc1
      have HO : Hid _ := hoff
      have HRF : Hid _ := hrf
      have hsl : offW a i + s.length ≤ 1000000 := by omega
      clear hoff er hs hc1 hrf
      gi_wp2
      gi_loopw [3, 16] (fun vat vj wr => ∃ j : Nat, j ≤ s.length ∧ vj = .int .i64 j ∧ vat = .int .i64 ((offW a i + j : Nat) : Int) ∧ J (upW a.flatten (offW a i + j)) wr ∧ Kset n₀ S W wr)
        (fun _ vj _ => s.length - (intOf vj).toNat)
      case atStart => exact ⟨0, Nat.zero_le _, rfl, rfl, hJs, hnx⟩
      case round =>
        obtain ⟨j, hj, rfl, rfl, hJ2, hn2⟩ := hrel
        by_cases hlt2 : j < s.length
        · obtain ⟨ad2, hA2, hcx⟩ := ReadsInt.at_ (Kd.reads_of_C (d := (0 : Int)) (Kd.C_below hC0 (hB wr hn2))) (j : Int) (by omega) (by omega)
          rw [Int.toNat_natCast] at hcx
          obtain ⟨fn, tmps, assign, body, hy, hR⟩ := hY _ (((offW a i + j : Nat) : Int), rd s j) wr hJ2 (by rw [upW_length]; have := HO.out; omega)
          dsimp only at hy
          rw [Int.natCast_add] at hy
          rw [← HRF.out j hlt2, ← upW_succ] at hR
          subst hA2
          gi_wp2
          refine hR.mono ?_
          rintro e W3 (⟨rfl, hJ3, hk3⟩ | ⟨rfl, hJx3⟩)
          · gi_wp2
            go_roundw
            case rel => exact ⟨j + 1, by omega, by go_num, by congr 1, hJ3, hn2.trans hk3⟩
            case measure => simp [intOf]; omega
          · gi_wp2
            refine bodyPost_ret (results_none rfl _ _ _) rfl ?_
            exact ⟨⟨_, rfl⟩, .inr ⟨_, ⟨offW a i + j + 1, by have := HO.out; omega, rfl⟩, hJx3⟩⟩
        · obtain rfl : j = s.length := by omega
          gi_wp2
          go_roundw
          case rel => exact ⟨i + 1, by omega, by go_num, by rw [HO.out], by rw [HO.out]; exact hJ2, hn2⟩
          case measure => simp [intOf]; omega
    · obtain rfl : i = a.length := by omega
      gi_wp2
      go_end0
      refine ⟨⟨_, rfl⟩, .inl ⟨_, rfl, ?_⟩⟩
      rw [← offW_all]
      exact hJs

end Go.Proofs.Ythlhnodedofibaa.H
end

section
namespace Go.Proofs.Ythlhnodedofibaa.F
open Go.RowKit Go.Proofs.YthlhnodedofibaaW.PrintWords Go.Proofs.YthlhnodedofibaaW.PrintLast Go.Proofs.YthlhnodedofibaaW.PrintMore
attribute [local go_sem] max2_int min2_int max_two min_two max_three min_three max_four min_four   -- for this text's walks alone
set_option linter.unusedVariables false
set_option linter.unusedSimpArgs false

open Go.Shelf Go.Proofs.Ythlhnodedofibaa.H
attribute [local go_sem] Oper.semAt_some
/-! ### arena_Bytes: given -/
def bytesOut (pre : List (Int × Int)) : List Int := pre.flatMap fun x => putL x.2 8
theorem bytesOut_snoc (pre : List (Int × Int)) (x : Int × Int) : bytesOut (pre ++ [x]) = bytesOut pre ++ putL x.2 8 := by simp [bytesOut]
theorem bytesOut_length (pre : List (Int × Int)) : (bytesOut pre).length = 8 * pre.length := by
  induction pre with
  | nil => rfl
  | cons x xs ih => rw [bytesOut, List.flatMap_cons, List.length_append, ← bytesOut, ih, putL_length, List.length_cons]; omega
theorem bytesOut_up (xs : List Int) : ∀ k, k ≤ xs.length → bytesOut (upW xs k) = (xs.take k).flatMap fun w => putL w 8
  | 0, _ => rfl
  | k + 1, h => by
    rw [upW_succ, bytesOut_snoc, bytesOut_up xs k (by omega), take_at xs k (by omega), List.flatMap_append]
    rw [show rd xs (k : Int) = xs[k] from getD_toNat xs 0 k (by omega)]
    simp
def arena_Bytes.f (l0 : List (List Int)) : Option (List Int) := if l0.length ≤ 1000000 ∧ wordsL l0 ≤ 1000000 then some (bytesL l0) else none
set_option maxHeartbeats 1000000 in
set_option maxRecDepth 100000 in
theorem arena_Bytes.calls (A0 : Option Addr) (c0 : Nat) (l0 : List (List Int)) (r : List Int) (w : World) (hr0 : Kd.C (Kd.slice 42 (Kd.int .u64)) w A0 l0.length l0) (hc0 : l0.length ≤ c0) (h : arena_Bytes.f l0 = some r) :
    Calls Try.prog 17 #[.slice A0 l0.length c0] w fun e w' => ∃ v0_ : Value, e = .returned (v0_) ∧ Kd.R (Kd.int .u8) 5 w' w.heap.size (fun _ => True) v0_ r ∧ Below w.heap.size w w' := by
  unfold arena_Bytes.f at h
  split at h
  case isFalse => cases h
  case isTrue hb =>
  obtain rfl := Option.some.inj h
  clear h
  obtain ⟨ha, hw⟩ := hb
  unfold wordsL at hw
  refine (callsIn_wide (n := 10)).1 ?_
  refine callsIn_of_wp_marks Try.func17 rfl trivial ?_ rfl
  simp only [Try.ntmps17, List.size_toArray, List.length_cons, List.length_nil, Nat.reduceAdd, Nat.reduceSub, Array.replicate_succ, Array.replicate_zero, List.push_toArray, List.append_toArray, List.nil_append, List.cons_append]
  gi_wp2_with (refine ⟨trivial, ?_⟩; gi_at_call 50; refine (words_in _ _ _ _).mono ?_; rintro e w' ⟨rfl, rfl⟩)
  have bN := Boxed.new w 23 (.slice none 0 0)
  have bS := Boxed.new (w.alloc (.cells #[.slice none 0 0] 23)) 26 (.slice A0 l0.length c0)
  rw [World.size_alloc] at bS
  have hB0 : Below w.heap.size w ((w.alloc (.cells #[.slice none 0 0] 23)).alloc (.cells #[.slice A0 l0.length c0] 26)) := ((Below.refl _ w).alloc (Nat.le_refl _) _).alloc (by simp) _
  refine wpIn_rangeFunc_ownG (F := Fence.wide) (n := 10) rfl (by omega) (gf := 72) (lb := #[.pointer (some ⟨w.heap.size + 1, 0, none⟩)]) rfl trivial (enters_of Try.func72 (by kernel_rfl) rfl)
    (encs := fun x : Int × Int => #[.int .i64 x.1, .int .u64 x.2]) (Kp := Kset (w.heap.size + 2) (fun k => k = w.heap.size)) (S := fun ys => ys = upW l0.flatten l0.flatten.length) (Sp := fun _ => True) (N := l0.flatten.length)
    (w0 := (w.alloc (.cells #[.slice none 0 0] 23)).alloc (.cells #[.slice A0 l0.length c0] 26)) ?seq ksetK_t (ksetK_b (by simp)) (Below.refl _ _) (fun _ => rfl)
    (fun pre W => (∃ v, Boxed W w.heap.size 23 v ∧ W.ownsRow (w.heap.size + 2) 5 1 v (bytesOut pre).length (nums .u8 (bytesOut pre)) ∧ True) ∧ Kset (w.heap.size + 2) (fun k => k = w.heap.size) ((w.alloc (.cells #[.slice none 0 0] 23)).alloc (.cells #[.slice A0 l0.length c0] 26)) W)
    (fun _ _ _ => False) ?own (fun _ _ _ _ _ hs _ _ => hs) ?start
    (fun x => { tmps := #[.slice A0 l0.length c0, undef, .slice none 0 0, .pointer (some ⟨w.heap.size, 0, none⟩), undef, .int .u64 x.2, .slice A0 l0.length c0, .func (.func 72) #[] #[.pointer (some ⟨w.heap.size + 1, 0, none⟩)], .int .i64 x.1, .int .u64 x.2, undef, undef, undef, undef, undef], defers := [] }) ?assign ?body ?done ?stop
  case seq =>
    intro l J Jx W hW hJ hJx hY h0
    refine (words1_in l (w.heap.size + 1) (w.heap.size + 2) (fun k => k = w.heap.size) A0 c0 l0 ha hw J Jx hY W w ((hW.cell (p := ⟨w.heap.size + 1, 0, none⟩) (by simp)).trans bS.cell) hr0 (fun W' hk => (hB0.trans (hW.mono (by simp; omega))).trans (hk.below (by omega) (fun k e => by omega))) h0).mono ?_
    rintro e W' ⟨he, ⟨ys, rfl, hj⟩ | ⟨pre, _, hj⟩⟩
    · exact ⟨he, .inl ⟨_, rfl, hj⟩⟩
    · exact ⟨he, .inr ⟨_, trivial, hj⟩⟩
  case own => exact OwnFrom.and (Own.from (holdsRow_own _ _ _ _ _ _ _ _) _) (ownFrom_kset (by simp) (by simp))
  case start => exact ⟨⟨_, bN.alloc _, World.ownsRow_nil _ _ _ _, trivial⟩, Kset.refl _ _ _⟩
  case assign =>
    intro l x W K hK
    gi_wp2
    exact hK
  case body =>
    rintro l pre x W ⟨⟨v, hb, ho, -⟩, hk⟩ hlen
    have hc := hb.cell
    have hf := hb.frozen
    have hpl : pre.length ≤ 1000000 := by omega
    gi_wp2
    have hown : ∀ w2, Below W.heap.size W w2 → Boxed w2 w.heap.size 23 v ∧ w2.ownsRow (w.heap.size + 2) 5 1 v (bytesOut pre).length (nums .u8 (bytesOut pre)) := fun w2 hb2 =>
      ⟨(hb2.block _ hb.lt).trans hb, pw_own_below ho hb2⟩
    have hlen8 : (bytesOut pre).length ≤ 8000000 := by rw [bytesOut_length]; omega
    have hsz : w.heap.size + 2 ≤ W.heap.size := by have := hk.size; simp at this; omega
    refine wpIn_region_any (by kernel_rfl) ?_
    change wpAnyIn _ _ _ _ _ _ _ _ _ (World.drew W)
    -- behind the load, the move and the call, in whatever order
    have tail : ∀ (pv : Value) (w2 : World), Below W.heap.size W w2 → Kd.R (Kd.int .u8) 5 w2 W.heap.size (fun _ => True) pv (putL x.2 8) → ∀ Q, (∀ a w', ownPostG ((w.alloc (.cells #[.slice none 0 0] 23)).alloc (.cells #[.slice A0 l0.length c0] 26)).heap.size (Kset (w.heap.size + 2) (fun k => k = w.heap.size)) (fun pre W => (∃ v, Boxed W w.heap.size 23 v ∧ W.ownsRow (w.heap.size + 2) 5 1 v (bytesOut pre).length (nums .u8 (bytesOut pre)) ∧ True) ∧ Kset (w.heap.size + 2) (fun k => k = w.heap.size) ((w.alloc (.cells #[.slice none 0 0] 23)).alloc (.cells #[.slice A0 l0.length c0] 26)) W) (fun _ _ _ => False) (pre ++ [x]) W .normal a w' → Q .normal a w') →
        wpAnyIn (Fence.wide.inRound l) 8 Try.prog .any
          #[{ dst := some 10, op := Op.load 23 (Operand.tmp 3), type := 23, pos := "arena.go:98", after := #[], guard := none },
            { dst := some 11, op := Op.move (Operand.tmp 5), type := 42, pos := "arena.go:98", after := #[], guard := none },
            { dst := some 12, op := Op.call { callee := Callee.value (Operand.func 51), args := #[Operand.tmp 11, Operand.const (Value.int IntKind.i64 8)], argTypes := #[42, 3] }, type := 23, pos := "arena.go:98", after := #[{ on := 1, ground := Ground.data }], guard := none },
            { dst := some 13, op := Op.call { callee := Callee.builtin Builtin.append, args := #[Operand.tmp 10, Operand.tmp 12], argTypes := #[23, 23] }, type := 23, pos := "arena.go:98", after := #[{ on := 0, ground := Ground.data }, { on := 2, ground := Ground.data }, { on := 2, ground := Ground.chain }], guard := none },
            { dst := none, op := Op.store 23 (Operand.tmp 3) (Operand.tmp 13), type := 0, pos := "arena.go:98", after := #[{ on := 3, ground := Ground.data }, { on := 3, ground := Ground.chain }, { on := 0, ground := Ground.phase }, { on := 1, ground := Ground.phase }, { on := 2, ground := Ground.phase }, { on := 3, ground := Ground.phase }], guard := none }]
          Q 2 #[true, true, true, false, false]
          { tmps := #[.slice A0 l0.length c0, undef, .slice none 0 0, .pointer (some ⟨w.heap.size, 0, none⟩), undef, .int .u64 x.2, .slice A0 l0.length c0, .func (.func 72) #[] #[.pointer (some ⟨w.heap.size + 1, 0, none⟩)], .int .i64 x.1, .int .u64 x.2, v, .int .u64 x.2, pv, undef, undef], defers := [] } w2 := by
      intro pv w2 hb2 hp Q hQ
      obtain ⟨hbx, hox⟩ := hown w2 hb2
      have hsz2 : w.heap.size + 2 ≤ w2.heap.size := by have := hb2.size; omega
      obtain ⟨A, c, rfl, hlc, hC⟩ := Kd.R_reads hp
      obtain ⟨v1, w3, hrun, ho1, hg1, hat⟩ := append_row_run (ty := 23) (w.heap.size + 2) Try.underlying23 info5 (by decide) v _ (putL x.2 8) A (putL x.2 8).length c hox (Kd.reads_of_C (d := (0 : Int)) hC) (by omega) (by rw [putL_length]; omega)
      refine wpAnyIn_ready (rs := [3]) (by kernel_rfl) (by simp) (AllReadyIn.cons rfl (fun K hK => ?_) AllReadyIn.nil)
      refine stepIn_value rfl (by simp) (w1 := w3) (v := v1) ?_ (hK _ _ ?_)
      · simp [execOp, resolve, invoke, builtin, Act.eval, hrun, Result.andThen]
      refine wpAnyIn_ready (rs := [4]) (by kernel_rfl) (by simp) (AllReadyIn.cons rfl (fun K hK => ?_) AllReadyIn.nil)
      have hb3 : Boxed w3 w.heap.size 23 v := hbx.kept hg1 (hbx.not_row (by decide) hox)
      obtain ⟨A1, c1, rfl⟩ := own_slice ho1
      refine stepIn_skip rfl (by simp) (w1 := w3.setCell ⟨w.heap.size, 0, none⟩ (.slice A1 (bytesOut pre ++ putL x.2 8).length c1)) ?_ (hK _ _ ?_)
      · have hc3 := hb3.cell
        have hf3 := hb3.frozen
        simp [go_sem, Act.eval, Act.put, hc3, hf3]
      refine wpAnyIn_done (by kernel_rfl) (hQ _ _ ?_) _
      have hks : Kset (w.heap.size + 2) (fun k => k = w.heap.size) W w3 := (Kset.of_below (hb2.mono hsz)).grown hg1 hsz2 (fun k e => .inr (own_base hox k e))
      refine ⟨(((keepsOthers_below hb2).trans (keepsOthers_own hox hg1)).trans (KeepsOthers.setCell _ _ _)).from _, ?_, ⟨_, hb3.set _, ?_, trivial⟩, ?_⟩
      · exact hks.setCell (p := ⟨w.heap.size, 0, none⟩) (.inl rfl) _
      · rw [bytesOut_snoc]; exact ho1.kept (grownBy_setCell' _ _ _) (.inr (hb3.not_row (by decide) ho1).symm)
      · exact (hk.trans hks).setCell (p := ⟨w.heap.size, 0, none⟩) (.inl rfl) _
    have hput : word_Put.f x.2 8 = some (putL x.2 8) := rfl
    refine wpAnyIn_ready (rs := [0, 1]) (by kernel_rfl) (by simp) (AllReadyIn.cons rfl (fun K hK => ?_) (AllReadyIn.cons rfl (fun K hK => ?_) AllReadyIn.nil))
    · refine stepIn_value rfl (by simp) (w1 := W.drew) (v := v) (by simp [go_sem, Act.eval, hc]) (hK _ _ ?_)
      refine wpAnyIn_ready (rs := [1]) (by kernel_rfl) (by simp) (AllReadyIn.cons rfl (fun K hK => ?_) AllReadyIn.nil)
      refine stepIn_value rfl (by simp) (w1 := W.drew) (v := .int .u64 x.2) (by simp [go_sem, Act.eval, Act.put]) (hK _ _ ?_)
      refine wpAnyIn_ready (rs := [2]) (by kernel_rfl) (by simp) (AllReadyIn.cons rfl (fun K hK => ?_) AllReadyIn.nil)
      refine stepIn_call (w1 := W.drew) rfl (by simp) (by simp [go_sem, Act.eval, Act.put]) (word_Put.calls x.2 8 _ W.drew hput) ?_
      rintro e w2 ⟨pv, rfl, hp, hb2⟩
      exact ⟨pv, rfl, hK _ _ (tail pv w2 ((Below.refl _ W).drew.trans hb2) hp _ (fun _ _ h => h))⟩
    · refine stepIn_value rfl (by simp) (w1 := W.drew) (v := .int .u64 x.2) (by simp [go_sem, Act.eval]) (hK _ _ ?_)
      refine wpAnyIn_ready (rs := [0, 2]) (by kernel_rfl) (by simp) (AllReadyIn.cons rfl (fun K hK => ?_) (AllReadyIn.cons rfl (fun K hK => ?_) AllReadyIn.nil))
      · refine stepIn_value rfl (by simp) (w1 := W.drew) (v := v) (by simp [go_sem, Act.eval, Act.put, hc]) (hK _ _ ?_)
        refine wpAnyIn_ready (rs := [2]) (by kernel_rfl) (by simp) (AllReadyIn.cons rfl (fun K hK => ?_) AllReadyIn.nil)
        refine stepIn_call (w1 := W.drew) rfl (by simp) (by simp [go_sem, Act.eval, Act.put]) (word_Put.calls x.2 8 _ W.drew hput) ?_
        rintro e w2 ⟨pv, rfl, hp, hb2⟩
        exact ⟨pv, rfl, hK _ _ (tail pv w2 ((Below.refl _ W).drew.trans hb2) hp _ (fun _ _ h => h))⟩
      · refine stepIn_call (w1 := W.drew) rfl (by simp) (by simp [go_sem, Act.eval, Act.put]) (word_Put.calls x.2 8 _ W.drew hput) ?_
        rintro e w2 ⟨pv, rfl, hp, hb2⟩
        refine ⟨pv, rfl, hK _ _ ?_⟩
        have hb2' : Below W.heap.size W w2 := (Below.refl _ W).drew.trans hb2
        have hc2 := (hown w2 hb2').1.cell
        refine wpAnyIn_ready (rs := [0]) (by kernel_rfl) (by simp) (AllReadyIn.cons rfl (fun K hK => ?_) AllReadyIn.nil)
        refine stepIn_value rfl (by simp) (w1 := w2) (v := v) (by simp [go_sem, Act.eval, Act.put, hc2]) (hK _ _ ?_)
        exact tail pv w2 hb2' hp _ (fun _ _ h => h)
  case done =>
    rintro D ys W hD rfl ⟨⟨v, hb, ho, -⟩, hk⟩ hK
    have hc := hb.cell
    gi_wp2
    refine ⟨by simp, .inl ⟨_, _, rfl, run_takeDeferred hK, ?_⟩⟩
    refine ⟨_, results_tmp rfl _ _ _, v, rfl, ?_, ?_⟩
    · have ho' := ownsRow_putObj ho (.deferred none) hK rfl
      rw [bytesOut_up _ _ (Nat.le_refl _), List.take_length] at ho'
      exact Kd.R_lower (Kd.R_of_own (enc := Value.int .u8) (by simpa [nums, encs, bytesL] using ho') (fun _ _ => trivial)) (by omega)
    · exact (hB0.trans (hk.below (by omega) (fun k e => by omega))).trans (belowK_b (w := w) (Nat.le_refl _) W D _ _ (by simp at hD; omega) hK rfl rfl)
  case stop =>
    rintro D c pre W _ _ h _
    exact h.elim

end Go.Proofs.Ythlhnodedofibaa.F
end

section
namespace Go.Proofs.Ythlhnodedofibaa.F
open Go.RowKit Go.Proofs.YthlhnodedofibaaW.PrintWords Go.Proofs.YthlhnodedofibaaW.PrintLast Go.Proofs.YthlhnodedofibaaW.PrintMore
attribute [local go_sem] max2_int min2_int max_two min_two max_three min_three max_four min_four   -- for this text's walks alone
set_option linter.unusedVariables false
set_option linter.unusedSimpArgs false

/-! ### arena_Sizes: function 19 -/
def arena_Sizes.l0 : Nat → List Int → List (List Int) → Int → Int → Option (List Int)
  | 0, _, _, _, _ => none
  | k + 1, x3, x6, x7, x8 => if x8 < x7 then (if 0 ≤ x8 then (if x8 < (x6.length : Int) then (if x3.length < 17592186044416 then (arena_Sizes.l0 k (x3 ++ [((rd_L3 x6 x8).length : Int)]) x6 x7 (wrap64 (x8 + 1))) else (none)) else (none)) else (none)) else (some x3)
def arena_Sizes.f (k : Nat) (l0 : List (List Int)) : Option (List Int) := arena_Sizes.l0 k ([] : List Int) l0 (l0.length : Int) 0
theorem arena_Sizes.mono_l : ∀ k, (∀ y0 y1 y2 y3, LeO (arena_Sizes.l0 k y0 y1 y2 y3) (arena_Sizes.l0 (k + 1) y0 y1 y2 y3))
  | 0 => fun _ _ _ _ r h => by simp [arena_Sizes.l0] at h
  | k + 1 => by
    have ih0 := arena_Sizes.mono_l k
    · intro y0 y1 y2 y3
      unfold arena_Sizes.l0
      repeat' first
      | (with_reducible exact ih0 _ _ _ _)
      | (with_reducible exact LeO.refl _)
      | (with_reducible exact LeO.none _)
      | (with_reducible refine LeO.ite ?_ ?_)
      | (with_reducible refine LeO.bind ?_ (fun _ => ?_))
      | exact ih0 _ _ _ _
      | exact LeO.none _
      | refine LeO.ite ?_ ?_
      | refine LeO.bind ?_ (fun _ => ?_)
theorem arena_Sizes.mono : ∀ a0 k, LeO (arena_Sizes.f k a0) (arena_Sizes.f (k + 1) a0) := by
  intro a0 k
  have ih0 := arena_Sizes.mono_l k
  unfold arena_Sizes.f
  repeat' first
      | (with_reducible exact ih0 _ _ _ _)
      | (with_reducible exact LeO.refl _)
      | (with_reducible exact LeO.none _)
      | (with_reducible refine LeO.ite ?_ ?_)
      | (with_reducible refine LeO.bind ?_ (fun _ => ?_))
      | exact ih0 _ _ _ _
      | exact LeO.none _
      | refine LeO.ite ?_ ?_
      | refine LeO.bind ?_ (fun _ => ?_)
set_option maxHeartbeats 8000000 in
set_option maxRecDepth 100000 in
theorem arena_Sizes.calls (k : Nat) (A0 : Option Addr) (c0 : Nat) (l0 : List (List Int)) (r : List Int) (w : World) (hr0 : Kd.C (Kd.slice 42 (Kd.int .u64)) w A0 l0.length l0) (hc0 : l0.length ≤ c0) (h : arena_Sizes.f k l0 = some r) :
    Calls Try.prog 19 #[.slice A0 l0.length c0] w fun e w' => ∃ v0_ : Value, e = .returned (v0_) ∧ Kd.R (Kd.int .i64) 3 w' w.heap.size (fun _ => True) v0_ r ∧ Below w.heap.size w w' := by
  have HR0 := Aside0.mk hr0
  have HC0 := Aside0.mk hc0
  clear hr0 hc0
  have HB := Aside0.mk (Below.refl w.heap.size w)
  have H : (arena_Sizes.l0 k ([] : List Int) l0 (l0.length : Int) 0) = some r := h
  clear h
  have H' := Aside0.mk H
  clear H
  go_enter Try.func19, Try.ntmps19
  go_wp2
  go_loopg [3, 8] k (fun kq v3 v8 w' => ∃ (x3_1 : List Int) (x8_1 : Int), v8 = .int .i64 x8_1 ∧ Aside0 (arena_Sizes.l0 kq x3_1 l0 (l0.length : Int) x8_1 = some r) ∧ Aside0 (kq ≤ k) ∧ Aside0 (Kd.R (Kd.int .i64) 3 w' w.heap.size (fun _ => True) v3 x3_1) ∧ Aside0 (Below w.heap.size w w'))
  case atStart => exact ⟨(([] : List Int)), (0), (by first | rfl | (simp; done) | (simp [*]; done)), H', ⟨Nat.le_refl _⟩, ⟨by first | exact Kd.R_nil _ _ _ _ _ | exact Kd.N_nil _ _ _ _ _ | exact Kd.V_nil _ _ _ _ _ | exact Kd.Q_nil _ _ _ _ _ | exact Kd.S_nil _ _ _ _ _⟩, ⟨by repeat (first | (with_reducible first | exact HB.out | apply below_alloc | apply pw_below_drewN | apply below_drew1) | exact HB.out)⟩⟩
  case round =>
    clear H'
    try clear c1
    obtain ⟨x3_1, x8_1, rfl, HA, HK1, HO_3, HB⟩ := hrel
    cases gk with
    | zero => exact absurd HA.out (by simp [arena_Sizes.l0])
    | succ k1 =>
      have H := HA.out
      clear HA
      simp only [arena_Sizes.l0] at H
      by_cases c2 : x8_1 < (l0.length : Int)
      · rw [if_pos c2] at H
        have c2b0 : decide (x8_1 < (l0.length : Int)) = true := decide_eq_true c2
        clear c2
        by_cases c3 : 0 ≤ x8_1
        · rw [if_pos c3] at H
          have c3b0 : decide (0 ≤ x8_1) = true := decide_eq_true c3
          clear c3
          by_cases c4 : x8_1 < (l0.length : Int)
          · rw [if_pos c4] at H
            have c4b0 : decide (x8_1 < (l0.length : Int)) = true := decide_eq_true c4
            clear c4
            by_cases c5 : x3_1.length < 17592186044416
            · rw [if_pos c5] at H
              have LMc5 := Aside0.mk c5
              clear c5
              obtain ⟨y102, hy102⟩ : ∃ y_ : List Int, y_ = (x3_1 ++ [((rd_L3 l0 x8_1).length : Int)]) := ⟨_, rfl⟩
              replace H : (arena_Sizes.l0 k1 y102 l0 (l0.length : Int) (wrap64 (x8_1 + 1))) = some r := by first | (rw [hy102]; with_reducible exact H) | (have H2_ := (Option.bind_some _ _).symm.trans H; rw [hy102]; with_reducible exact H2_) | (have H2_ := (Option.bind_some _ _).symm.trans H; with_reducible exact H2_) | with_reducible exact H | (rw [hy102]; exact H) | exact H
              have Ny102 := Aside0.mk hy102
              clear hy102
              have H' := Aside0.mk H
              clear H
              have p101 : 0 ≤ (x8_1 : Int) := of_decide_eq_true (by first | (with_reducible assumption) | assumption)
              have q101 : x8_1 < (l0.length : Int) := of_decide_eq_true (by first | (with_reducible assumption) | assumption)
              obtain ⟨ad101, A101_0, c101_0, e101, hx101_0, hl101_0, hi101_0⟩ := at_L3 HR0.out x8_1 p101 q101
              cases e101
              replace hx101_0 := (HB.out.cell (World.block_lt_of_cell? w _ hx101_0)).trans hx101_0
              have HR101_0 := Aside0.mk hi101_0
              have HC101_0 := Aside0.mk hl101_0
              clear hi101_0 hl101_0
              replace p101 := eq_true p101
              replace q101 := eq_true q101
              go_wp2_with (first | ((with_reducible refine gate_builtin (b := .append) (xs := #[.tmp 12, .tmp 15]) rfl ?_); at_builtin; refine Kd.R_append (Kd.int .i64) (w0 := w) w.heap.size rfl (.tmp 12) (.tmp 15) 22 3 (.int .i64 0) 8 rfl Try.underlying22 info3 rfl (by decide) (by omega) u3 x3_1 ((rd_L3 l0 x8_1).length : Int) [.int .i64 ((rd_L3 l0 x8_1).length : Int)] (fun _ => True) (fun _ => False) rfl rfl ?aP (fun _ hk => hk.elim) ?aF ?aO ?aB ?aS ?aL ?_; (case aP => exact rfl); (case aB => exact (by repeat (first | (with_reducible first | exact HB.out | apply below_alloc | apply pw_below_drewN | apply below_drew1) | exact HB.out))); (case aF => exact (fun _ _ => trivial)); (case aO => exact (by (with_reducible repeat (first | apply Kd.R_alloc | apply Kd.R_drewN | apply Kd.R_drew)); exact HO_3.out)); (case aS => exact (below_size (by repeat (first | (with_reducible first | exact HB.out | apply below_alloc | apply pw_below_drewN | apply below_drew1) | exact HB.out)))); (case aL => have := LMc5.out; omega); intro v103 w6 ho hb hg hat; rw [← Ny102.out] at ho; have n0_ := Aside0.mk (hb); have n1_ := Aside0.mk (ho); clear HB; clear HO_3; have HB := n0_; have HO104 := n1_; clear n0_ n1_; clear ho hb hg hat))
              go_roundg k1
              case measure => have := HK1.out; omega
              case rel => exact ⟨(y102), (wrap64 (x8_1 + 1)), (by first | rfl | (simp; done) | (simp [*]; done)), H', ⟨by have := HK1.out; omega⟩, ⟨by (with_reducible repeat (first | apply Kd.R_alloc | apply Kd.R_drewN | apply Kd.R_drew)); exact HO104.out⟩, ⟨by repeat (first | (with_reducible first | exact HB.out | apply below_alloc | apply pw_below_drewN | apply below_drew1) | exact HB.out)⟩⟩
            · rw [if_neg c5] at H
              exact absurd H (by simp)
          · rw [if_neg c4] at H
            exact absurd H (by simp)
        · rw [if_neg c3] at H
          exact absurd H (by simp)
      · rw [if_neg c2] at H
        have c2b0 : decide (x8_1 < (l0.length : Int)) = false := decide_eq_false c2
        clear c2
        obtain rfl := Option.some.inj H
        go_wp2
        go_ret
        exact ⟨_, by first | rfl | (simp [errW_none, errW_some] <;> rfl) | (simp [*, errW_none, errW_some] <;> rfl), by (with_reducible repeat (first | apply Kd.R_alloc | apply Kd.R_drewN | apply Kd.R_drew)); exact HO_3.out, by repeat (first | (with_reducible first | exact HB.out | apply below_alloc | apply pw_below_drewN | apply below_drew1) | exact HB.out)⟩

end Go.Proofs.Ythlhnodedofibaa.F
end

section
namespace Go.Proofs.Ythlhnodedofibaa.F
open Go.RowKit Go.Proofs.YthlhnodedofibaaW.PrintWords Go.Proofs.YthlhnodedofibaaW.PrintLast Go.Proofs.YthlhnodedofibaaW.PrintMore
attribute [local go_sem] max2_int min2_int max_two min_two max_three min_three max_four min_four   -- for this text's walks alone
set_option linter.unusedVariables false
set_option linter.unusedSimpArgs false

open Go.Proofs.Ythlhnodedofibaa.H
def arena_Sizes_c.f (l0 : List (List Int)) : Option (List Int) := if l0.length ≤ 1000000 then some (sizesL l0) else none
theorem arena_Sizes.l0_to (l : List (List Int)) (hl : l.length ≤ 1000000) : ∀ (d i : Nat) (acc : List Int), l.length - i = d → i ≤ l.length → acc.length = i → ∃ k, arena_Sizes.l0 k acc l (l.length : Int) (i : Int) = some (acc ++ sizesL (l.drop i))
  | 0, i, acc, hd, hi, ha => ⟨1, by simp only [arena_Sizes.l0]; rw [if_neg (by omega)]; rw [List.drop_of_length_le (by omega)]; simp [sizesL]⟩
  | d + 1, i, acc, hd, hi, ha => by
    obtain ⟨k, hk⟩ := arena_Sizes.l0_to l hl d (i + 1) (acc ++ [((rd_L3 l i).length : Int)]) (by omega) (by omega) (by simp [ha])
    refine ⟨k + 1, ?_⟩
    simp only [arena_Sizes.l0]
    rw [if_pos (by omega), if_pos (by omega), if_pos (by omega), if_pos (by omega), show wrap64 ((i : Int) + 1) = ((i + 1 : Nat) : Int) from by unfold wrap64; omega, hk]
    rw [drop_at l i (by omega), sizesL_cons]
    simp only [rd_L3, getD_toNat l _ i (show i < l.length by omega), List.append_assoc, List.cons_append, List.nil_append]
theorem arena_Sizes_c.to {l0 : List (List Int)} {r : List Int} (h : arena_Sizes_c.f l0 = some r) : ∃ k, arena_Sizes.f k l0 = some r := by
  unfold arena_Sizes_c.f at h
  split at h
  case isFalse => cases h
  case isTrue hl =>
  obtain rfl := Option.some.inj h
  obtain ⟨k, hk⟩ := arena_Sizes.l0_to l0 hl l0.length 0 [] (by omega) (by omega) rfl
  exact ⟨k, by unfold arena_Sizes.f; simpa using hk⟩

theorem arena_Sizes_c.calls (A0 : Option Addr) (c0 : Nat) (l0 : List (List Int)) (r : List Int) (w : World) (hr0 : Kd.C (Kd.slice 42 (Kd.int .u64)) w A0 l0.length l0) (hc0 : l0.length ≤ c0) (h : arena_Sizes_c.f l0 = some r) :
    Calls Try.prog 19 #[.slice A0 l0.length c0] w fun e w' => ∃ v0_ : Value, e = .returned (v0_) ∧ Kd.R (Kd.int .i64) 3 w' w.heap.size (fun _ => True) v0_ r ∧ Below w.heap.size w w' := by
  obtain ⟨k_, hk_⟩ := arena_Sizes_c.to h
  exact arena_Sizes.calls k_ A0 c0 l0 r w hr0 hc0 hk_

end Go.Proofs.Ythlhnodedofibaa.F
end

section
namespace Go.Proofs.Ythlhnodedofibaa.F
open Go.RowKit Go.Proofs.YthlhnodedofibaaW.PrintWords Go.Proofs.YthlhnodedofibaaW.PrintLast Go.Proofs.YthlhnodedofibaaW.PrintMore
attribute [local go_sem] max2_int min2_int max_two min_two max_three min_three max_four min_four   -- for this text's walks alone
set_option linter.unusedVariables false
set_option linter.unusedSimpArgs false

/-! ### word_Add: function 53 -/
def word_Add.f (a0 : Int) (a1 : Int) (a2 : Int) : Option (Int × Bool) := if (mn a0 a1) < 0 then (some (0, false)) else (if a0 > a2 then (some (0, false)) else (if a1 > (wrap64 (a2 - a0)) then (some (0, false)) else (some (wrap64 (a0 + a1), true))))
set_option maxHeartbeats 8000000 in
set_option maxRecDepth 100000 in
theorem word_Add.calls (a0 : Int) (a1 : Int) (a2 : Int) (r1 : Int) (r2 : Bool) (w : World) (h : word_Add.f a0 a1 a2 = some (r1, r2)) :
    Calls Try.prog 53 #[.int .i64 a0, .int .i64 a1, .int .i64 a2] w fun e w' => e = .returned (.tuple #[.int .i64 r1, .bool r2]) ∧ Below w.heap.size w w' := by
  have HB := Aside0.mk (Below.refl w.heap.size w)
  have H : (if (mn a0 a1) < 0 then (some (0, false)) else (if a0 > a2 then (some (0, false)) else (if a1 > (wrap64 (a2 - a0)) then (some (0, false)) else (some (wrap64 (a0 + a1), true))))) = some (r1, r2) := h
  clear h
  obtain ⟨ji4, hji4⟩ : ∃ j_ : Int, (mn a0 a1) = j_ := ⟨_, rfl⟩
  replace H : (if (ji4) < 0 then (some (0, false)) else (if a0 > a2 then (some (0, false)) else (if a1 > (wrap64 (a2 - a0)) then (some (0, false)) else (some (wrap64 (a0 + a1), true))))) = some (r1, r2) := by first | (rw [hji4] at H; exact H) | (simp only [hji4] at H ⊢; exact H)
  have hji4_ : (if a1 < a0 then a1 else a0) = ji4 := hji4
  by_cases c5 : (ji4) < 0
  · rw [if_pos c5] at H
    have c5b0 : decide ((ji4) < 0) = true := decide_eq_true c5
    clear c5
    simp only [Option.some.injEq, Prod.mk.injEq] at H
    obtain ⟨rfl, rfl⟩ := H
    go_enter Try.func53, Try.ntmps53
    go_wp2
    go_ret2
    exact ⟨by first | rfl | (simp [errW_none, errW_some] <;> rfl) | (simp only [← hji4]; first | rfl | (simp [errW_none, errW_some] <;> rfl)) | (simp [*, errW_none, errW_some] <;> rfl), by repeat (first | (with_reducible first | exact HB.out | apply below_alloc | apply pw_below_drewN | apply below_drew1) | exact HB.out)⟩
  · rw [if_neg c5] at H
    have c5b0 : decide ((ji4) < 0) = false := decide_eq_false c5
    clear c5
    by_cases c6 : a0 > a2
    · rw [if_pos c6] at H
      have c6b0 : decide (a2 < a0) = true := decide_eq_true c6
      clear c6
      simp only [Option.some.injEq, Prod.mk.injEq] at H
      obtain ⟨rfl, rfl⟩ := H
      go_enter Try.func53, Try.ntmps53
      go_wp2
      go_ret2
      exact ⟨by first | rfl | (simp [errW_none, errW_some] <;> rfl) | (simp only [← hji4]; first | rfl | (simp [errW_none, errW_some] <;> rfl)) | (simp [*, errW_none, errW_some] <;> rfl), by repeat (first | (with_reducible first | exact HB.out | apply below_alloc | apply pw_below_drewN | apply below_drew1) | exact HB.out)⟩
    · rw [if_neg c6] at H
      have c6b0 : decide (a2 < a0) = false := decide_eq_false c6
      clear c6
      by_cases c7 : a1 > (wrap64 (a2 - a0))
      · rw [if_pos c7] at H
        have c7b0 : decide ((wrap64 (a2 - a0)) < a1) = true := decide_eq_true c7
        clear c7
        simp only [Option.some.injEq, Prod.mk.injEq] at H
        obtain ⟨rfl, rfl⟩ := H
        go_enter Try.func53, Try.ntmps53
        go_wp2
        go_ret2
        exact ⟨by first | rfl | (simp [errW_none, errW_some] <;> rfl) | (simp only [← hji4]; first | rfl | (simp [errW_none, errW_some] <;> rfl)) | (simp [*, errW_none, errW_some] <;> rfl), by repeat (first | (with_reducible first | exact HB.out | apply below_alloc | apply pw_below_drewN | apply below_drew1) | exact HB.out)⟩
      · rw [if_neg c7] at H
        have c7b0 : decide ((wrap64 (a2 - a0)) < a1) = false := decide_eq_false c7
        clear c7
        simp only [Option.some.injEq, Prod.mk.injEq] at H
        obtain ⟨rfl, rfl⟩ := H
        go_enter Try.func53, Try.ntmps53
        go_wp2
        go_ret2
        exact ⟨by first | rfl | (simp [errW_none, errW_some] <;> rfl) | (simp only [← hji4]; first | rfl | (simp [errW_none, errW_some] <;> rfl)) | (simp [*, errW_none, errW_some] <;> rfl), by repeat (first | (with_reducible first | exact HB.out | apply below_alloc | apply pw_below_drewN | apply below_drew1) | exact HB.out)⟩

end Go.Proofs.Ythlhnodedofibaa.F
end

section
namespace Go.Proofs.Ythlhnodedofibaa.F
open Go.RowKit Go.Proofs.YthlhnodedofibaaW.PrintWords Go.Proofs.YthlhnodedofibaaW.PrintLast Go.Proofs.YthlhnodedofibaaW.PrintMore
attribute [local go_sem] max2_int min2_int max_two min_two max_three min_three max_four min_four   -- for this text's walks alone
set_option linter.unusedVariables false
set_option linter.unusedSimpArgs false

/-! ### arena_Fits: function 20 -/
mutual
def arena_Fits.j0 : Nat → List Int → Bool → Option (Bool)
  | 0, _, _ => none
  | k + 1, x0, x21 => if x21 = true then (some false) else (arena_Fits.l0 k 0 x0 (x0.length : Int) 0)
def arena_Fits.l0 : Nat → Int → List Int → Int → Int → Option (Bool)
  | 0, _, _, _, _ => none
  | k + 1, x3, x22, x23, x24 => if x24 < x23 then (if 0 ≤ x24 then (if x24 < (x22.length : Int) then ((word_Add.f x3 (rd x22 x24) 4096).bind fun bt103 => (if bt103.2 = true then (arena_Fits.l0 k bt103.1 x22 x23 (wrap64 (x24 + 1))) else (some false))) else (none)) else (none)) else (some true)
end
def arena_Fits.f (k : Nat) (l0 : List Int) : Option (Bool) := if (l0.length : Int) < 1 then (arena_Fits.j0 k l0 true) else (if (l0.length : Int) > 16 then (arena_Fits.j0 k l0 true) else (if 0 < (l0.length : Int) then (arena_Fits.j0 k l0 (decide ((rd l0 0) < 1))) else (none)))
theorem arena_Fits.mono_l : ∀ k, (∀ y0 y1, LeO (arena_Fits.j0 k y0 y1) (arena_Fits.j0 (k + 1) y0 y1)) ∧ (∀ y0 y1 y2 y3, LeO (arena_Fits.l0 k y0 y1 y2 y3) (arena_Fits.l0 (k + 1) y0 y1 y2 y3))
  | 0 => ⟨fun _ _ r h => by simp [arena_Fits.j0] at h, fun _ _ _ _ r h => by simp [arena_Fits.l0] at h⟩
  | k + 1 => by
    obtain ⟨ih0, ih1⟩ := arena_Fits.mono_l k
    refine ⟨?_, ?_⟩
    · intro y0 y1
      unfold arena_Fits.j0
      repeat' first
      | (with_reducible exact ih0 _ _)
      | (with_reducible exact ih1 _ _ _ _)
      | (with_reducible exact LeO.refl _)
      | (with_reducible exact LeO.none _)
      | (with_reducible refine LeO.ite ?_ ?_)
      | (with_reducible refine LeO.bind ?_ (fun _ => ?_))
      | exact ih0 _ _
      | exact ih1 _ _ _ _
      | exact LeO.none _
      | refine LeO.ite ?_ ?_
      | refine LeO.bind ?_ (fun _ => ?_)
    · intro y0 y1 y2 y3
      unfold arena_Fits.l0
      repeat' first
      | (with_reducible exact ih0 _ _)
      | (with_reducible exact ih1 _ _ _ _)
      | (with_reducible exact LeO.refl _)
      | (with_reducible exact LeO.none _)
      | (with_reducible refine LeO.ite ?_ ?_)
      | (with_reducible refine LeO.bind ?_ (fun _ => ?_))
      | exact ih0 _ _
      | exact ih1 _ _ _ _
      | exact LeO.none _
      | refine LeO.ite ?_ ?_
      | refine LeO.bind ?_ (fun _ => ?_)
theorem arena_Fits.mono : ∀ a0 k, LeO (arena_Fits.f k a0) (arena_Fits.f (k + 1) a0) := by
  intro a0 k
  obtain ⟨ih0, ih1⟩ := arena_Fits.mono_l k
  unfold arena_Fits.f
  repeat' first
      | (with_reducible exact ih0 _ _)
      | (with_reducible exact ih1 _ _ _ _)
      | (with_reducible exact LeO.refl _)
      | (with_reducible exact LeO.none _)
      | (with_reducible refine LeO.ite ?_ ?_)
      | (with_reducible refine LeO.bind ?_ (fun _ => ?_))
      | exact ih0 _ _
      | exact ih1 _ _ _ _
      | exact LeO.none _
      | refine LeO.ite ?_ ?_
      | refine LeO.bind ?_ (fun _ => ?_)
set_option maxHeartbeats 8000000 in
set_option maxRecDepth 100000 in
theorem arena_Fits.calls (k : Nat) (A0 : Option Addr) (c0 : Nat) (l0 : List Int) (r : Bool) (w : World) (hr0 : Kd.C (Kd.int .i64) w A0 l0.length l0) (hc0 : l0.length ≤ c0) (h : arena_Fits.f k l0 = some r) :
    Calls Try.prog 20 #[.slice A0 l0.length c0] w fun e w' => e = .returned (.bool r) ∧ Below w.heap.size w w' := by
  have HR0 := Aside0.mk hr0
  have HC0 := Aside0.mk hc0
  clear hr0 hc0
  have HB := Aside0.mk (Below.refl w.heap.size w)
  have H : (if (l0.length : Int) < 1 then (arena_Fits.j0 k l0 true) else (if (l0.length : Int) > 16 then (arena_Fits.j0 k l0 true) else (if 0 < (l0.length : Int) then (arena_Fits.j0 k l0 (decide ((rd l0 0) < 1))) else (none)))) = some r := h
  clear h
  have HC2 := Aside0.mk H
  clear H
  go_enter Try.func20, Try.ntmps20
  go_upto_region 1 with (fail)
  go_cut [21] (fun v21 wc => ∃ (kq : Nat) (x21_1 : Bool), v21 = .bool x21_1 ∧ Aside0 (arena_Fits.j0 kq l0 x21_1 = some r) ∧ Aside0 (kq ≤ k) ∧ Aside0 (Below w.heap.size w wc))
  case first =>
    have H := HC2.out
    clear HC2
    by_cases c3 : (l0.length : Int) < 1
    · rw [if_pos c3] at H
      have c3b0 : decide ((l0.length : Int) < 1) = true := decide_eq_true c3
      have c3b1 : decide (l0.length < 1) = true := decide_eq_true (by omega)
      clear c3
      (first | rw [c3b0] | (simp only [i64_w, i32_w]; rw [c3b0]) | skip)
      have H' := Aside0.mk H
      clear H
      go_wp2
      go_meet
      case rel => exact ⟨_, (true), (by first | rfl | (simp; done) | (simp [*]; done)), H', ⟨by first | omega | exact Nat.le_refl _⟩, ⟨by repeat (first | (with_reducible first | exact HB.out | apply below_alloc | apply pw_below_drewN | apply below_drew1) | exact HB.out)⟩⟩
    · rw [if_neg c3] at H
      have c3b0 : decide ((l0.length : Int) < 1) = false := decide_eq_false c3
      have c3b1 : decide (l0.length < 1) = false := decide_eq_false (by omega)
      clear c3
      (first | rw [c3b0] | (simp only [i64_w, i32_w]; rw [c3b0]) | skip)
      by_cases c4 : (l0.length : Int) > 16
      · rw [if_pos c4] at H
        have c4b0 : decide (16 < (l0.length : Int)) = true := decide_eq_true c4
        have c4b1 : decide (16 < l0.length) = true := decide_eq_true (by omega)
        clear c4
        have H' := Aside0.mk H
        clear H
        go_wp2
        go_meet
        case rel => exact ⟨_, (true), (by first | rfl | (simp; done) | (simp [*]; done)), H', ⟨by first | omega | exact Nat.le_refl _⟩, ⟨by repeat (first | (with_reducible first | exact HB.out | apply below_alloc | apply pw_below_drewN | apply below_drew1) | exact HB.out)⟩⟩
      · rw [if_neg c4] at H
        have c4b0 : decide (16 < (l0.length : Int)) = false := decide_eq_false c4
        have c4b1 : decide (16 < l0.length) = false := decide_eq_false (by omega)
        clear c4
        by_cases c5 : 0 < (l0.length : Int)
        · rw [if_pos c5] at H
          have c5b0 : decide (0 < (l0.length : Int)) = true := decide_eq_true c5
          have c5b1 : decide (0 < l0.length) = true := decide_eq_true (by omega)
          clear c5
          have H' := Aside0.mk H
          clear H
          have p101 : 0 ≤ (0 : Int) := (by omega)
          have q101 : 0 < (l0.length : Int) := of_decide_eq_true (by first | (with_reducible assumption) | assumption)
          obtain ⟨ad101, e101, hx101_0⟩ := Kd.at_int HR0.out 0 p101 q101
          cases e101
          have qi101 : (0 < l0.length) = True := eq_true (by omega)
          (try rw [show ((0 : Int)).toNat = 0 from rfl] at hx101_0)
          (try rw [Addr.add_zero'] at hx101_0)
          replace hx101_0 := (HB.out.cell (World.block_lt_of_cell? w _ hx101_0)).trans hx101_0
          replace p101 := eq_true p101
          replace q101 := eq_true q101
          go_wp2
          go_meet
          case rel => exact ⟨_, (decide ((rd l0 0) < 1)), (by first | rfl | (simp; done) | (simp [*]; done)), H', ⟨by first | omega | exact Nat.le_refl _⟩, ⟨by repeat (first | (with_reducible first | exact HB.out | apply below_alloc | apply pw_below_drewN | apply below_drew1) | exact HB.out)⟩⟩
        · rw [if_neg c5] at H
          exact absurd H (by simp)
  case rest =>
    clear HC2
    try clear p1
    try clear q1
    try clear hx1
    try clear qi1
    try clear c2
    try clear p2
    try clear c3
    try clear c3b0
    try clear c3b1
    try clear c4
    try clear c4b0
    try clear c4b1
    try clear c5
    try clear c5b0
    try clear c5b1
    try clear hx101_0
    try clear p101
    try clear q101
    obtain ⟨kq, x21_1, rfl, HA, HJ1, HB⟩ := hcut
    cases kq with
    | zero => exact absurd HA.out (by simp [arena_Fits.j0])
    | succ kj1 =>
      have H := HA.out
      clear HA
      simp only [arena_Fits.j0] at H
      by_cases c6 : x21_1 = true
      · subst c6
        have H1 : (some false) = some r := by rw [if_pos rfl] at H; exact H
        clear H
        have H := H1
        clear H1
        obtain rfl := Option.some.inj H
        go_wp2
        go_ret
        exact ⟨by first | rfl | (simp [errW_none, errW_some] <;> rfl) | (simp [*, errW_none, errW_some] <;> rfl), by repeat (first | (with_reducible first | exact HB.out | apply below_alloc | apply pw_below_drewN | apply below_drew1) | exact HB.out)⟩
      · replace c6 := Bool.eq_false_iff.mpr c6
        subst c6
        have H1 : (arena_Fits.l0 kj1 0 l0 (l0.length : Int) 0) = some r := by rw [if_neg (show ¬ (false = true) by decide)] at H; exact H
        clear H
        have H := H1
        clear H1
        have H' := Aside0.mk H
        clear H
        go_wp2
        go_loopg [3, 24] kj1 (fun kq v3 v24 w' => ∃ (x3_2 : Int) (x24_2 : Int), v3 = .int .i64 x3_2 ∧ v24 = .int .i64 x24_2 ∧ Aside0 (arena_Fits.l0 kq x3_2 l0 (l0.length : Int) x24_2 = some r) ∧ Aside0 (kq ≤ kj1) ∧ Aside0 (Below w.heap.size w w'))
        case atStart => exact ⟨(0), (0), (by first | rfl | (simp; done) | (simp [*]; done)), (by first | rfl | (simp; done) | (simp [*]; done)), H', ⟨Nat.le_refl _⟩, ⟨by repeat (first | (with_reducible first | exact HB.out | apply below_alloc | apply pw_below_drewN | apply below_drew1) | exact HB.out)⟩⟩
        case round =>
          clear H'
          try clear p1
          try clear q1
          try clear hx1
          try clear qi1
          try clear c2
          try clear p2
          try clear c3
          try clear c3b0
          try clear c3b1
          try clear c4
          try clear c4b0
          try clear c4b1
          try clear c5
          try clear c5b0
          try clear c5b1
          try clear c6
          try clear hx101_0
          try clear p1
          try clear p101
          try clear p2
          try clear q1
          try clear q101
          obtain ⟨x3_2, x24_2, rfl, rfl, HA, HK2, HB⟩ := hrel
          cases gk with
          | zero => exact absurd HA.out (by simp [arena_Fits.l0])
          | succ k2 =>
            have H := HA.out
            clear HA
            simp only [arena_Fits.l0] at H
            by_cases c7 : x24_2 < (l0.length : Int)
            · rw [if_pos c7] at H
              have c7b0 : decide (x24_2 < (l0.length : Int)) = true := decide_eq_true c7
              clear c7
              by_cases c8 : 0 ≤ x24_2
              · rw [if_pos c8] at H
                have c8b0 : decide (0 ≤ x24_2) = true := decide_eq_true c8
                clear c8
                by_cases c9 : x24_2 < (l0.length : Int)
                · rw [if_pos c9] at H
                  have c9b0 : decide (x24_2 < (l0.length : Int)) = true := decide_eq_true c9
                  clear c9
                  replace H := Option.bind_eq_some_iff.mp H
                  obtain ⟨⟨t103, t104⟩, A100, H⟩ := H
                  replace H : (if t104 = true then (arena_Fits.l0 k2 t103 l0 (l0.length : Int) (wrap64 (x24_2 + 1))) else (some false)) = some r := H
                  have A10 := Aside0.mk A100
                  clear A100
                  by_cases c11 : t104 = true
                  · subst c11
                    have H1 : (arena_Fits.l0 k2 t103 l0 (l0.length : Int) (wrap64 (x24_2 + 1))) = some r := by rw [if_pos rfl] at H; exact H
                    clear H
                    have H := H1
                    clear H1
                    have H' := Aside0.mk H
                    clear H
                    have p102 : 0 ≤ (x24_2 : Int) := of_decide_eq_true (by first | (with_reducible assumption) | assumption)
                    have q102 : x24_2 < (l0.length : Int) := of_decide_eq_true (by first | (with_reducible assumption) | assumption)
                    obtain ⟨ad102, e102, hx102_0⟩ := Kd.at_int HR0.out x24_2 p102 q102
                    cases e102
                    replace hx102_0 := (HB.out.cell (World.block_lt_of_cell? w _ hx102_0)).trans hx102_0
                    replace p102 := eq_true p102
                    replace q102 := eq_true q102
                    go_wp2_with (first | ((with_reducible refine gate_callee (f := 53) rfl ?_); refine goesL_ (some 31) rfl rfl Try.func53 (by kernel_rfl) rfl #[.int .i64 x3_2, .int .i64 (rd l0 x24_2), .int .i64 4096] rfl (by (try simp only [List.map_toArray, List.map_cons, List.map_nil]); first | done | rfl | (simp only [List.length_drop, List.length_take]; rfl)) ?_; (with_reducible refine (word_Add.calls x3_2 (rd l0 x24_2) 4096 t103 true _ A10.out).mono ?_); rintro e w12 ⟨rfl, hb⟩; refine ⟨_, rfl, ?_⟩; have n0_ := Aside0.mk (below_step (by repeat (first | (with_reducible first | exact HB.out | apply below_alloc | apply pw_below_drewN | apply below_drew1) | exact HB.out)) hb); clear HB; have HB := n0_; clear n0_; (try clear hb); (try clear hb2); (try clear hk); (try clear hi)))
                    go_roundg k2
                    case measure => have := HJ1.out; have := HK2.out; omega
                    case rel => exact ⟨(t103), (wrap64 (x24_2 + 1)), (by first | rfl | (simp; done) | (simp [*]; done)), (by first | rfl | (simp; done) | (simp [*]; done)), H', ⟨by have := HJ1.out; have := HK2.out; omega⟩, ⟨by repeat (first | (with_reducible first | exact HB.out | apply below_alloc | apply pw_below_drewN | apply below_drew1) | exact HB.out)⟩⟩
                  · replace c11 := Bool.eq_false_iff.mpr c11
                    subst c11
                    have H1 : (some false) = some r := by rw [if_neg (show ¬ (false = true) by decide)] at H; exact H
                    clear H
                    have H := H1
                    clear H1
                    obtain rfl := Option.some.inj H
                    have p102 : 0 ≤ (x24_2 : Int) := of_decide_eq_true (by first | (with_reducible assumption) | assumption)
                    have q102 : x24_2 < (l0.length : Int) := of_decide_eq_true (by first | (with_reducible assumption) | assumption)
                    obtain ⟨ad102, e102, hx102_0⟩ := Kd.at_int HR0.out x24_2 p102 q102
                    cases e102
                    replace hx102_0 := (HB.out.cell (World.block_lt_of_cell? w _ hx102_0)).trans hx102_0
                    replace p102 := eq_true p102
                    replace q102 := eq_true q102
                    go_wp2_with (first | ((with_reducible refine gate_callee (f := 53) rfl ?_); refine goesL_ (some 31) rfl rfl Try.func53 (by kernel_rfl) rfl #[.int .i64 x3_2, .int .i64 (rd l0 x24_2), .int .i64 4096] rfl (by (try simp only [List.map_toArray, List.map_cons, List.map_nil]); first | done | rfl | (simp only [List.length_drop, List.length_take]; rfl)) ?_; (with_reducible refine (word_Add.calls x3_2 (rd l0 x24_2) 4096 t103 false _ A10.out).mono ?_); rintro e w13 ⟨rfl, hb⟩; refine ⟨_, rfl, ?_⟩; have n0_ := Aside0.mk (below_step (by repeat (first | (with_reducible first | exact HB.out | apply below_alloc | apply pw_below_drewN | apply below_drew1) | exact HB.out)) hb); clear HB; have HB := n0_; clear n0_; (try clear hb); (try clear hb2); (try clear hk); (try clear hi)))
                    go_ret
                    exact ⟨by first | rfl | (simp [errW_none, errW_some] <;> rfl) | (simp [*, errW_none, errW_some] <;> rfl), by repeat (first | (with_reducible first | exact HB.out | apply below_alloc | apply pw_below_drewN | apply below_drew1) | exact HB.out)⟩
                · rw [if_neg c9] at H
                  exact absurd H (by simp)
              · rw [if_neg c8] at H
                exact absurd H (by simp)
            · rw [if_neg c7] at H
              have c7b0 : decide (x24_2 < (l0.length : Int)) = false := decide_eq_false c7
              clear c7
              obtain rfl := Option.some.inj H
              go_wp2
              go_ret
              exact ⟨by first | rfl | (simp [errW_none, errW_some] <;> rfl) | (simp [*, errW_none, errW_some] <;> rfl), by repeat (first | (with_reducible first | exact HB.out | apply below_alloc | apply pw_below_drewN | apply below_drew1) | exact HB.out)⟩

end Go.Proofs.Ythlhnodedofibaa.F
end

section
namespace Go.Proofs.Ythlhnodedofibaa.F
open Go.RowKit Go.Proofs.YthlhnodedofibaaW.PrintWords Go.Proofs.YthlhnodedofibaaW.PrintLast Go.Proofs.YthlhnodedofibaaW.PrintMore
attribute [local go_sem] max2_int min2_int max_two min_two max_three min_three max_four min_four   -- for this text's walks alone
set_option linter.unusedVariables false
set_option linter.unusedSimpArgs false

open Go.Proofs.Ythlhnodedofibaa.H
def arena_Fits_c.f (l0 : List Int) : Option Bool := some (fitsB l0)
theorem word_Add.at_ (n x : Int) (h0 : 0 ≤ n) (h1 : n ≤ 4096) : word_Add.f n x 4096 = some (if x < 0 then (0, false) else if x > 4096 - n then (0, false) else (n + x, true)) := by
  have hw : wrap64 (4096 - n) = 4096 - n := by unfold wrap64; omega
  unfold word_Add.f mn
  rw [hw]
  by_cases hx : x < 0
  · rw [if_pos hx, if_pos (by split <;> omega)]
  · rw [if_neg (by split <;> omega), if_neg (by omega), if_neg hx]
    by_cases h2 : x > 4096 - n
    · rw [if_pos h2, if_pos h2]
    · rw [if_neg h2, if_neg h2, show wrap64 (n + x) = n + x from by unfold wrap64; omega]
theorem arena_Fits.l0_to (l : List Int) (hl : l.length ≤ 1000000) : ∀ (d i : Nat) (n : Int), l.length - i = d → i ≤ l.length → 0 ≤ n → n ≤ 4096 → ∃ k, arena_Fits.l0 k n l (l.length : Int) (i : Int) = some (restB n (l.drop i))
  | 0, i, n, hd, hi, h0, h1 => ⟨1, by simp only [arena_Fits.l0]; rw [if_neg (by omega), List.drop_of_length_le (by omega)]; simp [restB, h1]⟩
  | d + 1, i, n, hd, hi, h0, h1 => by
    have hlt : i < l.length := by omega
    have hr : rd l i = l[i] := getD_toNat l 0 i hlt
    have hr' : ((l.length : Int) > (i : Int)) := by omega
    by_cases hx : l[i] < 0
    · refine ⟨1, ?_⟩
      simp only [arena_Fits.l0]
      rw [if_pos (by omega), if_pos (by omega), if_pos (by omega), hr, word_Add.at_ _ _ h0 h1, drop_at l i hlt, restB_cons, if_pos hx, if_pos hx]
      rfl
    · by_cases h2 : l[i] > 4096 - n
      · refine ⟨1, ?_⟩
        simp only [arena_Fits.l0]
        rw [if_pos (by omega), if_pos (by omega), if_pos (by omega), hr, word_Add.at_ _ _ h0 h1, drop_at l i hlt, restB_cons, if_neg hx, if_neg hx, if_pos h2, if_pos h2]
        rfl
      · obtain ⟨k, hk⟩ := arena_Fits.l0_to l hl d (i + 1) (n + l[i]) (by omega) (by omega) (by omega) (by omega)
        refine ⟨k + 1, ?_⟩
        simp only [arena_Fits.l0]
        rw [if_pos (by omega), if_pos (by omega), if_pos (by omega), hr, word_Add.at_ _ _ h0 h1, drop_at l i hlt, restB_cons, if_neg hx, if_neg hx, if_neg h2, if_neg h2]
        simp only [Option.bind_some, if_true]
        rw [show wrap64 ((i : Int) + 1) = ((i + 1 : Nat) : Int) from by unfold wrap64; omega, hk]
theorem arena_Fits_c.to {l0 : List Int} {r : Bool} (h : arena_Fits_c.f l0 = some r) : ∃ k, arena_Fits.f k l0 = some r := by
  obtain rfl := Option.some.inj h
  unfold arena_Fits.f fitsB
  by_cases h1 : (l0.length : Int) < 1
  · have e : decide (1 ≤ l0.length) = false := decide_eq_false (by omega)
    exact ⟨1, by rw [if_pos h1, e]; simp [arena_Fits.j0]⟩
  · have e : decide (1 ≤ l0.length) = true := decide_eq_true (by omega)
    by_cases h2 : (l0.length : Int) > 16
    · have e2 : decide (l0.length ≤ 16) = false := decide_eq_false (by omega)
      exact ⟨1, by rw [if_neg h1, if_pos h2, e, e2]; simp [arena_Fits.j0]⟩
    · have e2 : decide (l0.length ≤ 16) = true := decide_eq_true (by omega)
      have hr : rd l0 0 = l0.getD 0 0 := rfl
      by_cases h3 : l0.getD 0 0 < 1
      · have e3 : decide (1 ≤ l0.getD 0 0) = false := decide_eq_false (by omega)
        exact ⟨1, by rw [if_neg h1, if_neg h2, if_pos (by omega), e, e2, e3, hr, decide_eq_true h3]; simp [arena_Fits.j0]⟩
      · have e3 : decide (1 ≤ l0.getD 0 0) = true := decide_eq_true (by omega)
        obtain ⟨k, hk⟩ := arena_Fits.l0_to l0 (by omega) l0.length 0 0 (by omega) (by omega) (by omega) (by omega)
        refine ⟨k + 1, ?_⟩
        rw [if_neg h1, if_neg h2, if_pos (by omega), e, e2, e3, hr, decide_eq_false h3]
        simp only [arena_Fits.j0, Bool.true_and]
        simpa using hk

theorem arena_Fits_c.calls (A0 : Option Addr) (c0 : Nat) (l0 : List Int) (r : Bool) (w : World) (hr0 : Kd.C (Kd.int .i64) w A0 l0.length l0) (hc0 : l0.length ≤ c0) (h : arena_Fits_c.f l0 = some r) :
    Calls Try.prog 20 #[.slice A0 l0.length c0] w fun e w' => e = .returned (.bool r) ∧ Below w.heap.size w w' := by
  obtain ⟨k_, hk_⟩ := arena_Fits_c.to h
  exact arena_Fits.calls k_ A0 c0 l0 r w hr0 hc0 hk_

end Go.Proofs.Ythlhnodedofibaa.F
end

section
namespace Go.Proofs.Ythlhnodedofibaa.F
open Go.RowKit Go.Proofs.YthlhnodedofibaaW.PrintWords Go.Proofs.YthlhnodedofibaaW.PrintLast Go.Proofs.YthlhnodedofibaaW.PrintMore
attribute [local go_sem] max2_int min2_int max_two min_two max_three min_three max_four min_four   -- for this text's walks alone
set_option linter.unusedVariables false
set_option linter.unusedSimpArgs false

/-! ### arena_Right: function 21 -/
def arena_Right.f (l0 : List (List Int)) : Option (Bool) := (arena_Sizes_c.f l0).bind fun t101 => ((arena_Fits_c.f t101).bind fun t104 => (some t104))
set_option maxHeartbeats 8000000 in
set_option maxRecDepth 100000 in
theorem arena_Right.calls (A0 : Option Addr) (c0 : Nat) (l0 : List (List Int)) (r : Bool) (w : World) (hr0 : Kd.C (Kd.slice 42 (Kd.int .u64)) w A0 l0.length l0) (hc0 : l0.length ≤ c0) (h : arena_Right.f l0 = some r) :
    Calls Try.prog 21 #[.slice A0 l0.length c0] w fun e w' => e = .returned (.bool r) ∧ Below w.heap.size w w' := by
  have HR0 := Aside0.mk hr0
  have HC0 := Aside0.mk hc0
  clear hr0 hc0
  have HB := Aside0.mk (Below.refl w.heap.size w)
  have H : ((arena_Sizes_c.f l0).bind fun t101 => ((arena_Fits_c.f t101).bind fun t104 => (some t104))) = some r := h
  clear h
  replace H := Option.bind_eq_some_iff.mp H
  obtain ⟨t101, A20, H⟩ := H
  replace H : ((arena_Fits_c.f t101).bind fun t104 => (some t104)) = some r := H
  have A2 := Aside0.mk A20
  clear A20
  replace H := Option.bind_eq_some_iff.mp H
  obtain ⟨t104, A30, H⟩ := H
  replace H : (some t104) = some r := H
  have A3 := Aside0.mk A30
  clear A30
  obtain rfl := Option.some.inj H
  go_enter Try.func21, Try.ntmps21
  go_wp2_with (first | ((with_reducible refine gate_callee (f := 19) rfl ?_); refine goesL_ (some 4) rfl rfl Try.func19 (by kernel_rfl) rfl #[.slice A0 l0.length c0] rfl (by (try simp only [List.map_toArray, List.map_cons, List.map_nil]); first | done | rfl | (simp only [List.length_drop, List.length_take]; rfl)) ?_; (with_reducible refine (arena_Sizes_c.calls _ _ l0 t101 _ ?side1 ?side2 A2.out).mono ?_); (case side1 => repeat (first | exact HR0.out | (with_reducible refine Kd.C_alloc ?_ _) | (with_reducible refine Kd.C_drewN ?_ _) | (with_reducible refine Kd.C_drew ?_))); (case side2 => exact HC0.out); rintro e w4 ⟨v102, rfl, ho0, hb⟩; refine ⟨_, rfl, ?_⟩; have n0_ := Aside0.mk (Kd.R_lower ho0 (below_size (by repeat (first | (with_reducible first | exact HB.out | apply below_alloc | apply pw_below_drewN | apply below_drew1) | exact HB.out)))); have n1_ := Aside0.mk (below_step (by repeat (first | (with_reducible first | exact HB.out | apply below_alloc | apply pw_below_drewN | apply below_drew1) | exact HB.out)) hb); clear HB; have HO103 := n0_; have HB := n1_; clear n0_ n1_; (try clear hb); (try clear hb2); (try clear hk); (try clear hi); (try clear ho0); obtain ⟨Ao5, co5, eo5⟩ := Kd.R_slice HO103.out; subst eo5) | ((with_reducible refine gate_callee (f := 20) rfl ?_); refine goesL_ (some 5) rfl rfl Try.func20 (by kernel_rfl) rfl #[.slice Ao5 t101.length co5] rfl (by (try simp only [List.map_toArray, List.map_cons, List.map_nil]); first | done | rfl | (simp only [List.length_drop, List.length_take]; rfl)) ?_; (with_reducible refine (arena_Fits_c.calls _ _ t101 t104 _ ?side1 ?side2 A3.out).mono ?_); (case side1 => repeat (first | exact (Kd.R_reads' HO103.out).2.2 | (with_reducible refine Kd.C_alloc ?_ _) | (with_reducible refine Kd.C_drewN ?_ _) | (with_reducible refine Kd.C_drew ?_))); (case side2 => exact (Kd.R_reads' HO103.out).2.1); rintro e w6 ⟨rfl, hb⟩; refine ⟨_, rfl, ?_⟩; have n0_ := Aside0.mk (Kd.R_below (by (with_reducible repeat (first | apply Kd.R_alloc | apply Kd.R_drewN | apply Kd.R_drew)); exact HO103.out) hb); have n1_ := Aside0.mk (below_step (by repeat (first | (with_reducible first | exact HB.out | apply below_alloc | apply pw_below_drewN | apply below_drew1) | exact HB.out)) hb); clear HO103; clear HB; have HO103 := n0_; have HB := n1_; clear n0_ n1_; (try clear hb); (try clear hb2); (try clear hk); (try clear hi)))
  go_ret
  exact ⟨by first | rfl | (simp [errW_none, errW_some] <;> rfl) | (simp [*, errW_none, errW_some] <;> rfl), by repeat (first | (with_reducible first | exact HB.out | apply below_alloc | apply pw_below_drewN | apply below_drew1) | exact HB.out)⟩

end Go.Proofs.Ythlhnodedofibaa.F
end

section
namespace Go.Proofs.Ythlhnodedofibaa.F
open Go.RowKit Go.Proofs.YthlhnodedofibaaW.PrintWords Go.Proofs.YthlhnodedofibaaW.PrintLast Go.Proofs.YthlhnodedofibaaW.PrintMore
attribute [local go_sem] max2_int min2_int max_two min_two max_three min_three max_four min_four   -- for this text's walks alone
set_option linter.unusedVariables false
set_option linter.unusedSimpArgs false

open Go.Proofs.Ythlhnodedofibaa.H
def arena_Right_c.f (l0 : List (List Int)) : Option Bool := if l0.length ≤ 1000000 then some (rightB l0) else none
theorem arena_Right_c.to {l0 : List (List Int)} {r : Bool} (h : arena_Right_c.f l0 = some r) : arena_Right.f l0 = some r := by
  unfold arena_Right_c.f at h
  split at h
  case isFalse => cases h
  case isTrue hl =>
  obtain rfl := Option.some.inj h
  unfold arena_Right.f arena_Sizes_c.f arena_Fits_c.f
  rw [if_pos hl]
  rfl

theorem arena_Right_c.calls (A0 : Option Addr) (c0 : Nat) (l0 : List (List Int)) (r : Bool) (w : World) (hr0 : Kd.C (Kd.slice 42 (Kd.int .u64)) w A0 l0.length l0) (hc0 : l0.length ≤ c0) (h : arena_Right_c.f l0 = some r) :
    Calls Try.prog 21 #[.slice A0 l0.length c0] w fun e w' => e = .returned (.bool r) ∧ Below w.heap.size w w' := by
  exact arena_Right.calls A0 c0 l0 r w hr0 hc0 (arena_Right_c.to h)

end Go.Proofs.Ythlhnodedofibaa.F
end

section
/- The checksum as a plain function on numbers, bit by bit and byte by byte. No program in sight. -/
namespace Go.Proofs.Ythlhnodedofibaa.H
set_option linter.unusedVariables false
set_option linter.unusedSimpArgs false
/-- One bit. -/
def stepN (n : Nat) : Nat := n / 2 ^^^ (if n % 2 = 1 then 2197175160 else 0)
/-- So many bits. -/
def stepsN : Nat → Nat → Nat
  | 0, n => n
  | k + 1, n => stepsN k (stepN n)
theorem stepsN_succ : ∀ (k n : Nat), stepsN (k + 1) n = stepN (stepsN k n)
  | 0, _ => rfl
  | k + 1, n => by rw [stepsN, stepsN_succ k, stepsN]
theorem stepN_lt {n : Nat} (h : n < 4294967296) : stepN n < 4294967296 := by
  have : n / 2 ^^^ (if n % 2 = 1 then 2197175160 else 0) < 2 ^ 32 := Nat.xor_lt_two_pow (by omega) (by split <;> omega)
  exact this
theorem stepsN_lt : ∀ (k : Nat) {n : Nat}, n < 4294967296 → stepsN k n < 4294967296
  | 0, _, h => h
  | k + 1, _, h => stepsN_lt k (stepN_lt h)
theorem xor_div2 (a b : Nat) : (a ^^^ b) / 2 = a / 2 ^^^ b / 2 := by
  have : (a ^^^ b) >>> 1 = a >>> 1 ^^^ b >>> 1 := Nat.shiftRight_xor_distrib
  simpa [Nat.shiftRight_eq_div_pow] using this
theorem stepN_xor (a b : Nat) : stepN (a ^^^ b) = stepN a ^^^ stepN b := by
  unfold stepN
  have hm : (a ^^^ b) % 2 = (a % 2) ^^^ (b % 2) := by have : (a ^^^ b) % 2 ^ 1 = a % 2 ^ 1 ^^^ b % 2 ^ 1 := Nat.xor_mod_two_pow; simpa using this
  rw [xor_div2, hm]
  rcases Nat.mod_two_eq_zero_or_one a with ha | ha <;> rcases Nat.mod_two_eq_zero_or_one b with hb | hb <;> simp only [ha, hb]
  · simp
  · simp [Nat.xor_assoc]
  · simp only [Nat.zero_xor, Nat.xor_zero, if_true, if_neg (show ¬ (0 = 1) by decide), show ((1 : Nat) ^^^ 0) = 1 from rfl]
    rw [Nat.xor_assoc, Nat.xor_assoc, Nat.xor_comm (b / 2)]
  · simp only [show ((1 : Nat) ^^^ 1) = 0 from rfl, if_true, if_neg (show ¬ (0 = 1) by decide), Nat.xor_zero]
    rw [Nat.xor_assoc, ← Nat.xor_assoc 2197175160, Nat.xor_comm 2197175160, Nat.xor_assoc (b / 2), Nat.xor_self, Nat.xor_zero]
theorem stepsN_xor : ∀ (k a b : Nat), stepsN k (a ^^^ b) = stepsN k a ^^^ stepsN k b
  | 0, _, _ => rfl
  | k + 1, a, b => by rw [stepsN, stepN_xor, stepsN_xor k, stepsN, stepsN]
theorem stepsN_split : ∀ (k n : Nat), stepsN k n = n / 2 ^ k ^^^ stepsN k (n % 2 ^ k)
  | 0, n => by simp [stepsN, Nat.mod_one]
  | k + 1, n => by
    have h1 : n % 2 ^ (k + 1) / 2 = n / 2 % 2 ^ k := by
      rw [Nat.pow_succ, Nat.mul_comm, Nat.mod_mul_right_div_self]
    have h2 : n % 2 ^ (k + 1) % 2 = n % 2 := by
      rw [Nat.pow_succ, Nat.mul_comm, Nat.mod_mul_right_mod]
    rw [stepsN, stepsN, stepN, stepN, h1, h2, stepsN_xor, stepsN_xor, stepsN_split k (n / 2), Nat.div_div_eq_div_mul, Nat.mul_comm 2 (2 ^ k), ← Nat.pow_succ, Nat.xor_assoc]
/-- One byte, and what a table of all 256 makes of it. -/
theorem byte_table {n c : Nat} (hc : c < 256) : stepsN 8 (n ^^^ c) = n / 256 ^^^ stepsN 8 (n % 256 ^^^ c) := by
  have h1 : (n ^^^ c) / 256 = n / 256 := by
    have : (n ^^^ c) >>> 8 = n >>> 8 ^^^ c >>> 8 := Nat.shiftRight_xor_distrib
    simp only [Nat.shiftRight_eq_div_pow] at this
    rw [show 2 ^ 8 = 256 from rfl] at this
    rw [this, Nat.div_eq_of_lt hc, Nat.xor_zero]
  have h2 : (n ^^^ c) % 256 = n % 256 ^^^ c := by
    have : (n ^^^ c) % 2 ^ 8 = n % 2 ^ 8 ^^^ c % 2 ^ 8 := Nat.xor_mod_two_pow
    rw [show 2 ^ 8 = 256 from rfl] at this
    rw [this, Nat.mod_eq_of_lt hc]
  rw [stepsN_split 8 (n ^^^ c), show 2 ^ 8 = 256 from rfl, h1, h2]
/-- All bytes, one behind the other. -/
def crcN (n : Nat) : List Int → Nat
  | [] => n
  | c :: cs => crcN (stepsN 8 (n ^^^ c.toNat)) cs
theorem crcN_append : ∀ (a b : List Int) (n : Nat), crcN n (a ++ b) = crcN (crcN n a) b
  | [], _, _ => rfl
  | c :: a, b, n => by rw [List.cons_append, crcN, crcN, crcN_append a b]
theorem crcN_lt : ∀ (l : List Int) {n : Nat}, n < 4294967296 → bytesB l = true → crcN n l < 4294967296
  | [], _, h, _ => h
  | c :: l, n, h, hb => by
    have hc := bytesB_at hb c (by simp)
    have : n ^^^ c.toNat < 2 ^ 32 := Nat.xor_lt_two_pow (by omega) (by omega)
    exact crcN_lt l (stepsN_lt 8 (by omega)) (bytesB_of fun x hx => bytesB_at hb x (by simp [hx]))
/-- The checksum n, over further bytes. -/
def moreL (n : Int) (l : List Int) : Int := ((crcN (n.toNat ^^^ 4294967295) l ^^^ 4294967295 : Nat) : Int)
def sumL (l : List Int) : Int := moreL 0 l
theorem moreL_range (n : Int) (l : List Int) (hn : n < 4294967296) (hb : bytesB l = true) : 0 ≤ moreL n l ∧ moreL n l < 4294967296 := by
  have h1 : n.toNat ^^^ 4294967295 < 2 ^ 32 := Nat.xor_lt_two_pow (by omega) (by omega)
  have h2 := crcN_lt l (n := n.toNat ^^^ 4294967295) (by omega) hb
  have h3 : crcN (n.toNat ^^^ 4294967295) l ^^^ 4294967295 < 2 ^ 32 := Nat.xor_lt_two_pow (by omega) (by omega)
  unfold moreL
  omega
theorem moreL_append (n : Int) (a b : List Int) : moreL n (a ++ b) = moreL (moreL n a) b := by
  unfold moreL
  rw [crcN_append, Int.toNat_natCast, Nat.xor_assoc, Nat.xor_self, Nat.xor_zero]
theorem moreL_nil (n : Int) (h : 0 ≤ n) : moreL n [] = n := by
  unfold moreL
  rw [crcN, Nat.xor_assoc, Nat.xor_self, Nat.xor_zero, Int.toNat_of_nonneg h]
/-- Bytes and behind them their checksum's four. -/
def sealL (l : List Int) : List Int := l ++ putL (sumL l) 4
/-- A manifest: its session, its sizes, its checksum, and whether there is one. -/
def ofBytes (a0 : Int) (l1 : List (List Int)) (k : Nat) : List Int := putL a0 8 ++ ((sizesL l1).take k).flatMap fun n => putL n 2
def ofL (a0 : Int) (l1 : List (List Int)) : Int × List Int × Int × Int :=
  if rightB l1 = true then (a0, sizesL l1, moreL 0 (ofBytes a0 l1 l1.length ++ bytesL l1), 0) else (0, [], 0, 1)
theorem ofBytes_byte (a0 : Int) (l1 : List (List Int)) (k : Nat) : bytesB (ofBytes a0 l1 k) = true := by
  refine bytesB_of fun c hc => ?_
  simp only [ofBytes, List.mem_append, List.mem_flatMap] at hc
  rcases hc with hc | ⟨n, _, hc⟩
  · exact putL_byte _ _ c hc
  · exact putL_byte _ _ c hc
theorem ofBytes_succ (a0 : Int) (l1 : List (List Int)) (k : Nat) (h : k < (sizesL l1).length) : ofBytes a0 l1 (k + 1) = ofBytes a0 l1 k ++ putL ((sizesL l1)[k]'h) 2 := by
  unfold ofBytes
  rw [take_at _ k h, List.flatMap_append, List.append_assoc]
  simp
/-- How many words a manifest speaks of. -/
def wordsM (l : List Int) : Int := if fitsB l = true then l.sum else 0
theorem wordsM_range (l : List Int) : 0 ≤ wordsM l ∧ wordsM l ≤ 4096 := by
  unfold wordsM
  split
  · rename_i h
    have h := fitsB_at h
    have := sum_nonneg' h.2.2.2.1
    omega
  · omega
def ceilL (a n : Int) : Int := if 0 ≤ a ∧ a ≤ 9007199254740992 ∧ 1 ≤ n ∧ n ≤ 9007199254740992 then (a + n - 1) / n else 0
/-- Sealed bytes. -/
def rightC (l : List Int) : Bool := decide (4 ≤ l.length) && decide (sealL (l.take (l.length - 4)) = l)
end Go.Proofs.Ythlhnodedofibaa.H
end

section
namespace Go.Proofs.Ythlhnodedofibaa.F
open Go.RowKit Go.Proofs.YthlhnodedofibaaW.PrintWords Go.Proofs.YthlhnodedofibaaW.PrintLast Go.Proofs.YthlhnodedofibaaW.PrintMore
attribute [local go_sem] max2_int min2_int max_two min_two max_three min_three max_four min_four   -- for this text's walks alone
set_option linter.unusedVariables false
set_option linter.unusedSimpArgs false

/-! ### crc_Step: function 75 -/
def crc_Step.f (a0 : Int) : Option (Int) := some (Go.bits .xor .u32 (a0 / 2) ((2197175160 * (Go.bits .and .u32 a0 1)) % 4294967296))
set_option maxHeartbeats 8000000 in
set_option maxRecDepth 100000 in
theorem crc_Step.calls (a0 : Int) (r : Int) (w : World) (h : crc_Step.f a0 = some r) :
    Calls Try.prog 75 #[.int .u32 a0] w fun e w' => e = .returned (.int .u32 r) ∧ Drawn0 w w' := by
  have H : (some (Go.bits .xor .u32 (a0 / 2) ((2197175160 * (Go.bits .and .u32 a0 1)) % 4294967296))) = some r := h
  clear h
  obtain rfl := Option.some.inj H
  go_enter Try.func75, Try.ntmps75
  go_wp2
  go_ret
  exact ⟨by first | rfl | (simp; done) | (simp [*]; done), by repeat (first | exact Drawn0.refl _ | apply Drawn0.step)⟩

end Go.Proofs.Ythlhnodedofibaa.F
end

section
namespace Go.Proofs.Ythlhnodedofibaa.F
open Go.RowKit Go.Proofs.YthlhnodedofibaaW.PrintWords Go.Proofs.YthlhnodedofibaaW.PrintLast Go.Proofs.YthlhnodedofibaaW.PrintMore
attribute [local go_sem] max2_int min2_int max_two min_two max_three min_three max_four min_four   -- for this text's walks alone
set_option linter.unusedVariables false
set_option linter.unusedSimpArgs false

/-! ### crc_Table_1: function 74 -/
def crc_Table_1.l0 : Nat → Int → Int → Option (Int)
  | 0, _, _ => none
  | k + 1, x0, x3 => if x3 < 8 then ((crc_Step.f x0).bind fun t101 => (crc_Table_1.l0 k t101 (wrap64 (x3 + 1)))) else (some x0)
def crc_Table_1.f (k : Nat) (a0 : Int) : Option (Int) := crc_Table_1.l0 k a0 0
theorem crc_Table_1.mono_l : ∀ k, (∀ y0 y1, LeO (crc_Table_1.l0 k y0 y1) (crc_Table_1.l0 (k + 1) y0 y1))
  | 0 => fun _ _ r h => by simp [crc_Table_1.l0] at h
  | k + 1 => by
    have ih0 := crc_Table_1.mono_l k
    · intro y0 y1
      unfold crc_Table_1.l0
      repeat' first
      | (with_reducible exact ih0 _ _)
      | (with_reducible exact LeO.refl _)
      | (with_reducible exact LeO.none _)
      | (with_reducible refine LeO.ite ?_ ?_)
      | (with_reducible refine LeO.bind ?_ (fun _ => ?_))
      | exact ih0 _ _
      | exact LeO.none _
      | refine LeO.ite ?_ ?_
      | refine LeO.bind ?_ (fun _ => ?_)
theorem crc_Table_1.mono : ∀ a0 k, LeO (crc_Table_1.f k a0) (crc_Table_1.f (k + 1) a0) := by
  intro a0 k
  have ih0 := crc_Table_1.mono_l k
  unfold crc_Table_1.f
  repeat' first
      | (with_reducible exact ih0 _ _)
      | (with_reducible exact LeO.refl _)
      | (with_reducible exact LeO.none _)
      | (with_reducible refine LeO.ite ?_ ?_)
      | (with_reducible refine LeO.bind ?_ (fun _ => ?_))
      | exact ih0 _ _
      | exact LeO.none _
      | refine LeO.ite ?_ ?_
      | refine LeO.bind ?_ (fun _ => ?_)
set_option maxHeartbeats 8000000 in
set_option maxRecDepth 100000 in
theorem crc_Table_1.calls (k : Nat) (a0 : Int) (r : Int) (w : World) (h : crc_Table_1.f k a0 = some r) :
    Calls Try.prog 74 #[.int .u32 a0] w fun e w' => e = .returned (.int .u32 r) ∧ Drawn0 w w' := by
  have H : (crc_Table_1.l0 k a0 0) = some r := h
  clear h
  have H' := Aside0.mk H
  clear H
  go_enter Try.func74, Try.ntmps74
  go_wp2
  go_loopg [0, 3] k (fun kq v0 v3 w' => ∃ (x0_1 : Int) (x3_1 : Int), v0 = .int .u32 x0_1 ∧ v3 = .int .i64 x3_1 ∧ Aside0 (crc_Table_1.l0 kq x0_1 x3_1 = some r) ∧ Aside0 (kq ≤ k) ∧ Drawn0 w w')
  case atStart => exact ⟨(a0), (0), (by first | rfl | (simp; done) | (simp [*]; done)), (by first | rfl | (simp; done) | (simp [*]; done)), H', ⟨Nat.le_refl _⟩, by repeat (first | exact Drawn0.refl _ | apply Drawn0.step)⟩
  case round =>
    clear H'
    obtain ⟨x0_1, x3_1, rfl, rfl, HA, HK1, ⟨m1, rfl⟩⟩ := hrel
    cases gk with
    | zero => exact absurd HA.out (by simp [crc_Table_1.l0])
    | succ k1 =>
      have H := HA.out
      clear HA
      simp only [crc_Table_1.l0] at H
      by_cases c2 : x3_1 < 8
      · rw [if_pos c2] at H
        have c2b0 : decide (x3_1 < 8) = true := decide_eq_true c2
        clear c2
        replace H := Option.bind_eq_some_iff.mp H
        obtain ⟨t101, A30, H⟩ := H
        replace H : (crc_Table_1.l0 k1 t101 (wrap64 (x3_1 + 1))) = some r := H
        have A3 := Aside0.mk A30
        clear A30
        have H' := Aside0.mk H
        clear H
        go_wp2_with (first | ((with_reducible refine gate_callee (f := 75) rfl ?_); refine goesL_ (some 6) rfl rfl Try.func75 (by kernel_rfl) rfl #[.int .u32 x0_1] rfl (by (try simp only [List.map_toArray, List.map_cons, List.map_nil]); first | done | rfl | (simp only [List.length_drop, List.length_take]; rfl)) ?_; (with_reducible refine (crc_Step.calls x0_1 t101 _ A3.out).mono ?_); rintro e w' ⟨rfl, ⟨nd, rfl⟩⟩; refine ⟨_, rfl, ?_⟩))
        go_roundg k1
        case measure => have := HK1.out; omega
        case rel => exact ⟨(t101), (wrap64 (x3_1 + 1)), (by first | rfl | (simp; done) | (simp [*]; done)), (by first | rfl | (simp; done) | (simp [*]; done)), H', ⟨by have := HK1.out; omega⟩, by repeat (first | exact Drawn0.refl _ | apply Drawn0.step)⟩
      · rw [if_neg c2] at H
        have c2b0 : decide (x3_1 < 8) = false := decide_eq_false c2
        clear c2
        obtain rfl := Option.some.inj H
        go_wp2
        go_ret
        exact ⟨by first | rfl | (simp; done) | (simp [*]; done), by repeat (first | exact Drawn0.refl _ | apply Drawn0.step)⟩

end Go.Proofs.Ythlhnodedofibaa.F
end

section
/- The checksum's table: what it holds, and what a pass over bytes makes of it. -/
namespace Go.Proofs.Ythlhnodedofibaa.F
open Go.RowKit Go.Proofs.YthlhnodedofibaaW.PrintWords Go.Proofs.YthlhnodedofibaaW.PrintLast Go.Proofs.YthlhnodedofibaaW.PrintMore Go.Proofs.Ythlhnodedofibaa.H
set_option linter.unusedVariables false
set_option linter.unusedSimpArgs false
attribute [local go_sem] Oper.semAt_some
theorem crc_Step.is (n : Nat) (h : n < 4294967296) : crc_Step.f (n : Int) = some ((stepN n : Nat) : Int) := by
  have hp : n % 2 < 2 := Nat.mod_lt _ (by omega)
  have h1 : Go.bits .and .u32 (n : Int) 1 = ((n % 2 : Nat) : Int) := by
    have := Go.u32_and_nat n 1 h (by omega)
    rw [show ((1 : Nat) : Int) = 1 from rfl] at this
    rw [this, Nat.and_one_is_mod]
  unfold crc_Step.f stepN
  rw [h1, show (n : Int) / 2 = ((n / 2 : Nat) : Int) from by omega]
  have h2 : (2197175160 * ((n % 2 : Nat) : Int)) % 4294967296 = ((if n % 2 = 1 then 2197175160 else 0 : Nat) : Int) := by
    rcases Nat.mod_two_eq_zero_or_one n with e | e <;> rw [e] <;> rfl
  rw [h2, Go.u32_xor_nat _ _ (by omega) (by split <;> omega)]
theorem crc_Table_1.l0_is : ∀ (d : Nat) (n : Nat), n < 4294967296 → d ≤ 8 → ∃ k, crc_Table_1.l0 k (n : Int) ((8 - d : Nat) : Int) = some ((stepsN d n : Nat) : Int)
  | 0, n, _, _ => ⟨1, by rw [crc_Table_1.l0, if_neg (by omega)]; rfl⟩
  | d + 1, n, h, hd => by
    obtain ⟨k, hk⟩ := crc_Table_1.l0_is d (stepN n) (stepN_lt h) (by omega)
    refine ⟨k + 1, ?_⟩
    rw [crc_Table_1.l0, if_pos (by omega), crc_Step.is n h, Option.bind_some, show wrap64 (((8 - (d + 1) : Nat) : Int) + 1) = ((8 - d : Nat) : Int) from by unfold wrap64; omega, hk]
    rfl
theorem crc_Table_1.is (n : Nat) (h : n < 4294967296) : ∃ k, crc_Table_1.f k (n : Int) = some ((stepsN 8 n : Nat) : Int) := by
  obtain ⟨k, hk⟩ := crc_Table_1.l0_is 8 n h (by omega)
  exact ⟨k, hk⟩
/-- Block b holds 256 numbers: the j-th is f j. -/
def Tab (W : World) (b : Nat) (f : Nat → Nat) : Prop := ∃ cells : Array Value, W.heap[b]? = some (.cells cells 100 (0, 0)) ∧ cells.size = 256 ∧ ∀ j (h : j < 256), cells[j]? = some (.int .u32 (f j : Nat))
theorem Tab.cell {W : World} {b : Nat} {f : Nat → Nat} (h : Tab W b f) (j : Nat) (hj : j < 256) : W.cell? ⟨b, j, none⟩ = some (.int .u32 (f j : Nat)) := by
  obtain ⟨cells, h1, h2, h3⟩ := h
  simp [World.cell?, h1, h3 j hj]
theorem Tab.frozen {W : World} {b : Nat} {f : Nat → Nat} (h : Tab W b f) (j : Nat) : W.frozen? ⟨b, j, none⟩ = false := by
  obtain ⟨cells, h1, h2, h3⟩ := h
  simp [World.frozen?, h1]
theorem Tab.lt {W : World} {b : Nat} {f : Nat → Nat} (h : Tab W b f) : b < W.heap.size := by
  obtain ⟨cells, h1, _⟩ := h
  exact (Array.getElem?_eq_some_iff.1 h1).1
theorem Tab.set {W : World} {b : Nat} {f : Nat → Nat} (h : Tab W b f) (j v : Nat) (hj : j < 256) : Tab (W.setCell ⟨b, j, none⟩ (.int .u32 (v : Int))) b (fun i => if i = j then v else f i) := by
  obtain ⟨cells, h1, h2, h3⟩ := h
  refine ⟨cells.setIfInBounds j (.int .u32 (v : Int)), ?_, by simpa using h2, fun i hi => ?_⟩
  · show (W.heap.modify b _)[b]? = _
    rw [Array.getElem?_modify, if_pos rfl, h1]
    rfl
  · by_cases e : i = j
    · subst e
      simp [h2, hj]
    · rw [Array.getElem?_setIfInBounds_ne (Ne.symm e), h3 i hi]
      show _ = some (Value.int .u32 ((if i = j then v else f i : Nat) : Int))
      rw [if_neg e]
theorem Tab.heap {W W' : World} {b : Nat} {f : Nat → Nat} (h : Tab W b f) (e : W'.heap[b]? = W.heap[b]?) : Tab W' b f := by
  obtain ⟨cells, h1, h2⟩ := h
  exact ⟨cells, e.trans h1, h2⟩
theorem Tab.imp {W : World} {b : Nat} {f g : Nat → Nat} (h : Tab W b f) (e : ∀ j, j < 256 → f j = g j) : Tab W b g := by
  obtain ⟨cells, h1, h2, h3⟩ := h
  exact ⟨cells, h1, h2, fun j hj => by rw [h3 j hj, e j hj]⟩
theorem skip_ {P : Program} {ops : Array Oper} {oi : Oper} {a : Act} {w w1 : World} {K : Act → World → Prop} {Q : Exit → Act → World → Prop} (hN : oi.dst = none) (hw : Region.wanted oi (yielded ops a.tmps) = true) (hrun : (execOp a.eval oi).run P w = .ok .skip w1) (h : K a w1) :
    if Region.wanted oi (yielded ops a.tmps) = true then Oper.wp P oi a w K Q else K (a.put none undef) w := by
  rw [if_pos hw]
  unfold Oper.wp
  rw [hrun, Oper.upon_skip, hN]
  exact h
theorem crcN_snoc (n : Nat) (l : List Int) (k : Nat) (h : k < l.length) : crcN n (l.take (k + 1)) = stepsN 8 (crcN n (l.take k) ^^^ (l[k]'h).toNat) := by
  rw [take_at l k h, crcN_append]
  rfl
set_option maxHeartbeats 1000000 in
set_option maxRecDepth 100000 in
/-- A pass over bytes. -/
theorem crc_More.calls (b : Nat) (n : Int) (A : Option Addr) (c : Nat) (l : List Int) (w : World) (hT : Tab w b (fun j => stepsN 8 j)) (hn : 0 ≤ n ∧ n < 4294967296) (hr : Kd.C (Kd.int .u8) w A l.length l) (hb : bytesB l = true) :
    Calls Try.prog 56 #[.pointer (some ⟨b, 0, none⟩), .int .u32 n, .slice A l.length c] w fun e w' => e = .returned (.int .u32 (moreL n l)) ∧ w' = w := by
  have HBB : Hid _ := hb
  have hsg : IntKind.u32.signed = false := rfl
  obtain ⟨n, rfl⟩ := Int.eq_ofNat_of_zero_le hn.1
  have hnn : n < 4294967296 := by omega
  have hx0 : Go.bits .xor .u32 IntKind.u32.max (n : Int) = ((crcN (n ^^^ 4294967295) [] : Nat) : Int) := by
    have h := Go.u32_xor_nat 4294967295 n (by omega) hnn
    rw [show IntKind.u32.max = ((4294967295 : Nat) : Int) from rfl, h, crcN, Nat.xor_comm]
  have hm0 : n ^^^ 4294967295 < 4294967296 := by
    have : n ^^^ 4294967295 < 2 ^ 32 := Nat.xor_lt_two_pow (by omega) (by omega)
    exact this
  have HM : Hid _ := hm0
  have HX : Hid _ := hx0
  have hres : moreL (n : Int) l = ((crcN (n ^^^ 4294967295) l ^^^ 4294967295 : Nat) : Int) := by unfold moreL; rw [Int.toNat_natCast]
  rw [hres]
  clear hb hn hnn hx0 hres hm0
  obtain ⟨s, hs⟩ : ∃ s, n ^^^ 4294967295 = s := ⟨_, rfl⟩
  rw [hs] at HM HX ⊢
  clear hs
  go_enter Try.func56, Try.ntmps56
  go_wp2
  go_loopg [1, 15] l.length (fun g v1 v15 wr => ∃ k : Nat, k + g = l.length ∧ v15 = .int .i64 k ∧ v1 = .int .u32 ((crcN s (l.take k) : Nat) : Int) ∧ wr = w)
  case atStart => exact ⟨0, by omega, rfl, by rw [HX.out]; rfl, rfl⟩
  case round =>
    obtain ⟨k, hk, rfl, rfl, rfl⟩ := hrel
    have HK : Hid _ := hk
    by_cases hlt : k < l.length
    · obtain ⟨ad, hA, hcx⟩ := ReadsInt.at_ (Kd.reads_of_C (d := (0 : Int)) hr) (k : Int) (by omega) (by omega)
      rw [Int.toNat_natCast, show rd l (k : Int) = l[k] from getD_toNat l 0 k hlt] at hcx
      subst hA
      have hby := bytesB_at HBB.out _ (List.getElem_mem hlt)
      obtain ⟨x, hx⟩ := Int.eq_ofNat_of_zero_le hby.1
      have hsn := crcN_snoc s l k hlt
      have hm := crcN_lt (l.take k) HM.out (bytesB_take HBB.out k)
      rw [hx] at hcx hsn
      rw [Int.toNat_natCast] at hsn
      have hx8 : x < 256 := by omega
      obtain ⟨m, hmm⟩ : ∃ m, crcN s (l.take k) = m := ⟨_, rfl⟩
      rw [hmm] at hsn hm
      rw [hmm]
      rw [byte_table hx8] at hsn
      have hi : Go.bits .xor .u8 ((m : Int) % 256) (x : Int) = ((m % 256 ^^^ x : Nat) : Int) := by
        rw [show (m : Int) % 256 = ((m % 256 : Nat) : Int) from by omega, Go.u8_xor_nat _ _ (by omega) hx8]
      have hi8 : m % 256 ^^^ x < 256 := by
        have : m % 256 ^^^ x < 2 ^ 8 := Nat.xor_lt_two_pow (by omega) (by omega)
        exact this
      have hcell := hT.cell _ hi8
      have hd : (m : Int) / 256 = ((m / 256 : Nat) : Int) := by omega
      have h8 := stepsN_lt 8 (n := m % 256 ^^^ x) (by omega)
      have hxx := Go.u32_xor_nat (m / 256) (stepsN 8 (m % 256 ^^^ x)) (by omega) h8
      clear h8
      obtain ⟨j, hj⟩ : ∃ j, m % 256 ^^^ x = j := ⟨_, rfl⟩
      rw [hj] at hi hi8 hcell hsn hxx
      obtain ⟨y, hy⟩ : ∃ y, stepsN 8 j = y := ⟨_, rfl⟩
      obtain ⟨q, hq⟩ : ∃ q, m / 256 = q := ⟨_, rfl⟩
      obtain ⟨z, hz⟩ : ∃ z, q ^^^ y = z := ⟨_, rfl⟩
      rw [hy] at hcell hsn hxx
      rw [hq] at hd hsn hxx
      rw [hz] at hsn hxx
      have HSN : Hid _ := hsn
      clear hsn hby hx hmm hj hk hy hq hz
      have hsh : ∀ W : World, (Go.binOp .shr 44 (Value.int .u32 (m : Int)) (Value.int .u64 8)).run Try.prog W = .ok (.int .u32 (q : Int)) W := by
        intro W
        show (Op.shift .shr .u32 (m : Int) .u64 8).run Try.prog W = _
        rw [Go.shift_shr .u32 .u64 (m : Int) 8 (by omega) (by decide), show ((2 : Int) ^ (8 : Int).toNat) = 256 from rfl, hd]
        rfl
      go_wp2
      go_roundg (gk - 1)
      case measure => have := HK.out; omega
      case rel => exact ⟨k + 1, by have := HK.out; omega, by have := hr.2.1; rw [show wrap64 ((k : Int) + 1) = ((k + 1 : Nat) : Int) from by unfold wrap64; omega], by rw [HSN.out], rfl⟩
    · obtain rfl : k = l.length := by omega
      have hfin : Go.bits .xor .u32 IntKind.u32.max ((crcN s l : Nat) : Int) = ((crcN s l ^^^ 4294967295 : Nat) : Int) := by
        have h := Go.u32_xor_nat 4294967295 (crcN s l) (by omega) (crcN_lt l HM.out HBB.out)
        rw [show IntKind.u32.max = ((4294967295 : Nat) : Int) from rfl, h, Nat.xor_comm]
      rw [List.take_length]
      obtain ⟨m, hm⟩ : ∃ m, crcN s l = m := ⟨_, rfl⟩
      rw [hm] at hfin ⊢
      obtain ⟨z, hz⟩ : ∃ z, m ^^^ 4294967295 = z := ⟨_, rfl⟩
      rw [hz] at hfin
      have HZ : Hid _ := hz
      have HMM : Hid _ := hm
      clear hz hm hk
      go_wp2
      go_ret
      exact ⟨by rw [HMM.out, HZ.out]; rfl, rfl⟩
set_option maxHeartbeats 1000000 in
set_option maxRecDepth 100000 in
/-- The table. -/
theorem crc_Table.calls (w : World) :
    Calls Try.prog 54 #[] w fun e w' => e = .returned (.pointer (some ⟨w.heap.size, 0, none⟩)) ∧ Tab w' w.heap.size (fun j => stepsN 8 j) ∧ Below w.heap.size w w' ∧ w'.heap.size = w.heap.size + 1 := by
  have hzc : Try.zeroCells100 = Array.replicate 256 (.int .u32 0) := by rfl
  have hz : Tab (w.alloc (Obj.cells Try.zeroCells100 100)) w.heap.size (fun j => if j < 0 then stepsN 8 j else 0) := ⟨_, World.alloc_heap_new w _, by rw [hzc]; simp, fun j hj => by rw [hzc]; simp [hj]⟩
  have hB : Below w.heap.size w (w.alloc (Obj.cells Try.zeroCells100 100)) := (Below.refl _ w).alloc (Nat.le_refl _) _
  have HZ := Aside0.mk hz
  have HB := Aside0.mk hB
  clear hz hB hzc
  go_enter Try.func54, Try.ntmps54
  go_wp2
  go_loopg [5] 256 (fun g v5 wr => ∃ k : Nat, k + g = 256 ∧ v5 = .int .i64 k ∧ Aside0 (Tab wr w.heap.size (fun j => if j < k then stepsN 8 j else 0)) ∧ Aside0 (Below w.heap.size w wr) ∧ Aside0 (wr.heap.size = w.heap.size + 1))
  case atStart => exact ⟨0, by omega, rfl, HZ, HB, ⟨by simp⟩⟩
  case round =>
    clear HZ HB
    obtain ⟨k, hk, rfl, HZ, HB, HS⟩ := hrel
    have HK : Hid _ := hk
    by_cases hlt : k < 256
    · have hcon : IntKind.u32.wrap (k : Int) = (k : Int) := by simp [IntKind.wrap, IntKind.signed, IntKind.bits]; omega
      obtain ⟨q, hq⟩ := crc_Table_1.is k (by omega)
      clear hk
      go_wp2
      refine start_ (n := 9) (S := fun _ => True) (ds := []) #[false, false, false, false, false, false, false, false, false] (by kernel_rfl) rfl rfl trivial (fun _ => ?_)
      refine pure_ (i := 0) (N := some 8) (v := ?_) (a' := ?_) #[true, false, false, false, false, false, false, false, false] rfl rfl (by kernel_rfl) (fun _ _ _ h => h) (Or.inl ⟨by rfl, ?_⟩) ?_ ?_
      rotate_left
      · intro w'
        go_simp
        with_reducible rfl
      rotate_left
      · simp only [Act.put, List.setIfInBounds_toArray, List.set_cons_zero, List.set_cons_succ, i64_w, i32_w]
        rfl
      refine pure_ (i := 1) (N := some 9) (v := ?_) (a' := ?_) #[true, true, false, false, false, false, false, false, false] rfl rfl (by kernel_rfl) (fun _ _ _ h => h) (Or.inl ⟨by rfl, ?_⟩) ?_ ?_
      rotate_left
      · intro w'
        go_simp
        with_reducible rfl
      rotate_left
      · simp only [Act.put, List.setIfInBounds_toArray, List.set_cons_zero, List.set_cons_succ, i64_w, i32_w]
        rfl
      refine pure_ (i := 2) (N := some 10) (v := ?_) (a' := ?_) #[true, true, true, false, false, false, false, false, false] rfl rfl (by kernel_rfl) (fun _ _ _ h => h) (Or.inl ⟨by rfl, ?_⟩) ?_ ?_
      rotate_left
      · intro w'
        go_simp
        with_reducible rfl
      rotate_left
      · simp only [Act.put, List.setIfInBounds_toArray, List.set_cons_zero, List.set_cons_succ, i64_w, i32_w]
        rfl
      refine pure_ (i := 3) (N := some 11) (v := ?_) (a' := ?_) #[true, true, true, true, false, false, false, false, false] rfl rfl (by kernel_rfl) (fun _ _ _ h => h) (Or.inl ⟨by rfl, ?_⟩) ?_ ?_
      rotate_left
      · intro w'
        go_simp
        with_reducible rfl
      rotate_left
      · simp only [Act.put, List.setIfInBounds_toArray, List.set_cons_zero, List.set_cons_succ, i64_w, i32_w]
        rfl
      refine pure_ (i := 4) (N := some 12) (v := ?_) (a' := ?_) #[true, true, true, true, true, false, false, false, false] rfl rfl (by kernel_rfl) (fun _ _ _ h => h) (Or.inl ⟨by rfl, ?_⟩) ?_ ?_
      rotate_left
      · intro w'
        go_simp
        with_reducible rfl
      rotate_left
      · simp only [Act.put, List.setIfInBounds_toArray, List.set_cons_zero, List.set_cons_succ, i64_w, i32_w]
        rfl
      refine pure_ (i := 6) (N := some 14) (v := ?_) (a' := ?_) #[true, true, true, true, true, false, true, false, false] rfl rfl (by kernel_rfl) (fun _ _ _ h => h) (Or.inl ⟨by rfl, ?_⟩) ?_ ?_
      rotate_left
      · intro w'
        go_simp
        with_reducible rfl
      rotate_left
      · simp only [Act.put, List.setIfInBounds_toArray, List.set_cons_zero, List.set_cons_succ, i64_w, i32_w]
        rfl
      refine one_ (i := 5) (N := some 13) #[true, true, true, true, true, true, true, false, false] rfl rfl (by kernel_rfl) (by decide) (fun K hK => ?_)
      refine call_ 74 #[.int .u32 (k : Int)] (by rfl) rfl (by
        have he := enters_ Try.func74 (by kernel_rfl) rfl #[.int .u32 (k : Int)] wr.drew
        simp [go_sem, he]) ?_
      refine (crc_Table_1.calls q k _ wr.drew hq).mono ?_
      rintro e w5 ⟨rfl, hd5⟩
      have hz5 : Tab w5 w.heap.size (fun j => if j < k then stepsN 8 j else 0) := by
        obtain ⟨nd, rfl⟩ := hd5
        exact HZ.out.heap rfl
      have HB5 : Aside0 (Below w.heap.size w w5) := by
        obtain ⟨nd, rfl⟩ := hd5
        exact ⟨pw_below_drewN (Below.drew HB.out) _⟩
      have HS5 : Aside0 (w5.heap.size = w.heap.size + 1) := by
        obtain ⟨nd, rfl⟩ := hd5
        exact ⟨HS.out⟩
      clear hd5
      refine ⟨_, rfl, ?_⟩
      refine hK.out _ _ trivial (fun _ => ?_)
      clear hK K
      refine norm_ (a' := ?_) ?_ ?_
      rotate_left
      · show Act.put _ (some 13) _ = _
        simp only [Act.put, List.setIfInBounds_toArray, List.set_cons_zero, List.set_cons_succ, i64_w, i32_w]
        rfl
      refine pure_ (i := 7) (N := some 15) (v := ?_) (a' := ?_) #[true, true, true, true, true, true, true, true, false] rfl rfl (by kernel_rfl) (fun _ _ _ h => h) (Or.inl ⟨by rfl, ?_⟩) ?_ ?_
      rotate_left
      · intro w'
        go_simp
        with_reducible rfl
      rotate_left
      · simp only [Act.put, List.setIfInBounds_toArray, List.set_cons_zero, List.set_cons_succ, i64_w, i32_w]
        rfl
      have hc := hz5.cell k hlt
      have hf := hz5.frozen k
      refine one_ (i := 8) (N := none) #[true, true, true, true, true, true, true, true, true] rfl rfl (by kernel_rfl) (by decide) (fun K hK => ?_)
      refine skip_ rfl (by rfl) (w1 := w5.setCell ⟨w.heap.size, k, none⟩ (.int .u32 (stepsN 8 k : Nat))) (by simp [go_sem, hc, hf]) ?_
      refine hK.out _ _ trivial (fun _ => ?_)
      clear hK K
      refine done_ (by kernel_rfl) ?_
      have hz6 := hz5.set k (stepsN 8 k) hlt
      have hz7 := hz6.imp (g := fun j => if j < k + 1 then stepsN 8 j else 0) (fun j hj => by
        by_cases e : j = k
        · subst e
          rw [if_pos rfl, if_pos (by omega)]
        · rw [if_neg e]
          by_cases e2 : j < k
          · rw [if_pos e2, if_pos (by omega)]
          · rw [if_neg e2, if_neg (by omega)])
      have HZ7 := Aside0.mk hz7
      clear hz5 hz6 hz7 hc hf
      go_wp2
      go_roundg (gk - 1)
      case measure => have := HK.out; omega
      case rel => exact ⟨k + 1, by have := HK.out; omega, by simp, HZ7, ⟨below_set HB5.out (Nat.le_refl _)⟩, ⟨by simpa using HS5.out⟩⟩
    · obtain rfl : k = 256 := by omega
      have HZ8 := Aside0.mk (HZ.out.imp (g := fun j => stepsN 8 j) (fun j hj => if_pos hj))
      clear hk
      go_wp2
      go_ret
      exact ⟨rfl, HZ8.out, HB.out, HS.out⟩
end Go.Proofs.Ythlhnodedofibaa.F
end

section
/- The running checksum that mani.Of keeps in a closure. -/
namespace Go.Proofs.Ythlhnodedofibaa.F
open Go.RowKit Go.Proofs.YthlhnodedofibaaW.PrintWords Go.Proofs.YthlhnodedofibaaW.PrintLast Go.Proofs.YthlhnodedofibaaW.PrintMore Go.Proofs.Ythlhnodedofibaa.H
set_option linter.unusedVariables false
set_option linter.unusedSimpArgs false
attribute [local go_sem] Oper.semAt_some
set_option maxHeartbeats 1000000 in
set_option maxRecDepth 100000 in
theorem mani_more.calls (gt gs bt : Nat) (s : Int) (A : Option Addr) (c : Nat) (l : List Int) (W : World) (hT : Tab W bt (fun j => stepsN 8 j)) (hp : W.heap[gt]? = some (.cells #[.pointer (some ⟨bt, 0, none⟩)] 83 (0, 0))) (hs : W.heap[gs]? = some (.cells #[.int .u32 s] 44 (0, 0)))
    (hs2 : 0 ≤ s ∧ s < 4294967296) (hC : Kd.C (Kd.int .u8) W A l.length l) (hb : bytesB l = true) :
    Calls Try.prog 55 #[.slice A l.length c, .pointer (some ⟨gt, 0, none⟩), .pointer (some ⟨gs, 0, none⟩)] W fun e w' => e = .returned (.tuple #[]) ∧ w' = W.setCell ⟨gs, 0, none⟩ (.int .u32 (moreL s l)) := by
  have hc1 : W.cell? ⟨gt, 0, none⟩ = some (.pointer (some ⟨bt, 0, none⟩)) := (blk_cell hp 0).trans rfl
  have hc2 : W.cell? ⟨gs, 0, none⟩ = some (.int .u32 s) := (blk_cell hs 0).trans rfl
  have hf2 := blk_frozen hs 0
  go_enter Try.func55, Try.ntmps55
  go_wp2_with (go_at_call 56; refine (crc_More.calls bt s A c l _ hT hs2 hC hb).mono ?_; rintro e w2 ⟨rfl, rfl⟩)
  exact Go.Great.bodyPost_end0 rfl rfl ⟨rfl, rfl⟩
theorem Tab.below {W W' : World} {b : Nat} {f : Nat → Nat} (h : Tab W b f) (hb : Below W.heap.size W W') : Tab W' b f := h.heap (hb.block b h.lt)
theorem Tab.far {W : World} {b : Nat} {f : Nat → Nat} (h : Tab W b f) {p : Addr} (hp : b ≠ p.block) (u : Value) : Tab (W.setCell p u) b f := h.heap (Below.heap_setCell W p u b hp)
theorem Tab.ne {W : World} {b g t : Nat} {f : Nat → Nat} {cs : Array Value} (h : Tab W b f) (hg : W.heap[g]? = some (.cells cs t (0, 0))) (ht : t ≠ 100) : b ≠ g := by
  obtain ⟨cells, h1, _⟩ := h
  rintro rfl
  rw [h1] at hg
  simp only [Option.some.injEq, Obj.cells.injEq] at hg
  exact ht hg.2.1.symm
/-- What mani.Of holds while it sums: its result's place, the table, the two cells that the closure holds, the manifest. -/
structure OfSt (w0 W : World) (g0 gt gs gm bt : Nat) (a0 s : Int) (A : Option Addr) (c : Nat) (S : List Int) : Prop where
  tab : Tab W bt (fun j => stepsN 8 j)
  k0 : W.heap[g0]? = some (.cells #[.int .u64 0, .slice none 0 0, .int .u32 0] 46 (0, 0))
  kt : W.heap[gt]? = some (.cells #[.pointer (some ⟨bt, 0, none⟩)] 83 (0, 0))
  ks : W.heap[gs]? = some (.cells #[.int .u32 s] 44 (0, 0))
  km : W.heap[gm]? = some (.cells #[.int .u64 a0, .slice A S.length c, .int .u32 0] 46 (0, 0))
  row : Kd.R (Kd.int .i64) 3 W w0.heap.size (fun _ => True) (.slice A S.length c) S
  bel : Below w0.heap.size w0 W
  l0 : w0.heap.size ≤ g0
  ls : w0.heap.size ≤ gs
  lm : w0.heap.size ≤ gm
  ne : g0 ≠ gm
theorem OfSt.below {w0 W W' : World} {g0 gt gs gm bt : Nat} {a0 s : Int} {A : Option Addr} {c : Nat} {S : List Int} (h : OfSt w0 W g0 gt gs gm bt a0 s A c S) (hb : Below W.heap.size W W') : OfSt w0 W' g0 gt gs gm bt a0 s A c S :=
  ⟨h.tab.below hb, blk_below h.k0 hb, blk_below h.kt hb, blk_below h.ks hb, blk_below h.km hb, Kd.R_below h.row hb, below_then h.bel h.bel.size hb, h.l0, h.ls, h.lm, h.ne⟩
theorem OfSt.sum {w0 W : World} {g0 gt gs gm bt : Nat} {a0 s : Int} {A : Option Addr} {c : Nat} {S : List Int} (h : OfSt w0 W g0 gt gs gm bt a0 s A c S) (s' : Int) : OfSt w0 (W.setCell ⟨gs, 0, none⟩ (.int .u32 s')) g0 gt gs gm bt a0 s' A c S :=
  ⟨h.tab.far (h.tab.ne h.ks (by decide)) _, blk_far h.k0 (blk_ne h.k0 h.ks (by decide)) _, blk_far h.kt (blk_ne h.kt h.ks (by decide)) _, blk_put h.ks 0 _ rfl, blk_far h.km (blk_ne h.km h.ks (by decide)) _,
    Kd.R_mono (Kd.R_far (p := ⟨gs, 0, none⟩) (Kd.R_types h.row h.ks (by decide)) (fun _ hk => hk.2) _) (fun _ _ => trivial), below_set h.bel h.ls, h.l0, h.ls, h.lm, h.ne⟩
theorem OfSt.start {w0 W : World} {g0 gt gs gm bt : Nat} {a0 : Int} {A : Option Addr} {c : Nat} {S : List Int} (tab : Tab W bt (fun j => stepsN 8 j)) (k0 : W.heap[g0]? = some (.cells #[.int .u64 0, .slice none 0 0, .int .u32 0] 46 (0, 0)))
    (kt : W.heap[gt]? = some (.cells #[.pointer (some ⟨bt, 0, none⟩)] 83 (0, 0))) (ks : W.heap[gs]? = some (.cells #[.int .u32 0] 44 (0, 0))) (km : W.heap[gm]? = some (.cells #[.int .u64 0, .slice none 0 0, .int .u32 0] 46 (0, 0)))
    (row : Kd.R (Kd.int .i64) 3 W w0.heap.size (fun _ => True) (.slice A S.length c) S) (bel : Below w0.heap.size w0 W) (l0 : w0.heap.size ≤ g0) (ls : w0.heap.size ≤ gs) (lm : w0.heap.size ≤ gm) (ne : g0 ≠ gm) :
    OfSt w0 (((W.setCell ⟨gm, 0, none⟩ (.int .u64 a0)).setCell ⟨gm, 1, none⟩ (.slice A S.length c)).setCell ⟨gm, 2, none⟩ (.int .u32 0)) g0 gt gs gm bt a0 0 A c S := by
  have hb := tab.ne km (by decide)
  have ht := blk_ne kt km (by decide)
  have hs := blk_ne ks km (by decide)
  refine ⟨((tab.far (p := ⟨gm, 0, none⟩) hb _).far (p := ⟨gm, 1, none⟩) hb _).far (p := ⟨gm, 2, none⟩) hb _, blk_far (p := ⟨gm, 2, none⟩) (blk_far (p := ⟨gm, 1, none⟩) (blk_far (p := ⟨gm, 0, none⟩) k0 ne _) ne _) ne _, blk_far (p := ⟨gm, 2, none⟩) (blk_far (p := ⟨gm, 1, none⟩) (blk_far (p := ⟨gm, 0, none⟩) kt ht _) ht _) ht _,
    blk_far (p := ⟨gm, 2, none⟩) (blk_far (p := ⟨gm, 1, none⟩) (blk_far (p := ⟨gm, 0, none⟩) ks hs _) hs _) hs _, blk_put (cs := #[.int .u64 a0, .slice A S.length c, .int .u32 0]) (blk_put (cs := #[.int .u64 a0, .slice none 0 0, .int .u32 0]) (blk_put km 0 _ rfl) 1 _ rfl) 2 _ rfl, ?_, below_set (below_set (below_set bel lm) lm) lm, l0, ls, lm, ne⟩
  have h := Kd.R_types row km (by decide)
  exact Kd.R_mono (Kd.R_far (p := ⟨gm, 2, none⟩) (Kd.R_far (p := ⟨gm, 1, none⟩) (Kd.R_far (p := ⟨gm, 0, none⟩) h (fun _ hk => hk.2) _) (fun _ hk => hk.2) _) (fun _ hk => hk.2) _) (fun _ _ => trivial)
end Go.Proofs.Ythlhnodedofibaa.F
end

section
/- The statements' own arenas: they fit, and what is cut from their bytes is they again. No program in sight. -/
namespace Go.Proofs.Ythlhnodedofibaa.H
set_option linter.unusedVariables false
set_option linter.unusedSimpArgs false
theorem flat8_take (s : List Int) (b : List Int) (hs : ∀ x ∈ s, u64B x = true) : segL s.length ((s.flatMap fun w => putL w 8) ++ b) = s := by
  induction s with
  | nil => rfl
  | cons x xs ih =>
    have hx := hs x (by simp)
    simp only [u64B, Bool.and_eq_true, decide_eq_true_eq] at hx
    have hl := putL_length x 8
    rw [List.length_cons, segL, List.flatMap_cons, List.append_assoc, List.take_append_of_le_length (by omega), List.take_of_length_le (by omega), getL_putL 8 x hx.1 (by omega),
      List.drop_append_of_le_length (by omega), List.drop_of_length_le (by omega), List.nil_append, ih (fun y hy => hs y (by simp [hy]))]
theorem cutWords_bytes (a : List (List Int)) (h : ∀ s ∈ a, ∀ x ∈ s, u64B x = true) (b : List Int) : cutWords (sizesL a) (bytesL a ++ b) = a := by
  induction a with
  | nil => rfl
  | cons s a ih =>
    rw [sizesL_cons, cutWords, bytesL_cons, List.append_assoc, Int.toNat_natCast, flat8_take s _ (h s (by simp)), ← flat8_length s, List.drop_append_of_le_length (by omega), List.drop_of_length_le (by omega), List.nil_append,
      ih (fun t ht => h t (by simp [ht]))]
theorem sizesL_sum (a : List (List Int)) : (sizesL a).sum = (wordsL a : Int) := by
  induction a with
  | nil => rfl
  | cons s a ih => rw [sizesL_cons, List.sum_cons, ih, wordsL_cons]; omega
theorem cutL_bytes (a : List (List Int)) (hf : fitsB (sizesL a) = true) (h : ∀ s ∈ a, ∀ x ∈ s, u64B x = true) : cutL (sizesL a) (bytesL a) = (a, 0) := by
  unfold cutL
  rw [if_pos hf, if_pos (by rw [bytesL_length, sizesL_sum]; omega)]
  have := cutWords_bytes a h []
  rw [List.append_nil] at this
  rw [this]
theorem sizesL_nonneg (a : List (List Int)) : ∀ x ∈ sizesL a, 0 ≤ x := by
  intro x hx
  simp only [sizesL, List.mem_map] at hx
  obtain ⟨s, _, rfl⟩ := hx
  omega
theorem fitsB_of {l : List Int} (h1 : 1 ≤ l.length) (h2 : l.length ≤ 16) (h3 : 1 ≤ l.getD 0 0) (h4 : ∀ x ∈ l, 0 ≤ x) (h5 : l.sum ≤ 4096) : fitsB l = true := by
  have : l.all (fun x => decide (0 ≤ x)) = true := List.all_eq_true.2 fun x hx => by simpa using h4 x hx
  simp only [fitsB, restB, Bool.and_eq_true, decide_eq_true_eq]
  exact ⟨⟨⟨h1, h2⟩, h3⟩, this, by omega⟩
theorem arenaC_length (c : List Int) : ∀ m i k, (arenaC c m i k).length = m
  | 0, _, _ => rfl
  | m + 1, i, k => by simp [arenaC, arenaC_length c m]
theorem arenaC_words (c : List Int) : ∀ m i k, wordsL (arenaC c m i k) ≤ 12 * m
  | 0, _, _ => by simp [arenaC, wordsL]
  | m + 1, i, k => by
    have := arenaC_words c m (i + 1) (k + sizeC c i)
    have := sizeC_le c i
    rw [arenaC, wordsL_cons, segC_length]; omega
theorem wordC_u64 {c : List Int} (hc : bytesB c = true) (k : Nat) (hk : k ≤ 1000000000) : u64B (wordC c k) = true := by
  have h : 0 ≤ c.getD (k % c.length) 0 ∧ c.getD (k % c.length) 0 ≤ 255 := by
    by_cases hl : k % c.length < c.length
    · rw [List.getD_eq_getElem?_getD, List.getElem?_eq_getElem hl]; exact bytesB_at hc _ (List.getElem_mem hl)
    · rw [List.getD_eq_getElem?_getD, List.getElem?_eq_none (by omega)]; simp
  have e : u64B (wordC c k) = (decide (0 ≤ wordC c k) && decide (wordC c k < 18446744073709551616)) := rfl
  rw [e, wordC, decide_eq_true (by omega), decide_eq_true (by omega)]
  rfl
theorem arenaC_u64 {c : List Int} (hc : bytesB c = true) : ∀ m i k, k + 12 * m ≤ 1000000000 → ∀ s ∈ arenaC c m i k, ∀ x ∈ s, u64B x = true
  | 0, _, _, _ => by simp [arenaC]
  | m + 1, i, k, hk => by
    have hz := sizeC_le c i
    have := arenaC_u64 hc m (i + 1) (k + sizeC c i) (by omega)
    intro s hs
    rw [arenaC, List.mem_cons] at hs
    rcases hs with rfl | hs
    · intro x hx
      simp only [segC, List.mem_map, List.mem_range] at hx
      obtain ⟨j, hj, rfl⟩ := hx
      exact wordC_u64 hc _ (by omega)
    · exact this s hs
theorem arenaL_length (c : List Int) {n : Int} (h0 : 0 ≤ n) : 1 ≤ (arenaL c n).length ∧ (arenaL c n).length ≤ 5 := by
  unfold arenaL; rw [arenaC_length]; omega
theorem arenaL_words (c : List Int) {n : Int} (h0 : 0 ≤ n) : wordsL (arenaL c n) ≤ 60 := by
  have := arenaC_words c (1 + (n % 5)).toNat 0 0
  unfold arenaL; omega
theorem arenaL_u64 {c : List Int} (hc : bytesB c = true) {n : Int} (h0 : 0 ≤ n) : ∀ s ∈ arenaL c n, ∀ x ∈ s, u64B x = true :=
  arenaC_u64 hc _ _ _ (by omega)
theorem arenaL_first (c : List Int) {n : Int} (h0 : 0 ≤ n) : 1 ≤ (sizesL (arenaL c n)).getD 0 0 := by
  unfold arenaL
  rw [show (1 + (n % 5)).toNat = (n % 5).toNat + 1 from by omega, arenaC, sizesL_cons, segC_length]
  have := sizeC_pos c
  simp; omega
theorem arenaL_fits (c : List Int) {n : Int} (h0 : 0 ≤ n) : fitsB (sizesL (arenaL c n)) = true := by
  have h1 := arenaL_length c h0
  have h2 := arenaL_words c h0
  exact fitsB_of (by rw [sizesL_length]; omega) (by rw [sizesL_length]; omega) (arenaL_first c h0) (sizesL_nonneg _) (by rw [sizesL_sum]; omega)
theorem arenaL_cut {c : List Int} (hc : bytesB c = true) {n : Int} (h0 : 0 ≤ n) : cutL (sizesL (arenaL c n)) (bytesL (arenaL c n)) = (arenaL c n, 0) :=
  cutL_bytes _ (arenaL_fits c h0) (arenaL_u64 hc h0)
theorem mem_wordsL {a : List (List Int)} {s : List Int} (h : s ∈ a) : s.length ≤ wordsL a := by
  induction a with
  | nil => simp at h
  | cons t a ih =>
    rw [wordsL_cons]
    rcases List.mem_cons.1 h with rfl | h
    · omega
    · have := ih h; omega
theorem arenaL_small (c : List Int) {n : Int} (h0 : 0 ≤ n) : smallA (arenaL c n) = true := by
  have h1 := arenaL_length c h0
  have h2 := arenaL_words c h0
  simp only [smallA, Bool.and_eq_true, decide_eq_true_eq, List.all_eq_true]
  exact ⟨by omega, fun s hs => by have := mem_wordsL hs; omega⟩
theorem okA_of {a : List (List Int)} (h1 : a.length ≤ 1000000) (h2 : wordsL a ≤ 1000000) (h3 : ∀ s ∈ a, ∀ x ∈ s, u64B x = true) : okA a = true := by
  simp only [okA, Bool.and_eq_true, decide_eq_true_eq, List.all_eq_true]
  exact ⟨⟨h1, h2⟩, h3⟩
theorem arenaL_ok {c : List Int} (hc : bytesB c = true) {n : Int} (h0 : 0 ≤ n) : okA (arenaL c n) = true :=
  okA_of (by have := arenaL_length c h0; omega) (by have := arenaL_words c h0; omega) (arenaL_u64 hc h0)
theorem cutWords_u64 : ∀ (s b : List Int), bytesB b = true → ∀ t ∈ cutWords s b, ∀ x ∈ t, u64B x = true
  | [], _, _ => by simp [cutWords]
  | n :: ss, b, hb => by
    have hseg : ∀ (m : Nat) (b : List Int), bytesB b = true → ∀ x ∈ segL m b, u64B x = true := by
      intro m
      induction m with
      | zero => intro b _ x hx; simp [segL] at hx
      | succ m ih =>
        intro b hb x hx
        rw [segL, List.mem_cons] at hx
        rcases hx with rfl | hx
        · have := getL_bound 8 (b.take 8) (by simp; omega) (bytesB_at (bytesB_take hb 8))
          simp only [u64B, Bool.and_eq_true, decide_eq_true_eq]; omega
        · exact ih _ (bytesB_drop hb 8) x hx
    intro t ht
    rw [cutWords, List.mem_cons] at ht
    rcases ht with rfl | ht
    · exact hseg _ _ hb
    · exact cutWords_u64 ss _ (bytesB_drop hb _) t ht
end Go.Proofs.Ythlhnodedofibaa.H
end

section
namespace Go.Proofs.Ythlhnodedofibaa.F
open Go.RowKit Go.Proofs.YthlhnodedofibaaW.PrintWords Go.Proofs.YthlhnodedofibaaW.PrintLast Go.Proofs.YthlhnodedofibaaW.PrintMore
attribute [local go_sem] max2_int min2_int max_two min_two max_three min_three max_four min_four   -- for this text's walks alone
set_option linter.unusedVariables false
set_option linter.unusedSimpArgs false

open Go.Proofs.Ythlhnodedofibaa.H
/-! ### mani_Of: given -/
def mani_Of.f (a0 : Int) (l1 : List (List Int)) : Option (Int × List Int × Int × Int) := if l1.length ≤ 1000000 ∧ u64B a0 = true then some (ofL a0 l1) else none
set_option maxHeartbeats 4000000 in
set_option maxRecDepth 100000 in
theorem mani_Of.calls (a0 : Int) (A1 : Option Addr) (c1 : Nat) (l1 : List (List Int)) (r1 : Int) (r2 : List Int) (r3 : Int) (r4 : Int) (w : World) (hr1 : Kd.C (Kd.slice 42 (Kd.int .u64)) w A1 l1.length l1) (hc1 : l1.length ≤ c1) (h : mani_Of.f a0 l1 = some (r1, r2, r3, r4)) :
    Calls Try.prog 24 #[.int .u64 a0, .slice A1 l1.length c1] w fun e w' => ∃ v1_ : Value, e = .returned (.tuple #[.agg #[.int .u64 r1, v1_, .int .u32 r3], .int .u16 r4]) ∧ Kd.R (Kd.int .i64) 3 w' w.heap.size (fun _ => True) v1_ r2 ∧ Below w.heap.size w w' := by
  have hu46 := Try.underlying46
  unfold mani_Of.f at h
  split at h
  case isFalse => cases h
  case isTrue hb =>
  obtain ⟨hlen, hu⟩ := hb
  replace h := Option.some.inj h
  have HR1 := Aside0.mk hr1
  have HC1 := Aside0.mk hc1
  have HU := Aside0.mk hu
  clear hr1 hc1 hu
  have HB := Aside0.mk (Below.refl w.heap.size w)
  by_cases hf : rightB l1 = true
  · have hfit := fitsB_at (l := sizesL l1) hf
    have hS0 := sizesL_sum l1
    have hS1 := sizesL_length l1
    have hright : arena_Right_c.f l1 = some true := by unfold arena_Right_c.f; rw [if_pos hlen, hf]
    have hsz : arena_Sizes_c.f l1 = some (sizesL l1) := if_pos hlen
    have hbyt : arena_Bytes.f l1 = some (bytesL l1) := if_pos ⟨hlen, by omega⟩
    have hput : word_Put.f a0 8 = some (putL a0 8) := rfl
    have hb0 : bytesB (putL a0 8) = true := bytesB_of (putL_byte a0 8)
    rw [ofL, if_pos hf] at h
    obtain ⟨S, hS⟩ : ∃ S, sizesL l1 = S := ⟨_, rfl⟩
    rw [hS] at hsz hfit hS0 hS1 h
    have HH := Aside0.mk h
    have HSS := Aside0.mk hS
    have HFIT := Aside0.mk hfit
    have HS1 := Aside0.mk hS1
    clear hf h hS hfit hS0 hS1
    go_enter Try.func24, Try.ntmps24
    go_wp2_with (first
      | ((with_reducible refine gate_dst (N := 4) rfl ?_); refine box_event ?hg (N := 4) ?hd (cs := #[.int .u64 0, .slice none 0 0, .int .u32 0]) (t := 46) ?hr ?_; (case hd => rfl); (case hg => rfl); (case hr => first | (go_simp; done) | (go_simp; rfl)); intro g0 hg w1 hbox hb; have HB1 := Aside0.mk hb; have BK0 := Aside0.mk hbox; have GE0 := Aside0.mk (Nat.le_of_eq hg.symm); clear hb hbox hg)
      | (go_at_call 21; refine (arena_Right_c.calls A1 c1 l1 true _ (Kd.C_below HR1.out HB1.out) HC1.out hright).mono ?_; rintro e w2 ⟨rfl, hb2⟩; have HB2 := Aside0.mk (below_then HB1.out (below_size HB1.out) hb2); have BK2 := Aside0.mk (blk_below BK0.out hb2); clear hb2 HB1 BK0)
      | (go_at_call 54; refine (crc_Table.calls _).mono ?_; rintro e w3 ⟨rfl, hT, hb3, -⟩; have HB3 := Aside0.mk (below_then HB2.out (below_size HB2.out) hb3); have BK3 := Aside0.mk (blk_below BK2.out hb3); have HT3 := Aside0.mk hT; clear hb3 hT BK2)
      | ((with_reducible refine gate_dst (N := 6) rfl ?_); refine box_event ?hg (N := 6) ?hd (cs := #[.pointer none]) (t := 83) ?hr ?_; (case hd => rfl); (case hg => rfl); (case hr => first | (go_simp; done) | (go_simp; rfl)); intro gt hg w4 hbox hb; have HB4 := Aside0.mk (below_then HB3.out (below_size HB3.out) hb); have BK4 := Aside0.mk (blk_below BK3.out hb); have HT4 := Aside0.mk (HT3.out.below hb); have KT4 := Aside0.mk hbox; have GT := Aside0.mk (show w.heap.size ≤ gt by rw [hg]; exact below_size HB3.out); clear hb hbox hg HB3 BK3 HT3)
      | ((with_reducible refine gate_dst (N := 7) rfl ?_); refine box_event ?hg (N := 7) ?hd (cs := #[.int .u32 0]) (t := 44) ?hr ?_; (case hd => rfl); (case hg => rfl); (case hr => first | (go_simp; done) | (go_simp; rfl)); intro gs hg w5 hbox hb; have HB5 := Aside0.mk (below_then HB4.out (below_size HB4.out) hb); have BK5 := Aside0.mk (blk_below BK4.out hb); have HT5 := Aside0.mk (HT4.out.below hb); have KT5 := Aside0.mk (blk_below KT4.out hb); have KS5 := Aside0.mk hbox; have GS := Aside0.mk (show w.heap.size ≤ gs by rw [hg]; exact below_size HB4.out); have hneq := blk_ne KT5.out KS5.out (by decide); have hneq' := hneq.symm; have hct0 : w5.cell? ⟨gt, 0, none⟩ = some (.pointer none) := (blk_cell KT5.out 0).trans rfl; have hcs0 : w5.cell? ⟨gs, 0, none⟩ = some (.int .u32 0) := (blk_cell KS5.out 0).trans rfl; have hft0 := blk_frozen KT5.out 0; have hfs0 := blk_frozen KS5.out 0; clear hb hbox hg HB4 BK4 HT4 KT4)
      | (go_at_call 19; refine (arena_Sizes_c.calls A1 c1 l1 S _ (Kd.C_below HR1.out (below_set (below_set HB5.out GT.out) GS.out)) HC1.out hsz).mono ?_; rintro e w7 ⟨v20, rfl, ho7, hb7⟩; have HT7 := Aside0.mk (((HT5.out.far (p := ⟨gt, 0, none⟩) (HT5.out.ne KT5.out (by decide)) _).far (p := ⟨gs, 0, none⟩) (HT5.out.ne KS5.out (by decide)) _).below hb7); have BK7 := Aside0.mk (blk_below (blk_far (p := ⟨gs, 0, none⟩) (blk_far (p := ⟨gt, 0, none⟩) BK5.out (blk_ne BK5.out KT5.out (by decide)) _) (blk_ne BK5.out KS5.out (by decide)) _) hb7); have KT7 := Aside0.mk (blk_below (blk_far (p := ⟨gs, 0, none⟩) (blk_put KT5.out 0 _ rfl) hneq _) hb7); have KS7 := Aside0.mk (blk_below (blk_put (blk_far (p := ⟨gt, 0, none⟩) KS5.out hneq' _) 0 _ rfl) hb7); have HB6 := below_set (g := gs) (j := 0) (v := .int .u32 0) (below_set (g := gt) (j := 0) (v := .pointer (some ⟨w2.heap.size, 0, none⟩)) HB5.out GT.out) GS.out; have HB7 := Aside0.mk (below_then HB6 (below_size HB6) hb7); have HO7 := Aside0.mk (Kd.R_lower ho7 (below_size HB6)); clear HB6 ho7 hb7 hct0 hcs0 hft0 hfs0 BK5 KT5 KS5 HT5 hneq hneq'; obtain ⟨A7, c7, e7⟩ := Kd.R_slice HO7.out; subst e7)
      | ((with_reducible refine gate_dst (N := 9) rfl ?_); refine box_event ?hg (N := 9) ?hd (cs := #[.int .u64 0, .slice none 0 0, .int .u32 0]) (t := 46) ?hr ?_; (case hd => rfl); (case hg => rfl); (case hr => first | (go_simp; done) | (go_simp; rfl)); intro gm hg w8 hbox hb; have HST9 := Aside0.mk (OfSt.start (a0 := a0) (HT7.out.below hb) (blk_below BK7.out hb) (blk_below KT7.out hb) (blk_below KS7.out hb) hbox (Kd.R_below HO7.out hb) (below_then HB7.out (below_size HB7.out) hb) GE0.out GS.out (by rw [hg]; exact below_size HB7.out) (by rw [hg]; exact Nat.ne_of_lt (blk_lt BK7.out))); have hm0 := (blk_cell hbox 0).trans rfl; have hm1 := (blk_cell hbox 1).trans rfl; have hm2 := (blk_cell hbox 2).trans rfl; have hmf0 := blk_frozen hbox 0; have hmf1 := blk_frozen hbox 1; have hmf2 := blk_frozen hbox 2; clear hb hbox hg HT7 BK7 KT7 KS7 HB7 HO7)
      | (go_at_call 51; refine (word_Put.calls a0 8 _ _ hput).mono ?_; rintro e w10 ⟨v24, rfl, ho10, hb10⟩; have HST10 := Aside0.mk (HST9.out.below hb10); obtain ⟨A10, c10, e10⟩ := Kd.R_slice ho10; subst e10; have HO10 := Aside0.mk ho10; clear ho10 hb10 hm0 hm1 hm2 hmf0 hmf1 hmf2 HST9)
      | (go_at_call 55; refine (mani_more.calls gt gs _ 0 A10 c10 (putL a0 8) _ HST10.out.tab HST10.out.kt HST10.out.ks (by omega) (Kd.R_reads' HO10.out).2.2 hb0).mono ?_; rintro e w11 ⟨rfl, hw11⟩; have HST11 := HST10.out.sum (moreL 0 (putL a0 8)); rw [← hw11] at HST11; clear HST10 HO10 hw11; have hl0 := (blk_cell HST11.km 1).trans rfl; have HST := Aside0.mk HST11; clear HST11))
    clear hl0
    go_loopg [29] S.length (fun g v29 wr => ∃ k : Nat, k + g = S.length ∧ v29 = .int .i64 k ∧ Aside0 (OfSt w wr g0 gt gs gm w2.heap.size a0 (moreL 0 (ofBytes a0 l1 k)) A7 c7 S))
    case atStart => exact ⟨0, by omega, rfl, ⟨by have h := HST.out; rw [show ofBytes a0 l1 0 = putL a0 8 from by simp [ofBytes]]; exact h⟩⟩
    case round =>
      clear HST
      obtain ⟨k, hk, rfl, HST⟩ := hrel
      have HK : Hid _ := hk
      have hrg := moreL_range 0 (ofBytes a0 l1 k) (by omega) (ofBytes_byte a0 l1 k)
      have hmb := ofBytes_byte a0 l1 k
      by_cases hlt : k < S.length
      · obtain ⟨ad, eA, hcx⟩ := ReadsInt.at_ (Kd.reads_of_C (d := (0 : Int)) (Kd.R_reads' HST.out.row).2.2) (k : Int) (by omega) (by omega)
        rw [Int.toNat_natCast, show rd S (k : Int) = S[k] from getD_toNat S 0 k hlt] at hcx
        subst eA
        have hx0 := HFIT.out.2.2.2.1 _ (List.getElem_mem hlt)
        have hx1 := mem_le_sum HFIT.out.2.2.2.1 k hlt
        have hx2 := HFIT.out.2.2.2.2
        have hsn := ofBytes_succ a0 l1 k (by rw [HSS.out]; exact hlt)
        have hgx : (sizesL l1)[k]'(by rw [HSS.out]; exact hlt) = S[k] := by simp only [HSS.out]
        rw [hgx] at hsn
        obtain ⟨x, hx⟩ : ∃ x, S[k] = x := ⟨_, rfl⟩
        rw [hx] at hcx hx0 hx1 hsn
        have hcon : IntKind.u64.wrap x = x := by simp [IntKind.wrap, IntKind.signed, IntKind.bits]; omega
        have hput2 : word_Put.f x 2 = some (putL x 2) := rfl
        have hb2 : bytesB (putL x 2) = true := bytesB_of (putL_byte x 2)
        have HSN : Hid _ := hsn
        obtain ⟨s, hs⟩ : ∃ s, moreL 0 (ofBytes a0 l1 k) = s := ⟨_, rfl⟩
        rw [hs] at HST hrg
        have HSE : Hid _ := hs
        clear hsn hx1 hx2 hx hgx hs hk hx0
        go_wp2_with (first
          | (go_at_call 51; refine (word_Put.calls x 2 _ _ hput2).mono ?_; rintro e w12 ⟨v24, rfl, ho10, hb10⟩; have HST12 := Aside0.mk (HST.out.below hb10); obtain ⟨A12, c12, e12⟩ := Kd.R_slice ho10; subst e12; have HO12 := Aside0.mk ho10; clear ho10 hb10 hcx)
          | (go_at_call 55; refine (mani_more.calls gt gs _ s A12 c12 (putL x 2) _ HST12.out.tab HST12.out.kt HST12.out.ks hrg (Kd.R_reads' HO12.out).2.2 hb2).mono ?_; rintro e w13 ⟨rfl, hw13⟩; have HST13 := HST12.out.sum (moreL s (putL x 2)); rw [← hw13] at HST13; clear HST12 HO12 hw13; have HSTN := Aside0.mk HST13; clear HST13))
        go_roundg (gk - 1)
        case measure => have := HK.out; omega
        case rel => exact ⟨k + 1, by have := HK.out; omega, by have := HFIT.out.2.1; rw [show wrap64 ((k : Int) + 1) = ((k + 1 : Nat) : Int) from by unfold wrap64; omega], ⟨by have h := HSTN.out; rw [HSN.out, moreL_append, HSE.out]; exact h⟩⟩
      · obtain rfl : k = S.length := by omega
        have hbb : bytesB (bytesL l1) = true := bytesB_of (bytesL_byte l1)
        obtain ⟨s, hs⟩ : ∃ s, moreL 0 (ofBytes a0 l1 S.length) = s := ⟨_, rfl⟩
        rw [hs] at HST hrg
        have hh := HH.out
        rw [← HS1.out, moreL_append, hs] at hh
        have HHH := Aside0.mk hh
        clear hs hk hmb hh
        go_wp2_with (first
          | (go_at_call 17; refine (arena_Bytes.calls A1 c1 l1 (bytesL l1) _ (Kd.C_below HR1.out HST.out.bel) HC1.out hbyt).mono ?_; rintro e w12 ⟨v24, rfl, ho10, hb10⟩; have HST12 := Aside0.mk (HST.out.below hb10); obtain ⟨A12, c12, e12⟩ := Kd.R_slice ho10; subst e12; have HO12 := Aside0.mk ho10; clear ho10 hb10)
          | (go_at_call 55; refine (mani_more.calls gt gs _ s A12 c12 (bytesL l1) _ HST12.out.tab HST12.out.kt HST12.out.ks hrg (Kd.R_reads' HO12.out).2.2 hbb).mono ?_; rintro e w13 ⟨rfl, hw13⟩; have HST13 := HST12.out.sum (moreL s (bytesL l1)); rw [← hw13] at HST13; have hks := (blk_cell HST13.ks 0).trans rfl; have hm0 := (blk_cell HST13.km 0).trans rfl; have hm1 := (blk_cell HST13.km 1).trans rfl; have hm2 := (blk_cell HST13.km 2).trans rfl; have hmf0 := blk_frozen HST13.km 0; have hmf1 := blk_frozen HST13.km 1; have hmf2 := blk_frozen HST13.km 2; have h00 := (blk_cell HST13.k0 0).trans rfl; have h01 := (blk_cell HST13.k0 1).trans rfl; have h02 := (blk_cell HST13.k0 2).trans rfl; have h0f0 := blk_frozen HST13.k0 0; have h0f1 := blk_frozen HST13.k0 1; have h0f2 := blk_frozen HST13.k0 2; have hne := HST13.ne; have hne' := hne.symm; clear HST12 HO12 hw13; have HSTN := Aside0.mk HST13; clear HST13))
        have hh := HHH.out
        simp only [Prod.mk.injEq] at hh
        obtain ⟨rfl, rfl, rfl, rfl⟩ := hh
        have HF := HSTN.out
        refine bodyPost_ret (results_ct rfl _ _ g0 46 #[.int .u64 a0, .slice A7 S.length c7, .int .u32 (moreL s (bytesL l1))] (0, 0) _ rfl (blk_put (cs := #[.int .u64 a0, .slice A7 S.length c7, .int .u32 0]) (blk_put (cs := #[.int .u64 a0, .slice none 0 0, .int .u32 0]) (blk_put (blk_far (p := ⟨gm, 2, none⟩) HF.k0 hne _) 0 _ rfl) 1 _ rfl) 2 _ rfl) Try.underlying46 rfl (by kernel_rfl)) rfl ?_
        have hrow := Kd.R_types (Kd.R_types HF.row HF.km (by decide)) HF.k0 (by decide)
        exact ⟨_, rfl, Kd.R_mono (Kd.R_far (p := ⟨g0, 2, none⟩) (Kd.R_far (p := ⟨g0, 1, none⟩) (Kd.R_far (p := ⟨g0, 0, none⟩) (Kd.R_far (p := ⟨gm, 2, none⟩) hrow (fun _ hk => hk.1.2) _) (fun _ hk => hk.2) _) (fun _ hk => hk.2) _) (fun _ hk => hk.2) _) (fun _ _ => trivial),
          below_set (below_set (below_set (below_set HF.bel HF.lm) HF.l0) HF.l0) HF.l0⟩
  · have hright : arena_Right_c.f l1 = some false := by unfold arena_Right_c.f; rw [if_pos hlen]; simpa using hf
    rw [ofL, if_neg hf] at h
    cases h
    clear hf
    go_enter Try.func24, Try.ntmps24
    go_wp2_with (first
      | ((with_reducible refine gate_dst (N := 4) rfl ?_); refine box_event ?hg (N := 4) ?hd (cs := #[.int .u64 0, .slice none 0 0, .int .u32 0]) (t := 46) ?hr ?_; (case hd => rfl); (case hg => rfl); (case hr => first | (go_simp; done) | (go_simp; rfl)); intro g0 hg w1 hbox hb; have HB1 := Aside0.mk hb; have BK0 := Aside0.mk hbox; have GE0 := Aside0.mk (Nat.le_of_eq hg.symm); clear hb hbox hg)
      | (go_at_call 21; refine (arena_Right_c.calls A1 c1 l1 false _ (Kd.C_below HR1.out HB1.out) HC1.out hright).mono ?_; rintro e w2 ⟨rfl, hb2⟩; have HB2 := Aside0.mk (below_then HB1.out (below_size HB1.out) hb2); have BK2 := Aside0.mk (blk_below BK0.out hb2); have hc0 := (blk_cell BK2.out 0).trans rfl; have hc1 := (blk_cell BK2.out 1).trans rfl; have hc2 := (blk_cell BK2.out 2).trans rfl; have hf0 := blk_frozen BK2.out 0; have hf1 := blk_frozen BK2.out 1; have hf2 := blk_frozen BK2.out 2))
    refine bodyPost_ret (results_ct rfl _ _ g0 46 #[.int .u64 0, .slice none 0 0, .int .u32 0] (0, 0) _ rfl (blk_put (cs := #[.int .u64 0, .slice none 0 0, .int .u32 0]) (blk_put (cs := #[.int .u64 0, .slice none 0 0, .int .u32 0]) (blk_put BK2.out 0 _ rfl) 1 _ rfl) 2 _ rfl) Try.underlying46 rfl (by kernel_rfl)) rfl ?_
    exact ⟨_, rfl, Kd.R_nil _ _ _ _ _, below_set (below_set (below_set HB2.out GE0.out) GE0.out) GE0.out⟩

end Go.Proofs.Ythlhnodedofibaa.F
end

section
namespace Go.Proofs.Ythlhnodedofibaa.F
open Go.RowKit Go.Proofs.YthlhnodedofibaaW.PrintWords Go.Proofs.YthlhnodedofibaaW.PrintLast Go.Proofs.YthlhnodedofibaaW.PrintMore
attribute [local go_sem] max2_int min2_int max_two min_two max_three min_three max_four min_four   -- for this text's walks alone
set_option linter.unusedVariables false
set_option linter.unusedSimpArgs false

/-- A state of type 46 at block g of W; what its slices lead to came in by w0. -/
def IsS46 (w0 W : World) (g : Nat) (f0 : Int) (f1 : List Int) (f2 : Int) : Prop := ∃ A1 c1, W.heap[g]? = some (.cells #[.int .u64 f0, .slice A1 f1.length c1, .int .u32 f2] 46 (0, 0)) ∧ w0.heap.size ≤ g ∧ Kd.C (Kd.int .i64) w0 A1 f1.length f1
theorem IsS46.grown {w0 W : World} {g : Nat} {f0 : Int} {f1 : List Int} {f2 : Int} {W1 : World} {row : Option Nat} (h : IsS46 w0 W g f0 f1 f2) (hw : W.grownBy W1 row) (hne : some g ≠ row) : IsS46 w0 W1 g f0 f1 f2 := by
  obtain ⟨A1, c1, hb, hg, hr1⟩ := h
  exact ⟨A1, c1, blk_grown hb hw hne, hg, hr1⟩
theorem IsS46.own_neN {w0 W : World} {g : Nat} {f0 : Int} {f1 : List Int} {f2 : Int} {α : Type} {d : Kd α} {e : Nat} {base : Nat} {ok : Nat → Prop} {v : Value} {xs : List α} (h : IsS46 w0 W g f0 f1 f2) (ho : Kd.N d e W base ok v xs) (ht : e ≠ 46) : some g ≠ v.ownBlock := by
  obtain ⟨A1, c1, hb, hg, hr1⟩ := h
  exact Kd.N_ne ho hb ht
theorem IsS46.fresh {w0 W : World} {g : Nat} {f0 : Int} {f1 : List Int} {f2 : Int} (h : IsS46 w0 W g f0 f1 f2) : ∀ k, W.heap.size ≤ k → k ≠ g := by
  obtain ⟨A1, c1, hb, hg, hr1⟩ := h
  exact Kd.freshB hb
theorem IsS46.kept {w0 W : World} {g : Nat} {f0 : Int} {f1 : List Int} {f2 : Int} {W1 : World} {S : Nat → Prop} (h : IsS46 w0 W g f0 f1 f2) (hk : Kept W W1 S) (hne : ¬ S g) : IsS46 w0 W1 g f0 f1 f2 := by
  obtain ⟨A1, c1, hb, hg, hr1⟩ := h
  exact ⟨A1, c1, blk_kept hb hk hne, hg, hr1⟩
theorem IsS46.below {w0 W : World} {g : Nat} {f0 : Int} {f1 : List Int} {f2 : Int} {W1 : World} (h : IsS46 w0 W g f0 f1 f2) (hw : Below W.heap.size W W1) : IsS46 w0 W1 g f0 f1 f2 := h.grown (grown_of_below hw none) (by simp)
theorem IsS46.alloc {w0 W : World} {g : Nat} {f0 : Int} {f1 : List Int} {f2 : Int} (h : IsS46 w0 W g f0 f1 f2) (o : Obj) : IsS46 w0 (W.alloc o) g f0 f1 f2 := h.below (below_alloc (Below.refl _ _) o)
theorem IsS46.drewN {w0 W : World} {g : Nat} {f0 : Int} {f1 : List Int} {f2 : Int} (h : IsS46 w0 W g f0 f1 f2) (m : Nat) : IsS46 w0 (W.drewN m) g f0 f1 f2 := h
theorem IsS46.drew {w0 W : World} {g : Nat} {f0 : Int} {f1 : List Int} {f2 : Int} (h : IsS46 w0 W g f0 f1 f2) : IsS46 w0 W.drew g f0 f1 f2 := h
theorem IsS46.at_ {w0 W : World} {g : Nat} {f0 : Int} {f1 : List Int} {f2 : Int} {w' : World} {m : Nat} (hq : W.drewN m = w') (h : IsS46 w0 W g f0 f1 f2) : IsS46 w0 w' g f0 f1 f2 := by subst hq; exact IsS46.drewN h m
theorem IsS46.apart {w0 W : World} {g : Nat} {f0 : Int} {f1 : List Int} {f2 : Int} {α : Type} {d : Kd α} {e : Nat} {base : Nat} {ok : Nat → Prop} {v : Value} {xs : List α} (h : IsS46 w0 W g f0 f1 f2) (ho : d.R e W base ok v xs) (ht : ∀ q, q ∈ e :: d.E → q ≠ 46) : d.R e W base (fun k => ok k ∧ k ≠ g) v xs := by
  obtain ⟨A1, c1, hb, hg, hr1⟩ := h
  exact Kd.R_types ho hb ht
theorem IsS46.own_ne {w0 W : World} {g : Nat} {f0 : Int} {f1 : List Int} {f2 : Int} {α : Type} {d : Kd α} {e : Nat} {base : Nat} {ok : Nat → Prop} {v : Value} {xs : List α} (h : IsS46 w0 W g f0 f1 f2) (ho : d.R e W base ok v xs) (ht : e ≠ 46) : some g ≠ v.ownBlock := by
  obtain ⟨A1, c1, hb, hg, hr1⟩ := h
  exact Kd.R_ne ho hb ht
theorem IsS46.apartQ {w0 W : World} {g : Nat} {f0 : Int} {f1 : List Int} {f2 : Int} {α : Type} {d : Kd α} {e : Nat} {base : Nat} {ok : Nat → Prop} {v : Value} {xs : List α} (h : IsS46 w0 W g f0 f1 f2) (ho : d.Q e W base ok v xs) (ht : ∀ q, q ∈ e :: d.E → q ≠ 46) : d.Q e W base (fun k => ok k ∧ k ≠ g) v xs := by
  obtain ⟨A1, c1, hb, hg, hr1⟩ := h
  exact Kd.Q_types ho hb ht
theorem IsS46.own_neQ {w0 W : World} {g : Nat} {f0 : Int} {f1 : List Int} {f2 : Int} {α : Type} {d : Kd α} {e : Nat} {base : Nat} {ok : Nat → Prop} {v : Value} {xs : List α} (h : IsS46 w0 W g f0 f1 f2) (ho : d.Q e W base ok v xs) (ht : e ≠ 46) : some g ≠ v.ownBlock := by
  obtain ⟨A1, c1, hb, hg, hr1⟩ := h
  exact Kd.Q_ne ho hb ht
theorem IsS46.apartS {w0 W : World} {g : Nat} {f0 : Int} {f1 : List Int} {f2 : Int} {α : Type} {d : Kd α} {e : Nat} {base : Nat} {ok : Nat → Prop} {v : Value} {xs : List α} (h : IsS46 w0 W g f0 f1 f2) (ho : d.S e W base ok v xs) (ht : ∀ q, q ∈ e :: d.E → q ≠ 46) : d.S e W base (fun k => ok k ∧ k ≠ g) v xs := by
  obtain ⟨A1, c1, hb, hg, hr1⟩ := h
  exact Kd.S_types ho hb ht
theorem IsS46.own_neS {w0 W : World} {g : Nat} {f0 : Int} {f1 : List Int} {f2 : Int} {α : Type} {d : Kd α} {e : Nat} {base : Nat} {ok : Nat → Prop} {v : Value} {xs : List α} (h : IsS46 w0 W g f0 f1 f2) (ho : d.S e W base ok v xs) (ht : e ≠ 46) : some g ≠ v.ownBlock := by
  obtain ⟨A1, c1, hb, hg, hr1⟩ := h
  exact Kd.S_ne ho hb ht
theorem IsS46.lt {w0 W : World} {g : Nat} {f0 : Int} {f1 : List Int} {f2 : Int} (h : IsS46 w0 W g f0 f1 f2) : g < W.heap.size := by
  obtain ⟨A1, c1, hb, hg, hr1⟩ := h
  exact blk_lt hb
theorem IsS46.ge {w0 W : World} {g : Nat} {f0 : Int} {f1 : List Int} {f2 : Int} (h : IsS46 w0 W g f0 f1 f2) : w0.heap.size ≤ g := by
  obtain ⟨A1, c1, hb, hg, hr1⟩ := h
  exact hg
theorem IsS46.ne_blk {w0 W : World} {g : Nat} {f0 : Int} {f1 : List Int} {f2 : Int} {a : Nat} {cs : Array Value} {t : TypeId} {fr : Nat × Nat} (h : IsS46 w0 W g f0 f1 f2) (hb2 : W.heap[a]? = some (.cells cs t fr)) (ht : t ≠ 46) : g ≠ a := by
  obtain ⟨A1, c1, hb, hg, hr1⟩ := h
  rintro rfl
  rw [hb] at hb2
  injection hb2 with hb2
  injection hb2 with _ ht2
  exact ht ht2.symm
theorem IsS46.far {w0 W : World} {g : Nat} {f0 : Int} {f1 : List Int} {f2 : Int} {p : Addr} (h : IsS46 w0 W g f0 f1 f2) (hne : g ≠ p.block) (u : Value) : IsS46 w0 (W.setCell p u) g f0 f1 f2 := by
  obtain ⟨A1, c1, hb, hg, hr1⟩ := h
  exact ⟨A1, c1, blk_far hb hne u, hg, hr1⟩
theorem cellS46_0 {W : World} {g : Nat} {A1 : Option Addr} {c1 : Nat} {f0 : Int} {f1 : List Int} {f2 : Int} (h : W.heap[g]? = some (.cells #[.int .u64 f0, .slice A1 f1.length c1, .int .u32 f2] 46 (0, 0))) : W.cell? ⟨g, 0, none⟩ = some (.int .u64 f0) := (blk_cell h 0).trans rfl
theorem IsS46.set_0 {w0 W : World} {g : Nat} {f0 : Int} {f1 : List Int} {f2 : Int} (h : IsS46 w0 W g f0 f1 f2) (x : Int) : IsS46 w0 (W.setCell ⟨g, 0, none⟩ (.int .u64 x)) g x f1 f2 := by
  obtain ⟨A1, c1, hb, hg, hr1⟩ := h
  exact ⟨A1, c1, by simpa using blk_set hb 0 (.int .u64 x), hg, hr1⟩
theorem cellS46_1 {W : World} {g : Nat} {A1 : Option Addr} {c1 : Nat} {f0 : Int} {f1 : List Int} {f2 : Int} (h : W.heap[g]? = some (.cells #[.int .u64 f0, .slice A1 f1.length c1, .int .u32 f2] 46 (0, 0))) : W.cell? ⟨g, 1, none⟩ = some (.slice A1 f1.length c1) := (blk_cell h 1).trans rfl
theorem cellS46_2 {W : World} {g : Nat} {A1 : Option Addr} {c1 : Nat} {f0 : Int} {f1 : List Int} {f2 : Int} (h : W.heap[g]? = some (.cells #[.int .u64 f0, .slice A1 f1.length c1, .int .u32 f2] 46 (0, 0))) : W.cell? ⟨g, 2, none⟩ = some (.int .u32 f2) := (blk_cell h 2).trans rfl
theorem IsS46.set_2 {w0 W : World} {g : Nat} {f0 : Int} {f1 : List Int} {f2 : Int} (h : IsS46 w0 W g f0 f1 f2) (x : Int) : IsS46 w0 (W.setCell ⟨g, 2, none⟩ (.int .u32 x)) g f0 f1 x := by
  obtain ⟨A1, c1, hb, hg, hr1⟩ := h
  exact ⟨A1, c1, by simpa using blk_set hb 2 (.int .u32 x), hg, hr1⟩
theorem IsS46.new (w0 W : World) (A1 : Option Addr) (c1 : Nat) (f0 : Int) (f1 : List Int) (f2 : Int) (hB : Below w0.heap.size w0 W) (hr1 : Kd.C (Kd.int .i64) w0 A1 f1.length f1) : IsS46 w0 (W.alloc (.cells #[.int .u64 f0, .slice A1 f1.length c1, .int .u32 f2] 46)) W.heap.size f0 f1 f2 := ⟨A1, c1, by simpa using heap_alloc_new W _, hB.size, hr1⟩

/-! ### slices_Equal_int_int: function 57 -/
def slices_Equal_int_int.l0 : Nat → List Int → List Int → Int → Int → Option (Bool)
  | 0, _, _, _, _ => none
  | k + 1, x0, x1, x12, x13 => if x13 < x12 then (if 0 ≤ x13 then (if x13 < (x0.length : Int) then (if x13 < (x1.length : Int) then (if (rd x0 x13) = (rd x1 x13) then (slices_Equal_int_int.l0 k x0 x1 x12 (wrap64 (x13 + 1))) else (some false)) else (none)) else (none)) else (none)) else (some true)
def slices_Equal_int_int.f (k : Nat) (l0 : List Int) (l1 : List Int) : Option (Bool) := if (l0.length : Int) = (l1.length : Int) then (slices_Equal_int_int.l0 k l0 l1 (l0.length : Int) 0) else (some false)
theorem slices_Equal_int_int.mono_l : ∀ k, (∀ y0 y1 y2 y3, LeO (slices_Equal_int_int.l0 k y0 y1 y2 y3) (slices_Equal_int_int.l0 (k + 1) y0 y1 y2 y3))
  | 0 => fun _ _ _ _ r h => by simp [slices_Equal_int_int.l0] at h
  | k + 1 => by
    have ih0 := slices_Equal_int_int.mono_l k
    · intro y0 y1 y2 y3
      unfold slices_Equal_int_int.l0
      repeat' first
      | (with_reducible exact ih0 _ _ _ _)
      | (with_reducible exact LeO.refl _)
      | (with_reducible exact LeO.none _)
      | (with_reducible refine LeO.ite ?_ ?_)
      | (with_reducible refine LeO.bind ?_ (fun _ => ?_))
      | exact ih0 _ _ _ _
      | exact LeO.none _
      | refine LeO.ite ?_ ?_
      | refine LeO.bind ?_ (fun _ => ?_)
theorem slices_Equal_int_int.mono : ∀ a0 a1 k, LeO (slices_Equal_int_int.f k a0 a1) (slices_Equal_int_int.f (k + 1) a0 a1) := by
  intro a0 a1 k
  have ih0 := slices_Equal_int_int.mono_l k
  unfold slices_Equal_int_int.f
  repeat' first
      | (with_reducible exact ih0 _ _ _ _)
      | (with_reducible exact LeO.refl _)
      | (with_reducible exact LeO.none _)
      | (with_reducible refine LeO.ite ?_ ?_)
      | (with_reducible refine LeO.bind ?_ (fun _ => ?_))
      | exact ih0 _ _ _ _
      | exact LeO.none _
      | refine LeO.ite ?_ ?_
      | refine LeO.bind ?_ (fun _ => ?_)
set_option maxHeartbeats 8000000 in
set_option maxRecDepth 100000 in
theorem slices_Equal_int_int.calls (k : Nat) (A0 : Option Addr) (c0 : Nat) (l0 : List Int) (A1 : Option Addr) (c1 : Nat) (l1 : List Int) (r : Bool) (w : World) (hr0 : Kd.C (Kd.int .i64) w A0 l0.length l0) (hc0 : l0.length ≤ c0) (hr1 : Kd.C (Kd.int .i64) w A1 l1.length l1) (hc1 : l1.length ≤ c1) (h : slices_Equal_int_int.f k l0 l1 = some r) :
    Calls Try.prog 57 #[.slice A0 l0.length c0, .slice A1 l1.length c1] w fun e w' => e = .returned (.bool r) ∧ Drawn0 w w' := by
  have HR0 := Aside0.mk hr0
  have HC0 := Aside0.mk hc0
  clear hr0 hc0
  have HR1 := Aside0.mk hr1
  have HC1 := Aside0.mk hc1
  clear hr1 hc1
  have H : (if (l0.length : Int) = (l1.length : Int) then (slices_Equal_int_int.l0 k l0 l1 (l0.length : Int) 0) else (some false)) = some r := h
  clear h
  by_cases c3 : (l0.length : Int) = (l1.length : Int)
  · rw [if_pos c3] at H
    have c3b0 : ((l0.length : Int) == (l1.length : Int)) = true := beq_iff_eq.mpr c3
    have c3b1 : ((l0.length : Int) != (l1.length : Int)) = false := bne_eq_false_iff_eq.mpr c3
    have c3b2 : (l0.length == l1.length) = true := by first | simpa using c3 | (simp at c3 ⊢; omega)
    clear c3
    have H' := Aside0.mk H
    clear H
    go_enter Try.func57, Try.ntmps57
    go_wp2
    repeat (go_quiet (fail); try go_wp2)
    go_loopg [13] k (fun kq v13 w' => ∃ (x13_1 : Int), v13 = .int .i64 x13_1 ∧ Aside0 (slices_Equal_int_int.l0 kq l0 l1 (l0.length : Int) x13_1 = some r) ∧ Aside0 (kq ≤ k) ∧ Drawn0 w w')
    case atStart => exact ⟨(0), (by first | rfl | (simp; done) | (simp [*]; done)), H', ⟨Nat.le_refl _⟩, by repeat (first | exact Drawn0.refl _ | apply Drawn0.step)⟩
    case round =>
      clear H'
      try clear c1
      try clear p2
      try clear c3
      try clear c3b0
      try clear c3b1
      try clear c3b2
      obtain ⟨x13_1, rfl, HA, HK1, ⟨m1, rfl⟩⟩ := hrel
      cases gk with
      | zero => exact absurd HA.out (by simp [slices_Equal_int_int.l0])
      | succ k1 =>
        have H := HA.out
        clear HA
        simp only [slices_Equal_int_int.l0] at H
        by_cases c4 : x13_1 < (l0.length : Int)
        · rw [if_pos c4] at H
          have c4b0 : decide (x13_1 < (l0.length : Int)) = true := decide_eq_true c4
          clear c4
          by_cases c5 : 0 ≤ x13_1
          · rw [if_pos c5] at H
            have c5b0 : decide (0 ≤ x13_1) = true := decide_eq_true c5
            clear c5
            by_cases c6 : x13_1 < (l0.length : Int)
            · rw [if_pos c6] at H
              have c6b0 : decide (x13_1 < (l0.length : Int)) = true := decide_eq_true c6
              clear c6
              by_cases c7 : x13_1 < (l1.length : Int)
              · rw [if_pos c7] at H
                have c7b0 : decide (x13_1 < (l1.length : Int)) = true := decide_eq_true c7
                clear c7
                by_cases c8 : (rd l0 x13_1) = (rd l1 x13_1)
                · rw [if_pos c8] at H
                  have c8b0 : ((rd l0 x13_1) == (rd l1 x13_1)) = true := beq_iff_eq.mpr c8
                  have c8b1 : ((rd l0 x13_1) != (rd l1 x13_1)) = false := bne_eq_false_iff_eq.mpr c8
                  clear c8
                  have H' := Aside0.mk H
                  clear H
                  have p101 : 0 ≤ (x13_1 : Int) := of_decide_eq_true (by first | (with_reducible assumption) | assumption)
                  have q101 : x13_1 < (l0.length : Int) := of_decide_eq_true (by first | (with_reducible assumption) | assumption)
                  obtain ⟨ad101, e101, hx101_0⟩ := Kd.at_int HR0.out x13_1 p101 q101
                  cases e101
                  replace p101 := eq_true p101
                  replace q101 := eq_true q101
                  have p102 : 0 ≤ (x13_1 : Int) := of_decide_eq_true (by first | (with_reducible assumption) | assumption)
                  have q102 : x13_1 < (l1.length : Int) := of_decide_eq_true (by first | (with_reducible assumption) | assumption)
                  obtain ⟨ad102, e102, hx102_0⟩ := Kd.at_int HR1.out x13_1 p102 q102
                  cases e102
                  replace p102 := eq_true p102
                  replace q102 := eq_true q102
                  go_wp2
                  repeat (go_quiet (fail); try go_wp2)
                  go_roundg k1
                  case measure => have := HK1.out; omega
                  case rel => exact ⟨(wrap64 (x13_1 + 1)), (by first | rfl | (simp; done) | (simp [*]; done)), H', ⟨by have := HK1.out; omega⟩, by repeat (first | exact Drawn0.refl _ | apply Drawn0.step)⟩
                · rw [if_neg c8] at H
                  have c8b0 : ((rd l0 x13_1) == (rd l1 x13_1)) = false := beq_eq_false_iff_ne.mpr c8
                  have c8b1 : ((rd l0 x13_1) != (rd l1 x13_1)) = true := bne_iff_ne.mpr c8
                  obtain rfl := Option.some.inj H
                  have p101 : 0 ≤ (x13_1 : Int) := of_decide_eq_true (by first | (with_reducible assumption) | assumption)
                  have q101 : x13_1 < (l0.length : Int) := of_decide_eq_true (by first | (with_reducible assumption) | assumption)
                  obtain ⟨ad101, e101, hx101_0⟩ := Kd.at_int HR0.out x13_1 p101 q101
                  cases e101
                  replace p101 := eq_true p101
                  replace q101 := eq_true q101
                  have p102 : 0 ≤ (x13_1 : Int) := of_decide_eq_true (by first | (with_reducible assumption) | assumption)
                  have q102 : x13_1 < (l1.length : Int) := of_decide_eq_true (by first | (with_reducible assumption) | assumption)
                  obtain ⟨ad102, e102, hx102_0⟩ := Kd.at_int HR1.out x13_1 p102 q102
                  cases e102
                  replace p102 := eq_true p102
                  replace q102 := eq_true q102
                  go_wp2
                  repeat (go_quiet (fail); try go_wp2)
                  go_ret
                  exact ⟨by first | rfl | (simp; done) | (simp [*]; done), by repeat (first | exact Drawn0.refl _ | apply Drawn0.step)⟩
              · rw [if_neg c7] at H
                exact absurd H (by simp)
            · rw [if_neg c6] at H
              exact absurd H (by simp)
          · rw [if_neg c5] at H
            exact absurd H (by simp)
        · rw [if_neg c4] at H
          have c4b0 : decide (x13_1 < (l0.length : Int)) = false := decide_eq_false c4
          clear c4
          obtain rfl := Option.some.inj H
          go_wp2
          repeat (go_quiet (fail); try go_wp2)
          go_ret
          exact ⟨by first | rfl | (simp; done) | (simp [*]; done), by repeat (first | exact Drawn0.refl _ | apply Drawn0.step)⟩
  · rw [if_neg c3] at H
    have c3b0 : ((l0.length : Int) == (l1.length : Int)) = false := beq_eq_false_iff_ne.mpr c3
    have c3b1 : ((l0.length : Int) != (l1.length : Int)) = true := bne_iff_ne.mpr c3
    have c3b2 : (l0.length == l1.length) = false := by first | simpa using c3 | (simp at c3 ⊢; omega)
    obtain rfl := Option.some.inj H
    go_enter Try.func57, Try.ntmps57
    go_wp2
    repeat (go_quiet (fail); try go_wp2)
    go_ret
    exact ⟨by first | rfl | (simp; done) | (simp [*]; done), by repeat (first | exact Drawn0.refl _ | apply Drawn0.step)⟩

end Go.Proofs.Ythlhnodedofibaa.F
end

section
namespace Go.Proofs.Ythlhnodedofibaa.F
open Go.RowKit Go.Proofs.YthlhnodedofibaaW.PrintWords Go.Proofs.YthlhnodedofibaaW.PrintLast Go.Proofs.YthlhnodedofibaaW.PrintMore
attribute [local go_sem] max2_int min2_int max_two min_two max_three min_three max_four min_four   -- for this text's walks alone
set_option linter.unusedVariables false
set_option linter.unusedSimpArgs false

open Go.Proofs.Ythlhnodedofibaa.H
def slices_Equal_int_int_c.f (l0 l1 : List Int) : Option Bool := if l0.length ≤ 1000000 then some (decide (l0 = l1)) else none
theorem slices_Equal_int_int.l0_to (l m : List Int) (hl : l.length ≤ 1000000) (hm : l.length = m.length) : ∀ (d i : Nat), l.length - i = d → i ≤ l.length → ∃ k, slices_Equal_int_int.l0 k l m (l.length : Int) (i : Int) = some (decide (l.drop i = m.drop i))
  | 0, i, hd, hi => ⟨1, by simp only [slices_Equal_int_int.l0]; rw [if_neg (by omega), List.drop_of_length_le (by omega), List.drop_of_length_le (by omega)]; simp⟩
  | d + 1, i, hd, hi => by
    have hlt : i < l.length := by omega
    have hr : rd l i = l[i] := getD_toNat l 0 i hlt
    have hr2 : rd m i = m[i]'(by omega) := getD_toNat m 0 i (by omega)
    obtain ⟨k, hk⟩ := slices_Equal_int_int.l0_to l m hl hm d (i + 1) (by omega) (by omega)
    refine ⟨k + 1, ?_⟩
    simp only [slices_Equal_int_int.l0]
    rw [if_pos (by omega), if_pos (by omega), if_pos (by omega), if_pos (by omega), hr, hr2, drop_at l i hlt, drop_at m i (by omega)]
    by_cases e : l[i] = m[i]'(by omega)
    · rw [if_pos e, show wrap64 ((i : Int) + 1) = ((i + 1 : Nat) : Int) from by unfold wrap64; omega, hk, decide_cons_eq e]
    · rw [if_neg e, decide_cons_ne e]
theorem slices_Equal_int_int_c.to {l0 l1 : List Int} {r : Bool} (h : slices_Equal_int_int_c.f l0 l1 = some r) : ∃ k, slices_Equal_int_int.f k l0 l1 = some r := by
  unfold slices_Equal_int_int_c.f at h
  split at h
  case isFalse => cases h
  case isTrue hl =>
  obtain rfl := Option.some.inj h
  unfold slices_Equal_int_int.f
  by_cases e : (l0.length : Int) = (l1.length : Int)
  · obtain ⟨k, hk⟩ := slices_Equal_int_int.l0_to l0 l1 hl (by omega) l0.length 0 (by omega) (by omega)
    exact ⟨k, by rw [if_pos e]; simpa using hk⟩
  · refine ⟨0, ?_⟩
    rw [if_neg e, decide_eq_false]
    rintro rfl
    exact e rfl

theorem slices_Equal_int_int_c.calls (A0 : Option Addr) (c0 : Nat) (l0 : List Int) (A1 : Option Addr) (c1 : Nat) (l1 : List Int) (r : Bool) (w : World) (hr0 : Kd.C (Kd.int .i64) w A0 l0.length l0) (hc0 : l0.length ≤ c0) (hr1 : Kd.C (Kd.int .i64) w A1 l1.length l1) (hc1 : l1.length ≤ c1) (h : slices_Equal_int_int_c.f l0 l1 = some r) :
    Calls Try.prog 57 #[.slice A0 l0.length c0, .slice A1 l1.length c1] w fun e w' => e = .returned (.bool r) ∧ Drawn0 w w' := by
  obtain ⟨k_, hk_⟩ := slices_Equal_int_int_c.to h
  exact slices_Equal_int_int.calls k_ A0 c0 l0 A1 c1 l1 r w hr0 hc0 hr1 hc1 hk_

end Go.Proofs.Ythlhnodedofibaa.F
end

section
namespace Go.Proofs.Ythlhnodedofibaa.F
open Go.RowKit Go.Proofs.YthlhnodedofibaaW.PrintWords Go.Proofs.YthlhnodedofibaaW.PrintLast Go.Proofs.YthlhnodedofibaaW.PrintMore
attribute [local go_sem] max2_int min2_int max_two min_two max_three min_three max_four min_four   -- for this text's walks alone
set_option linter.unusedVariables false
set_option linter.unusedSimpArgs false

/-! ### mani_Same: function 26 -/
def mani_Same.f (a0_0 : Int) (l0_1 : List Int) (a0_2 : Int) (a1_0 : Int) (l1_1 : List Int) (a1_2 : Int) : Option (Bool) := if a0_0 = a1_0 then (if a0_2 = a1_2 then ((slices_Equal_int_int_c.f l0_1 l1_1).bind fun t103 => (some t103)) else (some false)) else (some false)
set_option maxHeartbeats 8000000 in
set_option maxRecDepth 100000 in
theorem mani_Same.calls (a0_0 : Int) (A0_1 : Option Addr) (c0_1 : Nat) (l0_1 : List Int) (a0_2 : Int) (a1_0 : Int) (A1_1 : Option Addr) (c1_1 : Nat) (l1_1 : List Int) (a1_2 : Int) (r : Bool) (w : World) (hr0_1 : Kd.C (Kd.int .i64) w A0_1 l0_1.length l0_1) (hc0_1 : l0_1.length ≤ c0_1) (hr1_1 : Kd.C (Kd.int .i64) w A1_1 l1_1.length l1_1) (hc1_1 : l1_1.length ≤ c1_1) (h : mani_Same.f a0_0 l0_1 a0_2 a1_0 l1_1 a1_2 = some r) :
    Calls Try.prog 26 #[.agg #[.int .u64 a0_0, .slice A0_1 l0_1.length c0_1, .int .u32 a0_2], .agg #[.int .u64 a1_0, .slice A1_1 l1_1.length c1_1, .int .u32 a1_2]] w fun e w' => e = .returned (.bool r) ∧ Below w.heap.size w w' := by
  have hu46 := Try.underlying46
  have HR0_1 := Aside0.mk hr0_1
  have HC0_1 := Aside0.mk hc0_1
  clear hr0_1 hc0_1
  have HR1_1 := Aside0.mk hr1_1
  have HC1_1 := Aside0.mk hc1_1
  clear hr1_1 hc1_1
  have HB := Aside0.mk (Below.refl w.heap.size w)
  have H : (if a0_0 = a1_0 then (if a0_2 = a1_2 then ((slices_Equal_int_int_c.f l0_1 l1_1).bind fun t103 => (some t103)) else (some false)) else (some false)) = some r := h
  clear h
  by_cases c3 : a0_0 = a1_0
  · rw [if_pos c3] at H
    have c3b0 : (a0_0 == a1_0) = true := beq_iff_eq.mpr c3
    have c3b1 : (a0_0 != a1_0) = false := bne_eq_false_iff_eq.mpr c3
    clear c3
    by_cases c4 : a0_2 = a1_2
    · rw [if_pos c4] at H
      have c4b0 : (a0_2 == a1_2) = true := beq_iff_eq.mpr c4
      have c4b1 : (a0_2 != a1_2) = false := bne_eq_false_iff_eq.mpr c4
      clear c4
      replace H := Option.bind_eq_some_iff.mp H
      obtain ⟨t103, A50, H⟩ := H
      replace H : (some t103) = some r := H
      have A5 := Aside0.mk A50
      clear A50
      obtain rfl := Option.some.inj H
      go_enter Try.func26, Try.ntmps26
      go_wp2_with (first | ((with_reducible refine gate_dst (N := 2) rfl ?_); refine box_event ?hg (N := 2) ?hd (cs := #[.int .u64 a0_0, .slice A0_1 l0_1.length c0_1, .int .u32 a0_2]) (t := 46) ?hr ?_; (case hd => rfl); (case hg => rfl); (case hr => first | (go_simp; done) | (go_simp; rfl)); intro gb101 hg w6 hbox hb; have n0_ := Aside0.mk (below_step (by repeat (first | (with_reducible first | exact HB.out | apply below_alloc | apply pw_below_drewN | apply below_drew1) | exact HB.out)) hb); have n1_ := Aside0.mk (hbox); have n2_ := Aside0.mk ((by rw [hg]; exact (below_size (by repeat (first | (with_reducible first | exact HB.out | apply below_alloc | apply pw_below_drewN | apply below_drew1) | exact HB.out))) : w.heap.size ≤ gb101)); have n3_ := Aside0.mk ((by rw [hg]; exact (below_size (by repeat (first | (with_reducible first | exact HB.out | apply below_alloc | apply pw_below_drewN | apply below_drew1) | exact HB.out))) : w.heap.size ≤ gb101)); clear HB; have HB := n0_; have BK101 := n1_; have GW101 := n2_; have GE101 := n3_; clear n0_ n1_ n2_ n3_; clear hb hbox hg) | ((with_reducible refine gate_dst (N := 3) rfl ?_); refine box_event ?hg (N := 3) ?hd (cs := #[.int .u64 a1_0, .slice A1_1 l1_1.length c1_1, .int .u32 a1_2]) (t := 46) ?hr ?_; (case hd => rfl); (case hg => rfl); (case hr => first | (go_simp; done) | (go_simp; rfl)); intro gb102 hg w7 hbox hb; have n0_ := Aside0.mk (blk_below (g := gb101) (o := .cells #[.int .u64 a0_0, .slice A0_1 l0_1.length c0_1, .int .u32 a0_2] 46 (0, 0)) (by (with_reducible repeat (first | refine blk_drewN ?_ _ | refine blk_drew ?_ | refine blk_alloc ?_ _)); exact BK101.out) hb); have n1_ := Aside0.mk (below_step (by repeat (first | (with_reducible first | exact HB.out | apply below_alloc | apply pw_below_drewN | apply below_drew1 | refine below_set ?_ GE101.out) | exact HB.out)) hb); have n2_ := Aside0.mk (hbox); have n3_ := Aside0.mk ((by rw [hg]; exact (below_size (by repeat (first | (with_reducible first | exact HB.out | apply below_alloc | apply pw_below_drewN | apply below_drew1 | refine below_set ?_ GE101.out) | exact HB.out))) : w.heap.size ≤ gb102)); have n4_ := Aside0.mk ((by rw [hg]; exact (below_size (by repeat (first | (with_reducible first | exact HB.out | apply below_alloc | apply pw_below_drewN | apply below_drew1 | refine below_set ?_ GE101.out) | exact HB.out))) : w.heap.size ≤ gb102)); have n5_ := Aside0.mk ((by rw [hg]; exact Nat.ne_of_lt (blk_lt (g := gb101) (o := .cells #[.int .u64 a0_0, .slice A0_1 l0_1.length c0_1, .int .u32 a0_2] 46 (0, 0)) (by (with_reducible repeat (first | refine blk_drewN ?_ _ | refine blk_drew ?_ | refine blk_alloc ?_ _)); exact BK101.out)) : gb101 ≠ gb102)); have n6_ := Aside0.mk ((by rw [hg]; exact Nat.ne_of_gt (blk_lt (g := gb101) (o := .cells #[.int .u64 a0_0, .slice A0_1 l0_1.length c0_1, .int .u32 a0_2] 46 (0, 0)) (by (with_reducible repeat (first | refine blk_drewN ?_ _ | refine blk_drew ?_ | refine blk_alloc ?_ _)); exact BK101.out)) : gb102 ≠ gb101)); clear BK101; clear HB; have BK101 := n0_; have HB := n1_; have BK102 := n2_; have GW102 := n3_; have GE102 := n4_; have NB101_102 := n5_; have NB102_101 := n6_; clear n0_ n1_ n2_ n3_ n4_ n5_ n6_; clear hb hbox hg; have hnb8 := NB101_102.out; have hnc8 := NB102_101.out; have hcz9_0 : w7.cell? ⟨gb101, 0, none⟩ = some (.int .u64 a0_0) := (blk_cell BK101.out 0).trans rfl; have hcz9_1 : w7.cell? ⟨gb101, 1, none⟩ = some (.slice A0_1 l0_1.length c0_1) := (blk_cell BK101.out 1).trans rfl; have hcz9_2 : w7.cell? ⟨gb101, 2, none⟩ = some (.int .u32 a0_2) := (blk_cell BK101.out 2).trans rfl; have hfz9_0 := blk_frozen BK101.out 0; have hfz9_1 := blk_frozen BK101.out 1; have hfz9_2 := blk_frozen BK101.out 2; have hcz10_0 : w7.cell? ⟨gb102, 0, none⟩ = some (.int .u64 a1_0) := (blk_cell BK102.out 0).trans rfl; have hcz10_1 : w7.cell? ⟨gb102, 1, none⟩ = some (.slice A1_1 l1_1.length c1_1) := (blk_cell BK102.out 1).trans rfl; have hcz10_2 : w7.cell? ⟨gb102, 2, none⟩ = some (.int .u32 a1_2) := (blk_cell BK102.out 2).trans rfl; have hfz10_0 := blk_frozen BK102.out 0; have hfz10_1 := blk_frozen BK102.out 1; have hfz10_2 := blk_frozen BK102.out 2) | (go_at_call 57; (with_reducible refine (slices_Equal_int_int_c.calls _ _ l0_1 _ _ l1_1 t103 _ ?side1 ?side2 ?side3 ?side4 A5.out).mono ?_); (case side1 => repeat (first | exact (Kd.C_below HR0_1.out HB.out) | (with_reducible refine Kd.C_alloc ?_ _) | (with_reducible refine Kd.C_drewN ?_ _) | (with_reducible refine Kd.C_drew ?_))); (case side2 => exact HC0_1.out); (case side3 => repeat (first | exact (Kd.C_below HR1_1.out HB.out) | (with_reducible refine Kd.C_alloc ?_ _) | (with_reducible refine Kd.C_drewN ?_ _) | (with_reducible refine Kd.C_drew ?_))); (case side4 => exact HC1_1.out); rintro e w' ⟨rfl, ⟨nd, rfl⟩⟩))
      go_ret
      exact ⟨by first | rfl | (simp [errW_none, errW_some] <;> rfl) | (simp [*, errW_none, errW_some] <;> rfl), by repeat (first | (with_reducible first | exact HB.out | apply below_alloc | apply pw_below_drewN | apply below_drew1 | refine below_set ?_ GE101.out | refine below_set ?_ GE102.out) | exact HB.out)⟩
    · rw [if_neg c4] at H
      have c4b0 : (a0_2 == a1_2) = false := beq_eq_false_iff_ne.mpr c4
      have c4b1 : (a0_2 != a1_2) = true := bne_iff_ne.mpr c4
      obtain rfl := Option.some.inj H
      go_enter Try.func26, Try.ntmps26
      go_wp2_with (first | ((with_reducible refine gate_dst (N := 2) rfl ?_); refine box_event ?hg (N := 2) ?hd (cs := #[.int .u64 a0_0, .slice A0_1 l0_1.length c0_1, .int .u32 a0_2]) (t := 46) ?hr ?_; (case hd => rfl); (case hg => rfl); (case hr => first | (go_simp; done) | (go_simp; rfl)); intro gb101 hg w11 hbox hb; have n0_ := Aside0.mk (below_step (by repeat (first | (with_reducible first | exact HB.out | apply below_alloc | apply pw_below_drewN | apply below_drew1) | exact HB.out)) hb); have n1_ := Aside0.mk (hbox); have n2_ := Aside0.mk ((by rw [hg]; exact (below_size (by repeat (first | (with_reducible first | exact HB.out | apply below_alloc | apply pw_below_drewN | apply below_drew1) | exact HB.out))) : w.heap.size ≤ gb101)); have n3_ := Aside0.mk ((by rw [hg]; exact (below_size (by repeat (first | (with_reducible first | exact HB.out | apply below_alloc | apply pw_below_drewN | apply below_drew1) | exact HB.out))) : w.heap.size ≤ gb101)); clear HB; have HB := n0_; have BK101 := n1_; have GW101 := n2_; have GE101 := n3_; clear n0_ n1_ n2_ n3_; clear hb hbox hg) | ((with_reducible refine gate_dst (N := 3) rfl ?_); refine box_event ?hg (N := 3) ?hd (cs := #[.int .u64 a1_0, .slice A1_1 l1_1.length c1_1, .int .u32 a1_2]) (t := 46) ?hr ?_; (case hd => rfl); (case hg => rfl); (case hr => first | (go_simp; done) | (go_simp; rfl)); intro gb102 hg w12 hbox hb; have n0_ := Aside0.mk (blk_below (g := gb101) (o := .cells #[.int .u64 a0_0, .slice A0_1 l0_1.length c0_1, .int .u32 a0_2] 46 (0, 0)) (by (with_reducible repeat (first | refine blk_drewN ?_ _ | refine blk_drew ?_ | refine blk_alloc ?_ _)); exact BK101.out) hb); have n1_ := Aside0.mk (below_step (by repeat (first | (with_reducible first | exact HB.out | apply below_alloc | apply pw_below_drewN | apply below_drew1 | refine below_set ?_ GE101.out) | exact HB.out)) hb); have n2_ := Aside0.mk (hbox); have n3_ := Aside0.mk ((by rw [hg]; exact (below_size (by repeat (first | (with_reducible first | exact HB.out | apply below_alloc | apply pw_below_drewN | apply below_drew1 | refine below_set ?_ GE101.out) | exact HB.out))) : w.heap.size ≤ gb102)); have n4_ := Aside0.mk ((by rw [hg]; exact (below_size (by repeat (first | (with_reducible first | exact HB.out | apply below_alloc | apply pw_below_drewN | apply below_drew1 | refine below_set ?_ GE101.out) | exact HB.out))) : w.heap.size ≤ gb102)); have n5_ := Aside0.mk ((by rw [hg]; exact Nat.ne_of_lt (blk_lt (g := gb101) (o := .cells #[.int .u64 a0_0, .slice A0_1 l0_1.length c0_1, .int .u32 a0_2] 46 (0, 0)) (by (with_reducible repeat (first | refine blk_drewN ?_ _ | refine blk_drew ?_ | refine blk_alloc ?_ _)); exact BK101.out)) : gb101 ≠ gb102)); have n6_ := Aside0.mk ((by rw [hg]; exact Nat.ne_of_gt (blk_lt (g := gb101) (o := .cells #[.int .u64 a0_0, .slice A0_1 l0_1.length c0_1, .int .u32 a0_2] 46 (0, 0)) (by (with_reducible repeat (first | refine blk_drewN ?_ _ | refine blk_drew ?_ | refine blk_alloc ?_ _)); exact BK101.out)) : gb102 ≠ gb101)); clear BK101; clear HB; have BK101 := n0_; have HB := n1_; have BK102 := n2_; have GW102 := n3_; have GE102 := n4_; have NB101_102 := n5_; have NB102_101 := n6_; clear n0_ n1_ n2_ n3_ n4_ n5_ n6_; clear hb hbox hg; have hnb13 := NB101_102.out; have hnc13 := NB102_101.out; have hcz14_0 : w12.cell? ⟨gb101, 0, none⟩ = some (.int .u64 a0_0) := (blk_cell BK101.out 0).trans rfl; have hcz14_1 : w12.cell? ⟨gb101, 1, none⟩ = some (.slice A0_1 l0_1.length c0_1) := (blk_cell BK101.out 1).trans rfl; have hcz14_2 : w12.cell? ⟨gb101, 2, none⟩ = some (.int .u32 a0_2) := (blk_cell BK101.out 2).trans rfl; have hfz14_0 := blk_frozen BK101.out 0; have hfz14_1 := blk_frozen BK101.out 1; have hfz14_2 := blk_frozen BK101.out 2; have hcz15_0 : w12.cell? ⟨gb102, 0, none⟩ = some (.int .u64 a1_0) := (blk_cell BK102.out 0).trans rfl; have hcz15_1 : w12.cell? ⟨gb102, 1, none⟩ = some (.slice A1_1 l1_1.length c1_1) := (blk_cell BK102.out 1).trans rfl; have hcz15_2 : w12.cell? ⟨gb102, 2, none⟩ = some (.int .u32 a1_2) := (blk_cell BK102.out 2).trans rfl; have hfz15_0 := blk_frozen BK102.out 0; have hfz15_1 := blk_frozen BK102.out 1; have hfz15_2 := blk_frozen BK102.out 2))
      go_ret
      exact ⟨by first | rfl | (simp [errW_none, errW_some] <;> rfl) | (simp [*, errW_none, errW_some] <;> rfl), by repeat (first | (with_reducible first | exact HB.out | apply below_alloc | apply pw_below_drewN | apply below_drew1 | refine below_set ?_ GE101.out | refine below_set ?_ GE102.out) | exact HB.out)⟩
  · rw [if_neg c3] at H
    have c3b0 : (a0_0 == a1_0) = false := beq_eq_false_iff_ne.mpr c3
    have c3b1 : (a0_0 != a1_0) = true := bne_iff_ne.mpr c3
    obtain rfl := Option.some.inj H
    go_enter Try.func26, Try.ntmps26
    go_wp2_with (first | ((with_reducible refine gate_dst (N := 2) rfl ?_); refine box_event ?hg (N := 2) ?hd (cs := #[.int .u64 a0_0, .slice A0_1 l0_1.length c0_1, .int .u32 a0_2]) (t := 46) ?hr ?_; (case hd => rfl); (case hg => rfl); (case hr => first | (go_simp; done) | (go_simp; rfl)); intro gb101 hg w16 hbox hb; have n0_ := Aside0.mk (below_step (by repeat (first | (with_reducible first | exact HB.out | apply below_alloc | apply pw_below_drewN | apply below_drew1) | exact HB.out)) hb); have n1_ := Aside0.mk (hbox); have n2_ := Aside0.mk ((by rw [hg]; exact (below_size (by repeat (first | (with_reducible first | exact HB.out | apply below_alloc | apply pw_below_drewN | apply below_drew1) | exact HB.out))) : w.heap.size ≤ gb101)); have n3_ := Aside0.mk ((by rw [hg]; exact (below_size (by repeat (first | (with_reducible first | exact HB.out | apply below_alloc | apply pw_below_drewN | apply below_drew1) | exact HB.out))) : w.heap.size ≤ gb101)); clear HB; have HB := n0_; have BK101 := n1_; have GW101 := n2_; have GE101 := n3_; clear n0_ n1_ n2_ n3_; clear hb hbox hg) | ((with_reducible refine gate_dst (N := 3) rfl ?_); refine box_event ?hg (N := 3) ?hd (cs := #[.int .u64 a1_0, .slice A1_1 l1_1.length c1_1, .int .u32 a1_2]) (t := 46) ?hr ?_; (case hd => rfl); (case hg => rfl); (case hr => first | (go_simp; done) | (go_simp; rfl)); intro gb102 hg w17 hbox hb; have n0_ := Aside0.mk (blk_below (g := gb101) (o := .cells #[.int .u64 a0_0, .slice A0_1 l0_1.length c0_1, .int .u32 a0_2] 46 (0, 0)) (by (with_reducible repeat (first | refine blk_drewN ?_ _ | refine blk_drew ?_ | refine blk_alloc ?_ _)); exact BK101.out) hb); have n1_ := Aside0.mk (below_step (by repeat (first | (with_reducible first | exact HB.out | apply below_alloc | apply pw_below_drewN | apply below_drew1 | refine below_set ?_ GE101.out) | exact HB.out)) hb); have n2_ := Aside0.mk (hbox); have n3_ := Aside0.mk ((by rw [hg]; exact (below_size (by repeat (first | (with_reducible first | exact HB.out | apply below_alloc | apply pw_below_drewN | apply below_drew1 | refine below_set ?_ GE101.out) | exact HB.out))) : w.heap.size ≤ gb102)); have n4_ := Aside0.mk ((by rw [hg]; exact (below_size (by repeat (first | (with_reducible first | exact HB.out | apply below_alloc | apply pw_below_drewN | apply below_drew1 | refine below_set ?_ GE101.out) | exact HB.out))) : w.heap.size ≤ gb102)); have n5_ := Aside0.mk ((by rw [hg]; exact Nat.ne_of_lt (blk_lt (g := gb101) (o := .cells #[.int .u64 a0_0, .slice A0_1 l0_1.length c0_1, .int .u32 a0_2] 46 (0, 0)) (by (with_reducible repeat (first | refine blk_drewN ?_ _ | refine blk_drew ?_ | refine blk_alloc ?_ _)); exact BK101.out)) : gb101 ≠ gb102)); have n6_ := Aside0.mk ((by rw [hg]; exact Nat.ne_of_gt (blk_lt (g := gb101) (o := .cells #[.int .u64 a0_0, .slice A0_1 l0_1.length c0_1, .int .u32 a0_2] 46 (0, 0)) (by (with_reducible repeat (first | refine blk_drewN ?_ _ | refine blk_drew ?_ | refine blk_alloc ?_ _)); exact BK101.out)) : gb102 ≠ gb101)); clear BK101; clear HB; have BK101 := n0_; have HB := n1_; have BK102 := n2_; have GW102 := n3_; have GE102 := n4_; have NB101_102 := n5_; have NB102_101 := n6_; clear n0_ n1_ n2_ n3_ n4_ n5_ n6_; clear hb hbox hg; have hnb18 := NB101_102.out; have hnc18 := NB102_101.out; have hcz19_0 : w17.cell? ⟨gb101, 0, none⟩ = some (.int .u64 a0_0) := (blk_cell BK101.out 0).trans rfl; have hcz19_1 : w17.cell? ⟨gb101, 1, none⟩ = some (.slice A0_1 l0_1.length c0_1) := (blk_cell BK101.out 1).trans rfl; have hcz19_2 : w17.cell? ⟨gb101, 2, none⟩ = some (.int .u32 a0_2) := (blk_cell BK101.out 2).trans rfl; have hfz19_0 := blk_frozen BK101.out 0; have hfz19_1 := blk_frozen BK101.out 1; have hfz19_2 := blk_frozen BK101.out 2; have hcz20_0 : w17.cell? ⟨gb102, 0, none⟩ = some (.int .u64 a1_0) := (blk_cell BK102.out 0).trans rfl; have hcz20_1 : w17.cell? ⟨gb102, 1, none⟩ = some (.slice A1_1 l1_1.length c1_1) := (blk_cell BK102.out 1).trans rfl; have hcz20_2 : w17.cell? ⟨gb102, 2, none⟩ = some (.int .u32 a1_2) := (blk_cell BK102.out 2).trans rfl; have hfz20_0 := blk_frozen BK102.out 0; have hfz20_1 := blk_frozen BK102.out 1; have hfz20_2 := blk_frozen BK102.out 2))
    go_ret
    exact ⟨by first | rfl | (simp [errW_none, errW_some] <;> rfl) | (simp [*, errW_none, errW_some] <;> rfl), by repeat (first | (with_reducible first | exact HB.out | apply below_alloc | apply pw_below_drewN | apply below_drew1 | refine below_set ?_ GE101.out | refine below_set ?_ GE102.out) | exact HB.out)⟩

end Go.Proofs.Ythlhnodedofibaa.F
end

section
namespace Go.Proofs.Ythlhnodedofibaa.F
open Go.RowKit Go.Proofs.YthlhnodedofibaaW.PrintWords Go.Proofs.YthlhnodedofibaaW.PrintLast Go.Proofs.YthlhnodedofibaaW.PrintMore
attribute [local go_sem] max2_int min2_int max_two min_two max_three min_three max_four min_four   -- for this text's walks alone
set_option linter.unusedVariables false
set_option linter.unusedSimpArgs false

/-! ### mani_Matches: function 27 -/
def mani_Matches.f (a0_0 : Int) (l0_1 : List Int) (a0_2 : Int) (l1 : List (List Int)) : Option (Bool) := (mani_Of.f a0_0 l1).bind fun bt102 => (if bt102.2.2.2 = 0 then ((mani_Same.f a0_0 l0_1 a0_2 bt102.1 bt102.2.1 bt102.2.2.1).bind fun t109 => (some t109)) else (some false))
set_option maxHeartbeats 8000000 in
set_option maxRecDepth 100000 in
theorem mani_Matches.calls (a0_0 : Int) (A0_1 : Option Addr) (c0_1 : Nat) (l0_1 : List Int) (a0_2 : Int) (A1 : Option Addr) (c1 : Nat) (l1 : List (List Int)) (r : Bool) (w : World) (hr0_1 : Kd.C (Kd.int .i64) w A0_1 l0_1.length l0_1) (hc0_1 : l0_1.length ≤ c0_1) (hr1 : Kd.C (Kd.slice 42 (Kd.int .u64)) w A1 l1.length l1) (hc1 : l1.length ≤ c1) (h : mani_Matches.f a0_0 l0_1 a0_2 l1 = some r) :
    Calls Try.prog 27 #[.agg #[.int .u64 a0_0, .slice A0_1 l0_1.length c0_1, .int .u32 a0_2], .slice A1 l1.length c1] w fun e w' => e = .returned (.bool r) ∧ Below w.heap.size w w' := by
  have hu46 := Try.underlying46
  have HR0_1 := Aside0.mk hr0_1
  have HC0_1 := Aside0.mk hc0_1
  clear hr0_1 hc0_1
  have HR1 := Aside0.mk hr1
  have HC1 := Aside0.mk hc1
  clear hr1 hc1
  have HB := Aside0.mk (Below.refl w.heap.size w)
  have H : ((mani_Of.f a0_0 l1).bind fun bt102 => (if bt102.2.2.2 = 0 then ((mani_Same.f a0_0 l0_1 a0_2 bt102.1 bt102.2.1 bt102.2.2.1).bind fun t109 => (some t109)) else (some false))) = some r := h
  clear h
  replace H := Option.bind_eq_some_iff.mp H
  obtain ⟨⟨t102, t103, t106, t107⟩, A30, H⟩ := H
  replace H : (if t107 = 0 then ((mani_Same.f a0_0 l0_1 a0_2 t102 t103 t106).bind fun t109 => (some t109)) else (some false)) = some r := H
  have A3 := Aside0.mk A30
  clear A30
  by_cases c4 : t107 = 0
  · rw [if_pos c4] at H
    have c4b0 : (t107 == 0) = true := beq_iff_eq.mpr c4
    have c4b1 : (t107 != 0) = false := bne_eq_false_iff_eq.mpr c4
    clear c4
    replace H := Option.bind_eq_some_iff.mp H
    obtain ⟨t109, A50, H⟩ := H
    replace H : (some t109) = some r := H
    have A5 := Aside0.mk A50
    clear A50
    obtain rfl := Option.some.inj H
    go_enter Try.func27, Try.ntmps27
    go_wp2_with (first | ((with_reducible refine gate_dst (N := 2) rfl ?_); refine box_event ?hg (N := 2) ?hd (cs := #[.int .u64 a0_0, .slice A0_1 l0_1.length c0_1, .int .u32 a0_2]) (t := 46) ?hr ?_; (case hd => rfl); (case hg => rfl); (case hr => first | (go_simp; done) | (go_simp; rfl)); intro gb101 hg w6 hbox hb; have n0_ := Aside0.mk (below_step (by repeat (first | (with_reducible first | exact HB.out | apply below_alloc | apply pw_below_drewN | apply below_drew1) | exact HB.out)) hb); have n1_ := Aside0.mk (hbox); have n2_ := Aside0.mk ((by rw [hg]; exact (below_size (by repeat (first | (with_reducible first | exact HB.out | apply below_alloc | apply pw_below_drewN | apply below_drew1) | exact HB.out))) : w.heap.size ≤ gb101)); have n3_ := Aside0.mk ((by rw [hg]; exact (below_size (by repeat (first | (with_reducible first | exact HB.out | apply below_alloc | apply pw_below_drewN | apply below_drew1) | exact HB.out))) : w.heap.size ≤ gb101)); clear HB; have HB := n0_; have BK101 := n1_; have GW101 := n2_; have GE101 := n3_; clear n0_ n1_ n2_ n3_; clear hb hbox hg; have hcz7_0 : w6.cell? ⟨gb101, 0, none⟩ = some (.int .u64 a0_0) := (blk_cell BK101.out 0).trans rfl; have hcz7_1 : w6.cell? ⟨gb101, 1, none⟩ = some (.slice A0_1 l0_1.length c0_1) := (blk_cell BK101.out 1).trans rfl; have hcz7_2 : w6.cell? ⟨gb101, 2, none⟩ = some (.int .u32 a0_2) := (blk_cell BK101.out 2).trans rfl; have hfz7_0 := blk_frozen BK101.out 0; have hfz7_1 := blk_frozen BK101.out 1; have hfz7_2 := blk_frozen BK101.out 2) | ((with_reducible refine gate_callee (f := 24) rfl ?_); refine goesL_ (some 11) rfl rfl Try.func24 (by kernel_rfl) rfl #[.int .u64 a0_0, .slice A1 l1.length c1] rfl (by (try simp only [List.map_toArray, List.map_cons, List.map_nil]); first | done | rfl | (simp only [List.length_drop, List.length_take]; rfl)) ?_; (with_reducible refine (mani_Of.calls a0_0 _ _ l1 t102 t103 t106 t107 _ ?side1 ?side2 A3.out).mono ?_); (case side1 => repeat (first | exact (Kd.C_below HR1.out HB.out) | (with_reducible refine Kd.C_alloc ?_ _) | (with_reducible refine Kd.C_drewN ?_ _) | (with_reducible refine Kd.C_drew ?_))); (case side2 => exact HC1.out); rintro e w8 ⟨v104, rfl, ho0, hb⟩; refine ⟨_, rfl, ?_⟩; have n0_ := Aside0.mk (Kd.R_lower ho0 (below_size (by repeat (first | (with_reducible first | exact HB.out | apply below_alloc | apply pw_below_drewN | apply below_drew1 | refine below_set ?_ GE101.out) | exact HB.out)))); have n1_ := Aside0.mk (blk_below (g := gb101) (o := .cells #[.int .u64 a0_0, .slice A0_1 l0_1.length c0_1, .int .u32 a0_2] 46 (0, 0)) (by (with_reducible repeat (first | refine blk_drewN ?_ _ | refine blk_drew ?_ | refine blk_alloc ?_ _)); exact BK101.out) hb); have n2_ := Aside0.mk (below_step (by repeat (first | (with_reducible first | exact HB.out | apply below_alloc | apply pw_below_drewN | apply below_drew1 | refine below_set ?_ GE101.out) | exact HB.out)) hb); clear BK101; clear HB; have HO105 := n0_; have BK101 := n1_; have HB := n2_; clear n0_ n1_ n2_; (try clear hb); (try clear hb2); (try clear hk); (try clear hi); (try clear ho0)) | ((with_reducible refine gate_dst (N := 5) rfl ?_); refine box_event ?hg (N := 5) ?hd (cs := #[.int .u64 0, .slice none 0 0, .int .u32 0]) (t := 46) ?hr ?_; (case hd => rfl); (case hg => rfl); (case hr => first | (go_simp; done) | (go_simp; rfl)); intro gb108 hg w9 hbox hb; have n0_ := Aside0.mk (Kd.R_below (by (with_reducible repeat (first | apply Kd.R_alloc | apply Kd.R_drewN | apply Kd.R_drew)); exact HO105.out) hb); have n1_ := Aside0.mk (blk_below (g := gb101) (o := .cells #[.int .u64 a0_0, .slice A0_1 l0_1.length c0_1, .int .u32 a0_2] 46 (0, 0)) (by (with_reducible repeat (first | refine blk_drewN ?_ _ | refine blk_drew ?_ | refine blk_alloc ?_ _)); exact BK101.out) hb); have n2_ := Aside0.mk (below_step (by repeat (first | (with_reducible first | exact HB.out | apply below_alloc | apply pw_below_drewN | apply below_drew1 | refine below_set ?_ GE101.out) | exact HB.out)) hb); have n3_ := Aside0.mk (hbox); have n4_ := Aside0.mk ((by rw [hg]; exact (below_size (by repeat (first | (with_reducible first | exact HB.out | apply below_alloc | apply pw_below_drewN | apply below_drew1 | refine below_set ?_ GE101.out) | exact HB.out))) : w.heap.size ≤ gb108)); have n5_ := Aside0.mk ((by rw [hg]; exact (below_size (by repeat (first | (with_reducible first | exact HB.out | apply below_alloc | apply pw_below_drewN | apply below_drew1 | refine below_set ?_ GE101.out) | exact HB.out))) : w.heap.size ≤ gb108)); have n6_ := Aside0.mk ((by rw [hg]; exact Nat.ne_of_lt (blk_lt (g := gb101) (o := .cells #[.int .u64 a0_0, .slice A0_1 l0_1.length c0_1, .int .u32 a0_2] 46 (0, 0)) (by (with_reducible repeat (first | refine blk_drewN ?_ _ | refine blk_drew ?_ | refine blk_alloc ?_ _)); exact BK101.out)) : gb101 ≠ gb108)); have n7_ := Aside0.mk ((by rw [hg]; exact Nat.ne_of_gt (blk_lt (g := gb101) (o := .cells #[.int .u64 a0_0, .slice A0_1 l0_1.length c0_1, .int .u32 a0_2] 46 (0, 0)) (by (with_reducible repeat (first | refine blk_drewN ?_ _ | refine blk_drew ?_ | refine blk_alloc ?_ _)); exact BK101.out)) : gb108 ≠ gb101)); clear HO105; clear BK101; clear HB; have HO105 := n0_; have BK101 := n1_; have HB := n2_; have BK108 := n3_; have GW108 := n4_; have GE108 := n5_; have NB101_108 := n6_; have NB108_101 := n7_; clear n0_ n1_ n2_ n3_ n4_ n5_ n6_ n7_; clear hb hbox hg; have hnb10 := NB108_101.out; have hnc10 := NB101_108.out; have hcz11_0 : w9.cell? ⟨gb108, 0, none⟩ = some (.int .u64 0) := (blk_cell BK108.out 0).trans rfl; have hcz11_1 : w9.cell? ⟨gb108, 1, none⟩ = some (.slice none 0 0) := (blk_cell BK108.out 1).trans rfl; have hcz11_2 : w9.cell? ⟨gb108, 2, none⟩ = some (.int .u32 0) := (blk_cell BK108.out 2).trans rfl; have hfz11_0 := blk_frozen BK108.out 0; have hfz11_1 := blk_frozen BK108.out 1; have hfz11_2 := blk_frozen BK108.out 2; obtain ⟨Ao12, co12, eo12⟩ := Kd.R_slice HO105.out; subst eo12; have hcz13_0 : w9.cell? ⟨gb101, 0, none⟩ = some (.int .u64 a0_0) := (blk_cell BK101.out 0).trans rfl; have hcz13_1 : w9.cell? ⟨gb101, 1, none⟩ = some (.slice A0_1 l0_1.length c0_1) := (blk_cell BK101.out 1).trans rfl; have hcz13_2 : w9.cell? ⟨gb101, 2, none⟩ = some (.int .u32 a0_2) := (blk_cell BK101.out 2).trans rfl; have hfz13_0 := blk_frozen BK101.out 0; have hfz13_1 := blk_frozen BK101.out 1; have hfz13_2 := blk_frozen BK101.out 2) | (go_at_call 26; (with_reducible refine (mani_Same.calls a0_0 _ _ l0_1 a0_2 t102 _ _ t103 t106 t109 _ ?side1 ?side2 ?side3 ?side4 A5.out).mono ?_); (case side1 => exact Kd.C_below HR0_1.out (by repeat (first | (with_reducible first | exact HB.out | apply below_alloc | apply pw_below_drewN | apply below_drew1 | refine below_set ?_ GE101.out | refine below_set ?_ GE108.out) | exact HB.out))); (case side2 => exact HC0_1.out); (case side3 => refine (Kd.R_reads' (e := 3) (base := w.heap.size) (ok := fun k_ => True) (n := t103.length) (c := co12) ?_).2.2; exact (by (with_reducible repeat (first | apply Kd.R_alloc | apply Kd.R_drewN | apply Kd.R_drew)); exact (Kd.R_mono (Kd.R_far (p := ⟨gb108, 2, none⟩) (Kd.R_far (p := ⟨gb108, 1, none⟩) (Kd.R_far (p := ⟨gb108, 0, none⟩) (Kd.R_types HO105.out BK108.out (by decide)) (fun _ hk => hk.2) (.int .u64 t102)) (fun _ hk => hk.2) (.slice Ao12 t103.length co12)) (fun _ hk => hk.2) (.int .u32 t106)) (fun _ h_ => h_.1)))); (case side4 => exact (Kd.R_reads' HO105.out).2.1); rintro e w14 ⟨rfl, hb⟩; have n0_ := Aside0.mk (Kd.R_below (by (with_reducible repeat (first | apply Kd.R_alloc | apply Kd.R_drewN | apply Kd.R_drew)); exact (Kd.R_mono (Kd.R_far (p := ⟨gb108, 2, none⟩) (Kd.R_far (p := ⟨gb108, 1, none⟩) (Kd.R_far (p := ⟨gb108, 0, none⟩) (Kd.R_types HO105.out BK108.out (by decide)) (fun _ hk => hk.2) (.int .u64 t102)) (fun _ hk => hk.2) (.slice Ao12 t103.length co12)) (fun _ hk => hk.2) (.int .u32 t106)) (fun _ h_ => h_.1))) hb); have n1_ := Aside0.mk (blk_below (g := gb101) (o := .cells #[.int .u64 a0_0, .slice A0_1 l0_1.length c0_1, .int .u32 a0_2] 46 (0, 0)) (by (with_reducible repeat (first | refine blk_drewN ?_ _ | refine blk_drew ?_ | refine blk_alloc ?_ _)); refine blk_far ?_ NB101_108.out _; (with_reducible repeat (first | refine blk_drewN ?_ _ | refine blk_drew ?_ | refine blk_alloc ?_ _)); refine blk_far ?_ NB101_108.out _; (with_reducible repeat (first | refine blk_drewN ?_ _ | refine blk_drew ?_ | refine blk_alloc ?_ _)); refine blk_far ?_ NB101_108.out _; (with_reducible repeat (first | refine blk_drewN ?_ _ | refine blk_drew ?_ | refine blk_alloc ?_ _)); exact BK101.out) hb); have n2_ := Aside0.mk (blk_below (g := gb108) (o := .cells #[.int .u64 t102, .slice Ao12 t103.length co12, .int .u32 t106] 46 (0, 0)) (by (with_reducible repeat (first | refine blk_drewN ?_ _ | refine blk_drew ?_ | refine blk_alloc ?_ _)); refine blk_put (cs := #[.int .u64 t102, .slice Ao12 t103.length co12, .int .u32 0]) ?_ 2 _ rfl; (with_reducible repeat (first | refine blk_drewN ?_ _ | refine blk_drew ?_ | refine blk_alloc ?_ _)); refine blk_put (cs := #[.int .u64 t102, .slice none 0 0, .int .u32 0]) ?_ 1 _ rfl; (with_reducible repeat (first | refine blk_drewN ?_ _ | refine blk_drew ?_ | refine blk_alloc ?_ _)); refine blk_put (cs := #[.int .u64 0, .slice none 0 0, .int .u32 0]) ?_ 0 _ rfl; (with_reducible repeat (first | refine blk_drewN ?_ _ | refine blk_drew ?_ | refine blk_alloc ?_ _)); exact BK108.out) hb); have n3_ := Aside0.mk (below_step (by repeat (first | (with_reducible first | exact HB.out | apply below_alloc | apply pw_below_drewN | apply below_drew1 | refine below_set ?_ GE101.out | refine below_set ?_ GE108.out) | exact HB.out)) hb); clear HO105; clear BK101; clear BK108; clear HB; have HO105 := n0_; have BK101 := n1_; have BK108 := n2_; have HB := n3_; clear n0_ n1_ n2_ n3_; (try clear hb); (try clear hb2); (try clear hk); (try clear hi)))
    go_ret
    exact ⟨by first | rfl | (simp [errW_none, errW_some] <;> rfl) | (simp [*, errW_none, errW_some] <;> rfl), by repeat (first | (with_reducible first | exact HB.out | apply below_alloc | apply pw_below_drewN | apply below_drew1 | refine below_set ?_ GE101.out | refine below_set ?_ GE108.out) | exact HB.out)⟩
  · rw [if_neg c4] at H
    have c4b0 : (t107 == 0) = false := beq_eq_false_iff_ne.mpr c4
    have c4b1 : (t107 != 0) = true := bne_iff_ne.mpr c4
    obtain rfl := Option.some.inj H
    go_enter Try.func27, Try.ntmps27
    go_wp2_with (first | ((with_reducible refine gate_dst (N := 2) rfl ?_); refine box_event ?hg (N := 2) ?hd (cs := #[.int .u64 a0_0, .slice A0_1 l0_1.length c0_1, .int .u32 a0_2]) (t := 46) ?hr ?_; (case hd => rfl); (case hg => rfl); (case hr => first | (go_simp; done) | (go_simp; rfl)); intro gb101 hg w15 hbox hb; have n0_ := Aside0.mk (below_step (by repeat (first | (with_reducible first | exact HB.out | apply below_alloc | apply pw_below_drewN | apply below_drew1) | exact HB.out)) hb); have n1_ := Aside0.mk (hbox); have n2_ := Aside0.mk ((by rw [hg]; exact (below_size (by repeat (first | (with_reducible first | exact HB.out | apply below_alloc | apply pw_below_drewN | apply below_drew1) | exact HB.out))) : w.heap.size ≤ gb101)); have n3_ := Aside0.mk ((by rw [hg]; exact (below_size (by repeat (first | (with_reducible first | exact HB.out | apply below_alloc | apply pw_below_drewN | apply below_drew1) | exact HB.out))) : w.heap.size ≤ gb101)); clear HB; have HB := n0_; have BK101 := n1_; have GW101 := n2_; have GE101 := n3_; clear n0_ n1_ n2_ n3_; clear hb hbox hg; have hcz16_0 : w15.cell? ⟨gb101, 0, none⟩ = some (.int .u64 a0_0) := (blk_cell BK101.out 0).trans rfl; have hcz16_1 : w15.cell? ⟨gb101, 1, none⟩ = some (.slice A0_1 l0_1.length c0_1) := (blk_cell BK101.out 1).trans rfl; have hcz16_2 : w15.cell? ⟨gb101, 2, none⟩ = some (.int .u32 a0_2) := (blk_cell BK101.out 2).trans rfl; have hfz16_0 := blk_frozen BK101.out 0; have hfz16_1 := blk_frozen BK101.out 1; have hfz16_2 := blk_frozen BK101.out 2) | ((with_reducible refine gate_callee (f := 24) rfl ?_); refine goesL_ (some 11) rfl rfl Try.func24 (by kernel_rfl) rfl #[.int .u64 a0_0, .slice A1 l1.length c1] rfl (by (try simp only [List.map_toArray, List.map_cons, List.map_nil]); first | done | rfl | (simp only [List.length_drop, List.length_take]; rfl)) ?_; (with_reducible refine (mani_Of.calls a0_0 _ _ l1 t102 t103 t106 t107 _ ?side1 ?side2 A3.out).mono ?_); (case side1 => repeat (first | exact (Kd.C_below HR1.out HB.out) | (with_reducible refine Kd.C_alloc ?_ _) | (with_reducible refine Kd.C_drewN ?_ _) | (with_reducible refine Kd.C_drew ?_))); (case side2 => exact HC1.out); rintro e w17 ⟨v104, rfl, ho0, hb⟩; refine ⟨_, rfl, ?_⟩; have n0_ := Aside0.mk (Kd.R_lower ho0 (below_size (by repeat (first | (with_reducible first | exact HB.out | apply below_alloc | apply pw_below_drewN | apply below_drew1 | refine below_set ?_ GE101.out) | exact HB.out)))); have n1_ := Aside0.mk (blk_below (g := gb101) (o := .cells #[.int .u64 a0_0, .slice A0_1 l0_1.length c0_1, .int .u32 a0_2] 46 (0, 0)) (by (with_reducible repeat (first | refine blk_drewN ?_ _ | refine blk_drew ?_ | refine blk_alloc ?_ _)); exact BK101.out) hb); have n2_ := Aside0.mk (below_step (by repeat (first | (with_reducible first | exact HB.out | apply below_alloc | apply pw_below_drewN | apply below_drew1 | refine below_set ?_ GE101.out) | exact HB.out)) hb); clear BK101; clear HB; have HO105 := n0_; have BK101 := n1_; have HB := n2_; clear n0_ n1_ n2_; (try clear hb); (try clear hb2); (try clear hk); (try clear hi); (try clear ho0)) | ((with_reducible refine gate_dst (N := 5) rfl ?_); refine box_event ?hg (N := 5) ?hd (cs := #[.int .u64 0, .slice none 0 0, .int .u32 0]) (t := 46) ?hr ?_; (case hd => rfl); (case hg => rfl); (case hr => first | (go_simp; done) | (go_simp; rfl)); intro gb108 hg w18 hbox hb; have n0_ := Aside0.mk (Kd.R_below (by (with_reducible repeat (first | apply Kd.R_alloc | apply Kd.R_drewN | apply Kd.R_drew)); exact HO105.out) hb); have n1_ := Aside0.mk (blk_below (g := gb101) (o := .cells #[.int .u64 a0_0, .slice A0_1 l0_1.length c0_1, .int .u32 a0_2] 46 (0, 0)) (by (with_reducible repeat (first | refine blk_drewN ?_ _ | refine blk_drew ?_ | refine blk_alloc ?_ _)); exact BK101.out) hb); have n2_ := Aside0.mk (below_step (by repeat (first | (with_reducible first | exact HB.out | apply below_alloc | apply pw_below_drewN | apply below_drew1 | refine below_set ?_ GE101.out) | exact HB.out)) hb); have n3_ := Aside0.mk (hbox); have n4_ := Aside0.mk ((by rw [hg]; exact (below_size (by repeat (first | (with_reducible first | exact HB.out | apply below_alloc | apply pw_below_drewN | apply below_drew1 | refine below_set ?_ GE101.out) | exact HB.out))) : w.heap.size ≤ gb108)); have n5_ := Aside0.mk ((by rw [hg]; exact (below_size (by repeat (first | (with_reducible first | exact HB.out | apply below_alloc | apply pw_below_drewN | apply below_drew1 | refine below_set ?_ GE101.out) | exact HB.out))) : w.heap.size ≤ gb108)); have n6_ := Aside0.mk ((by rw [hg]; exact Nat.ne_of_lt (blk_lt (g := gb101) (o := .cells #[.int .u64 a0_0, .slice A0_1 l0_1.length c0_1, .int .u32 a0_2] 46 (0, 0)) (by (with_reducible repeat (first | refine blk_drewN ?_ _ | refine blk_drew ?_ | refine blk_alloc ?_ _)); exact BK101.out)) : gb101 ≠ gb108)); have n7_ := Aside0.mk ((by rw [hg]; exact Nat.ne_of_gt (blk_lt (g := gb101) (o := .cells #[.int .u64 a0_0, .slice A0_1 l0_1.length c0_1, .int .u32 a0_2] 46 (0, 0)) (by (with_reducible repeat (first | refine blk_drewN ?_ _ | refine blk_drew ?_ | refine blk_alloc ?_ _)); exact BK101.out)) : gb108 ≠ gb101)); clear HO105; clear BK101; clear HB; have HO105 := n0_; have BK101 := n1_; have HB := n2_; have BK108 := n3_; have GW108 := n4_; have GE108 := n5_; have NB101_108 := n6_; have NB108_101 := n7_; clear n0_ n1_ n2_ n3_ n4_ n5_ n6_ n7_; clear hb hbox hg; have hnb19 := NB108_101.out; have hnc19 := NB101_108.out; have hcz20_0 : w18.cell? ⟨gb108, 0, none⟩ = some (.int .u64 0) := (blk_cell BK108.out 0).trans rfl; have hcz20_1 : w18.cell? ⟨gb108, 1, none⟩ = some (.slice none 0 0) := (blk_cell BK108.out 1).trans rfl; have hcz20_2 : w18.cell? ⟨gb108, 2, none⟩ = some (.int .u32 0) := (blk_cell BK108.out 2).trans rfl; have hfz20_0 := blk_frozen BK108.out 0; have hfz20_1 := blk_frozen BK108.out 1; have hfz20_2 := blk_frozen BK108.out 2; obtain ⟨Ao21, co21, eo21⟩ := Kd.R_slice HO105.out; subst eo21))
    go_ret
    exact ⟨by first | rfl | (simp [errW_none, errW_some] <;> rfl) | (simp [*, errW_none, errW_some] <;> rfl), by repeat (first | (with_reducible first | exact HB.out | apply below_alloc | apply pw_below_drewN | apply below_drew1 | refine below_set ?_ GE101.out | refine below_set ?_ GE108.out) | exact HB.out)⟩

end Go.Proofs.Ythlhnodedofibaa.F
end

section
namespace Go.Proofs.Ythlhnodedofibaa.F
open Go.RowKit Go.Proofs.YthlhnodedofibaaW.PrintWords Go.Proofs.YthlhnodedofibaaW.PrintLast Go.Proofs.YthlhnodedofibaaW.PrintMore
attribute [local go_sem] max2_int min2_int max_two min_two max_three min_three max_four min_four   -- for this text's walks alone
set_option linter.unusedVariables false
set_option linter.unusedSimpArgs false

/-! ### word_Ceil: function 58 -/
def word_Ceil.f (a0 : Int) (a1 : Int) : Option (Int) := if a0 < 0 then (some 0) else (if a0 > 9007199254740992 then (some 0) else (if a1 < 1 then (some 0) else (if a1 > 9007199254740992 then (some 0) else (if a1 = 0 then (none) else (some (wrap64 (Int.tdiv (wrap64 ((wrap64 (a0 + a1)) - 1)) a1)))))))
set_option maxHeartbeats 8000000 in
set_option maxRecDepth 100000 in
theorem word_Ceil.calls (a0 : Int) (a1 : Int) (r : Int) (w : World) (h : word_Ceil.f a0 a1 = some r) :
    Calls Try.prog 58 #[.int .i64 a0, .int .i64 a1] w fun e w' => e = .returned (.int .i64 r) ∧ Drawn0 w w' := by
  have H : (if a0 < 0 then (some 0) else (if a0 > 9007199254740992 then (some 0) else (if a1 < 1 then (some 0) else (if a1 > 9007199254740992 then (some 0) else (if a1 = 0 then (none) else (some (wrap64 (Int.tdiv (wrap64 ((wrap64 (a0 + a1)) - 1)) a1)))))))) = some r := h
  clear h
  by_cases c3 : a0 < 0
  · rw [if_pos c3] at H
    have c3b0 : decide (a0 < 0) = true := decide_eq_true c3
    clear c3
    obtain rfl := Option.some.inj H
    go_enter Try.func58, Try.ntmps58
    go_wp2
    go_ret
    exact ⟨by first | rfl | (simp; done) | (simp [*]; done), by repeat (first | exact Drawn0.refl _ | apply Drawn0.step)⟩
  · rw [if_neg c3] at H
    have c3b0 : decide (a0 < 0) = false := decide_eq_false c3
    clear c3
    by_cases c4 : a0 > 9007199254740992
    · rw [if_pos c4] at H
      have c4b0 : decide (9007199254740992 < a0) = true := decide_eq_true c4
      clear c4
      obtain rfl := Option.some.inj H
      go_enter Try.func58, Try.ntmps58
      go_wp2
      go_ret
      exact ⟨by first | rfl | (simp; done) | (simp [*]; done), by repeat (first | exact Drawn0.refl _ | apply Drawn0.step)⟩
    · rw [if_neg c4] at H
      have c4b0 : decide (9007199254740992 < a0) = false := decide_eq_false c4
      clear c4
      by_cases c5 : a1 < 1
      · rw [if_pos c5] at H
        have c5b0 : decide (a1 < 1) = true := decide_eq_true c5
        clear c5
        obtain rfl := Option.some.inj H
        go_enter Try.func58, Try.ntmps58
        go_wp2
        go_ret
        exact ⟨by first | rfl | (simp; done) | (simp [*]; done), by repeat (first | exact Drawn0.refl _ | apply Drawn0.step)⟩
      · rw [if_neg c5] at H
        have c5b0 : decide (a1 < 1) = false := decide_eq_false c5
        clear c5
        by_cases c6 : a1 > 9007199254740992
        · rw [if_pos c6] at H
          have c6b0 : decide (9007199254740992 < a1) = true := decide_eq_true c6
          clear c6
          obtain rfl := Option.some.inj H
          go_enter Try.func58, Try.ntmps58
          go_wp2
          go_ret
          exact ⟨by first | rfl | (simp; done) | (simp [*]; done), by repeat (first | exact Drawn0.refl _ | apply Drawn0.step)⟩
        · rw [if_neg c6] at H
          have c6b0 : decide (9007199254740992 < a1) = false := decide_eq_false c6
          clear c6
          by_cases c7 : a1 = 0
          · rw [if_pos c7] at H
            exact absurd H (by simp)
          · rw [if_neg c7] at H
            have c7b0 : (a1 == 0) = false := beq_eq_false_iff_ne.mpr c7
            have c7b1 : (a1 != 0) = true := bne_iff_ne.mpr c7
            obtain rfl := Option.some.inj H
            go_enter Try.func58, Try.ntmps58
            go_wp2
            go_ret
            exact ⟨by first | rfl | (simp; done) | (simp [*]; done), by repeat (first | exact Drawn0.refl _ | apply Drawn0.step)⟩

end Go.Proofs.Ythlhnodedofibaa.F
end

section
namespace Go.Proofs.Ythlhnodedofibaa.F
open Go.RowKit Go.Proofs.YthlhnodedofibaaW.PrintWords Go.Proofs.YthlhnodedofibaaW.PrintLast Go.Proofs.YthlhnodedofibaaW.PrintMore
attribute [local go_sem] max2_int min2_int max_two min_two max_three min_three max_four min_four   -- for this text's walks alone
set_option linter.unusedVariables false
set_option linter.unusedSimpArgs false

/-! ### mani_Right: function 30 -/
def mani_Right.f (a0_0 : Int) (l0_1 : List Int) (a0_2 : Int) : Option (Bool) := (arena_Fits_c.f l0_1).bind fun t102 => (some t102)
set_option maxHeartbeats 8000000 in
set_option maxRecDepth 100000 in
theorem mani_Right.calls (a0_0 : Int) (A0_1 : Option Addr) (c0_1 : Nat) (l0_1 : List Int) (a0_2 : Int) (r : Bool) (w : World) (hr0_1 : Kd.C (Kd.int .i64) w A0_1 l0_1.length l0_1) (hc0_1 : l0_1.length ≤ c0_1) (h : mani_Right.f a0_0 l0_1 a0_2 = some r) :
    Calls Try.prog 30 #[.agg #[.int .u64 a0_0, .slice A0_1 l0_1.length c0_1, .int .u32 a0_2]] w fun e w' => e = .returned (.bool r) ∧ Below w.heap.size w w' := by
  have hu46 := Try.underlying46
  have HR0_1 := Aside0.mk hr0_1
  have HC0_1 := Aside0.mk hc0_1
  clear hr0_1 hc0_1
  have HB := Aside0.mk (Below.refl w.heap.size w)
  have H : ((arena_Fits_c.f l0_1).bind fun t102 => (some t102)) = some r := h
  clear h
  replace H := Option.bind_eq_some_iff.mp H
  obtain ⟨t102, A20, H⟩ := H
  replace H : (some t102) = some r := H
  have A2 := Aside0.mk A20
  clear A20
  obtain rfl := Option.some.inj H
  go_enter Try.func30, Try.ntmps30
  go_wp2_with (first | ((with_reducible refine gate_dst (N := 1) rfl ?_); refine box_event ?hg (N := 1) ?hd (cs := #[.int .u64 a0_0, .slice A0_1 l0_1.length c0_1, .int .u32 a0_2]) (t := 46) ?hr ?_; (case hd => rfl); (case hg => rfl); (case hr => first | (go_simp; done) | (go_simp; rfl)); intro gb101 hg w3 hbox hb; have n0_ := Aside0.mk (below_step (by repeat (first | (with_reducible first | exact HB.out | apply below_alloc | apply pw_below_drewN | apply below_drew1) | exact HB.out)) hb); have n1_ := Aside0.mk (hbox); have n2_ := Aside0.mk ((by rw [hg]; exact (below_size (by repeat (first | (with_reducible first | exact HB.out | apply below_alloc | apply pw_below_drewN | apply below_drew1) | exact HB.out))) : w.heap.size ≤ gb101)); have n3_ := Aside0.mk ((by rw [hg]; exact (below_size (by repeat (first | (with_reducible first | exact HB.out | apply below_alloc | apply pw_below_drewN | apply below_drew1) | exact HB.out))) : w.heap.size ≤ gb101)); clear HB; have HB := n0_; have BK101 := n1_; have GW101 := n2_; have GE101 := n3_; clear n0_ n1_ n2_ n3_; clear hb hbox hg; have hcz4_0 : w3.cell? ⟨gb101, 0, none⟩ = some (.int .u64 a0_0) := (blk_cell BK101.out 0).trans rfl; have hcz4_1 : w3.cell? ⟨gb101, 1, none⟩ = some (.slice A0_1 l0_1.length c0_1) := (blk_cell BK101.out 1).trans rfl; have hcz4_2 : w3.cell? ⟨gb101, 2, none⟩ = some (.int .u32 a0_2) := (blk_cell BK101.out 2).trans rfl; have hfz4_0 := blk_frozen BK101.out 0; have hfz4_1 := blk_frozen BK101.out 1; have hfz4_2 := blk_frozen BK101.out 2) | ((with_reducible refine gate_callee (f := 20) rfl ?_); refine goesL_ (some 5) rfl rfl Try.func20 (by kernel_rfl) rfl #[.slice A0_1 l0_1.length c0_1] rfl (by (try simp only [List.map_toArray, List.map_cons, List.map_nil]); first | done | rfl | (simp only [List.length_drop, List.length_take]; rfl)) ?_; (with_reducible refine (arena_Fits_c.calls _ _ l0_1 t102 _ ?side1 ?side2 A2.out).mono ?_); (case side1 => repeat (first | exact (Kd.C_below HR0_1.out HB.out) | (with_reducible refine Kd.C_alloc ?_ _) | (with_reducible refine Kd.C_drewN ?_ _) | (with_reducible refine Kd.C_drew ?_))); (case side2 => exact HC0_1.out); rintro e w5 ⟨rfl, hb⟩; refine ⟨_, rfl, ?_⟩; have n0_ := Aside0.mk (blk_below (g := gb101) (o := .cells #[.int .u64 a0_0, .slice A0_1 l0_1.length c0_1, .int .u32 a0_2] 46 (0, 0)) (by (with_reducible repeat (first | refine blk_drewN ?_ _ | refine blk_drew ?_ | refine blk_alloc ?_ _)); exact BK101.out) hb); have n1_ := Aside0.mk (below_step (by repeat (first | (with_reducible first | exact HB.out | apply below_alloc | apply pw_below_drewN | apply below_drew1 | refine below_set ?_ GE101.out) | exact HB.out)) hb); clear BK101; clear HB; have BK101 := n0_; have HB := n1_; clear n0_ n1_; (try clear hb); (try clear hb2); (try clear hk); (try clear hi)))
  go_ret
  exact ⟨by first | rfl | (simp [errW_none, errW_some] <;> rfl) | (simp [*, errW_none, errW_some] <;> rfl), by repeat (first | (with_reducible first | exact HB.out | apply below_alloc | apply pw_below_drewN | apply below_drew1 | refine below_set ?_ GE101.out) | exact HB.out)⟩

end Go.Proofs.Ythlhnodedofibaa.F
end
