/- Proved: at every input in bounds the statement ArenaCuts of the arena layer answers yes, an arena is cut from bytes as the document cuts it, and refused as the document refuses it.
Text 1 of 4; functions told as plain ones, with the contracts of their calls. -/
import Derived.Test.YthlhnodedofibaaProg
import Derived.Below
import Derived.Deep.Draws
import Derived.Deep.AppendLies
import Derived.Maps.AppendAt
import Derived.OwnWalk
import Derived.Laws.BytesArg
import Derived.Laws.MakeOwn
import Derived.Laws.OwnMore
import Derived.Deep.OwnRows
import Derived.Tactics
import Derived.Lib.ConvBytes
import Derived.Laws.Slices
import Derived.WalkKit
import Derived.KernelRfl
import Derived.RowKit3
import Derived.Deep.LoopGhost
import Derived.Deep.QuietTactic
import Derived.BigQuiet
import Derived.WideLaws
import Derived.Deep.DeepCutAuto
import Derived.Deep.CutBlock
import Derived.Deep.RegionHeld3
import Derived.Laws.Rows
import Derived.Lib.AppendStr
import Derived.ArgAppend
import Derived.Laws.IdiomCopy
import Derived.OrdersHeld
import Derived.Laws.BitsLemmas
import Derived.RowKit
import Derived.Test.YthlhnodedofibaaWWords
import Derived.Test.YthlhnodedofibaaWLast
import Derived.Test.YthlhnodedofibaaWTab
import Derived.Test.YthlhnodedofibaaWFour
import Derived.Test.YthlhnodedofibaaWQPut
import Derived.Test.YthlhnodedofibaaWApart
import Derived.Test.YthlhnodedofibaaWArr
import Derived.Test.YthlhnodedofibaaWZeros
import Derived.Test.YthlhnodedofibaaWFoot
import Derived.Test.YthlhnodedofibaaWKept
import Derived.Test.YthlhnodedofibaaWShare
import Derived.Test.YthlhnodedofibaaWN
import Derived.Test.YthlhnodedofibaaWFootNe
import Derived.Test.YthlhnodedofibaaWAt
import Derived.Test.YthlhnodedofibaaWEqStruct
import Derived.Test.YthlhnodedofibaaWRepsOne
import Derived.Test.YthlhnodedofibaaWInv
import Derived.Test.YthlhnodedofibaaWInvWords
import Derived.Test.YthlhnodedofibaaWGuard
import Derived.Test.YthlhnodedofibaaWNEv
import Derived.Test.YthlhnodedofibaaWMore
import Derived.RangeFuncNested
import Derived.RangeFuncBound
import Derived.RangeFuncCalls
import Derived.RangeFuncLeaves
import Derived.Shelf.Abstract
import Derived.Shelf.RegionOpen
import Derived.OwnWalkIn
import Derived.TacticsInMore
import Derived.LoopNIn
import Derived.LoopIn
section
namespace Go.Proofs.Ythlhnodedofibaa.F
open Go.RowKit Go.Proofs.YthlhnodedofibaaW.PrintWords Go.Proofs.YthlhnodedofibaaW.PrintLast Go.Proofs.YthlhnodedofibaaW.PrintMore
attribute [local go_sem] max2_int min2_int max_two min_two max_three min_three max_four min_four   -- for this text's walks alone
set_option linter.unusedVariables false
set_option linter.unusedSimpArgs false



def errW : Option Int → Value
  | none => .nilIface
  | some c => .iface 0 (.int .i64 c)
theorem errW_none : errW none = .nilIface := rfl
theorem errW_some (c : Int) : errW (some c) = .iface 0 (.int .i64 c) := rfl

theorem info3 : (Try.prog.info? 3).map (fun i => (i.zero, i.size, i.bytes)) = some (some (.int .i64 0), 1, 8) := by kernel_rfl
theorem info5 : (Try.prog.info? 5).map (fun i => (i.zero, i.size, i.bytes)) = some (some (.int .u8 0), 1, 1) := by kernel_rfl
theorem info37 : (Try.prog.info? 37).map (fun i => (i.zero, i.size, i.bytes)) = some (some (.slice none 0 0), 1, 24) := by kernel_rfl
theorem info42 : (Try.prog.info? 42).map (fun i => (i.zero, i.size, i.bytes)) = some (some (.int .u64 0), 1, 8) := by kernel_rfl
-- the values' own types
def rd_L1 (xs : List (List Int)) (i : Int) : (List Int) := xs.getD i.toNat ([] : List Int)
theorem at_L1 {w : World} {A : Option Addr} {n : Nat} {xs : List (List Int)} (h : Kd.C (Kd.slice 42 (Kd.int .u64)) w A n xs) (i : Int) (h0 : 0 ≤ i) (h1 : i < n) : ∃ ad A0 c0, A = some ad ∧ w.cell? (ad.add i.toNat) = some (.slice A0 (rd_L1 xs i).length c0) ∧ (rd_L1 xs i).length ≤ c0 ∧ (Kd.int .u64).C w A0 (rd_L1 xs i).length (rd_L1 xs i) := by
  obtain ⟨ad, c, e, _, hK, hc0⟩ := Kd.C_get h ([] : List Int) i h0 h1
  have hc : ∀ j u, c[j]? = some u → w.cell? (ad.add (i.toNat * 1 + j)) = some u := hc0
  obtain ⟨A0, c0, rfl, l0, g0⟩ := hK
  exact ⟨ad, A0, c0, e, by have hq := hc 0 _ rfl; rwa [Nat.mul_one, Nat.add_zero] at hq, l0, g0⟩

def rd_L2 (xs : List (List (List Int))) (i : Int) : (List (List Int)) := xs.getD i.toNat ([] : List (List Int))
theorem at_L2 {w : World} {A : Option Addr} {n : Nat} {xs : List (List (List Int))} (h : Kd.C (Kd.slice 37 (Kd.slice 42 (Kd.int .u64))) w A n xs) (i : Int) (h0 : 0 ≤ i) (h1 : i < n) : ∃ ad A0 c0, A = some ad ∧ w.cell? (ad.add i.toNat) = some (.slice A0 (rd_L2 xs i).length c0) ∧ (rd_L2 xs i).length ≤ c0 ∧ (Kd.slice 42 (Kd.int .u64)).C w A0 (rd_L2 xs i).length (rd_L2 xs i) := by
  obtain ⟨ad, c, e, _, hK, hc0⟩ := Kd.C_get h ([] : List (List Int)) i h0 h1
  have hc : ∀ j u, c[j]? = some u → w.cell? (ad.add (i.toNat * 1 + j)) = some u := hc0
  obtain ⟨A0, c0, rfl, l0, g0⟩ := hK
  exact ⟨ad, A0, c0, e, by have hq := hc 0 _ rfl; rwa [Nat.mul_one, Nat.add_zero] at hq, l0, g0⟩

def rd_L4 (xs : List (List Int)) (i : Int) : (List Int) := xs.getD i.toNat ([] : List Int)
theorem at_L4 {w : World} {A : Option Addr} {n : Nat} {xs : List (List Int)} (h : Kd.C (Kd.slice 5 (Kd.int .u8)) w A n xs) (i : Int) (h0 : 0 ≤ i) (h1 : i < n) : ∃ ad A0 c0, A = some ad ∧ w.cell? (ad.add i.toNat) = some (.slice A0 (rd_L4 xs i).length c0) ∧ (rd_L4 xs i).length ≤ c0 ∧ (Kd.int .u8).C w A0 (rd_L4 xs i).length (rd_L4 xs i) := by
  obtain ⟨ad, c, e, _, hK, hc0⟩ := Kd.C_get h ([] : List Int) i h0 h1
  have hc : ∀ j u, c[j]? = some u → w.cell? (ad.add (i.toNat * 1 + j)) = some u := hc0
  obtain ⟨A0, c0, rfl, l0, g0⟩ := hK
  exact ⟨ad, A0, c0, e, by have hq := hc 0 _ rfl; rwa [Nat.mul_one, Nat.add_zero] at hq, l0, g0⟩

def rd_L6 (xs : List (List Int)) (i : Int) : (List Int) := xs.getD i.toNat ([] : List Int)
theorem at_L6 {w : World} {A : Option Addr} {n : Nat} {xs : List (List Int)} (h : Kd.C (Kd.slice 3 (Kd.int .i64)) w A n xs) (i : Int) (h0 : 0 ≤ i) (h1 : i < n) : ∃ ad A0 c0, A = some ad ∧ w.cell? (ad.add i.toNat) = some (.slice A0 (rd_L6 xs i).length c0) ∧ (rd_L6 xs i).length ≤ c0 ∧ (Kd.int .i64).C w A0 (rd_L6 xs i).length (rd_L6 xs i) := by
  obtain ⟨ad, c, e, _, hK, hc0⟩ := Kd.C_get h ([] : List Int) i h0 h1
  have hc : ∀ j u, c[j]? = some u → w.cell? (ad.add (i.toNat * 1 + j)) = some u := hc0
  obtain ⟨A0, c0, rfl, l0, g0⟩ := hK
  exact ⟨ad, A0, c0, e, by have hq := hc 0 _ rfl; rwa [Nat.mul_one, Nat.add_zero] at hq, l0, g0⟩

end Go.Proofs.Ythlhnodedofibaa.F
end

section
/- Plain functions on lists and numbers: what the functions of the program compute. No program in sight. -/
namespace Go.Proofs.Ythlhnodedofibaa.H
theorem getD_toNat {α : Type} (l : List α) (d : α) (i : Nat) (h : i < l.length) : l.getD ((i : Int)).toNat d = l[i]'h := by
  simp [List.getD_eq_getElem?_getD, List.getElem?_eq_getElem h]
theorem drop_at {α : Type} (l : List α) (i : Nat) (h : i < l.length) : l.drop i = l[i]'h :: l.drop (i + 1) := List.drop_eq_getElem_cons h
theorem take_at {α : Type} (l : List α) (i : Nat) (h : i < l.length) : l.take (i + 1) = l.take i ++ [l[i]'h] := by
  rw [List.take_succ_eq_append_getElem h]

theorem decide_cons_eq {x y : Int} {xs ys : List Int} (h : x = y) : decide (x :: xs = y :: ys) = decide (xs = ys) := by subst h; simp
theorem decide_cons_ne {x y : Int} {xs ys : List Int} (h : ¬ x = y) : decide (x :: xs = y :: ys) = false := by simp [h]

/-! ### Layer 01 -/
/-- The m lowest bytes of n, the least first. -/
def putL (n : Int) (m : Nat) : List Int := (List.range m).map fun j => n / 2 ^ (8 * j) % 256
theorem putL_length (n : Int) (m : Nat) : (putL n m).length = m := by simp [putL]
theorem putL_zero (n : Int) : putL n 0 = [] := rfl
theorem pow8 (j : Nat) : (2 : Int) ^ (8 * (j + 1)) = 256 * 2 ^ (8 * j) := by
  rw [show 8 * (j + 1) = 8 * j + 8 from by omega, Int.pow_add]; omega
theorem putL_succ (n : Int) (m : Nat) : putL n (m + 1) = n % 256 :: putL (n / 256) m := by
  unfold putL
  rw [List.range_succ_eq_map, List.map_cons, List.map_map]
  congr 1
  · simp
  · apply List.map_congr_left
    intro j _
    simp only [Function.comp, Nat.succ_eq_add_one]
    rw [pow8, Int.ediv_ediv_of_nonneg (by omega)]
theorem putL_byte (n : Int) (m : Nat) : ∀ c ∈ putL n m, 0 ≤ c ∧ c ≤ 255 := by
  intro c hc
  simp only [putL, List.mem_map] at hc
  obtain ⟨j, _, rfl⟩ := hc
  omega
/-- How many bytes word.Put gives. -/
def putN (a1 : Int) : Nat := (max 0 (min a1 8)).toNat
theorem putN_le (a1 : Int) : putN a1 ≤ 8 := by unfold putN; omega
/-- A number out of its bytes, the least first. -/
def getL : List Int → Int
  | [] => 0
  | c :: cs => c + 256 * getL cs
def bytesB (l : List Int) : Bool := l.all fun c => decide (0 ≤ c) && decide (c ≤ 255)
theorem bytesB_at {l : List Int} (h : bytesB l = true) : ∀ c ∈ l, 0 ≤ c ∧ c ≤ 255 := by
  intro c hc
  have := List.all_eq_true.1 h c hc
  simpa using this
theorem bytesB_of {l : List Int} (h : ∀ c ∈ l, 0 ≤ c ∧ c ≤ 255) : bytesB l = true := by
  refine List.all_eq_true.2 fun c hc => ?_
  have := h c hc
  simpa using this
theorem bytesB_append {a b : List Int} : bytesB (a ++ b) = (bytesB a && bytesB b) := by simp [bytesB]
theorem bytesB_take {l : List Int} (h : bytesB l = true) (n : Nat) : bytesB (l.take n) = true := bytesB_of fun c hc => bytesB_at h c (List.mem_of_mem_take hc)
theorem bytesB_drop {l : List Int} (h : bytesB l = true) (n : Nat) : bytesB (l.drop n) = true := bytesB_of fun c hc => bytesB_at h c (List.mem_of_mem_drop hc)
theorem getL_bound : ∀ (n : Nat) (l : List Int), l.length ≤ n → (∀ c ∈ l, 0 ≤ c ∧ c ≤ 255) → 0 ≤ getL l ∧ getL l < 256 ^ n
  | n, [], _, _ => ⟨by simp [getL], by simpa [getL] using Int.pow_pos (by omega : (0 : Int) < 256)⟩
  | 0, c :: cs, hl, _ => by simp at hl
  | n + 1, c :: cs, hl, h => by
    have h1 := h c (by simp)
    have h2 := getL_bound n cs (by simpa using hl) (fun x hx => h x (by simp [hx]))
    simp only [getL, Int.pow_succ]
    omega
/-- What was put comes back. -/
theorem getL_putL : ∀ (m : Nat) (n : Int), 0 ≤ n → n < 256 ^ m → getL (putL n m) = n
  | 0, n, h0, h1 => by simp [putL, getL] at *; omega
  | m + 1, n, h0, h1 => by
    rw [putL_succ, getL, getL_putL m (n / 256) (by omega) (by rw [Int.pow_succ] at h1; omega)]
    omega
theorem putL_getL : ∀ (m : Nat) (l : List Int), l.length = m → (∀ c ∈ l, 0 ≤ c ∧ c ≤ 255) → putL (getL l) m = l
  | 0, [], _, _ => rfl
  | m + 1, c :: cs, hl, h => by
    have h1 := h c (by simp)
    have hl' : cs.length = m := by simpa using hl
    have hc : ∀ x ∈ cs, 0 ≤ x ∧ x ≤ 255 := fun x hx => h x (by simp [hx])
    have h2 := getL_bound m cs (by omega) hc
    rw [putL_succ, getL, show (c + 256 * getL cs) / 256 = getL cs from by omega, putL_getL m cs hl' hc]
    congr 1
    omega

/-! ### Layer 07 -/
/-- How many words each segment has. -/
def sizesL (a : List (List Int)) : List Int := a.map fun s => (s.length : Int)
theorem sizesL_cons (s : List Int) (a : List (List Int)) : sizesL (s :: a) = (s.length : Int) :: sizesL a := rfl
theorem sizesL_length (a : List (List Int)) : (sizesL a).length = a.length := by simp [sizesL]
/-- How many all have. -/
def wordsL (a : List (List Int)) : Nat := a.flatten.length
theorem wordsL_cons (s : List Int) (a : List (List Int)) : wordsL (s :: a) = s.length + wordsL a := by simp [wordsL]
/-- From n on, so many more fit. -/
def restB (n : Int) (l : List Int) : Bool := l.all (fun x => decide (0 ≤ x)) && decide (n + l.sum ≤ 4096)
theorem sum_nonneg {l : List Int} (h : l.all (fun x => decide (0 ≤ x)) = true) : 0 ≤ l.sum := by
  induction l with
  | nil => simp
  | cons x xs ih =>
    simp only [List.all_cons, Bool.and_eq_true, decide_eq_true_eq] at h
    have := ih h.2
    simp only [List.sum_cons]
    omega
theorem restB_cons (n x : Int) (xs : List Int) : restB n (x :: xs) = if x < 0 then false else if x > 4096 - n then false else restB (n + x) xs := by
  unfold restB
  split
  · rename_i h
    have : decide (0 ≤ x) = false := by simp; omega
    simp [this]
  · split
    · rename_i h1 h2
      by_cases hx : xs.all (fun x => decide (0 ≤ x)) = true
      · have := sum_nonneg hx
        have e : decide (n + (x :: xs).sum ≤ 4096) = false := decide_eq_false (by rw [List.sum_cons]; omega)
        simp only [e, Bool.and_false]
      · simp only [List.all_cons]
        rw [Bool.not_eq_true] at hx
        rw [hx]; simp
    · rename_i h1 h2
      have : decide (0 ≤ x) = true := by simp; omega
      simp only [List.all_cons, this, Bool.true_and, List.sum_cons]
      congr 2
      simp only [eq_iff_iff]
      omega
/-- May so many segments have so many words each? -/
def fitsB (l : List Int) : Bool := decide (1 ≤ l.length) && decide (l.length ≤ 16) && decide (1 ≤ l.getD 0 0) && restB 0 l
def rightB (a : List (List Int)) : Bool := fitsB (sizesL a)
/-- All words' bytes. -/
def bytesL (a : List (List Int)) : List Int := a.flatten.flatMap fun w => putL w 8
theorem bytesL_cons (s : List Int) (a : List (List Int)) : bytesL (s :: a) = (s.flatMap fun w => putL w 8) ++ bytesL a := by simp [bytesL]
theorem flat8_length (s : List Int) : (s.flatMap fun w => putL w 8).length = 8 * s.length := by
  induction s with
  | nil => rfl
  | cons x xs ih => rw [List.flatMap_cons, List.length_append, ih, putL_length, List.length_cons]; omega
theorem bytesL_length (a : List (List Int)) : (bytesL a).length = 8 * wordsL a := flat8_length _
theorem bytesL_byte (a : List (List Int)) : ∀ c ∈ bytesL a, 0 ≤ c ∧ c ≤ 255 := by
  intro c hc
  simp only [bytesL, List.mem_flatMap] at hc
  obtain ⟨w, _, hw⟩ := hc
  exact putL_byte _ _ c hw
/-- Words of 64 bits, and not too many of them. -/
def u64B (x : Int) : Bool := decide (0 ≤ x) && decide (x < 18446744073709551616)
def okA (a : List (List Int)) : Bool := decide (a.length ≤ 1000000) && decide (wordsL a ≤ 1000000) && a.all fun s => s.all u64B
/-- m words out of bytes. -/
def segL : Nat → List Int → List Int
  | 0, _ => []
  | m + 1, b => getL (b.take 8) :: segL m (b.drop 8)
theorem segL_length : ∀ (m : Nat) (b : List Int), (segL m b).length = m
  | 0, _ => rfl
  | m + 1, b => by simp [segL, segL_length m]
theorem segL_snoc : ∀ (m : Nat) (b : List Int), segL (m + 1) b = segL m b ++ [getL ((b.drop (8 * m)).take 8)]
  | 0, b => by simp [segL]
  | m + 1, b => by
    rw [segL, segL_snoc m, segL, List.cons_append, List.drop_drop, show 8 + 8 * m = 8 * (m + 1) from by omega]
def cutWords : List Int → List Int → List (List Int)
  | [], _ => []
  | s :: ss, b => segL s.toNat b :: cutWords ss (b.drop (8 * s.toNat))
def cutL (sizes b : List Int) : List (List Int) × Int :=
  if fitsB sizes = true then if (b.length : Int) = 8 * sizes.sum then (cutWords sizes b, 0) else ([], 10) else ([], 1)
def withinB (sizes : List Int) (seg at_ n : Int) : Bool :=
  decide (0 ≤ seg) && decide (seg < sizes.length) && decide (0 ≤ at_) && decide (0 ≤ n) && decide (at_ + n ≤ sizes.getD seg.toNat 0)
def placeL (sizes : List Int) (seg at_ : Int) : Int :=
  if fitsB sizes = true ∧ withinB sizes seg at_ 1 = true then at_ + (sizes.take seg.toNat).sum else -1
theorem fitsB_at {l : List Int} (h : fitsB l = true) : 1 ≤ l.length ∧ l.length ≤ 16 ∧ 1 ≤ l.getD 0 0 ∧ (∀ x ∈ l, 0 ≤ x) ∧ l.sum ≤ 4096 := by
  simp only [fitsB, restB, Bool.and_eq_true, decide_eq_true_eq] at h
  obtain ⟨⟨⟨h1, h2⟩, h3⟩, h4, h5⟩ := h
  exact ⟨h1, h2, h3, fun x hx => by simpa using List.all_eq_true.1 h4 x hx, by omega⟩
theorem sum_nonneg' {l : List Int} (h : ∀ x ∈ l, 0 ≤ x) : 0 ≤ l.sum := sum_nonneg (List.all_eq_true.2 fun x hx => by simpa using h x hx)
theorem sum_drop_le {l : List Int} (h : ∀ x ∈ l, 0 ≤ x) (i : Nat) : (l.drop i).sum ≤ l.sum := by
  have := List.take_append_drop i l
  have h2 : l.sum = (l.take i).sum + (l.drop i).sum := by rw [← List.sum_append, this]
  have := sum_nonneg' (l := l.take i) (fun x hx => h x (List.mem_of_mem_take hx))
  omega
theorem sum_take_le {l : List Int} (h : ∀ x ∈ l, 0 ≤ x) (i : Nat) : (l.take i).sum ≤ l.sum := by
  have := List.take_append_drop i l
  have h2 : l.sum = (l.take i).sum + (l.drop i).sum := by rw [← List.sum_append, this]
  have := sum_nonneg' (l := l.drop i) (fun x hx => h x (List.mem_of_mem_drop hx))
  omega
theorem mem_le_sum {l : List Int} (h : ∀ x ∈ l, 0 ≤ x) (i : Nat) (hi : i < l.length) : l[i] ≤ l.sum := by
  have h1 := sum_drop_le h i
  rw [drop_at l i hi, List.sum_cons] at h1
  have := sum_nonneg' (l := l.drop (i + 1)) (fun x hx => h x (List.mem_of_mem_drop hx))
  omega
theorem sum_take_succ (l : List Int) (i : Nat) (hi : i < l.length) : (l.take (i + 1)).sum = (l.take i).sum + l[i] := by rw [take_at l i hi, List.sum_append]; simp

/-- Rows that are not too long. -/
def smallA (a : List (List Int)) : Bool := decide (a.length ≤ 1000000) && a.all fun s => decide (s.length ≤ 1000000)
theorem smallA_at {a : List (List Int)} (h : smallA a = true) : a.length ≤ 1000000 ∧ ∀ s ∈ a, s.length ≤ 1000000 := by
  simp only [smallA, Bool.and_eq_true, decide_eq_true_eq] at h
  exact ⟨h.1, fun s hs => by simpa using List.all_eq_true.1 h.2 s hs⟩
theorem dec2_eq {x y : List Int} {xs ys : List (List Int)} (h : x = y) : decide (x :: xs = y :: ys) = decide (xs = ys) := by subst h; simp
theorem dec2_ne {x y : List Int} {xs ys : List (List Int)} (h : ¬ x = y) : decide (x :: xs = y :: ys) = false := by simp [h]

theorem cutWords_snoc : ∀ (s b : List Int) (i : Nat), (∀ x ∈ s, 0 ≤ x) → (h : i < s.length) → cutWords (s.take (i + 1)) b = cutWords (s.take i) b ++ [segL (s[i]'h).toNat (b.drop (8 * ((s.take i).sum).toNat))]
  | [], _, _, _, h => by simp at h
  | x :: s, b, 0, _, _ => by simp [cutWords]
  | x :: s, b, i + 1, hn, h => by
    have h0 := hn x (by simp)
    have h1 := sum_nonneg' (l := s.take i) (fun y hy => hn y (by simp [List.mem_of_mem_take hy]))
    have e := cutWords_snoc s (b.drop (8 * x.toNat)) i (fun y hy => hn y (by simp [hy])) (by simpa using h)
    rw [List.take_succ_cons, cutWords, e, List.take_succ_cons, cutWords, List.cons_append, List.drop_drop, List.sum_cons, List.getElem_cons_succ]
    rw [show 8 * x.toNat + 8 * ((s.take i).sum).toNat = 8 * (x + (s.take i).sum).toNat from by omega]

/-! ### The statements' own arenas -/
def wordC (c : List Int) (k : Nat) : Int := c.getD (k % c.length) 0 * 4311810305 + k
def sizeC (c : List Int) (i : Nat) : Nat := (if i < c.length then (c.getD i 0 % 12).toNat else 1) + (if i = 0 then 1 else 0)
def segC (c : List Int) (k m : Nat) : List Int := (List.range m).map fun j => wordC c (k + j)
theorem segC_length (c : List Int) (k m : Nat) : (segC c k m).length = m := by simp [segC]
theorem segC_succ (c : List Int) (k m : Nat) : segC c k (m + 1) = segC c k m ++ [wordC c (k + m)] := by simp [segC, List.range_succ]
def arenaC (c : List Int) : Nat → Nat → Nat → List (List Int)
  | 0, _, _ => []
  | m + 1, i, k => segC c k (sizeC c i) :: arenaC c m (i + 1) (k + sizeC c i)
def arenaL (c : List Int) (n : Int) : List (List Int) := arenaC c (1 + (n % 5)).toNat 0 0
theorem sizeC_le (c : List Int) (i : Nat) : sizeC c i ≤ 12 := by unfold sizeC; split <;> split <;> omega
theorem sizeC_pos (c : List Int) : 1 ≤ sizeC c 0 := by unfold sizeC; rw [if_pos rfl]; omega
end Go.Proofs.Ythlhnodedofibaa.H
end

section
namespace Go.Proofs.Ythlhnodedofibaa.F
open Go.RowKit Go.Proofs.YthlhnodedofibaaW.PrintWords Go.Proofs.YthlhnodedofibaaW.PrintLast Go.Proofs.YthlhnodedofibaaW.PrintMore
attribute [local go_sem] max2_int min2_int max_two min_two max_three min_three max_four min_four   -- for this text's walks alone
set_option linter.unusedVariables false
set_option linter.unusedSimpArgs false

open Go.Proofs.Ythlhnodedofibaa.H
/-! ### word_Put: given -/
def word_Put.f (a0 : Int) (a1 : Int) : Option (List Int) := some (putL a0 (putN a1))
theorem putL_step (n : Int) (m k : Nat) (h : k < m) : ((putL n m).take k ++ List.replicate (m - k) 0).set k (n / 2 ^ (8 * k) % 256) = (putL n m).take (k + 1) ++ List.replicate (m - (k + 1)) 0 := by
  apply List.ext_getElem
  · simp [putL]; omega
  · intro i h1 h2
    by_cases e : i = k
    · subst e
      rw [List.getElem_set_self]
      rw [List.getElem_append_left (by simp [putL]; omega)]
      simp [putL]
    · rw [List.getElem_set_ne (by omega)]
      by_cases hlt : i < k
      · rw [List.getElem_append_left (by simp [putL]; omega), List.getElem_append_left (by simp [putL]; omega)]
        simp [putL]
      · rw [List.getElem_append_right (by simp [putL]; omega), List.getElem_append_right (by simp [putL]; omega)]
        simp
set_option maxHeartbeats 1000000 in
set_option maxRecDepth 100000 in
theorem word_Put.calls (a0 : Int) (a1 : Int) (r : List Int) (w : World) (h : word_Put.f a0 a1 = some r) :
    Calls Try.prog 51 #[.int .u64 a0, .int .i64 a1] w fun e w' => ∃ v0_ : Value, e = .returned (v0_) ∧ Kd.R (Kd.int .u8) 5 w' w.heap.size (fun _ => True) v0_ r ∧ Below w.heap.size w w' := by
  obtain rfl := Option.some.inj h
  clear h
  obtain ⟨m, hm⟩ : ∃ m : Nat, putN a1 = m := ⟨_, rfl⟩
  have hm8 : m ≤ 8 := hm ▸ putN_le a1
  have hmx : (max 0 (min a1 8)) = (m : Int) := by rw [← hm]; unfold putN; omega
  have hmn : ∃ q : Int, (if 8 < a1 then 8 else a1) = q ∧ (if 0 < q then q else 0) = (m : Int) := ⟨_, rfl, by split <;> split <;> omega⟩
  obtain ⟨q, hq, hqm⟩ := hmn
  rw [hm]
  clear hmx hm
  have hi := info5
  have hmk : ∀ W : World, (Instr.makeSlice 23 (.int .i64 (m : Int)) (.int .i64 (m : Int))).run Try.prog W = .ok (.slice (some ⟨W.heap.size, 0, none⟩) m m) (W.alloc (.cells (madeCells #[.int .u8 0] m) 5)) := print_make 23 5 .u8 1 Try.underlying23 info5 (by decide) m (by omega)
  have ho0 := own_made w w.heap.size 5 .u8 m (Nat.le_refl _) (by omega)
  go_enter Try.func51, Try.ntmps51
  go_wp2
  go_loopw [13] (fun v wr => ∃ k : Nat, k ≤ m ∧ v = .int .i64 k ∧ Aside0 (wr.ownsRow w.heap.size 5 1 (.slice (some ⟨w.heap.size, 0, none⟩) m m) m (nums .u8 ((putL a0 m).take k ++ List.replicate (m - k) 0))) ∧ Aside0 (Below w.heap.size w wr))
    (fun v _ => m - (intOf v).toNat)
  case atStart => exact ⟨0, Nat.zero_le _, rfl, ⟨by simpa using ho0⟩, ⟨(Below.refl _ _).alloc (Nat.le_refl _) _⟩⟩
  case round =>
    obtain ⟨k, hk, rfl, HO, HB⟩ := hrel
    by_cases hlt : k < m
    · obtain ⟨hx, hf⟩ := own_at HO.out (k : Int) (by omega) (by omega)
      have hst := own_store HO.out (k : Int) (a0 / 2 ^ (8 * k) % 256)
      rw [Int.toNat_natCast] at hx hf hst
      rw [putL_step _ _ _ hlt] at hst
      have HS := Aside0.mk hst
      clear hst
      go_wp2
      go_roundw
      case rel => exact ⟨k + 1, by omega, by go_num, ⟨HS.out.1⟩, ⟨HB.out.setCell (p := ⟨w.heap.size, k, none⟩) (Nat.le_refl _) _⟩⟩
      case measure => simp [intOf]; omega
    · obtain rfl : k = m := by omega
      go_wp2
      go_ret
      have ho := HO.out
      rw [List.take_of_length_le (by rw [putL_length]; exact Nat.le_refl _), Nat.sub_self] at ho
      exact ⟨_, rfl, Kd.R_of_own (enc := Value.int .u8) (by rw [putL_length]; simpa [nums, encs] using ho) (fun _ _ => trivial), HB.out⟩

end Go.Proofs.Ythlhnodedofibaa.F
end

section
/- What every hand-proved function of this seat that ranges over an iterator leans on: a relation on worlds ('Kset': below a bound all blocks but some named ones lie as they lay) and small lemmas. -/
namespace Go.Proofs.Ythlhnodedofibaa.H
open Go.RowKit Go.Shelf
open Go.Proofs.YthlhnodedofibaaW.PrintWords

/-- Below B all blocks but those of S lie as they lay; the streams are as they were; no block has gone. -/
structure Kset (B : Nat) (S : Nat → Prop) (w w' : World) : Prop where
  os : w'.os = w.os
  tape : w'.tape = w.tape
  output : w'.output = w.output
  size : w.heap.size ≤ w'.heap.size
  block : ∀ k, k < B → ¬ S k → w'.heap[k]? = w.heap[k]?

theorem Kset.refl (B : Nat) (S : Nat → Prop) (w : World) : Kset B S w w := ⟨rfl, rfl, rfl, Nat.le_refl _, fun _ _ _ => rfl⟩
theorem Kset.trans {B : Nat} {S : Nat → Prop} {a b c : World} (h : Kset B S a b) (k : Kset B S b c) : Kset B S a c :=
  ⟨k.os.trans h.os, k.tape.trans h.tape, k.output.trans h.output, Nat.le_trans h.size k.size, fun i hi hs => (k.block i hi hs).trans (h.block i hi hs)⟩
theorem Kset.of_below {B : Nat} {S : Nat → Prop} {a b : World} (h : Below B a b) : Kset B S a b := ⟨h.os, h.tape, h.output, h.size, fun k hk _ => h.block k hk⟩
theorem Kset.below {B C : Nat} {S : Nat → Prop} {a b : World} (h : Kset B S a b) (hC : C ≤ B) (hS : ∀ k, S k → C ≤ k) : Below C a b :=
  ⟨h.os, h.tape, h.output, h.size, fun k hk => h.block k (by omega) (fun hs => by have := hS k hs; omega)⟩
theorem Kset.cell {B : Nat} {S : Nat → Prop} {a b : World} (h : Kset B S a b) {p : Addr} (hp : p.block < B) (hs : ¬ S p.block) : b.cell? p = a.cell? p := World.cell?_of_block (w := a) (h.block p.block hp hs)
theorem Kset.setCell {B : Nat} {S : Nat → Prop} {a b : World} (h : Kset B S a b) {p : Addr} (hp : S p.block ∨ B ≤ p.block) (u : Value) : Kset B S a (b.setCell p u) :=
  h.trans ⟨rfl, rfl, rfl, by simp [World.setCell], fun k hk hs => Below.heap_setCell _ _ _ _ (fun e => by subst e; rcases hp with hp | hp; exact hs hp; omega)⟩
theorem Kset.alloc {B : Nat} {S : Nat → Prop} {a b : World} (h : Kset B S a b) (hB : B ≤ b.heap.size) (o : Obj) : Kset B S a (b.alloc o) :=
  h.trans ⟨rfl, rfl, rfl, by simp, fun k hk _ => Below.heap_alloc _ _ _ (by omega)⟩
theorem Kset.drew {B : Nat} {S : Nat → Prop} {a b : World} (h : Kset B S a b) : Kset B S a b.drew := ⟨h.os, h.tape, h.output, h.size, h.block⟩
theorem Kset.grown {B : Nat} {S : Nat → Prop} {a w w' : World} {row : Option Nat} (h : Kset B S a w) (hg : w.grownBy w' row) (hB : B ≤ w.heap.size) (hr : ∀ k, row = some k → S k ∨ B ≤ k) : Kset B S a w' :=
  h.trans ⟨hg.os, hg.tape, hg.output, hg.size, fun k hk hs => hg.block k (by omega) (fun e => by rcases hr k e.symm with h | h; exact hs h; omega)⟩
theorem ksetK_t {n₀ : Nat} {S : Nat → Prop} {A B C : World} (h : Kset n₀ S A B) (k : Kset n₀ S B C) : Kset n₀ S A C := h.trans k
theorem ksetK_b {n₀ : Nat} {S : Nat → Prop} {w : World} (hn : n₀ ≤ w.heap.size) (W : World) (l : Nat) (o o' : Obj) (hl : w.heap.size ≤ l) (h : W.heap[l]? = some o) (_ : o.isCells = false) (_ : o.isWalk = false) : Kset n₀ S W (W.putObj l o') :=
  (Kset.refl n₀ S W).grown (grownBy_putObj' W l o') (by have := (Array.getElem?_eq_some_iff.1 h).1; omega) (fun k e => by cases e; right; omega)
theorem ownFrom_kset {β : Type} {n₀ B : Nat} {S : Nat → Prop} {w : World} (h : n₀ ≤ B) (hw : n₀ ≤ w.heap.size) : OwnFrom B (fun (_ : β) W => Kset n₀ S w W) :=
  fun _ X Y row hs hg hr => hs.trans ⟨hg.os, hg.tape, hg.output, hg.size, fun k hk _ => hg.block k (by have := hs.size; omega) (fun e => by have := (hr k e.symm).1; omega)⟩

/-- What has been read of a row that lies below B and is none of S is still there. -/
theorem C_kset {α : Type} {d : Kd α} {B : Nat} {S : Nat → Prop} {w w' w1 : World} {A : Option Addr} {n : Nat} {xs : List α} (h : d.C w A n xs) (hb : Below w.heap.size w w1) (hk : Kset B S w1 w') (hB : w.heap.size ≤ B) (hS : ∀ k, S k → w.heap.size ≤ k) : d.C w' A n xs :=
  Kd.C_below h (hb.trans (hk.below hB hS))

/-! ### A region that draws its order, within a round: op by op -/
section
variable {P : Program} {ops : Array Oper} {Q : Exit → Act → World → Prop} {K : Act → World → Prop} {o : Oper} {a : Act} {w w1 : World} {n l : Nat}
/-- What an operation of a round comes to: one that gives a value. -/
theorem stepIn_value {v : Value} (hg : o.guard = none) (hd : ∀ c, o.op ≠ .defer c) (hrun : (execOp a.eval o).run P w = .ok (.value v) w1) (h : K (a.put o.dst v) w1) :
    if Region.wanted o (yielded ops a.tmps) = true then Oper.wpIn (Fence.wide.inRound l) n P o a w K Q else (∀ f, o.about P w a.eval = some f → (Fence.wide.inRound l).fn f) ∧ K (a.put o.dst undef) w := by
  have hw : Region.wanted o (yielded ops a.tmps) = true := by simp [Region.wanted, hg]
  rw [if_pos hw]
  refine ⟨fun _ _ => trivial, ?_⟩
  have e : o.semAt (Fence.wide.inRound l).round a.eval = execOp a.eval o := Oper.semAt_eq _ _ _ hd
  rw [e, hrun]
  exact h
/-- One that gives none. -/
theorem stepIn_skip (hg : o.guard = none) (hd : ∀ c, o.op ≠ .defer c) (hrun : (execOp a.eval o).run P w = .ok .skip w1) (h : K (a.put o.dst undef) w1) :
    if Region.wanted o (yielded ops a.tmps) = true then Oper.wpIn (Fence.wide.inRound l) n P o a w K Q else (∀ f, o.about P w a.eval = some f → (Fence.wide.inRound l).fn f) ∧ K (a.put o.dst undef) w := by
  have hw : Region.wanted o (yielded ops a.tmps) = true := by simp [Region.wanted, hg]
  rw [if_pos hw]
  refine ⟨fun _ _ => trivial, ?_⟩
  have e : o.semAt (Fence.wide.inRound l).round a.eval = execOp a.eval o := Oper.semAt_eq _ _ _ hd
  rw [e, hrun]
  exact h
/-- One that calls a function. -/
theorem stepIn_call {f : FuncId} {args : Array Value} {R : Ending → World → Prop} (hg : o.guard = none) (hd : ∀ c, o.op ≠ .defer c) (hrun : (execOp a.eval o).run P w = .ok (.enter f args) w1) (hc : Calls P f args w1 R)
    (h : ∀ e w', R e w' → ∃ v, e = .returned v ∧ K (a.put o.dst v) w') :
    if Region.wanted o (yielded ops a.tmps) = true then Oper.wpIn (Fence.wide.inRound l) n P o a w K Q else (∀ f, o.about P w a.eval = some f → (Fence.wide.inRound l).fn f) ∧ K (a.put o.dst undef) w := by
  have hw : Region.wanted o (yielded ops a.tmps) = true := by simp [Region.wanted, hg]
  rw [if_pos hw]
  refine ⟨fun _ _ => trivial, ?_⟩
  have e : o.semAt (Fence.wide.inRound l).round a.eval = execOp a.eval o := Oper.semAt_eq _ _ _ hd
  rw [e, hrun]
  refine ⟨fun h => by simp [Fence.inRound, Fence.wide] at h, CallsIn.inRound l (CallsIn.mono (callsIn_wide.2 hc) fun e w' hR => ?_)⟩
  obtain ⟨v, rfl, hk⟩ := h e w' hR
  exact hk
end

theorem keepsOthers_below {W w2 : World} (h : Below W.heap.size W w2) : KeepsOthers W w2 :=
  ⟨h.size, fun k _ hk _ => (h.block k (Array.getElem?_eq_some_iff.1 hk).1).trans hk⟩
theorem keepsOthers_own {W w1 : World} {base n : Nat} {e : TypeId} {size : Nat} {v : Value} {xs : List Value} (ho : W.ownsRow base e size v n xs) (hg : W.grownBy w1 v.ownBlock) : KeepsOthers W w1 :=
  KeepsOthers.of_grownBy hg fun j o ej hj => by
    obtain ⟨cells, hc⟩ := own_typed ho j ej
    rw [hc] at hj; cases hj; rfl

/-- 'append(v, ys...)', v a row of the call's own, ys a slice that is read: what the operation comes to. -/
theorem append_row_run {P : Program} {W : World} (base : Nat) {t ty e : TypeId} {k : IntKind} {bytes : Nat}
    (ht : P.underlying t = some (.slice e)) (hinfo : (P.info? e).map (fun i => (i.zero, i.size, i.bytes)) = some (some (.int k 0), 1, bytes)) (hb0 : 0 < bytes)
    (v : Value) (xs ys : List Int) (A : Option Addr) (m c : Nat)
    (HO : W.ownsRow base e 1 v xs.length (nums k xs)) (HR : ReadsInt W k A m ys) (hbase : base ≤ W.heap.size) (hl : (xs.length + m) * bytes ≤ 140737488355328) :
    ∃ v1 w1, (Builtin.append_ #[t, t] ty #[v, .slice A m c]).run P W = .ok v1 w1 ∧ w1.ownsRow base e 1 v1 (xs ++ ys).length (nums k (xs ++ ys)) ∧ W.grownBy w1 v.ownBlock ∧ (v1.ownBlock = v.ownBlock ∨ v1.ownBlock = some W.heap.size) := by
  obtain ⟨i0, hi, hzz⟩ := Option.map_eq_some_iff.1 hinfo
  simp only [Prod.mk.injEq] at hzz
  obtain ⟨hz0, hz1, hz2⟩ := hzz
  have hm : ys.length = m := HR.1
  have hlen : xs.length + m ≤ 140737488355328 := Nat.le_trans (Nat.le_mul_of_pos_right _ hb0) hl
  rcases A with _ | ad
  · have h0 : m = 0 := by
      rcases Nat.eq_zero_or_pos m with h0 | h0
      · exact h0
      · obtain ⟨ad, h, _⟩ := HR.2.2 h0
        cases h
    subst h0
    obtain rfl : ys = [] := List.eq_nil_of_length_eq_zero hm
    refine ⟨v, W, ?_, by simpa using HO, World.grownBy.refl W _, .inl rfl⟩
    rcases HO.2 with ⟨rfl, hn⟩ | ⟨g, cap, cur, rfl, _, _, hnc, _⟩
    · simp [Builtin.append_, run_underlying ht, sizeOf, typeInfo, hi, Builtin.lenOf, Builtin.firstCells]
    · simp [Builtin.append_, run_underlying ht, sizeOf, typeInfo, hi, Builtin.lenOf, Builtin.firstCells, hnc, storeCells]
  · have hcells : ∀ j u, (nums k ys)[j]? = some u → W.cell? (ad.add j) = some u := by
      intro j u hu
      have hj : j < ys.length := by
        rcases Nat.lt_or_ge j ys.length with h | h
        · exact h
        · simp [nums, List.getElem?_eq_none h] at hu
      obtain ⟨ad', h', hc⟩ := HR.2.2 (by omega)
      injection h' with h'
      subst h'
      have := hc j (by omega)
      simp [nums, List.getElem?_eq_getElem hj] at hu
      subst hu
      rw [this]
      simp [List.getD_eq_getElem?_getD, List.getElem?_eq_getElem hj]
    obtain ⟨v1, w1, hr, h2, h3, _, h5⟩ := run_append_own_at (P := P) W base t ty e i0 (.int k 0) 1 bytes ht hi hz0 hz1 hz2 rfl (by omega) v xs.length (nums k xs) HO ad m c (nums k ys) (by simp [nums, hm]) hcells
      (by intro u hu; simp only [nums, List.mem_map] at hu; obtain ⟨q, _, rfl⟩ := hu; rfl) (by simp only [maxLen]; omega) hl hbase
    exact ⟨v1, w1, hr, by simpa [nums, hm] using h2, h3, h5⟩

end Go.Proofs.Ythlhnodedofibaa.H
end

section
/- arena.words: the closure's contract for whatever loop body keeps the arena. -/
namespace Go.Proofs.Ythlhnodedofibaa.H
open Go.RowKit Go.Shelf
open Go.Proofs.YthlhnodedofibaaW.PrintWords
open Go.Proofs.Ythlhnodedofibaa.F (at_L1 rd_L1)
attribute [local go_sem] Oper.semAt_some

/-- What comes: the words in order, each with its place. -/
def upW (xs : List Int) (k : Nat) : List (Int × Int) := (List.range k).map fun (j : Nat) => ((j : Int), rd xs j)
theorem upW_succ (xs : List Int) (k : Nat) : upW xs (k + 1) = upW xs k ++ [((k : Int), rd xs k)] := by simp [upW, List.range_succ]
theorem upW_length (xs : List Int) (k : Nat) : (upW xs k).length = k := by simp [upW]

theorem words_in (a : Option Addr) (len cap : Nat) (w : World) :
    CallsIn Fence.wide 9 Try.prog 50 #[.slice a len cap] w fun e w' => e = .returned (.func (.func 72) #[] #[.pointer (some ⟨w.heap.size, 0, none⟩)]) ∧ w' = w.alloc (.cells #[.slice a len cap] 26) := by
  refine callsIn_of_wp Try.func50 rfl trivial ?_ rfl
  simp only [Try.ntmps50, List.size_toArray, List.length_cons, List.length_nil, Nat.reduceAdd, Nat.reduceSub, Array.replicate_succ, Array.replicate_zero, List.push_toArray, List.append_toArray, List.nil_append, List.cons_append]
  gi_wp2
  go_ret
  exact ⟨rfl, rfl⟩

/-- How many words lie ahead of segment i. -/
def offW (a : List (List Int)) (i : Nat) : Nat := (a.take i).flatten.length
theorem offW_succ (a : List (List Int)) (i : Nat) (h : i < a.length) : offW a (i + 1) = offW a i + (a[i]).length := by
  unfold offW; rw [take_at a i h, List.flatten_append, List.length_append]; simp
theorem offW_all (a : List (List Int)) : offW a a.length = a.flatten.length := by unfold offW; rw [List.take_length]
theorem offW_le (a : List (List Int)) (i : Nat) : offW a i ≤ a.flatten.length := by
  have h : a.flatten.length = (a.take i).flatten.length + (a.drop i).flatten.length := by rw [← List.length_append, ← List.flatten_append, List.take_append_drop]
  unfold offW; omega
theorem rd_flat (a : List (List Int)) (i j : Nat) (h : i < a.length) (hj : j < (a[i]).length) : rd a.flatten ((offW a i + j : Nat) : Int) = rd (a[i]) j := by
  have e : a.flatten = (a.take i).flatten ++ ((a[i]) ++ (a.drop (i + 1)).flatten) := by
    conv => lhs; rw [← List.take_append_drop i a, drop_at a i h]
    rw [List.flatten_append, List.flatten_cons]
  unfold rd
  rw [e, Int.toNat_natCast, Int.toNat_natCast, List.getD_eq_getElem?_getD, List.getD_eq_getElem?_getD]
  rw [List.getElem?_append_right (by unfold offW; omega), List.getElem?_append_left (by unfold offW; omega)]
  congr 2
  unfold offW; omega

set_option maxRecDepth 100000 in
set_option maxHeartbeats 4000000 in
theorem words1_in (l Bs n₀ : Nat) (S : Nat → Prop) (A : Option Addr) (cap : Nat) (a : List (List Int)) (ha : a.length ≤ 1000000) (hw : a.flatten.length ≤ 1000000) (J Jx : List (Int × Int) → World → Prop)
    (hY : ∀ pre x W, J pre W → pre.length < a.flatten.length → YieldAt Fence.wide 8 Try.prog l #[.int .i64 x.1, .int .u64 x.2] W fun e W' =>
      (e = .returned (.bool true) ∧ J (pre ++ [x]) W' ∧ Kset n₀ S W W') ∨ (e = .returned (.bool false) ∧ Jx (pre ++ [x]) W'))
    (W w0 : World) (hBs : W.cell? ⟨Bs, 0, none⟩ = some (.slice A a.length cap)) (hC : (Kd.slice 42 (Kd.int .u64)).C w0 A a.length a) (hB : ∀ W', Kset n₀ S W W' → Below w0.heap.size w0 W') (h0 : J [] W) :
    CallsIn Fence.wide 9 Try.prog 72 #[.func (.yield l) #[] #[], .pointer (some ⟨Bs, 0, none⟩)] W fun e W' => (∃ v, e = .returned v) ∧
      ((∃ ys, ys = upW a.flatten a.flatten.length ∧ J ys W') ∨ (∃ pre, (∃ k, k ≤ a.flatten.length ∧ pre = upW a.flatten k) ∧ Jx pre W')) := by
  refine callsIn_of_wp Try.func72 rfl trivial ?_ rfl
  simp only [Try.ntmps72, List.size_toArray, List.length_cons, List.length_nil, Nat.reduceAdd, Nat.reduceSub, Array.replicate_succ, Array.replicate_zero, List.push_toArray, List.append_toArray, List.nil_append, List.cons_append]
  gi_wp2
  gi_loopw [3, 10] (fun vat vi wr => ∃ i : Nat, i ≤ a.length ∧ vi = .int .i64 i ∧ vat = .int .i64 (offW a i) ∧ J (upW a.flatten (offW a i)) wr ∧ Kset n₀ S W wr)
    (fun _ vi _ => a.length - (intOf vi).toNat)
  case atStart => exact ⟨0, Nat.zero_le _, rfl, rfl, h0, Kset.refl _ _ _⟩
  case round =>
    obtain ⟨i, hi, rfl, rfl, hJs, hnx⟩ := hrel
    obtain ⟨wo, rfl⟩ : ∃ wo : World, wo = wr := ⟨_, rfl⟩
    by_cases hlt : i < a.length
    · obtain ⟨ad, A0, c0, e0, hc1, hl0, hC0⟩ := at_L1 hC i (by omega) (by omega)
      have er : rd_L1 a i = a[i] := getD_toNat a [] i hlt
      have hrf : ∀ j, j < (a[i]).length → rd a.flatten ((offW a i + j : Nat) : Int) = rd (a[i]) j := fun j hj => rd_flat a i j hlt hj
      have hoff := offW_succ a i hlt
      have hofl := offW_le a (i + 1)
      rw [er] at hc1 hl0 hC0
      obtain ⟨s, hs⟩ : ∃ s, a[i] = s := ⟨_, rfl⟩
      rw [hs] at hc1 hl0 hC0 hrf hoff
      rw [Int.toNat_natCast] at hc1
      subst e0
      have hc0 := pw_cell_below (hB wo hnx) hc1
      have HO : Hid _ := hoff
      have HRF : Hid _ := hrf
      have hsl : offW a i + s.length ≤ 1000000 := by omega
      clear hoff er hs hc1 hrf
      gi_wp2
      gi_loopw [3, 16] (fun vat vj wr => ∃ j : Nat, j ≤ s.length ∧ vj = .int .i64 j ∧ vat = .int .i64 ((offW a i + j : Nat) : Int) ∧ J (upW a.flatten (offW a i + j)) wr ∧ Kset n₀ S W wr)
        (fun _ vj _ => s.length - (intOf vj).toNat)
      case atStart => exact ⟨0, Nat.zero_le _, rfl, rfl, hJs, hnx⟩
      case round =>
        obtain ⟨j, hj, rfl, rfl, hJ2, hn2⟩ := hrel
        by_cases hlt2 : j < s.length
        · obtain ⟨ad2, hA2, hcx⟩ := ReadsInt.at_ (Kd.reads_of_C (d := (0 : Int)) (Kd.C_below hC0 (hB wr hn2))) (j : Int) (by omega) (by omega)
          rw [Int.toNat_natCast] at hcx
          obtain ⟨fn, tmps, assign, body, hy, hR⟩ := hY _ (((offW a i + j : Nat) : Int), rd s j) wr hJ2 (by rw [upW_length]; have := HO.out; omega)
          dsimp only at hy
          rw [Int.natCast_add] at hy
          rw [← HRF.out j hlt2, ← upW_succ] at hR
          subst hA2
          gi_wp2
          refine hR.mono ?_
          rintro e W3 (⟨rfl, hJ3, hk3⟩ | ⟨rfl, hJx3⟩)
          · gi_wp2
            go_roundw
            case rel => exact ⟨j + 1, by omega, by go_num, by congr 1, hJ3, hn2.trans hk3⟩
            case measure => simp [intOf]; omega
          · gi_wp2
            refine bodyPost_ret (results_none rfl _ _ _) rfl ?_
            exact ⟨⟨_, rfl⟩, .inr ⟨_, ⟨offW a i + j + 1, by have := HO.out; omega, rfl⟩, hJx3⟩⟩
        · obtain rfl : j = s.length := by omega
          gi_wp2
          go_roundw
          case rel => exact ⟨i + 1, by omega, by go_num, by rw [HO.out], by rw [HO.out]; exact hJ2, hn2⟩
          case measure => simp [intOf]; omega
    · obtain rfl : i = a.length := by omega
      gi_wp2
      go_end0
      refine ⟨⟨_, rfl⟩, .inl ⟨_, rfl, ?_⟩⟩
      rw [← offW_all]
      exact hJs

end Go.Proofs.Ythlhnodedofibaa.H
end

section
namespace Go.Proofs.Ythlhnodedofibaa.F
open Go.RowKit Go.Proofs.YthlhnodedofibaaW.PrintWords Go.Proofs.YthlhnodedofibaaW.PrintLast Go.Proofs.YthlhnodedofibaaW.PrintMore
attribute [local go_sem] max2_int min2_int max_two min_two max_three min_three max_four min_four   -- for this text's walks alone
set_option linter.unusedVariables false
set_option linter.unusedSimpArgs false

open Go.Shelf Go.Proofs.Ythlhnodedofibaa.H
attribute [local go_sem] Oper.semAt_some
/-! ### arena_Bytes: given -/
def bytesOut (pre : List (Int × Int)) : List Int := pre.flatMap fun x => putL x.2 8
theorem bytesOut_snoc (pre : List (Int × Int)) (x : Int × Int) : bytesOut (pre ++ [x]) = bytesOut pre ++ putL x.2 8 := by simp [bytesOut]
theorem bytesOut_length (pre : List (Int × Int)) : (bytesOut pre).length = 8 * pre.length := by
  induction pre with
  | nil => rfl
  | cons x xs ih => rw [bytesOut, List.flatMap_cons, List.length_append, ← bytesOut, ih, putL_length, List.length_cons]; omega
theorem bytesOut_up (xs : List Int) : ∀ k, k ≤ xs.length → bytesOut (upW xs k) = (xs.take k).flatMap fun w => putL w 8
  | 0, _ => rfl
  | k + 1, h => by
    rw [upW_succ, bytesOut_snoc, bytesOut_up xs k (by omega), take_at xs k (by omega), List.flatMap_append]
    rw [show rd xs (k : Int) = xs[k] from getD_toNat xs 0 k (by omega)]
    simp
def arena_Bytes.f (l0 : List (List Int)) : Option (List Int) := if l0.length ≤ 1000000 ∧ wordsL l0 ≤ 1000000 then some (bytesL l0) else none
set_option maxHeartbeats 1000000 in
set_option maxRecDepth 100000 in
theorem arena_Bytes.calls (A0 : Option Addr) (c0 : Nat) (l0 : List (List Int)) (r : List Int) (w : World) (hr0 : Kd.C (Kd.slice 42 (Kd.int .u64)) w A0 l0.length l0) (hc0 : l0.length ≤ c0) (h : arena_Bytes.f l0 = some r) :
    Calls Try.prog 17 #[.slice A0 l0.length c0] w fun e w' => ∃ v0_ : Value, e = .returned (v0_) ∧ Kd.R (Kd.int .u8) 5 w' w.heap.size (fun _ => True) v0_ r ∧ Below w.heap.size w w' := by
  unfold arena_Bytes.f at h
  split at h
  case isFalse => cases h
  case isTrue hb =>
  obtain rfl := Option.some.inj h
  clear h
  obtain ⟨ha, hw⟩ := hb
  unfold wordsL at hw
  refine (callsIn_wide (n := 10)).1 ?_
  refine callsIn_of_wp_marks Try.func17 rfl trivial ?_ rfl
  simp only [Try.ntmps17, List.size_toArray, List.length_cons, List.length_nil, Nat.reduceAdd, Nat.reduceSub, Array.replicate_succ, Array.replicate_zero, List.push_toArray, List.append_toArray, List.nil_append, List.cons_append]
  gi_wp2_with (refine ⟨trivial, ?_⟩; gi_at_call 50; refine (words_in _ _ _ _).mono ?_; rintro e w' ⟨rfl, rfl⟩)
  have bN := Boxed.new w 23 (.slice none 0 0)
  have bS := Boxed.new (w.alloc (.cells #[.slice none 0 0] 23)) 26 (.slice A0 l0.length c0)
  rw [World.size_alloc] at bS
  have hB0 : Below w.heap.size w ((w.alloc (.cells #[.slice none 0 0] 23)).alloc (.cells #[.slice A0 l0.length c0] 26)) := ((Below.refl _ w).alloc (Nat.le_refl _) _).alloc (by simp) _
  refine wpIn_rangeFunc_ownG (F := Fence.wide) (n := 10) rfl (by omega) (gf := 72) (lb := #[.pointer (some ⟨w.heap.size + 1, 0, none⟩)]) rfl trivial (enters_of Try.func72 (by kernel_rfl) rfl)
    (encs := fun x : Int × Int => #[.int .i64 x.1, .int .u64 x.2]) (Kp := Kset (w.heap.size + 2) (fun k => k = w.heap.size)) (S := fun ys => ys = upW l0.flatten l0.flatten.length) (Sp := fun _ => True) (N := l0.flatten.length)
    (w0 := (w.alloc (.cells #[.slice none 0 0] 23)).alloc (.cells #[.slice A0 l0.length c0] 26)) ?seq ksetK_t (ksetK_b (by simp)) (Below.refl _ _) (fun _ => rfl)
    (fun pre W => (∃ v, Boxed W w.heap.size 23 v ∧ W.ownsRow (w.heap.size + 2) 5 1 v (bytesOut pre).length (nums .u8 (bytesOut pre)) ∧ True) ∧ Kset (w.heap.size + 2) (fun k => k = w.heap.size) ((w.alloc (.cells #[.slice none 0 0] 23)).alloc (.cells #[.slice A0 l0.length c0] 26)) W)
    (fun _ _ _ => False) ?own (fun _ _ _ _ _ hs _ _ => hs) ?start
    (fun x => { tmps := #[.slice A0 l0.length c0, undef, .slice none 0 0, .pointer (some ⟨w.heap.size, 0, none⟩), undef, .int .u64 x.2, .slice A0 l0.length c0, .func (.func 72) #[] #[.pointer (some ⟨w.heap.size + 1, 0, none⟩)], .int .i64 x.1, .int .u64 x.2, undef, undef, undef, undef, undef], defers := [] }) ?assign ?body ?done ?stop
  case seq =>
    intro l J Jx W hW hJ hJx hY h0
    refine (words1_in l (w.heap.size + 1) (w.heap.size + 2) (fun k => k = w.heap.size) A0 c0 l0 ha hw J Jx hY W w ((hW.cell (p := ⟨w.heap.size + 1, 0, none⟩) (by simp)).trans bS.cell) hr0 (fun W' hk => (hB0.trans (hW.mono (by simp; omega))).trans (hk.below (by omega) (fun k e => by omega))) h0).mono ?_
    rintro e W' ⟨he, ⟨ys, rfl, hj⟩ | ⟨pre, _, hj⟩⟩
    · exact ⟨he, .inl ⟨_, rfl, hj⟩⟩
    · exact ⟨he, .inr ⟨_, trivial, hj⟩⟩
  case own => exact OwnFrom.and (Own.from (holdsRow_own _ _ _ _ _ _ _ _) _) (ownFrom_kset (by simp) (by simp))
  case start => exact ⟨⟨_, bN.alloc _, World.ownsRow_nil _ _ _ _, trivial⟩, Kset.refl _ _ _⟩
  case assign =>
    intro l x W K hK
    gi_wp2
    exact hK
  case body =>
    rintro l pre x W ⟨⟨v, hb, ho, -⟩, hk⟩ hlen
    have hc := hb.cell
    have hf := hb.frozen
    have hpl : pre.length ≤ 1000000 := by omega
    gi_wp2
    have hown : ∀ w2, Below W.heap.size W w2 → Boxed w2 w.heap.size 23 v ∧ w2.ownsRow (w.heap.size + 2) 5 1 v (bytesOut pre).length (nums .u8 (bytesOut pre)) := fun w2 hb2 =>
      ⟨(hb2.block _ hb.lt).trans hb, pw_own_below ho hb2⟩
    have hlen8 : (bytesOut pre).length ≤ 8000000 := by rw [bytesOut_length]; omega
    have hsz : w.heap.size + 2 ≤ W.heap.size := by have := hk.size; simp at this; omega
    refine wpIn_region_any (by kernel_rfl) ?_
    change wpAnyIn _ _ _ _ _ _ _ _ _ (World.drew W)
    -- behind the load, the move and the call, in whatever order
    have tail : ∀ (pv : Value) (w2 : World), Below W.heap.size W w2 → Kd.R (Kd.int .u8) 5 w2 W.heap.size (fun _ => True) pv (putL x.2 8) → ∀ Q, (∀ a w', ownPostG ((w.alloc (.cells #[.slice none 0 0] 23)).alloc (.cells #[.slice A0 l0.length c0] 26)).heap.size (Kset (w.heap.size + 2) (fun k => k = w.heap.size)) (fun pre W => (∃ v, Boxed W w.heap.size 23 v ∧ W.ownsRow (w.heap.size + 2) 5 1 v (bytesOut pre).length (nums .u8 (bytesOut pre)) ∧ True) ∧ Kset (w.heap.size + 2) (fun k => k = w.heap.size) ((w.alloc (.cells #[.slice none 0 0] 23)).alloc (.cells #[.slice A0 l0.length c0] 26)) W) (fun _ _ _ => False) (pre ++ [x]) W .normal a w' → Q .normal a w') →
        wpAnyIn (Fence.wide.inRound l) 8 Try.prog .any
          #[{ dst := some 10, op := Op.load 23 (Operand.tmp 3), type := 23, pos := "arena.go:98", after := #[], guard := none },
            { dst := some 11, op := Op.move (Operand.tmp 5), type := 42, pos := "arena.go:98", after := #[], guard := none },
            { dst := some 12, op := Op.call { callee := Callee.value (Operand.func 51), args := #[Operand.tmp 11, Operand.const (Value.int IntKind.i64 8)], argTypes := #[42, 3] }, type := 23, pos := "arena.go:98", after := #[{ on := 1, ground := Ground.data }], guard := none },
            { dst := some 13, op := Op.call { callee := Callee.builtin Builtin.append, args := #[Operand.tmp 10, Operand.tmp 12], argTypes := #[23, 23] }, type := 23, pos := "arena.go:98", after := #[{ on := 0, ground := Ground.data }, { on := 2, ground := Ground.data }, { on := 2, ground := Ground.chain }], guard := none },
            { dst := none, op := Op.store 23 (Operand.tmp 3) (Operand.tmp 13), type := 0, pos := "arena.go:98", after := #[{ on := 3, ground := Ground.data }, { on := 3, ground := Ground.chain }, { on := 0, ground := Ground.phase }, { on := 1, ground := Ground.phase }, { on := 2, ground := Ground.phase }, { on := 3, ground := Ground.phase }], guard := none }]
          Q 2 #[true, true, true, false, false]
          { tmps := #[.slice A0 l0.length c0, undef, .slice none 0 0, .pointer (some ⟨w.heap.size, 0, none⟩), undef, .int .u64 x.2, .slice A0 l0.length c0, .func (.func 72) #[] #[.pointer (some ⟨w.heap.size + 1, 0, none⟩)], .int .i64 x.1, .int .u64 x.2, v, .int .u64 x.2, pv, undef, undef], defers := [] } w2 := by
      intro pv w2 hb2 hp Q hQ
      obtain ⟨hbx, hox⟩ := hown w2 hb2
      have hsz2 : w.heap.size + 2 ≤ w2.heap.size := by have := hb2.size; omega
      obtain ⟨A, c, rfl, hlc, hC⟩ := Kd.R_reads hp
      obtain ⟨v1, w3, hrun, ho1, hg1, hat⟩ := append_row_run (ty := 23) (w.heap.size + 2) Try.underlying23 info5 (by decide) v _ (putL x.2 8) A (putL x.2 8).length c hox (Kd.reads_of_C (d := (0 : Int)) hC) (by omega) (by rw [putL_length]; omega)
      refine wpAnyIn_ready (rs := [3]) (by kernel_rfl) (by simp) (AllReadyIn.cons rfl (fun K hK => ?_) AllReadyIn.nil)
      refine stepIn_value rfl (by simp) (w1 := w3) (v := v1) ?_ (hK _ _ ?_)
      · simp [execOp, resolve, invoke, builtin, Act.eval, hrun, Result.andThen]
      refine wpAnyIn_ready (rs := [4]) (by kernel_rfl) (by simp) (AllReadyIn.cons rfl (fun K hK => ?_) AllReadyIn.nil)
      have hb3 : Boxed w3 w.heap.size 23 v := hbx.kept hg1 (hbx.not_row (by decide) hox)
      obtain ⟨A1, c1, rfl⟩ := own_slice ho1
      refine stepIn_skip rfl (by simp) (w1 := w3.setCell ⟨w.heap.size, 0, none⟩ (.slice A1 (bytesOut pre ++ putL x.2 8).length c1)) ?_ (hK _ _ ?_)
      · have hc3 := hb3.cell
        have hf3 := hb3.frozen
        simp [go_sem, Act.eval, Act.put, hc3, hf3]
      refine wpAnyIn_done (by kernel_rfl) (hQ _ _ ?_) _
      have hks : Kset (w.heap.size + 2) (fun k => k = w.heap.size) W w3 := (Kset.of_below (hb2.mono hsz)).grown hg1 hsz2 (fun k e => .inr (own_base hox k e))
      refine ⟨(((keepsOthers_below hb2).trans (keepsOthers_own hox hg1)).trans (KeepsOthers.setCell _ _ _)).from _, ?_, ⟨_, hb3.set _, ?_, trivial⟩, ?_⟩
      · exact hks.setCell (p := ⟨w.heap.size, 0, none⟩) (.inl rfl) _
      · rw [bytesOut_snoc]; exact ho1.kept (grownBy_setCell' _ _ _) (.inr (hb3.not_row (by decide) ho1).symm)
      · exact (hk.trans hks).setCell (p := ⟨w.heap.size, 0, none⟩) (.inl rfl) _
    have hput : word_Put.f x.2 8 = some (putL x.2 8) := rfl
    refine wpAnyIn_ready (rs := [0, 1]) (by kernel_rfl) (by simp) (AllReadyIn.cons rfl (fun K hK => ?_) (AllReadyIn.cons rfl (fun K hK => ?_) AllReadyIn.nil))
    · refine stepIn_value rfl (by simp) (w1 := W.drew) (v := v) (by simp [go_sem, Act.eval, hc]) (hK _ _ ?_)
      refine wpAnyIn_ready (rs := [1]) (by kernel_rfl) (by simp) (AllReadyIn.cons rfl (fun K hK => ?_) AllReadyIn.nil)
      refine stepIn_value rfl (by simp) (w1 := W.drew) (v := .int .u64 x.2) (by simp [go_sem, Act.eval, Act.put]) (hK _ _ ?_)
      refine wpAnyIn_ready (rs := [2]) (by kernel_rfl) (by simp) (AllReadyIn.cons rfl (fun K hK => ?_) AllReadyIn.nil)
      refine stepIn_call (w1 := W.drew) rfl (by simp) (by simp [go_sem, Act.eval, Act.put]) (word_Put.calls x.2 8 _ W.drew hput) ?_
      rintro e w2 ⟨pv, rfl, hp, hb2⟩
      exact ⟨pv, rfl, hK _ _ (tail pv w2 ((Below.refl _ W).drew.trans hb2) hp _ (fun _ _ h => h))⟩
    · refine stepIn_value rfl (by simp) (w1 := W.drew) (v := .int .u64 x.2) (by simp [go_sem, Act.eval]) (hK _ _ ?_)
      refine wpAnyIn_ready (rs := [0, 2]) (by kernel_rfl) (by simp) (AllReadyIn.cons rfl (fun K hK => ?_) (AllReadyIn.cons rfl (fun K hK => ?_) AllReadyIn.nil))
      · refine stepIn_value rfl (by simp) (w1 := W.drew) (v := v) (by simp [go_sem, Act.eval, Act.put, hc]) (hK _ _ ?_)
        refine wpAnyIn_ready (rs := [2]) (by kernel_rfl) (by simp) (AllReadyIn.cons rfl (fun K hK => ?_) AllReadyIn.nil)
        refine stepIn_call (w1 := W.drew) rfl (by simp) (by simp [go_sem, Act.eval, Act.put]) (word_Put.calls x.2 8 _ W.drew hput) ?_
        rintro e w2 ⟨pv, rfl, hp, hb2⟩
        exact ⟨pv, rfl, hK _ _ (tail pv w2 ((Below.refl _ W).drew.trans hb2) hp _ (fun _ _ h => h))⟩
      · refine stepIn_call (w1 := W.drew) rfl (by simp) (by simp [go_sem, Act.eval, Act.put]) (word_Put.calls x.2 8 _ W.drew hput) ?_
        rintro e w2 ⟨pv, rfl, hp, hb2⟩
        refine ⟨pv, rfl, hK _ _ ?_⟩
        have hb2' : Below W.heap.size W w2 := (Below.refl _ W).drew.trans hb2
        have hc2 := (hown w2 hb2').1.cell
        refine wpAnyIn_ready (rs := [0]) (by kernel_rfl) (by simp) (AllReadyIn.cons rfl (fun K hK => ?_) AllReadyIn.nil)
        refine stepIn_value rfl (by simp) (w1 := w2) (v := v) (by simp [go_sem, Act.eval, Act.put, hc2]) (hK _ _ ?_)
        exact tail pv w2 hb2' hp _ (fun _ _ h => h)
  case done =>
    rintro D ys W hD rfl ⟨⟨v, hb, ho, -⟩, hk⟩ hK
    have hc := hb.cell
    gi_wp2
    refine ⟨by simp, .inl ⟨_, _, rfl, run_takeDeferred hK, ?_⟩⟩
    refine ⟨_, results_tmp rfl _ _ _, v, rfl, ?_, ?_⟩
    · have ho' := ownsRow_putObj ho (.deferred none) hK rfl
      rw [bytesOut_up _ _ (Nat.le_refl _), List.take_length] at ho'
      exact Kd.R_lower (Kd.R_of_own (enc := Value.int .u8) (by simpa [nums, encs, bytesL] using ho') (fun _ _ => trivial)) (by omega)
    · exact (hB0.trans (hk.below (by omega) (fun k e => by omega))).trans (belowK_b (w := w) (Nat.le_refl _) W D _ _ (by simp at hD; omega) hK rfl rfl)
  case stop =>
    rintro D c pre W _ _ h _
    exact h.elim

end Go.Proofs.Ythlhnodedofibaa.F
end

section
namespace Go.Proofs.Ythlhnodedofibaa.F
open Go.RowKit Go.Proofs.YthlhnodedofibaaW.PrintWords Go.Proofs.YthlhnodedofibaaW.PrintLast Go.Proofs.YthlhnodedofibaaW.PrintMore
attribute [local go_sem] max2_int min2_int max_two min_two max_three min_three max_four min_four   -- for this text's walks alone
set_option linter.unusedVariables false
set_option linter.unusedSimpArgs false

/-! ### word_Add: function 53 -/
def word_Add.f (a0 : Int) (a1 : Int) (a2 : Int) : Option (Int × Bool) := if (mn a0 a1) < 0 then (some (0, false)) else (if a0 > a2 then (some (0, false)) else (if a1 > (wrap64 (a2 - a0)) then (some (0, false)) else (some (wrap64 (a0 + a1), true))))
set_option maxHeartbeats 8000000 in
set_option maxRecDepth 100000 in
theorem word_Add.calls (a0 : Int) (a1 : Int) (a2 : Int) (r1 : Int) (r2 : Bool) (w : World) (h : word_Add.f a0 a1 a2 = some (r1, r2)) :
    Calls Try.prog 53 #[.int .i64 a0, .int .i64 a1, .int .i64 a2] w fun e w' => e = .returned (.tuple #[.int .i64 r1, .bool r2]) ∧ Below w.heap.size w w' := by
  have HB := Aside0.mk (Below.refl w.heap.size w)
  have H : (if (mn a0 a1) < 0 then (some (0, false)) else (if a0 > a2 then (some (0, false)) else (if a1 > (wrap64 (a2 - a0)) then (some (0, false)) else (some (wrap64 (a0 + a1), true))))) = some (r1, r2) := h
  clear h
  obtain ⟨ji4, hji4⟩ : ∃ j_ : Int, (mn a0 a1) = j_ := ⟨_, rfl⟩
  replace H : (if (ji4) < 0 then (some (0, false)) else (if a0 > a2 then (some (0, false)) else (if a1 > (wrap64 (a2 - a0)) then (some (0, false)) else (some (wrap64 (a0 + a1), true))))) = some (r1, r2) := by first | (rw [hji4] at H; exact H) | (simp only [hji4] at H ⊢; exact H)
  have hji4_ : (if a1 < a0 then a1 else a0) = ji4 := hji4
  by_cases c5 : (ji4) < 0
  · rw [if_pos c5] at H
    have c5b0 : decide ((ji4) < 0) = true := decide_eq_true c5
    clear c5
    simp only [Option.some.injEq, Prod.mk.injEq] at H
    obtain ⟨rfl, rfl⟩ := H
    go_enter Try.func53, Try.ntmps53
    go_wp2
    go_ret2
    exact ⟨by first | rfl | (simp [errW_none, errW_some] <;> rfl) | (simp only [← hji4]; first | rfl | (simp [errW_none, errW_some] <;> rfl)) | (simp [*, errW_none, errW_some] <;> rfl), by repeat (first | (with_reducible first | exact HB.out | apply below_alloc | apply pw_below_drewN | apply below_drew1) | exact HB.out)⟩
  · rw [if_neg c5] at H
    have c5b0 : decide ((ji4) < 0) = false := decide_eq_false c5
    clear c5
    by_cases c6 : a0 > a2
    · rw [if_pos c6] at H
      have c6b0 : decide (a2 < a0) = true := decide_eq_true c6
      clear c6
      simp only [Option.some.injEq, Prod.mk.injEq] at H
      obtain ⟨rfl, rfl⟩ := H
      go_enter Try.func53, Try.ntmps53
      go_wp2
      go_ret2
      exact ⟨by first | rfl | (simp [errW_none, errW_some] <;> rfl) | (simp only [← hji4]; first | rfl | (simp [errW_none, errW_some] <;> rfl)) | (simp [*, errW_none, errW_some] <;> rfl), by repeat (first | (with_reducible first | exact HB.out | apply below_alloc | apply pw_below_drewN | apply below_drew1) | exact HB.out)⟩
    · rw [if_neg c6] at H
      have c6b0 : decide (a2 < a0) = false := decide_eq_false c6
      clear c6
      by_cases c7 : a1 > (wrap64 (a2 - a0))
      · rw [if_pos c7] at H
        have c7b0 : decide ((wrap64 (a2 - a0)) < a1) = true := decide_eq_true c7
        clear c7
        simp only [Option.some.injEq, Prod.mk.injEq] at H
        obtain ⟨rfl, rfl⟩ := H
        go_enter Try.func53, Try.ntmps53
        go_wp2
        go_ret2
        exact ⟨by first | rfl | (simp [errW_none, errW_some] <;> rfl) | (simp only [← hji4]; first | rfl | (simp [errW_none, errW_some] <;> rfl)) | (simp [*, errW_none, errW_some] <;> rfl), by repeat (first | (with_reducible first | exact HB.out | apply below_alloc | apply pw_below_drewN | apply below_drew1) | exact HB.out)⟩
      · rw [if_neg c7] at H
        have c7b0 : decide ((wrap64 (a2 - a0)) < a1) = false := decide_eq_false c7
        clear c7
        simp only [Option.some.injEq, Prod.mk.injEq] at H
        obtain ⟨rfl, rfl⟩ := H
        go_enter Try.func53, Try.ntmps53
        go_wp2
        go_ret2
        exact ⟨by first | rfl | (simp [errW_none, errW_some] <;> rfl) | (simp only [← hji4]; first | rfl | (simp [errW_none, errW_some] <;> rfl)) | (simp [*, errW_none, errW_some] <;> rfl), by repeat (first | (with_reducible first | exact HB.out | apply below_alloc | apply pw_below_drewN | apply below_drew1) | exact HB.out)⟩

end Go.Proofs.Ythlhnodedofibaa.F
end

section
namespace Go.Proofs.Ythlhnodedofibaa.F
open Go.RowKit Go.Proofs.YthlhnodedofibaaW.PrintWords Go.Proofs.YthlhnodedofibaaW.PrintLast Go.Proofs.YthlhnodedofibaaW.PrintMore
attribute [local go_sem] max2_int min2_int max_two min_two max_three min_three max_four min_four   -- for this text's walks alone
set_option linter.unusedVariables false
set_option linter.unusedSimpArgs false

/-! ### arena_Within: function 62 -/
def arena_Within.f (l0 : List Int) (a1 : Int) (a2 : Int) (a3 : Int) : Option (Bool) := if a1 < 0 then (some false) else (if a1 ≥ (l0.length : Int) then (some false) else (if 0 ≤ a1 then (if a1 < (l0.length : Int) then ((word_Add.f a2 a3 (rd l0 a1)).bind fun bt102 => (some bt102.2)) else (none)) else (none)))
set_option maxHeartbeats 8000000 in
set_option maxRecDepth 100000 in
theorem arena_Within.calls (A0 : Option Addr) (c0 : Nat) (l0 : List Int) (a1 : Int) (a2 : Int) (a3 : Int) (r : Bool) (w : World) (hr0 : Kd.C (Kd.int .i64) w A0 l0.length l0) (hc0 : l0.length ≤ c0) (h : arena_Within.f l0 a1 a2 a3 = some r) :
    Calls Try.prog 62 #[.slice A0 l0.length c0, .int .i64 a1, .int .i64 a2, .int .i64 a3] w fun e w' => e = .returned (.bool r) ∧ Below w.heap.size w w' := by
  have HR0 := Aside0.mk hr0
  have HC0 := Aside0.mk hc0
  clear hr0 hc0
  have HB := Aside0.mk (Below.refl w.heap.size w)
  have H : (if a1 < 0 then (some false) else (if a1 ≥ (l0.length : Int) then (some false) else (if 0 ≤ a1 then (if a1 < (l0.length : Int) then ((word_Add.f a2 a3 (rd l0 a1)).bind fun bt102 => (some bt102.2)) else (none)) else (none)))) = some r := h
  clear h
  by_cases c5 : a1 < 0
  · rw [if_pos c5] at H
    have c5b0 : decide (a1 < 0) = true := decide_eq_true c5
    clear c5
    obtain rfl := Option.some.inj H
    go_enter Try.func62, Try.ntmps62
    go_wp2
    go_ret
    exact ⟨by first | rfl | (simp [errW_none, errW_some] <;> rfl) | (simp [*, errW_none, errW_some] <;> rfl), by repeat (first | (with_reducible first | exact HB.out | apply below_alloc | apply pw_below_drewN | apply below_drew1) | exact HB.out)⟩
  · rw [if_neg c5] at H
    have c5b0 : decide (a1 < 0) = false := decide_eq_false c5
    clear c5
    by_cases c6 : a1 ≥ (l0.length : Int)
    · rw [if_pos c6] at H
      have c6b0 : decide ((l0.length : Int) ≤ a1) = true := decide_eq_true c6
      clear c6
      obtain rfl := Option.some.inj H
      go_enter Try.func62, Try.ntmps62
      go_wp2
      go_ret
      exact ⟨by first | rfl | (simp [errW_none, errW_some] <;> rfl) | (simp [*, errW_none, errW_some] <;> rfl), by repeat (first | (with_reducible first | exact HB.out | apply below_alloc | apply pw_below_drewN | apply below_drew1) | exact HB.out)⟩
    · rw [if_neg c6] at H
      have c6b0 : decide ((l0.length : Int) ≤ a1) = false := decide_eq_false c6
      clear c6
      by_cases c7 : 0 ≤ a1
      · rw [if_pos c7] at H
        have c7b0 : decide (0 ≤ a1) = true := decide_eq_true c7
        clear c7
        by_cases c8 : a1 < (l0.length : Int)
        · rw [if_pos c8] at H
          have c8b0 : decide (a1 < (l0.length : Int)) = true := decide_eq_true c8
          clear c8
          replace H := Option.bind_eq_some_iff.mp H
          obtain ⟨⟨t102, t103⟩, A90, H⟩ := H
          replace H : (some t103) = some r := H
          have A9 := Aside0.mk A90
          clear A90
          obtain rfl := Option.some.inj H
          have p101 : 0 ≤ (a1 : Int) := of_decide_eq_true (by first | (with_reducible assumption) | assumption)
          have q101 : a1 < (l0.length : Int) := of_decide_eq_true (by first | (with_reducible assumption) | assumption)
          obtain ⟨ad101, e101, hx101_0⟩ := Kd.at_int HR0.out a1 p101 q101
          cases e101
          replace p101 := eq_true p101
          replace q101 := eq_true q101
          go_enter Try.func62, Try.ntmps62
          go_wp2_with (first | ((with_reducible refine gate_callee (f := 53) rfl ?_); refine goesL_ (some 26) rfl rfl Try.func53 (by kernel_rfl) rfl #[.int .i64 a2, .int .i64 a3, .int .i64 (rd l0 a1)] rfl (by (try simp only [List.map_toArray, List.map_cons, List.map_nil]); first | done | rfl | (simp only [List.length_drop, List.length_take]; rfl)) ?_; (with_reducible refine (word_Add.calls a2 a3 (rd l0 a1) t102 t103 _ A9.out).mono ?_); rintro e w10 ⟨rfl, hb⟩; refine ⟨_, rfl, ?_⟩; have n0_ := Aside0.mk (below_step (by repeat (first | (with_reducible first | exact HB.out | apply below_alloc | apply pw_below_drewN | apply below_drew1) | exact HB.out)) hb); clear HB; have HB := n0_; clear n0_; (try clear hb); (try clear hb2); (try clear hk); (try clear hi)))
          go_ret
          exact ⟨by first | rfl | (simp [errW_none, errW_some] <;> rfl) | (simp [*, errW_none, errW_some] <;> rfl), by repeat (first | (with_reducible first | exact HB.out | apply below_alloc | apply pw_below_drewN | apply below_drew1) | exact HB.out)⟩
        · rw [if_neg c8] at H
          exact absurd H (by simp)
      · rw [if_neg c7] at H
        exact absurd H (by simp)

end Go.Proofs.Ythlhnodedofibaa.F
end

section
namespace Go.Proofs.Ythlhnodedofibaa.F
open Go.RowKit Go.Proofs.YthlhnodedofibaaW.PrintWords Go.Proofs.YthlhnodedofibaaW.PrintLast Go.Proofs.YthlhnodedofibaaW.PrintMore
attribute [local go_sem] max2_int min2_int max_two min_two max_three min_three max_four min_four   -- for this text's walks alone
set_option linter.unusedVariables false
set_option linter.unusedSimpArgs false

/-! ### arena_Fits: function 20 -/
mutual
def arena_Fits.j0 : Nat → List Int → Bool → Option (Bool)
  | 0, _, _ => none
  | k + 1, x0, x21 => if x21 = true then (some false) else (arena_Fits.l0 k 0 x0 (x0.length : Int) 0)
def arena_Fits.l0 : Nat → Int → List Int → Int → Int → Option (Bool)
  | 0, _, _, _, _ => none
  | k + 1, x3, x22, x23, x24 => if x24 < x23 then (if 0 ≤ x24 then (if x24 < (x22.length : Int) then ((word_Add.f x3 (rd x22 x24) 4096).bind fun bt103 => (if bt103.2 = true then (arena_Fits.l0 k bt103.1 x22 x23 (wrap64 (x24 + 1))) else (some false))) else (none)) else (none)) else (some true)
end
def arena_Fits.f (k : Nat) (l0 : List Int) : Option (Bool) := if (l0.length : Int) < 1 then (arena_Fits.j0 k l0 true) else (if (l0.length : Int) > 16 then (arena_Fits.j0 k l0 true) else (if 0 < (l0.length : Int) then (arena_Fits.j0 k l0 (decide ((rd l0 0) < 1))) else (none)))
theorem arena_Fits.mono_l : ∀ k, (∀ y0 y1, LeO (arena_Fits.j0 k y0 y1) (arena_Fits.j0 (k + 1) y0 y1)) ∧ (∀ y0 y1 y2 y3, LeO (arena_Fits.l0 k y0 y1 y2 y3) (arena_Fits.l0 (k + 1) y0 y1 y2 y3))
  | 0 => ⟨fun _ _ r h => by simp [arena_Fits.j0] at h, fun _ _ _ _ r h => by simp [arena_Fits.l0] at h⟩
  | k + 1 => by
    obtain ⟨ih0, ih1⟩ := arena_Fits.mono_l k
    refine ⟨?_, ?_⟩
    · intro y0 y1
      unfold arena_Fits.j0
      repeat' first
      | (with_reducible exact ih0 _ _)
      | (with_reducible exact ih1 _ _ _ _)
      | (with_reducible exact LeO.refl _)
      | (with_reducible exact LeO.none _)
      | (with_reducible refine LeO.ite ?_ ?_)
      | (with_reducible refine LeO.bind ?_ (fun _ => ?_))
      | exact ih0 _ _
      | exact ih1 _ _ _ _
      | exact LeO.none _
      | refine LeO.ite ?_ ?_
      | refine LeO.bind ?_ (fun _ => ?_)
    · intro y0 y1 y2 y3
      unfold arena_Fits.l0
      repeat' first
      | (with_reducible exact ih0 _ _)
      | (with_reducible exact ih1 _ _ _ _)
      | (with_reducible exact LeO.refl _)
      | (with_reducible exact LeO.none _)
      | (with_reducible refine LeO.ite ?_ ?_)
      | (with_reducible refine LeO.bind ?_ (fun _ => ?_))
      | exact ih0 _ _
      | exact ih1 _ _ _ _
      | exact LeO.none _
      | refine LeO.ite ?_ ?_
      | refine LeO.bind ?_ (fun _ => ?_)
theorem arena_Fits.mono : ∀ a0 k, LeO (arena_Fits.f k a0) (arena_Fits.f (k + 1) a0) := by
  intro a0 k
  obtain ⟨ih0, ih1⟩ := arena_Fits.mono_l k
  unfold arena_Fits.f
  repeat' first
      | (with_reducible exact ih0 _ _)
      | (with_reducible exact ih1 _ _ _ _)
      | (with_reducible exact LeO.refl _)
      | (with_reducible exact LeO.none _)
      | (with_reducible refine LeO.ite ?_ ?_)
      | (with_reducible refine LeO.bind ?_ (fun _ => ?_))
      | exact ih0 _ _
      | exact ih1 _ _ _ _
      | exact LeO.none _
      | refine LeO.ite ?_ ?_
      | refine LeO.bind ?_ (fun _ => ?_)
set_option maxHeartbeats 8000000 in
set_option maxRecDepth 100000 in
theorem arena_Fits.calls (k : Nat) (A0 : Option Addr) (c0 : Nat) (l0 : List Int) (r : Bool) (w : World) (hr0 : Kd.C (Kd.int .i64) w A0 l0.length l0) (hc0 : l0.length ≤ c0) (h : arena_Fits.f k l0 = some r) :
    Calls Try.prog 20 #[.slice A0 l0.length c0] w fun e w' => e = .returned (.bool r) ∧ Below w.heap.size w w' := by
  have HR0 := Aside0.mk hr0
  have HC0 := Aside0.mk hc0
  clear hr0 hc0
  have HB := Aside0.mk (Below.refl w.heap.size w)
  have H : (if (l0.length : Int) < 1 then (arena_Fits.j0 k l0 true) else (if (l0.length : Int) > 16 then (arena_Fits.j0 k l0 true) else (if 0 < (l0.length : Int) then (arena_Fits.j0 k l0 (decide ((rd l0 0) < 1))) else (none)))) = some r := h
  clear h
  have HC2 := Aside0.mk H
  clear H
  go_enter Try.func20, Try.ntmps20
  go_upto_region 1 with (fail)
  go_cut [21] (fun v21 wc => ∃ (kq : Nat) (x21_1 : Bool), v21 = .bool x21_1 ∧ Aside0 (arena_Fits.j0 kq l0 x21_1 = some r) ∧ Aside0 (kq ≤ k) ∧ Aside0 (Below w.heap.size w wc))
  case first =>
    have H := HC2.out
    clear HC2
    by_cases c3 : (l0.length : Int) < 1
    · rw [if_pos c3] at H
      have c3b0 : decide ((l0.length : Int) < 1) = true := decide_eq_true c3
      have c3b1 : decide (l0.length < 1) = true := decide_eq_true (by omega)
      clear c3
      (first | rw [c3b0] | (simp only [i64_w, i32_w]; rw [c3b0]) | skip)
      have H' := Aside0.mk H
      clear H
      go_wp2
      go_meet
      case rel => exact ⟨_, (true), (by first | rfl | (simp; done) | (simp [*]; done)), H', ⟨by first | omega | exact Nat.le_refl _⟩, ⟨by repeat (first | (with_reducible first | exact HB.out | apply below_alloc | apply pw_below_drewN | apply below_drew1) | exact HB.out)⟩⟩
    · rw [if_neg c3] at H
      have c3b0 : decide ((l0.length : Int) < 1) = false := decide_eq_false c3
      have c3b1 : decide (l0.length < 1) = false := decide_eq_false (by omega)
      clear c3
      (first | rw [c3b0] | (simp only [i64_w, i32_w]; rw [c3b0]) | skip)
      by_cases c4 : (l0.length : Int) > 16
      · rw [if_pos c4] at H
        have c4b0 : decide (16 < (l0.length : Int)) = true := decide_eq_true c4
        have c4b1 : decide (16 < l0.length) = true := decide_eq_true (by omega)
        clear c4
        have H' := Aside0.mk H
        clear H
        go_wp2
        go_meet
        case rel => exact ⟨_, (true), (by first | rfl | (simp; done) | (simp [*]; done)), H', ⟨by first | omega | exact Nat.le_refl _⟩, ⟨by repeat (first | (with_reducible first | exact HB.out | apply below_alloc | apply pw_below_drewN | apply below_drew1) | exact HB.out)⟩⟩
      · rw [if_neg c4] at H
        have c4b0 : decide (16 < (l0.length : Int)) = false := decide_eq_false c4
        have c4b1 : decide (16 < l0.length) = false := decide_eq_false (by omega)
        clear c4
        by_cases c5 : 0 < (l0.length : Int)
        · rw [if_pos c5] at H
          have c5b0 : decide (0 < (l0.length : Int)) = true := decide_eq_true c5
          have c5b1 : decide (0 < l0.length) = true := decide_eq_true (by omega)
          clear c5
          have H' := Aside0.mk H
          clear H
          have p101 : 0 ≤ (0 : Int) := (by omega)
          have q101 : 0 < (l0.length : Int) := of_decide_eq_true (by first | (with_reducible assumption) | assumption)
          obtain ⟨ad101, e101, hx101_0⟩ := Kd.at_int HR0.out 0 p101 q101
          cases e101
          have qi101 : (0 < l0.length) = True := eq_true (by omega)
          (try rw [show ((0 : Int)).toNat = 0 from rfl] at hx101_0)
          (try rw [Addr.add_zero'] at hx101_0)
          replace hx101_0 := (HB.out.cell (World.block_lt_of_cell? w _ hx101_0)).trans hx101_0
          replace p101 := eq_true p101
          replace q101 := eq_true q101
          go_wp2
          go_meet
          case rel => exact ⟨_, (decide ((rd l0 0) < 1)), (by first | rfl | (simp; done) | (simp [*]; done)), H', ⟨by first | omega | exact Nat.le_refl _⟩, ⟨by repeat (first | (with_reducible first | exact HB.out | apply below_alloc | apply pw_below_drewN | apply below_drew1) | exact HB.out)⟩⟩
        · rw [if_neg c5] at H
          exact absurd H (by simp)
  case rest =>
    clear HC2
    try clear p1
    try clear q1
    try clear hx1
    try clear qi1
    try clear c2
    try clear p2
    try clear c3
    try clear c3b0
    try clear c3b1
    try clear c4
    try clear c4b0
    try clear c4b1
    try clear c5
    try clear c5b0
    try clear c5b1
    try clear hx101_0
    try clear p101
    try clear q101
    obtain ⟨kq, x21_1, rfl, HA, HJ1, HB⟩ := hcut
    cases kq with
    | zero => exact absurd HA.out (by simp [arena_Fits.j0])
    | succ kj1 =>
      have H := HA.out
      clear HA
      simp only [arena_Fits.j0] at H
      by_cases c6 : x21_1 = true
      · subst c6
        have H1 : (some false) = some r := by rw [if_pos rfl] at H; exact H
        clear H
        have H := H1
        clear H1
        obtain rfl := Option.some.inj H
        go_wp2
        go_ret
        exact ⟨by first | rfl | (simp [errW_none, errW_some] <;> rfl) | (simp [*, errW_none, errW_some] <;> rfl), by repeat (first | (with_reducible first | exact HB.out | apply below_alloc | apply pw_below_drewN | apply below_drew1) | exact HB.out)⟩
      · replace c6 := Bool.eq_false_iff.mpr c6
        subst c6
        have H1 : (arena_Fits.l0 kj1 0 l0 (l0.length : Int) 0) = some r := by rw [if_neg (show ¬ (false = true) by decide)] at H; exact H
        clear H
        have H := H1
        clear H1
        have H' := Aside0.mk H
        clear H
        go_wp2
        go_loopg [3, 24] kj1 (fun kq v3 v24 w' => ∃ (x3_2 : Int) (x24_2 : Int), v3 = .int .i64 x3_2 ∧ v24 = .int .i64 x24_2 ∧ Aside0 (arena_Fits.l0 kq x3_2 l0 (l0.length : Int) x24_2 = some r) ∧ Aside0 (kq ≤ kj1) ∧ Aside0 (Below w.heap.size w w'))
        case atStart => exact ⟨(0), (0), (by first | rfl | (simp; done) | (simp [*]; done)), (by first | rfl | (simp; done) | (simp [*]; done)), H', ⟨Nat.le_refl _⟩, ⟨by repeat (first | (with_reducible first | exact HB.out | apply below_alloc | apply pw_below_drewN | apply below_drew1) | exact HB.out)⟩⟩
        case round =>
          clear H'
          try clear p1
          try clear q1
          try clear hx1
          try clear qi1
          try clear c2
          try clear p2
          try clear c3
          try clear c3b0
          try clear c3b1
          try clear c4
          try clear c4b0
          try clear c4b1
          try clear c5
          try clear c5b0
          try clear c5b1
          try clear c6
          try clear hx101_0
          try clear p1
          try clear p101
          try clear p2
          try clear q1
          try clear q101
          obtain ⟨x3_2, x24_2, rfl, rfl, HA, HK2, HB⟩ := hrel
          cases gk with
          | zero => exact absurd HA.out (by simp [arena_Fits.l0])
          | succ k2 =>
            have H := HA.out
            clear HA
            simp only [arena_Fits.l0] at H
            by_cases c7 : x24_2 < (l0.length : Int)
            · rw [if_pos c7] at H
              have c7b0 : decide (x24_2 < (l0.length : Int)) = true := decide_eq_true c7
              clear c7
              by_cases c8 : 0 ≤ x24_2
              · rw [if_pos c8] at H
                have c8b0 : decide (0 ≤ x24_2) = true := decide_eq_true c8
                clear c8
                by_cases c9 : x24_2 < (l0.length : Int)
                · rw [if_pos c9] at H
                  have c9b0 : decide (x24_2 < (l0.length : Int)) = true := decide_eq_true c9
                  clear c9
                  replace H := Option.bind_eq_some_iff.mp H
                  obtain ⟨⟨t103, t104⟩, A100, H⟩ := H
                  replace H : (if t104 = true then (arena_Fits.l0 k2 t103 l0 (l0.length : Int) (wrap64 (x24_2 + 1))) else (some false)) = some r := H
                  have A10 := Aside0.mk A100
                  clear A100
                  by_cases c11 : t104 = true
                  · subst c11
                    have H1 : (arena_Fits.l0 k2 t103 l0 (l0.length : Int) (wrap64 (x24_2 + 1))) = some r := by rw [if_pos rfl] at H; exact H
                    clear H
                    have H := H1
                    clear H1
                    have H' := Aside0.mk H
                    clear H
                    have p102 : 0 ≤ (x24_2 : Int) := of_decide_eq_true (by first | (with_reducible assumption) | assumption)
                    have q102 : x24_2 < (l0.length : Int) := of_decide_eq_true (by first | (with_reducible assumption) | assumption)
                    obtain ⟨ad102, e102, hx102_0⟩ := Kd.at_int HR0.out x24_2 p102 q102
                    cases e102
                    replace hx102_0 := (HB.out.cell (World.block_lt_of_cell? w _ hx102_0)).trans hx102_0
                    replace p102 := eq_true p102
                    replace q102 := eq_true q102
                    go_wp2_with (first | ((with_reducible refine gate_callee (f := 53) rfl ?_); refine goesL_ (some 31) rfl rfl Try.func53 (by kernel_rfl) rfl #[.int .i64 x3_2, .int .i64 (rd l0 x24_2), .int .i64 4096] rfl (by (try simp only [List.map_toArray, List.map_cons, List.map_nil]); first | done | rfl | (simp only [List.length_drop, List.length_take]; rfl)) ?_; (with_reducible refine (word_Add.calls x3_2 (rd l0 x24_2) 4096 t103 true _ A10.out).mono ?_); rintro e w12 ⟨rfl, hb⟩; refine ⟨_, rfl, ?_⟩; have n0_ := Aside0.mk (below_step (by repeat (first | (with_reducible first | exact HB.out | apply below_alloc | apply pw_below_drewN | apply below_drew1) | exact HB.out)) hb); clear HB; have HB := n0_; clear n0_; (try clear hb); (try clear hb2); (try clear hk); (try clear hi)))
                    go_roundg k2
                    case measure => have := HJ1.out; have := HK2.out; omega
                    case rel => exact ⟨(t103), (wrap64 (x24_2 + 1)), (by first | rfl | (simp; done) | (simp [*]; done)), (by first | rfl | (simp; done) | (simp [*]; done)), H', ⟨by have := HJ1.out; have := HK2.out; omega⟩, ⟨by repeat (first | (with_reducible first | exact HB.out | apply below_alloc | apply pw_below_drewN | apply below_drew1) | exact HB.out)⟩⟩
                  · replace c11 := Bool.eq_false_iff.mpr c11
                    subst c11
                    have H1 : (some false) = some r := by rw [if_neg (show ¬ (false = true) by decide)] at H; exact H
                    clear H
                    have H := H1
                    clear H1
                    obtain rfl := Option.some.inj H
                    have p102 : 0 ≤ (x24_2 : Int) := of_decide_eq_true (by first | (with_reducible assumption) | assumption)
                    have q102 : x24_2 < (l0.length : Int) := of_decide_eq_true (by first | (with_reducible assumption) | assumption)
                    obtain ⟨ad102, e102, hx102_0⟩ := Kd.at_int HR0.out x24_2 p102 q102
                    cases e102
                    replace hx102_0 := (HB.out.cell (World.block_lt_of_cell? w _ hx102_0)).trans hx102_0
                    replace p102 := eq_true p102
                    replace q102 := eq_true q102
                    go_wp2_with (first | ((with_reducible refine gate_callee (f := 53) rfl ?_); refine goesL_ (some 31) rfl rfl Try.func53 (by kernel_rfl) rfl #[.int .i64 x3_2, .int .i64 (rd l0 x24_2), .int .i64 4096] rfl (by (try simp only [List.map_toArray, List.map_cons, List.map_nil]); first | done | rfl | (simp only [List.length_drop, List.length_take]; rfl)) ?_; (with_reducible refine (word_Add.calls x3_2 (rd l0 x24_2) 4096 t103 false _ A10.out).mono ?_); rintro e w13 ⟨rfl, hb⟩; refine ⟨_, rfl, ?_⟩; have n0_ := Aside0.mk (below_step (by repeat (first | (with_reducible first | exact HB.out | apply below_alloc | apply pw_below_drewN | apply below_drew1) | exact HB.out)) hb); clear HB; have HB := n0_; clear n0_; (try clear hb); (try clear hb2); (try clear hk); (try clear hi)))
                    go_ret
                    exact ⟨by first | rfl | (simp [errW_none, errW_some] <;> rfl) | (simp [*, errW_none, errW_some] <;> rfl), by repeat (first | (with_reducible first | exact HB.out | apply below_alloc | apply pw_below_drewN | apply below_drew1) | exact HB.out)⟩
                · rw [if_neg c9] at H
                  exact absurd H (by simp)
              · rw [if_neg c8] at H
                exact absurd H (by simp)
            · rw [if_neg c7] at H
              have c7b0 : decide (x24_2 < (l0.length : Int)) = false := decide_eq_false c7
              clear c7
              obtain rfl := Option.some.inj H
              go_wp2
              go_ret
              exact ⟨by first | rfl | (simp [errW_none, errW_some] <;> rfl) | (simp [*, errW_none, errW_some] <;> rfl), by repeat (first | (with_reducible first | exact HB.out | apply below_alloc | apply pw_below_drewN | apply below_drew1) | exact HB.out)⟩

end Go.Proofs.Ythlhnodedofibaa.F
end

section
namespace Go.Proofs.Ythlhnodedofibaa.F
open Go.RowKit Go.Proofs.YthlhnodedofibaaW.PrintWords Go.Proofs.YthlhnodedofibaaW.PrintLast Go.Proofs.YthlhnodedofibaaW.PrintMore
attribute [local go_sem] max2_int min2_int max_two min_two max_three min_three max_four min_four   -- for this text's walks alone
set_option linter.unusedVariables false
set_option linter.unusedSimpArgs false

open Go.Proofs.Ythlhnodedofibaa.H
def arena_Fits_c.f (l0 : List Int) : Option Bool := some (fitsB l0)
theorem word_Add.at_ (n x : Int) (h0 : 0 ≤ n) (h1 : n ≤ 4096) : word_Add.f n x 4096 = some (if x < 0 then (0, false) else if x > 4096 - n then (0, false) else (n + x, true)) := by
  have hw : wrap64 (4096 - n) = 4096 - n := by unfold wrap64; omega
  unfold word_Add.f mn
  rw [hw]
  by_cases hx : x < 0
  · rw [if_pos hx, if_pos (by split <;> omega)]
  · rw [if_neg (by split <;> omega), if_neg (by omega), if_neg hx]
    by_cases h2 : x > 4096 - n
    · rw [if_pos h2, if_pos h2]
    · rw [if_neg h2, if_neg h2, show wrap64 (n + x) = n + x from by unfold wrap64; omega]
theorem arena_Fits.l0_to (l : List Int) (hl : l.length ≤ 1000000) : ∀ (d i : Nat) (n : Int), l.length - i = d → i ≤ l.length → 0 ≤ n → n ≤ 4096 → ∃ k, arena_Fits.l0 k n l (l.length : Int) (i : Int) = some (restB n (l.drop i))
  | 0, i, n, hd, hi, h0, h1 => ⟨1, by simp only [arena_Fits.l0]; rw [if_neg (by omega), List.drop_of_length_le (by omega)]; simp [restB, h1]⟩
  | d + 1, i, n, hd, hi, h0, h1 => by
    have hlt : i < l.length := by omega
    have hr : rd l i = l[i] := getD_toNat l 0 i hlt
    have hr' : ((l.length : Int) > (i : Int)) := by omega
    by_cases hx : l[i] < 0
    · refine ⟨1, ?_⟩
      simp only [arena_Fits.l0]
      rw [if_pos (by omega), if_pos (by omega), if_pos (by omega), hr, word_Add.at_ _ _ h0 h1, drop_at l i hlt, restB_cons, if_pos hx, if_pos hx]
      rfl
    · by_cases h2 : l[i] > 4096 - n
      · refine ⟨1, ?_⟩
        simp only [arena_Fits.l0]
        rw [if_pos (by omega), if_pos (by omega), if_pos (by omega), hr, word_Add.at_ _ _ h0 h1, drop_at l i hlt, restB_cons, if_neg hx, if_neg hx, if_pos h2, if_pos h2]
        rfl
      · obtain ⟨k, hk⟩ := arena_Fits.l0_to l hl d (i + 1) (n + l[i]) (by omega) (by omega) (by omega) (by omega)
        refine ⟨k + 1, ?_⟩
        simp only [arena_Fits.l0]
        rw [if_pos (by omega), if_pos (by omega), if_pos (by omega), hr, word_Add.at_ _ _ h0 h1, drop_at l i hlt, restB_cons, if_neg hx, if_neg hx, if_neg h2, if_neg h2]
        simp only [Option.bind_some, if_true]
        rw [show wrap64 ((i : Int) + 1) = ((i + 1 : Nat) : Int) from by unfold wrap64; omega, hk]
theorem arena_Fits_c.to {l0 : List Int} {r : Bool} (h : arena_Fits_c.f l0 = some r) : ∃ k, arena_Fits.f k l0 = some r := by
  obtain rfl := Option.some.inj h
  unfold arena_Fits.f fitsB
  by_cases h1 : (l0.length : Int) < 1
  · have e : decide (1 ≤ l0.length) = false := decide_eq_false (by omega)
    exact ⟨1, by rw [if_pos h1, e]; simp [arena_Fits.j0]⟩
  · have e : decide (1 ≤ l0.length) = true := decide_eq_true (by omega)
    by_cases h2 : (l0.length : Int) > 16
    · have e2 : decide (l0.length ≤ 16) = false := decide_eq_false (by omega)
      exact ⟨1, by rw [if_neg h1, if_pos h2, e, e2]; simp [arena_Fits.j0]⟩
    · have e2 : decide (l0.length ≤ 16) = true := decide_eq_true (by omega)
      have hr : rd l0 0 = l0.getD 0 0 := rfl
      by_cases h3 : l0.getD 0 0 < 1
      · have e3 : decide (1 ≤ l0.getD 0 0) = false := decide_eq_false (by omega)
        exact ⟨1, by rw [if_neg h1, if_neg h2, if_pos (by omega), e, e2, e3, hr, decide_eq_true h3]; simp [arena_Fits.j0]⟩
      · have e3 : decide (1 ≤ l0.getD 0 0) = true := decide_eq_true (by omega)
        obtain ⟨k, hk⟩ := arena_Fits.l0_to l0 (by omega) l0.length 0 0 (by omega) (by omega) (by omega) (by omega)
        refine ⟨k + 1, ?_⟩
        rw [if_neg h1, if_neg h2, if_pos (by omega), e, e2, e3, hr, decide_eq_false h3]
        simp only [arena_Fits.j0, Bool.true_and]
        simpa using hk

theorem arena_Fits_c.calls (A0 : Option Addr) (c0 : Nat) (l0 : List Int) (r : Bool) (w : World) (hr0 : Kd.C (Kd.int .i64) w A0 l0.length l0) (hc0 : l0.length ≤ c0) (h : arena_Fits_c.f l0 = some r) :
    Calls Try.prog 20 #[.slice A0 l0.length c0] w fun e w' => e = .returned (.bool r) ∧ Below w.heap.size w w' := by
  obtain ⟨k_, hk_⟩ := arena_Fits_c.to h
  exact arena_Fits.calls k_ A0 c0 l0 r w hr0 hc0 hk_

end Go.Proofs.Ythlhnodedofibaa.F
end

section
namespace Go.Proofs.Ythlhnodedofibaa.F
open Go.RowKit Go.Proofs.YthlhnodedofibaaW.PrintWords Go.Proofs.YthlhnodedofibaaW.PrintLast Go.Proofs.YthlhnodedofibaaW.PrintMore
attribute [local go_sem] max2_int min2_int max_two min_two max_three min_three max_four min_four   -- for this text's walks alone
set_option linter.unusedVariables false
set_option linter.unusedSimpArgs false

open Go.Proofs.Ythlhnodedofibaa.H
/-! ### arena_Place: given -/
def arena_Place.f (l0 : List Int) (a1 a2 : Int) : Option Int := some (placeL l0 a1 a2)
theorem within_at (l : List Int) (seg at_ : Int) (hf : fitsB l = true) : arena_Within.f l seg at_ 1 = some (withinB l seg at_ 1) := by
  obtain ⟨_, h16, _, hnn, hsum⟩ := fitsB_at hf
  unfold arena_Within.f withinB
  by_cases h1 : seg < 0
  · rw [if_pos h1, decide_eq_false (by omega : ¬ 0 ≤ seg)]; simp
  · rw [if_neg h1, decide_eq_true (by omega : 0 ≤ seg)]
    by_cases h2 : seg ≥ (l.length : Int)
    · rw [if_pos h2, decide_eq_false (by omega : ¬ seg < (l.length : Int))]; simp
    · rw [if_neg h2, if_pos (by omega), if_pos (by omega), decide_eq_true (by omega : seg < (l.length : Int))]
      have hlt : seg.toNat < l.length := by omega
      have hr : rd l seg = l.getD seg.toNat 0 := rfl
      have hg : l.getD seg.toNat 0 = l[seg.toNat] := by simp [List.getD_eq_getElem?_getD, List.getElem?_eq_getElem hlt]
      have hx := hnn _ (List.getElem_mem hlt)
      have hx2 := mem_le_sum hnn seg.toNat hlt
      rw [hr, hg]
      unfold word_Add.f mn
      by_cases h3 : at_ < 0
      · rw [if_pos (by split <;> omega), decide_eq_false (by omega : ¬ 0 ≤ at_)]; simp
      · rw [if_neg (by split <;> omega), decide_eq_true (by omega : 0 ≤ at_)]
        by_cases h4 : at_ > l[seg.toNat]
        · rw [if_pos h4, decide_eq_false (by omega : ¬ at_ + 1 ≤ l[seg.toNat])]; simp
        · rw [if_neg h4, show wrap64 (l[seg.toNat] - at_) = l[seg.toNat] - at_ from by unfold wrap64; omega]
          by_cases h5 : (1 : Int) > l[seg.toNat] - at_
          · rw [if_pos h5, decide_eq_false (by omega : ¬ at_ + 1 ≤ l[seg.toNat])]; simp
          · rw [if_neg h5, decide_eq_true (by omega : at_ + 1 ≤ l[seg.toNat])]; simp
set_option maxHeartbeats 1000000 in
set_option maxRecDepth 100000 in
theorem arena_Place.calls (A0 : Option Addr) (c0 : Nat) (l0 : List Int) (a1 a2 : Int) (r : Int) (w : World) (hr0 : Kd.C (Kd.int .i64) w A0 l0.length l0) (hc0 : l0.length ≤ c0) (h : arena_Place.f l0 a1 a2 = some r) :
    Calls Try.prog 35 #[.slice A0 l0.length c0, .int .i64 a1, .int .i64 a2] w fun e w' => e = .returned (.int .i64 r) ∧ Below w.heap.size w w' := by
  obtain rfl := Option.some.inj h
  clear h
  by_cases hf : fitsB l0 = true
  · obtain ⟨_, h16, _, hnn, hsum⟩ := fitsB_at hf
    by_cases hw : withinB l0 a1 a2 1 = true
    · have hpl : placeL l0 a1 a2 = a2 + (l0.take a1.toNat).sum := by unfold placeL; rw [if_pos ⟨hf, hw⟩]
      have hwi : arena_Within.f l0 a1 a2 1 = some true := by rw [within_at l0 a1 a2 hf, hw]
      have hfi : arena_Fits_c.f l0 = some true := by unfold arena_Fits_c.f; rw [hf]
      simp only [withinB, Bool.and_eq_true, decide_eq_true_eq] at hw
      obtain ⟨⟨⟨⟨w1, w2⟩, w3⟩, _⟩, w4⟩ := hw
      obtain ⟨s, rfl⟩ := Int.eq_ofNat_of_zero_le w1
      rw [Int.toNat_natCast] at w4 hpl
      have hs : s < l0.length := by omega
      have hat : a2 ≤ 4096 := by
        have := mem_le_sum hnn s hs
        rw [List.getD_eq_getElem?_getD, List.getElem?_eq_getElem hs] at w4
        simp at w4; omega
      have hz : ∀ i, i ≤ s → 0 ≤ (l0.take i).sum ∧ (l0.take i).sum ≤ 4096 := fun i _ => ⟨sum_nonneg' (fun x hx => hnn x (List.mem_of_mem_take hx)), by have := sum_take_le hnn i; omega⟩
      have HZ : Hid _ := hz
      have HPL : Hid _ := hpl
      clear hz hpl w1 w4 hsum hf
      go_enter Try.func35, Try.ntmps35
      go_wp2_with (first | (go_at_call 20; refine (arena_Fits_c.calls A0 c0 l0 true _ (Kd.C_below hr0 (by first | exact Below.refl _ _ | assumption)) hc0 hfi).mono ?_; rintro e w1 ⟨rfl, hb1⟩) | (go_at_call 62; refine (arena_Within.calls A0 c0 l0 (s : Int) a2 1 true _ (Kd.C_below hr0 (by assumption)) hc0 hwi).mono ?_; rintro e w2 ⟨rfl, hb2⟩))
      have hbb : Below w.heap.size w w2 := below_then hb1 hb1.size hb2
      go_loop [2, 23] (fun v vi => ∃ k : Nat, k ≤ s ∧ vi = .int .i64 k ∧ v = .int .i64 (a2 + (l0.take k).sum)) (fun _ vi => s - (intOf vi).toNat)
      case atStart => exact ⟨0, Nat.zero_le _, rfl, by simp⟩
      case round =>
        obtain ⟨k, hk, rfl, rfl⟩ := hrel
        by_cases hlt : k < s
        · obtain ⟨ad, hA, hcx⟩ := ReadsInt.at_ (Kd.reads_of_C (d := (0 : Int)) (Kd.C_below hr0 hbb)) (k : Int) (by omega) (by omega)
          rw [Int.toNat_natCast, show rd l0 (k : Int) = l0[k] from getD_toNat l0 0 k (by omega)] at hcx
          subst hA
          have h1 := HZ.out k (by omega)
          have h2 := HZ.out (k + 1) (by omega)
          have hts := sum_take_succ l0 k (by omega)
          obtain ⟨x, hx⟩ : ∃ x, l0[k] = x := ⟨_, rfl⟩
          rw [hx] at hcx hts
          have hb3 : -9223372036854775808 ≤ a2 + (l0.take k).sum + x ∧ a2 + (l0.take k).sum + x ≤ 9223372036854775807 := by omega
          have HT : Hid _ := hts
          obtain ⟨hb4, hb5⟩ := hb3
          clear hts h1 h2 hx
          go_wp2
          go_round
          case rel => exact ⟨k + 1, by omega, by go_num, by rw [HT.out]; congr 1; omega⟩
          case measure => simp [intOf]; omega
        · obtain rfl : k = s := by omega
          go_wp2
          go_ret
          exact ⟨congrArg (fun z => Ending.returned (Value.int .i64 z)) HPL.out.symm, hbb⟩
    · have hpl : placeL l0 a1 a2 = -1 := by unfold placeL; rw [if_neg (fun h => hw h.2)]
      have hwi : arena_Within.f l0 a1 a2 1 = some false := by rw [within_at l0 a1 a2 hf]; simpa using hw
      have hfi : arena_Fits_c.f l0 = some true := by unfold arena_Fits_c.f; rw [hf]
      rw [hpl]
      clear hpl hw hf hsum
      go_enter Try.func35, Try.ntmps35
      go_wp2_with (first | (go_at_call 20; refine (arena_Fits_c.calls A0 c0 l0 true _ (Kd.C_below hr0 (by first | exact Below.refl _ _ | assumption)) hc0 hfi).mono ?_; rintro e w1 ⟨rfl, hb1⟩) | (go_at_call 62; refine (arena_Within.calls A0 c0 l0 a1 a2 1 false _ (Kd.C_below hr0 (by assumption)) hc0 hwi).mono ?_; rintro e w2 ⟨rfl, hb2⟩))
      go_ret
      exact ⟨rfl, below_then hb1 hb1.size hb2⟩
  · have hpl : placeL l0 a1 a2 = -1 := by unfold placeL; rw [if_neg (fun h => hf h.1)]
    have hfi : arena_Fits_c.f l0 = some false := by unfold arena_Fits_c.f; simpa using hf
    rw [hpl]
    clear hpl hf
    go_enter Try.func35, Try.ntmps35
    go_wp2_with (go_at_call 20; refine (arena_Fits_c.calls A0 c0 l0 false _ hr0 hc0 hfi).mono ?_; rintro e w1 ⟨rfl, hb1⟩)
    go_ret
    exact ⟨rfl, hb1⟩

end Go.Proofs.Ythlhnodedofibaa.F
end

section
namespace Go.Proofs.Ythlhnodedofibaa.F
open Go.RowKit Go.Proofs.YthlhnodedofibaaW.PrintWords Go.Proofs.YthlhnodedofibaaW.PrintLast Go.Proofs.YthlhnodedofibaaW.PrintMore
attribute [local go_sem] max2_int min2_int max_two min_two max_three min_three max_four min_four   -- for this text's walks alone
set_option linter.unusedVariables false
set_option linter.unusedSimpArgs false

open Go.Shelf Go.Proofs.Ythlhnodedofibaa.H
attribute [local go_sem] Oper.semAt_some
/-! ### arena_Words: given -/
def arena_Words.f (l0 : List (List Int)) : Option Int := if l0.length ≤ 1000000 ∧ wordsL l0 ≤ 1000000 then some (wordsL l0 : Int) else none
set_option maxHeartbeats 1000000 in
set_option maxRecDepth 100000 in
theorem arena_Words.calls (A0 : Option Addr) (c0 : Nat) (l0 : List (List Int)) (r : Int) (w : World) (hr0 : Kd.C (Kd.slice 42 (Kd.int .u64)) w A0 l0.length l0) (hc0 : l0.length ≤ c0) (h : arena_Words.f l0 = some r) :
    Calls Try.prog 36 #[.slice A0 l0.length c0] w fun e w' => e = .returned (.int .i64 r) ∧ Below w.heap.size w w' := by
  unfold arena_Words.f at h
  split at h
  case isFalse => cases h
  case isTrue hb =>
  obtain rfl := Option.some.inj h
  clear h
  obtain ⟨ha, hw⟩ := hb
  unfold wordsL at hw ⊢
  refine (callsIn_wide (n := 10)).1 ?_
  refine callsIn_of_wp_marks Try.func36 rfl trivial ?_ rfl
  simp only [Try.ntmps36, List.size_toArray, List.length_cons, List.length_nil, Nat.reduceAdd, Nat.reduceSub, Array.replicate_succ, Array.replicate_zero, List.push_toArray, List.append_toArray, List.nil_append, List.cons_append]
  gi_wp2_with (refine ⟨trivial, ?_⟩; gi_at_call 50; refine (words_in _ _ _ _).mono ?_; rintro e w' ⟨rfl, rfl⟩)
  have bN := Boxed.new w 3 (.int .i64 0)
  have bS := Boxed.new (w.alloc (.cells #[.int .i64 0] 3)) 26 (.slice A0 l0.length c0)
  rw [World.size_alloc] at bS
  have hB0 : Below w.heap.size w ((w.alloc (.cells #[.int .i64 0] 3)).alloc (.cells #[.slice A0 l0.length c0] 26)) := ((Below.refl _ w).alloc (Nat.le_refl _) _).alloc (by simp) _
  refine wpIn_rangeFunc_ownG (F := Fence.wide) (n := 10) rfl (by omega) (gf := 72) (lb := #[.pointer (some ⟨w.heap.size + 1, 0, none⟩)]) rfl trivial (enters_of Try.func72 (by kernel_rfl) rfl)
    (encs := fun x : Int × Int => #[.int .i64 x.1, .int .u64 x.2]) (Kp := Kset (w.heap.size + 2) (fun k => k = w.heap.size)) (S := fun ys => ys = upW l0.flatten l0.flatten.length) (Sp := fun _ => True) (N := l0.flatten.length)
    (w0 := (w.alloc (.cells #[.int .i64 0] 3)).alloc (.cells #[.slice A0 l0.length c0] 26)) ?seq ksetK_t (ksetK_b (by simp)) (Below.refl _ _) (fun _ => rfl)
    (fun pre W => Boxed W w.heap.size 3 (.int .i64 (pre.length : Int)) ∧ Kset (w.heap.size + 2) (fun k => k = w.heap.size) ((w.alloc (.cells #[.int .i64 0] 3)).alloc (.cells #[.slice A0 l0.length c0] 26)) W)
    (fun _ _ _ => False) ?own (fun _ _ _ _ _ hs _ _ => hs) ?start
    (fun x => { tmps := #[.slice A0 l0.length c0, undef, .int .i64 0, .pointer (some ⟨w.heap.size, 0, none⟩), .slice A0 l0.length c0, .func (.func 72) #[] #[.pointer (some ⟨w.heap.size + 1, 0, none⟩)], .int .i64 x.1, .int .u64 x.2, undef, undef, undef], defers := [] }) ?assign ?body ?done ?stop
  case seq =>
    intro l J Jx W hW hJ hJx hY h0
    refine (words1_in l (w.heap.size + 1) (w.heap.size + 2) (fun k => k = w.heap.size) A0 c0 l0 ha hw J Jx hY W w ((hW.cell (p := ⟨w.heap.size + 1, 0, none⟩) (by simp)).trans bS.cell) hr0 (fun W' hk => (hB0.trans (hW.mono (by simp; omega))).trans (hk.below (by omega) (fun k e => by omega))) h0).mono ?_
    rintro e W' ⟨he, ⟨ys, rfl, hj⟩ | ⟨pre, _, hj⟩⟩
    · exact ⟨he, .inl ⟨_, rfl, hj⟩⟩
    · exact ⟨he, .inr ⟨_, trivial, hj⟩⟩
  case own => exact OwnFrom.and (Own.from (boxed_own _ _ _) _) (ownFrom_kset (by simp) (by simp))
  case start => exact ⟨bN.alloc _, Kset.refl _ _ _⟩
  case assign =>
    intro l x W K hK
    gi_wp2
    simpa using hK
  case body =>
    rintro l pre x W ⟨hb, hk⟩ hlen
    have hc := hb.cell
    have hf := hb.frozen
    have hpl : pre.length ≤ 1000000 := by omega
    gi_wp2
    exact ⟨(KeepsOthers.setCell _ _ _).from _, Kset.setCell (B := w.heap.size + 2) (S := fun k => k = w.heap.size) (Kset.refl _ _ _) (p := ⟨w.heap.size, 0, none⟩) (.inl rfl) _, by have := hb.set (.int .i64 ((pre.length : Int) + 1)); simpa using this, hk.setCell (p := ⟨w.heap.size, 0, none⟩) (.inl rfl) _⟩
  case done =>
    rintro D ys W hD rfl ⟨hb, hk⟩ hK
    have hc := hb.cell
    gi_wp2
    refine ⟨by simp, .inl ⟨_, _, rfl, run_takeDeferred hK, ?_⟩⟩
    refine ⟨_, results_tmp rfl _ _ _, ?_, ?_⟩
    · simp [upW_length]
    · exact (hB0.trans (hk.below (by omega) (fun k e => by omega))).trans (belowK_b (w := w) (Nat.le_refl _) W D _ _ (by simp at hD; omega) hK rfl rfl)
  case stop =>
    rintro D c pre W _ _ h _
    exact h.elim

end Go.Proofs.Ythlhnodedofibaa.F
end

section
namespace Go.Proofs.Ythlhnodedofibaa.F
open Go.RowKit Go.Proofs.YthlhnodedofibaaW.PrintWords Go.Proofs.YthlhnodedofibaaW.PrintLast Go.Proofs.YthlhnodedofibaaW.PrintMore
attribute [local go_sem] max2_int min2_int max_two min_two max_three min_three max_four min_four   -- for this text's walks alone
set_option linter.unusedVariables false
set_option linter.unusedSimpArgs false

/-! ### arena_Word: function 46 -/
def arena_Word.f (l0 : List (List Int)) (a1 : Int) (a2 : Int) : Option (Int × Int) := if a1 < 0 then (some (0, 20)) else (if a1 ≥ (l0.length : Int) then (some (0, 20)) else (if a2 < 0 then (some (0, 20)) else (if 0 ≤ a1 then (if a1 < (l0.length : Int) then (if a2 ≥ ((rd_L1 l0 a1).length : Int) then (some (0, 20)) else (if 0 ≤ a2 then (if a2 < ((rd_L1 l0 a1).length : Int) then (some (rd (rd_L1 l0 a1) a2, 0)) else (none)) else (none))) else (none)) else (none))))
set_option maxHeartbeats 8000000 in
set_option maxRecDepth 100000 in
theorem arena_Word.calls (A0 : Option Addr) (c0 : Nat) (l0 : List (List Int)) (a1 : Int) (a2 : Int) (r1 : Int) (r2 : Int) (w : World) (hr0 : Kd.C (Kd.slice 42 (Kd.int .u64)) w A0 l0.length l0) (hc0 : l0.length ≤ c0) (h : arena_Word.f l0 a1 a2 = some (r1, r2)) :
    Calls Try.prog 46 #[.slice A0 l0.length c0, .int .i64 a1, .int .i64 a2] w fun e w' => e = .returned (.tuple #[.int .u64 r1, .int .u16 r2]) ∧ Drawn0 w w' := by
  have HR0 := Aside0.mk hr0
  have HC0 := Aside0.mk hc0
  clear hr0 hc0
  have H : (if a1 < 0 then (some (0, 20)) else (if a1 ≥ (l0.length : Int) then (some (0, 20)) else (if a2 < 0 then (some (0, 20)) else (if 0 ≤ a1 then (if a1 < (l0.length : Int) then (if a2 ≥ ((rd_L1 l0 a1).length : Int) then (some (0, 20)) else (if 0 ≤ a2 then (if a2 < ((rd_L1 l0 a1).length : Int) then (some (rd (rd_L1 l0 a1) a2, 0)) else (none)) else (none))) else (none)) else (none))))) = some (r1, r2) := h
  clear h
  by_cases c4 : a1 < 0
  · rw [if_pos c4] at H
    have c4b0 : decide (a1 < 0) = true := decide_eq_true c4
    clear c4
    simp only [Option.some.injEq, Prod.mk.injEq] at H
    obtain ⟨rfl, rfl⟩ := H
    go_enter Try.func46, Try.ntmps46
    go_wp2
    go_ret2
    exact ⟨by first | rfl | (simp; done) | (simp [*]; done), by repeat (first | exact Drawn0.refl _ | apply Drawn0.step)⟩
  · rw [if_neg c4] at H
    have c4b0 : decide (a1 < 0) = false := decide_eq_false c4
    clear c4
    by_cases c5 : a1 ≥ (l0.length : Int)
    · rw [if_pos c5] at H
      have c5b0 : decide ((l0.length : Int) ≤ a1) = true := decide_eq_true c5
      clear c5
      simp only [Option.some.injEq, Prod.mk.injEq] at H
      obtain ⟨rfl, rfl⟩ := H
      go_enter Try.func46, Try.ntmps46
      go_wp2
      go_ret2
      exact ⟨by first | rfl | (simp; done) | (simp [*]; done), by repeat (first | exact Drawn0.refl _ | apply Drawn0.step)⟩
    · rw [if_neg c5] at H
      have c5b0 : decide ((l0.length : Int) ≤ a1) = false := decide_eq_false c5
      clear c5
      by_cases c6 : a2 < 0
      · rw [if_pos c6] at H
        have c6b0 : decide (a2 < 0) = true := decide_eq_true c6
        clear c6
        simp only [Option.some.injEq, Prod.mk.injEq] at H
        obtain ⟨rfl, rfl⟩ := H
        go_enter Try.func46, Try.ntmps46
        go_wp2
        go_ret2
        exact ⟨by first | rfl | (simp; done) | (simp [*]; done), by repeat (first | exact Drawn0.refl _ | apply Drawn0.step)⟩
      · rw [if_neg c6] at H
        have c6b0 : decide (a2 < 0) = false := decide_eq_false c6
        clear c6
        by_cases c7 : 0 ≤ a1
        · rw [if_pos c7] at H
          have c7b0 : decide (0 ≤ a1) = true := decide_eq_true c7
          clear c7
          by_cases c8 : a1 < (l0.length : Int)
          · rw [if_pos c8] at H
            have c8b0 : decide (a1 < (l0.length : Int)) = true := decide_eq_true c8
            clear c8
            by_cases c9 : a2 ≥ ((rd_L1 l0 a1).length : Int)
            · rw [if_pos c9] at H
              have c9b0 : decide (((rd_L1 l0 a1).length : Int) ≤ a2) = true := decide_eq_true c9
              clear c9
              simp only [Option.some.injEq, Prod.mk.injEq] at H
              obtain ⟨rfl, rfl⟩ := H
              have p101 : 0 ≤ (a1 : Int) := of_decide_eq_true (by first | (with_reducible assumption) | assumption)
              have q101 : a1 < (l0.length : Int) := of_decide_eq_true (by first | (with_reducible assumption) | assumption)
              obtain ⟨ad101, A101_0, c101_0, e101, hx101_0, hl101_0, hi101_0⟩ := at_L1 HR0.out a1 p101 q101
              cases e101
              have HR101_0 := Aside0.mk hi101_0
              have HC101_0 := Aside0.mk hl101_0
              clear hi101_0 hl101_0
              replace p101 := eq_true p101
              replace q101 := eq_true q101
              go_enter Try.func46, Try.ntmps46
              go_wp2
              go_ret2
              exact ⟨by first | rfl | (simp; done) | (simp [*]; done), by repeat (first | exact Drawn0.refl _ | apply Drawn0.step)⟩
            · rw [if_neg c9] at H
              have c9b0 : decide (((rd_L1 l0 a1).length : Int) ≤ a2) = false := decide_eq_false c9
              clear c9
              by_cases c10 : 0 ≤ a2
              · rw [if_pos c10] at H
                have c10b0 : decide (0 ≤ a2) = true := decide_eq_true c10
                clear c10
                by_cases c11 : a2 < ((rd_L1 l0 a1).length : Int)
                · rw [if_pos c11] at H
                  have c11b0 : decide (a2 < ((rd_L1 l0 a1).length : Int)) = true := decide_eq_true c11
                  clear c11
                  simp only [Option.some.injEq, Prod.mk.injEq] at H
                  obtain ⟨rfl, rfl⟩ := H
                  have p101 : 0 ≤ (a1 : Int) := of_decide_eq_true (by first | (with_reducible assumption) | assumption)
                  have q101 : a1 < (l0.length : Int) := of_decide_eq_true (by first | (with_reducible assumption) | assumption)
                  obtain ⟨ad101, A101_0, c101_0, e101, hx101_0, hl101_0, hi101_0⟩ := at_L1 HR0.out a1 p101 q101
                  cases e101
                  have HR101_0 := Aside0.mk hi101_0
                  have HC101_0 := Aside0.mk hl101_0
                  clear hi101_0 hl101_0
                  replace p101 := eq_true p101
                  replace q101 := eq_true q101
                  have p102 : 0 ≤ (a1 : Int) := of_decide_eq_true (by first | (with_reducible assumption) | assumption)
                  have q102 : a1 < (l0.length : Int) := of_decide_eq_true (by first | (with_reducible assumption) | assumption)
                  obtain ⟨ad102, A102_0, c102_0, e102, hx102_0, hl102_0, hi102_0⟩ := at_L1 HR0.out a1 p102 q102
                  obtain rfl : ad101 = ad102 := (by injection e102)
                  have HR102_0 := Aside0.mk hi102_0
                  have HC102_0 := Aside0.mk hl102_0
                  clear hi102_0 hl102_0
                  replace p102 := eq_true p102
                  replace q102 := eq_true q102
                  have ea_ := Option.some.inj (hx101_0.symm.trans hx102_0)
                  injection ea_ with ea_ en_ ec_
                  subst ea_
                  subst ec_
                  clear en_
                  have p103 : 0 ≤ (a2 : Int) := of_decide_eq_true (by first | (with_reducible assumption) | assumption)
                  have q103 : a2 < ((rd_L1 l0 a1).length : Int) := of_decide_eq_true (by first | (with_reducible assumption) | assumption)
                  obtain ⟨ad103, e103, hx103_0⟩ := Kd.at_int HR102_0.out a2 p103 q103
                  cases e103
                  replace p103 := eq_true p103
                  replace q103 := eq_true q103
                  go_enter Try.func46, Try.ntmps46
                  go_wp2
                  go_ret2
                  exact ⟨by first | rfl | (simp; done) | (simp [*]; done), by repeat (first | exact Drawn0.refl _ | apply Drawn0.step)⟩
                · rw [if_neg c11] at H
                  exact absurd H (by simp)
              · rw [if_neg c10] at H
                exact absurd H (by simp)
          · rw [if_neg c8] at H
            exact absurd H (by simp)
        · rw [if_neg c7] at H
          exact absurd H (by simp)

end Go.Proofs.Ythlhnodedofibaa.F
end

section
namespace Go.Proofs.Ythlhnodedofibaa.F
open Go.RowKit Go.Proofs.YthlhnodedofibaaW.PrintWords Go.Proofs.YthlhnodedofibaaW.PrintLast Go.Proofs.YthlhnodedofibaaW.PrintMore
attribute [local go_sem] max2_int min2_int max_two min_two max_three min_three max_four min_four   -- for this text's walks alone
set_option linter.unusedVariables false
set_option linter.unusedSimpArgs false

/-! ### arena_Sizes: function 19 -/
def arena_Sizes.l0 : Nat → List Int → List (List Int) → Int → Int → Option (List Int)
  | 0, _, _, _, _ => none
  | k + 1, x3, x6, x7, x8 => if x8 < x7 then (if 0 ≤ x8 then (if x8 < (x6.length : Int) then (if x3.length < 17592186044416 then (arena_Sizes.l0 k (x3 ++ [((rd_L1 x6 x8).length : Int)]) x6 x7 (wrap64 (x8 + 1))) else (none)) else (none)) else (none)) else (some x3)
def arena_Sizes.f (k : Nat) (l0 : List (List Int)) : Option (List Int) := arena_Sizes.l0 k ([] : List Int) l0 (l0.length : Int) 0
theorem arena_Sizes.mono_l : ∀ k, (∀ y0 y1 y2 y3, LeO (arena_Sizes.l0 k y0 y1 y2 y3) (arena_Sizes.l0 (k + 1) y0 y1 y2 y3))
  | 0 => fun _ _ _ _ r h => by simp [arena_Sizes.l0] at h
  | k + 1 => by
    have ih0 := arena_Sizes.mono_l k
    · intro y0 y1 y2 y3
      unfold arena_Sizes.l0
      repeat' first
      | (with_reducible exact ih0 _ _ _ _)
      | (with_reducible exact LeO.refl _)
      | (with_reducible exact LeO.none _)
      | (with_reducible refine LeO.ite ?_ ?_)
      | (with_reducible refine LeO.bind ?_ (fun _ => ?_))
      | exact ih0 _ _ _ _
      | exact LeO.none _
      | refine LeO.ite ?_ ?_
      | refine LeO.bind ?_ (fun _ => ?_)
theorem arena_Sizes.mono : ∀ a0 k, LeO (arena_Sizes.f k a0) (arena_Sizes.f (k + 1) a0) := by
  intro a0 k
  have ih0 := arena_Sizes.mono_l k
  unfold arena_Sizes.f
  repeat' first
      | (with_reducible exact ih0 _ _ _ _)
      | (with_reducible exact LeO.refl _)
      | (with_reducible exact LeO.none _)
      | (with_reducible refine LeO.ite ?_ ?_)
      | (with_reducible refine LeO.bind ?_ (fun _ => ?_))
      | exact ih0 _ _ _ _
      | exact LeO.none _
      | refine LeO.ite ?_ ?_
      | refine LeO.bind ?_ (fun _ => ?_)
set_option maxHeartbeats 8000000 in
set_option maxRecDepth 100000 in
theorem arena_Sizes.calls (k : Nat) (A0 : Option Addr) (c0 : Nat) (l0 : List (List Int)) (r : List Int) (w : World) (hr0 : Kd.C (Kd.slice 42 (Kd.int .u64)) w A0 l0.length l0) (hc0 : l0.length ≤ c0) (h : arena_Sizes.f k l0 = some r) :
    Calls Try.prog 19 #[.slice A0 l0.length c0] w fun e w' => ∃ v0_ : Value, e = .returned (v0_) ∧ Kd.R (Kd.int .i64) 3 w' w.heap.size (fun _ => True) v0_ r ∧ Below w.heap.size w w' := by
  have HR0 := Aside0.mk hr0
  have HC0 := Aside0.mk hc0
  clear hr0 hc0
  have HB := Aside0.mk (Below.refl w.heap.size w)
  have H : (arena_Sizes.l0 k ([] : List Int) l0 (l0.length : Int) 0) = some r := h
  clear h
  have H' := Aside0.mk H
  clear H
  go_enter Try.func19, Try.ntmps19
  go_wp2
  go_loopg [3, 8] k (fun kq v3 v8 w' => ∃ (x3_1 : List Int) (x8_1 : Int), v8 = .int .i64 x8_1 ∧ Aside0 (arena_Sizes.l0 kq x3_1 l0 (l0.length : Int) x8_1 = some r) ∧ Aside0 (kq ≤ k) ∧ Aside0 (Kd.R (Kd.int .i64) 3 w' w.heap.size (fun _ => True) v3 x3_1) ∧ Aside0 (Below w.heap.size w w'))
  case atStart => exact ⟨(([] : List Int)), (0), (by first | rfl | (simp; done) | (simp [*]; done)), H', ⟨Nat.le_refl _⟩, ⟨by first | exact Kd.R_nil _ _ _ _ _ | exact Kd.N_nil _ _ _ _ _ | exact Kd.V_nil _ _ _ _ _ | exact Kd.Q_nil _ _ _ _ _ | exact Kd.S_nil _ _ _ _ _⟩, ⟨by repeat (first | (with_reducible first | exact HB.out | apply below_alloc | apply pw_below_drewN | apply below_drew1) | exact HB.out)⟩⟩
  case round =>
    clear H'
    try clear c1
    obtain ⟨x3_1, x8_1, rfl, HA, HK1, HO_3, HB⟩ := hrel
    cases gk with
    | zero => exact absurd HA.out (by simp [arena_Sizes.l0])
    | succ k1 =>
      have H := HA.out
      clear HA
      simp only [arena_Sizes.l0] at H
      by_cases c2 : x8_1 < (l0.length : Int)
      · rw [if_pos c2] at H
        have c2b0 : decide (x8_1 < (l0.length : Int)) = true := decide_eq_true c2
        clear c2
        by_cases c3 : 0 ≤ x8_1
        · rw [if_pos c3] at H
          have c3b0 : decide (0 ≤ x8_1) = true := decide_eq_true c3
          clear c3
          by_cases c4 : x8_1 < (l0.length : Int)
          · rw [if_pos c4] at H
            have c4b0 : decide (x8_1 < (l0.length : Int)) = true := decide_eq_true c4
            clear c4
            by_cases c5 : x3_1.length < 17592186044416
            · rw [if_pos c5] at H
              have LMc5 := Aside0.mk c5
              clear c5
              obtain ⟨y102, hy102⟩ : ∃ y_ : List Int, y_ = (x3_1 ++ [((rd_L1 l0 x8_1).length : Int)]) := ⟨_, rfl⟩
              replace H : (arena_Sizes.l0 k1 y102 l0 (l0.length : Int) (wrap64 (x8_1 + 1))) = some r := by first | (rw [hy102]; with_reducible exact H) | (have H2_ := (Option.bind_some _ _).symm.trans H; rw [hy102]; with_reducible exact H2_) | (have H2_ := (Option.bind_some _ _).symm.trans H; with_reducible exact H2_) | with_reducible exact H | (rw [hy102]; exact H) | exact H
              have Ny102 := Aside0.mk hy102
              clear hy102
              have H' := Aside0.mk H
              clear H
              have p101 : 0 ≤ (x8_1 : Int) := of_decide_eq_true (by first | (with_reducible assumption) | assumption)
              have q101 : x8_1 < (l0.length : Int) := of_decide_eq_true (by first | (with_reducible assumption) | assumption)
              obtain ⟨ad101, A101_0, c101_0, e101, hx101_0, hl101_0, hi101_0⟩ := at_L1 HR0.out x8_1 p101 q101
              cases e101
              replace hx101_0 := (HB.out.cell (World.block_lt_of_cell? w _ hx101_0)).trans hx101_0
              have HR101_0 := Aside0.mk hi101_0
              have HC101_0 := Aside0.mk hl101_0
              clear hi101_0 hl101_0
              replace p101 := eq_true p101
              replace q101 := eq_true q101
              go_wp2_with (first | ((with_reducible refine gate_builtin (b := .append) (xs := #[.tmp 12, .tmp 15]) rfl ?_); at_builtin; refine Kd.R_append (Kd.int .i64) (w0 := w) w.heap.size rfl (.tmp 12) (.tmp 15) 22 3 (.int .i64 0) 8 rfl Try.underlying22 info3 rfl (by decide) (by omega) u3 x3_1 ((rd_L1 l0 x8_1).length : Int) [.int .i64 ((rd_L1 l0 x8_1).length : Int)] (fun _ => True) (fun _ => False) rfl rfl ?aP (fun _ hk => hk.elim) ?aF ?aO ?aB ?aS ?aL ?_; (case aP => exact rfl); (case aB => exact (by repeat (first | (with_reducible first | exact HB.out | apply below_alloc | apply pw_below_drewN | apply below_drew1) | exact HB.out))); (case aF => exact (fun _ _ => trivial)); (case aO => exact (by (with_reducible repeat (first | apply Kd.R_alloc | apply Kd.R_drewN | apply Kd.R_drew)); exact HO_3.out)); (case aS => exact (below_size (by repeat (first | (with_reducible first | exact HB.out | apply below_alloc | apply pw_below_drewN | apply below_drew1) | exact HB.out)))); (case aL => have := LMc5.out; omega); intro v103 w6 ho hb hg hat; rw [← Ny102.out] at ho; have n0_ := Aside0.mk (hb); have n1_ := Aside0.mk (ho); clear HB; clear HO_3; have HB := n0_; have HO104 := n1_; clear n0_ n1_; clear ho hb hg hat))
              go_roundg k1
              case measure => have := HK1.out; omega
              case rel => exact ⟨(y102), (wrap64 (x8_1 + 1)), (by first | rfl | (simp; done) | (simp [*]; done)), H', ⟨by have := HK1.out; omega⟩, ⟨by (with_reducible repeat (first | apply Kd.R_alloc | apply Kd.R_drewN | apply Kd.R_drew)); exact HO104.out⟩, ⟨by repeat (first | (with_reducible first | exact HB.out | apply below_alloc | apply pw_below_drewN | apply below_drew1) | exact HB.out)⟩⟩
            · rw [if_neg c5] at H
              exact absurd H (by simp)
          · rw [if_neg c4] at H
            exact absurd H (by simp)
        · rw [if_neg c3] at H
          exact absurd H (by simp)
      · rw [if_neg c2] at H
        have c2b0 : decide (x8_1 < (l0.length : Int)) = false := decide_eq_false c2
        clear c2
        obtain rfl := Option.some.inj H
        go_wp2
        go_ret
        exact ⟨_, by first | rfl | (simp [errW_none, errW_some] <;> rfl) | (simp [*, errW_none, errW_some] <;> rfl), by (with_reducible repeat (first | apply Kd.R_alloc | apply Kd.R_drewN | apply Kd.R_drew)); exact HO_3.out, by repeat (first | (with_reducible first | exact HB.out | apply below_alloc | apply pw_below_drewN | apply below_drew1) | exact HB.out)⟩

end Go.Proofs.Ythlhnodedofibaa.F
end

section
namespace Go.Proofs.Ythlhnodedofibaa.F
open Go.RowKit Go.Proofs.YthlhnodedofibaaW.PrintWords Go.Proofs.YthlhnodedofibaaW.PrintLast Go.Proofs.YthlhnodedofibaaW.PrintMore
attribute [local go_sem] max2_int min2_int max_two min_two max_three min_three max_four min_four   -- for this text's walks alone
set_option linter.unusedVariables false
set_option linter.unusedSimpArgs false

open Go.Proofs.Ythlhnodedofibaa.H
def arena_Sizes_c.f (l0 : List (List Int)) : Option (List Int) := if l0.length ≤ 1000000 then some (sizesL l0) else none
theorem arena_Sizes.l0_to (l : List (List Int)) (hl : l.length ≤ 1000000) : ∀ (d i : Nat) (acc : List Int), l.length - i = d → i ≤ l.length → acc.length = i → ∃ k, arena_Sizes.l0 k acc l (l.length : Int) (i : Int) = some (acc ++ sizesL (l.drop i))
  | 0, i, acc, hd, hi, ha => ⟨1, by simp only [arena_Sizes.l0]; rw [if_neg (by omega)]; rw [List.drop_of_length_le (by omega)]; simp [sizesL]⟩
  | d + 1, i, acc, hd, hi, ha => by
    obtain ⟨k, hk⟩ := arena_Sizes.l0_to l hl d (i + 1) (acc ++ [((rd_L1 l i).length : Int)]) (by omega) (by omega) (by simp [ha])
    refine ⟨k + 1, ?_⟩
    simp only [arena_Sizes.l0]
    rw [if_pos (by omega), if_pos (by omega), if_pos (by omega), if_pos (by omega), show wrap64 ((i : Int) + 1) = ((i + 1 : Nat) : Int) from by unfold wrap64; omega, hk]
    rw [drop_at l i (by omega), sizesL_cons]
    simp only [rd_L1, getD_toNat l _ i (show i < l.length by omega), List.append_assoc, List.cons_append, List.nil_append]
theorem arena_Sizes_c.to {l0 : List (List Int)} {r : List Int} (h : arena_Sizes_c.f l0 = some r) : ∃ k, arena_Sizes.f k l0 = some r := by
  unfold arena_Sizes_c.f at h
  split at h
  case isFalse => cases h
  case isTrue hl =>
  obtain rfl := Option.some.inj h
  obtain ⟨k, hk⟩ := arena_Sizes.l0_to l0 hl l0.length 0 [] (by omega) (by omega) rfl
  exact ⟨k, by unfold arena_Sizes.f; simpa using hk⟩

theorem arena_Sizes_c.calls (A0 : Option Addr) (c0 : Nat) (l0 : List (List Int)) (r : List Int) (w : World) (hr0 : Kd.C (Kd.slice 42 (Kd.int .u64)) w A0 l0.length l0) (hc0 : l0.length ≤ c0) (h : arena_Sizes_c.f l0 = some r) :
    Calls Try.prog 19 #[.slice A0 l0.length c0] w fun e w' => ∃ v0_ : Value, e = .returned (v0_) ∧ Kd.R (Kd.int .i64) 3 w' w.heap.size (fun _ => True) v0_ r ∧ Below w.heap.size w w' := by
  obtain ⟨k_, hk_⟩ := arena_Sizes_c.to h
  exact arena_Sizes.calls k_ A0 c0 l0 r w hr0 hc0 hk_

end Go.Proofs.Ythlhnodedofibaa.F
end

section
namespace Go.Proofs.Ythlhnodedofibaa.F
open Go.RowKit Go.Proofs.YthlhnodedofibaaW.PrintWords Go.Proofs.YthlhnodedofibaaW.PrintLast Go.Proofs.YthlhnodedofibaaW.PrintMore
attribute [local go_sem] max2_int min2_int max_two min_two max_three min_three max_four min_four   -- for this text's walks alone
set_option linter.unusedVariables false
set_option linter.unusedSimpArgs false

/-! ### arena_Right: function 21 -/
def arena_Right.f (l0 : List (List Int)) : Option (Bool) := (arena_Sizes_c.f l0).bind fun t101 => ((arena_Fits_c.f t101).bind fun t104 => (some t104))
set_option maxHeartbeats 8000000 in
set_option maxRecDepth 100000 in
theorem arena_Right.calls (A0 : Option Addr) (c0 : Nat) (l0 : List (List Int)) (r : Bool) (w : World) (hr0 : Kd.C (Kd.slice 42 (Kd.int .u64)) w A0 l0.length l0) (hc0 : l0.length ≤ c0) (h : arena_Right.f l0 = some r) :
    Calls Try.prog 21 #[.slice A0 l0.length c0] w fun e w' => e = .returned (.bool r) ∧ Below w.heap.size w w' := by
  have HR0 := Aside0.mk hr0
  have HC0 := Aside0.mk hc0
  clear hr0 hc0
  have HB := Aside0.mk (Below.refl w.heap.size w)
  have H : ((arena_Sizes_c.f l0).bind fun t101 => ((arena_Fits_c.f t101).bind fun t104 => (some t104))) = some r := h
  clear h
  replace H := Option.bind_eq_some_iff.mp H
  obtain ⟨t101, A20, H⟩ := H
  replace H : ((arena_Fits_c.f t101).bind fun t104 => (some t104)) = some r := H
  have A2 := Aside0.mk A20
  clear A20
  replace H := Option.bind_eq_some_iff.mp H
  obtain ⟨t104, A30, H⟩ := H
  replace H : (some t104) = some r := H
  have A3 := Aside0.mk A30
  clear A30
  obtain rfl := Option.some.inj H
  go_enter Try.func21, Try.ntmps21
  go_wp2_with (first | ((with_reducible refine gate_callee (f := 19) rfl ?_); refine goesL_ (some 4) rfl rfl Try.func19 (by kernel_rfl) rfl #[.slice A0 l0.length c0] rfl (by (try simp only [List.map_toArray, List.map_cons, List.map_nil]); first | done | rfl | (simp only [List.length_drop, List.length_take]; rfl)) ?_; (with_reducible refine (arena_Sizes_c.calls _ _ l0 t101 _ ?side1 ?side2 A2.out).mono ?_); (case side1 => repeat (first | exact HR0.out | (with_reducible refine Kd.C_alloc ?_ _) | (with_reducible refine Kd.C_drewN ?_ _) | (with_reducible refine Kd.C_drew ?_))); (case side2 => exact HC0.out); rintro e w4 ⟨v102, rfl, ho0, hb⟩; refine ⟨_, rfl, ?_⟩; have n0_ := Aside0.mk (Kd.R_lower ho0 (below_size (by repeat (first | (with_reducible first | exact HB.out | apply below_alloc | apply pw_below_drewN | apply below_drew1) | exact HB.out)))); have n1_ := Aside0.mk (below_step (by repeat (first | (with_reducible first | exact HB.out | apply below_alloc | apply pw_below_drewN | apply below_drew1) | exact HB.out)) hb); clear HB; have HO103 := n0_; have HB := n1_; clear n0_ n1_; (try clear hb); (try clear hb2); (try clear hk); (try clear hi); (try clear ho0); obtain ⟨Ao5, co5, eo5⟩ := Kd.R_slice HO103.out; subst eo5) | ((with_reducible refine gate_callee (f := 20) rfl ?_); refine goesL_ (some 5) rfl rfl Try.func20 (by kernel_rfl) rfl #[.slice Ao5 t101.length co5] rfl (by (try simp only [List.map_toArray, List.map_cons, List.map_nil]); first | done | rfl | (simp only [List.length_drop, List.length_take]; rfl)) ?_; (with_reducible refine (arena_Fits_c.calls _ _ t101 t104 _ ?side1 ?side2 A3.out).mono ?_); (case side1 => repeat (first | exact (Kd.R_reads' HO103.out).2.2 | (with_reducible refine Kd.C_alloc ?_ _) | (with_reducible refine Kd.C_drewN ?_ _) | (with_reducible refine Kd.C_drew ?_))); (case side2 => exact (Kd.R_reads' HO103.out).2.1); rintro e w6 ⟨rfl, hb⟩; refine ⟨_, rfl, ?_⟩; have n0_ := Aside0.mk (Kd.R_below (by (with_reducible repeat (first | apply Kd.R_alloc | apply Kd.R_drewN | apply Kd.R_drew)); exact HO103.out) hb); have n1_ := Aside0.mk (below_step (by repeat (first | (with_reducible first | exact HB.out | apply below_alloc | apply pw_below_drewN | apply below_drew1) | exact HB.out)) hb); clear HO103; clear HB; have HO103 := n0_; have HB := n1_; clear n0_ n1_; (try clear hb); (try clear hb2); (try clear hk); (try clear hi)))
  go_ret
  exact ⟨by first | rfl | (simp [errW_none, errW_some] <;> rfl) | (simp [*, errW_none, errW_some] <;> rfl), by repeat (first | (with_reducible first | exact HB.out | apply below_alloc | apply pw_below_drewN | apply below_drew1) | exact HB.out)⟩

end Go.Proofs.Ythlhnodedofibaa.F
end

section
namespace Go.Proofs.Ythlhnodedofibaa.F
open Go.RowKit Go.Proofs.YthlhnodedofibaaW.PrintWords Go.Proofs.YthlhnodedofibaaW.PrintLast Go.Proofs.YthlhnodedofibaaW.PrintMore
attribute [local go_sem] max2_int min2_int max_two min_two max_three min_three max_four min_four   -- for this text's walks alone
set_option linter.unusedVariables false
set_option linter.unusedSimpArgs false

open Go.Proofs.Ythlhnodedofibaa.H
def arena_Right_c.f (l0 : List (List Int)) : Option Bool := if l0.length ≤ 1000000 then some (rightB l0) else none
theorem arena_Right_c.to {l0 : List (List Int)} {r : Bool} (h : arena_Right_c.f l0 = some r) : arena_Right.f l0 = some r := by
  unfold arena_Right_c.f at h
  split at h
  case isFalse => cases h
  case isTrue hl =>
  obtain rfl := Option.some.inj h
  unfold arena_Right.f arena_Sizes_c.f arena_Fits_c.f
  rw [if_pos hl]
  rfl

theorem arena_Right_c.calls (A0 : Option Addr) (c0 : Nat) (l0 : List (List Int)) (r : Bool) (w : World) (hr0 : Kd.C (Kd.slice 42 (Kd.int .u64)) w A0 l0.length l0) (hc0 : l0.length ≤ c0) (h : arena_Right_c.f l0 = some r) :
    Calls Try.prog 21 #[.slice A0 l0.length c0] w fun e w' => e = .returned (.bool r) ∧ Below w.heap.size w w' := by
  exact arena_Right.calls A0 c0 l0 r w hr0 hc0 (arena_Right_c.to h)

end Go.Proofs.Ythlhnodedofibaa.F
end

section
namespace Go.Proofs.Ythlhnodedofibaa.F
open Go.RowKit Go.Proofs.YthlhnodedofibaaW.PrintWords Go.Proofs.YthlhnodedofibaaW.PrintLast Go.Proofs.YthlhnodedofibaaW.PrintMore
attribute [local go_sem] max2_int min2_int max_two min_two max_three min_three max_four min_four   -- for this text's walks alone
set_option linter.unusedVariables false
set_option linter.unusedSimpArgs false

/-! ### scullerlaw07_known: function 12 -/
def scullerlaw07_known.f  : Option (Bool) := (some (([(([1, 2, 3] : List Int)), (([4, 5] : List Int))] : List (List Int)) : List (List Int))).bind fun y107 => ((arena_Word.f y107 1 0).bind fun bt110 => ((arena_Place.f (([3, 2] : List Int)) 1 0).bind fun t115 => (if t115 = 3 then (if bt110.1 = 4 then (if bt110.2 = 0 then ((arena_Right_c.f y107).bind fun t116 => (if t116 = true then ((arena_Bytes.f y107).bind fun t117 => (if (t117.length : Int) = 40 then ((arena_Words.f y107).bind fun t120 => (some (t120 == 5))) else (some false))) else (some false))) else (some false)) else (some false)) else (some false))))
set_option maxHeartbeats 8000000 in
set_option maxRecDepth 100000 in
theorem scullerlaw07_known.calls  (r : Bool) (w : World) (h : scullerlaw07_known.f  = some r) :
    Calls Try.prog 12 #[] w fun e w' => e = .returned (.bool r) ∧ Below w.heap.size w w' := by
  have HB := Aside0.mk (Below.refl w.heap.size w)
  have H : ((some (([(([1, 2, 3] : List Int)), (([4, 5] : List Int))] : List (List Int)) : List (List Int))).bind fun y107 => ((arena_Word.f y107 1 0).bind fun bt110 => ((arena_Place.f (([3, 2] : List Int)) 1 0).bind fun t115 => (if t115 = 3 then (if bt110.1 = 4 then (if bt110.2 = 0 then ((arena_Right_c.f y107).bind fun t116 => (if t116 = true then ((arena_Bytes.f y107).bind fun t117 => (if (t117.length : Int) = 40 then ((arena_Words.f y107).bind fun t120 => (some (t120 == 5))) else (some false))) else (some false))) else (some false)) else (some false)) else (some false))))) = some r := h
  clear h
  obtain ⟨y101, hy101⟩ : ∃ y_ : List Int, y_ = (([1, 2, 3] : List Int)) := ⟨_, rfl⟩
  replace H : ((some (([y101, (([4, 5] : List Int))] : List (List Int)) : List (List Int))).bind fun y107 => ((arena_Word.f y107 1 0).bind fun bt110 => ((arena_Place.f (([3, 2] : List Int)) 1 0).bind fun t115 => (if t115 = 3 then (if bt110.1 = 4 then (if bt110.2 = 0 then ((arena_Right_c.f y107).bind fun t116 => (if t116 = true then ((arena_Bytes.f y107).bind fun t117 => (if (t117.length : Int) = 40 then ((arena_Words.f y107).bind fun t120 => (some (t120 == 5))) else (some false))) else (some false))) else (some false)) else (some false)) else (some false))))) = some r := by first | (rw [hy101]; with_reducible exact H) | (have H2_ := (Option.bind_some _ _).symm.trans H; rw [hy101]; with_reducible exact H2_) | (have H2_ := (Option.bind_some _ _).symm.trans H; with_reducible exact H2_) | with_reducible exact H | (rw [hy101]; exact H) | exact H
  have Ny101 := Aside0.mk hy101
  clear hy101
  obtain ⟨y104, hy104⟩ : ∃ y_ : List Int, y_ = (([4, 5] : List Int)) := ⟨_, rfl⟩
  replace H : ((some (([y101, y104] : List (List Int)) : List (List Int))).bind fun y107 => ((arena_Word.f y107 1 0).bind fun bt110 => ((arena_Place.f (([3, 2] : List Int)) 1 0).bind fun t115 => (if t115 = 3 then (if bt110.1 = 4 then (if bt110.2 = 0 then ((arena_Right_c.f y107).bind fun t116 => (if t116 = true then ((arena_Bytes.f y107).bind fun t117 => (if (t117.length : Int) = 40 then ((arena_Words.f y107).bind fun t120 => (some (t120 == 5))) else (some false))) else (some false))) else (some false)) else (some false)) else (some false))))) = some r := by first | (rw [hy104]; with_reducible exact H) | (have H2_ := (Option.bind_some _ _).symm.trans H; rw [hy104]; with_reducible exact H2_) | (have H2_ := (Option.bind_some _ _).symm.trans H; with_reducible exact H2_) | with_reducible exact H | (rw [hy104]; exact H) | exact H
  have Ny104 := Aside0.mk hy104
  clear hy104
  obtain ⟨y107, hy107⟩ : ∃ y_ : List (List Int), y_ = (([y101, y104] : List (List Int))) := ⟨_, rfl⟩
  replace H : ((arena_Word.f y107 1 0).bind fun bt110 => ((arena_Place.f (([3, 2] : List Int)) 1 0).bind fun t115 => (if t115 = 3 then (if bt110.1 = 4 then (if bt110.2 = 0 then ((arena_Right_c.f y107).bind fun t116 => (if t116 = true then ((arena_Bytes.f y107).bind fun t117 => (if (t117.length : Int) = 40 then ((arena_Words.f y107).bind fun t120 => (some (t120 == 5))) else (some false))) else (some false))) else (some false)) else (some false)) else (some false)))) = some r := by first | (rw [hy107]; with_reducible exact H) | (have H2_ := (Option.bind_some _ _).symm.trans H; rw [hy107]; with_reducible exact H2_) | (have H2_ := (Option.bind_some _ _).symm.trans H; with_reducible exact H2_) | with_reducible exact H | (rw [hy107]; exact H) | exact H
  have Ny107 := Aside0.mk hy107
  clear hy107
  replace H := Option.bind_eq_some_iff.mp H
  obtain ⟨⟨t110, t111⟩, A10, H⟩ := H
  replace H : ((arena_Place.f (([3, 2] : List Int)) 1 0).bind fun t115 => (if t115 = 3 then (if t110 = 4 then (if t111 = 0 then ((arena_Right_c.f y107).bind fun t116 => (if t116 = true then ((arena_Bytes.f y107).bind fun t117 => (if (t117.length : Int) = 40 then ((arena_Words.f y107).bind fun t120 => (some (t120 == 5))) else (some false))) else (some false))) else (some false)) else (some false)) else (some false))) = some r := H
  have A1 := Aside0.mk A10
  clear A10
  obtain ⟨y112, hy112⟩ : ∃ y_ : List Int, y_ = (([3, 2] : List Int)) := ⟨_, rfl⟩
  replace H : ((arena_Place.f y112 1 0).bind fun t115 => (if t115 = 3 then (if t110 = 4 then (if t111 = 0 then ((arena_Right_c.f y107).bind fun t116 => (if t116 = true then ((arena_Bytes.f y107).bind fun t117 => (if (t117.length : Int) = 40 then ((arena_Words.f y107).bind fun t120 => (some (t120 == 5))) else (some false))) else (some false))) else (some false)) else (some false)) else (some false))) = some r := by first | (rw [hy112]; with_reducible exact H) | (have H2_ := (Option.bind_some _ _).symm.trans H; rw [hy112]; with_reducible exact H2_) | (have H2_ := (Option.bind_some _ _).symm.trans H; with_reducible exact H2_) | with_reducible exact H | (rw [hy112]; exact H) | exact H
  have Ny112 := Aside0.mk hy112
  clear hy112
  replace H := Option.bind_eq_some_iff.mp H
  obtain ⟨t115, A20, H⟩ := H
  replace H : (if t115 = 3 then (if t110 = 4 then (if t111 = 0 then ((arena_Right_c.f y107).bind fun t116 => (if t116 = true then ((arena_Bytes.f y107).bind fun t117 => (if (t117.length : Int) = 40 then ((arena_Words.f y107).bind fun t120 => (some (t120 == 5))) else (some false))) else (some false))) else (some false)) else (some false)) else (some false)) = some r := H
  have A2 := Aside0.mk A20
  clear A20
  by_cases c3 : t115 = 3
  · rw [if_pos c3] at H
    have c3b0 : (t115 == 3) = true := beq_iff_eq.mpr c3
    have c3b1 : (t115 != 3) = false := bne_eq_false_iff_eq.mpr c3
    clear c3
    by_cases c4 : t110 = 4
    · rw [if_pos c4] at H
      have c4b0 : (t110 == 4) = true := beq_iff_eq.mpr c4
      have c4b1 : (t110 != 4) = false := bne_eq_false_iff_eq.mpr c4
      clear c4
      by_cases c5 : t111 = 0
      · rw [if_pos c5] at H
        have c5b0 : (t111 == 0) = true := beq_iff_eq.mpr c5
        have c5b1 : (t111 != 0) = false := bne_eq_false_iff_eq.mpr c5
        clear c5
        replace H := Option.bind_eq_some_iff.mp H
        obtain ⟨t116, A60, H⟩ := H
        replace H : (if t116 = true then ((arena_Bytes.f y107).bind fun t117 => (if (t117.length : Int) = 40 then ((arena_Words.f y107).bind fun t120 => (some (t120 == 5))) else (some false))) else (some false)) = some r := H
        have A6 := Aside0.mk A60
        clear A60
        by_cases c7 : t116 = true
        · subst c7
          have H1 : ((arena_Bytes.f y107).bind fun t117 => (if (t117.length : Int) = 40 then ((arena_Words.f y107).bind fun t120 => (some (t120 == 5))) else (some false))) = some r := by rw [if_pos rfl] at H; exact H
          clear H
          have H := H1
          clear H1
          replace H := Option.bind_eq_some_iff.mp H
          obtain ⟨t117, A80, H⟩ := H
          replace H : (if (t117.length : Int) = 40 then ((arena_Words.f y107).bind fun t120 => (some (t120 == 5))) else (some false)) = some r := H
          have A8 := Aside0.mk A80
          clear A80
          by_cases c9 : (t117.length : Int) = 40
          · rw [if_pos c9] at H
            have c9b0 : ((t117.length : Int) == 40) = true := beq_iff_eq.mpr c9
            have c9b1 : ((t117.length : Int) != 40) = false := bne_eq_false_iff_eq.mpr c9
            clear c9
            replace H := Option.bind_eq_some_iff.mp H
            obtain ⟨t120, A100, H⟩ := H
            replace H : (some (t120 == 5)) = some r := H
            have A10 := Aside0.mk A100
            clear A100
            obtain rfl := Option.some.inj H
            go_enter Try.func12, Try.ntmps12
            go_wp2_with (first | ((with_reducible refine gate_dst (N := 4) rfl ?_); (try (refine gate_guard (by rfl) ?_; dsimp only)); refine Kd.R_lit (Kd.int .u64) _ 42 ?hg (N := 4) ?hd (xs := ([1, 2, 3] : List Int)) (inner := [.int .u64 1, .int .u64 2, .int .u64 3]) (ok := fun _ => True) (okp := fun _ => True) ?hr ?hp (fun _ hk => hk) trivial (Below.refl _ _) (Nat.le_refl _) (by simp) ?_; (case hd => rfl); (case hg => rfl); (case hr => first | (go_simp; done) | (go_simp; rfl)); (case hp => exact (Reps.one (show Kd.M (Kd.int .u64) _ _ _ 1 [.int .u64 1] from rfl) (Reps.one (show Kd.M (Kd.int .u64) _ _ _ 2 [.int .u64 2] from rfl) (Reps.one (show Kd.M (Kd.int .u64) _ _ _ 3 [.int .u64 3] from rfl) (Reps.none _ _))))); intro v102 w11 ho12 hb hg_ hnew_; clear hg_ hnew_; (first | rw [← Ny101.out] at ho12 | (simp only [Int.reduceToNat] at ho12; rw [← Ny101.out] at ho12)); have n0_ := Aside0.mk (Kd.R_lower ho12 (below_size (by repeat (first | (with_reducible first | exact HB.out | apply below_alloc | apply pw_below_drewN | apply below_drew1) | exact HB.out)))); have n1_ := Aside0.mk (below_step (by repeat (first | (with_reducible first | exact HB.out | apply below_alloc | apply pw_below_drewN | apply below_drew1) | exact HB.out)) hb); clear HB; have HO103 := n0_; have HB := n1_; clear n0_ n1_; clear hb ho12) | ((with_reducible refine gate_dst (N := 5) rfl ?_); (try (refine gate_guard (by rfl) ?_; dsimp only)); refine Kd.R_lit (Kd.int .u64) _ 42 ?hg (N := 5) ?hd (xs := ([4, 5] : List Int)) (inner := [.int .u64 4, .int .u64 5]) (ok := fun _ => True) (okp := fun _ => True) ?hr ?hp (fun _ hk => hk) trivial (Below.refl _ _) (Nat.le_refl _) (by simp) ?_; (case hd => rfl); (case hg => rfl); (case hr => first | (go_simp; done) | (go_simp; rfl)); (case hp => exact (Reps.one (show Kd.M (Kd.int .u64) _ _ _ 4 [.int .u64 4] from rfl) (Reps.one (show Kd.M (Kd.int .u64) _ _ _ 5 [.int .u64 5] from rfl) (Reps.none _ _)))); intro v105 w13 ho14 hb hg_ hnew_; clear hg_ hnew_; (first | rw [← Ny104.out] at ho14 | (simp only [Int.reduceToNat] at ho14; rw [← Ny104.out] at ho14)); have n0_ := Aside0.mk (Kd.R_elder' (by (with_reducible repeat (first | apply Kd.R_alloc | apply Kd.R_drewN | apply Kd.R_drew)); exact HO103.out) (Kd.R_base ho14) hb); have n1_ := Aside0.mk (Kd.R_lower (Kd.R_new' ho14 (Kd.R_lt (by (with_reducible repeat (first | apply Kd.R_alloc | apply Kd.R_drewN | apply Kd.R_drew)); exact HO103.out))) (below_size (by repeat (first | (with_reducible first | exact HB.out | apply below_alloc | apply pw_below_drewN | apply below_drew1) | exact HB.out)))); have n2_ := Aside0.mk (below_step (by repeat (first | (with_reducible first | exact HB.out | apply below_alloc | apply pw_below_drewN | apply below_drew1) | exact HB.out)) hb); clear HO103; clear HB; have HO103 := n0_; have HO106 := n1_; have HB := n2_; clear n0_ n1_ n2_; clear hb ho14; obtain ⟨Ao15, co15, eo15⟩ := Kd.R_slice HO103.out; subst eo15; obtain ⟨Ao16, co16, eo16⟩ := Kd.R_slice HO106.out; subst eo16) | ((with_reducible refine gate_dst (N := 6) rfl ?_); (try (refine gate_guard (by rfl) ?_; dsimp only)); refine Kd.N_lit (Kd.slice 42 (Kd.int .u64)) _ 37 ?hg (N' := 6) ?hd (xs := ([y101, y104] : List (List Int))) (inner := [.slice Ao15 y101.length co15, .slice Ao16 y104.length co16]) (ok := (fun _ => True)) (okp := (fun _ => True)) ?hr ?hp (fun _ hk => hk) ((show ∀ k_, w13.heap.size ≤ k_ → (fun _ => True) k_ from fun k_ hk => trivial) _ (Nat.le_refl _)) (Below.refl _ _) (Nat.le_refl _) (by simp) ?_; (case hd => rfl); (case hg => rfl); (case hr => first | (go_simp; done) | (go_simp; rfl)); (case hp => exact (Reps.one (show Kd.FK (Kd.slice 42 (Kd.int .u64)) _ _ y101 [.slice Ao15 y101.length co15] from (Kd.FK_slice_mk (Kd.R_reads' (Kd.R_mono (ok' := (fun _ => True)) (HO103.out) (fun k_ hk => trivial))).2.1 (Kd.R_F (Kd.R_mono (ok' := (fun _ => True)) (HO103.out) (fun k_ hk => trivial))))) (Reps.one (show Kd.FK (Kd.slice 42 (Kd.int .u64)) _ _ y104 [.slice Ao16 y104.length co16] from (Kd.FK_slice_mk (Kd.R_reads' (Kd.R_mono (ok' := (fun _ => True)) (HO106.out) (fun k_ hk => trivial))).2.1 (Kd.R_F (Kd.R_mono (ok' := (fun _ => True)) (HO106.out) (fun k_ hk => trivial))))) (Reps.none _ _)))); intro v108 w17 ho18 hb hg_ hnew_; clear hg_ hnew_; (first | rw [← Ny107.out] at ho18 | (simp only [Int.reduceToNat] at ho18; rw [← Ny107.out] at ho18)); have n0_ := Aside0.mk (Kd.N_lower ho18 (below_size (by repeat (first | (with_reducible first | exact HB.out | apply below_alloc | apply pw_below_drewN | apply below_drew1) | exact HB.out)))); have n1_ := Aside0.mk (below_step (by repeat (first | (with_reducible first | exact HB.out | apply below_alloc | apply pw_below_drewN | apply below_drew1) | exact HB.out)) hb); clear HB; clear HO103; clear HO106; have HO109 := n0_; have HB := n1_; clear n0_ n1_; clear hb ho18; obtain ⟨Ao19, co19, eo19⟩ := Kd.N_slice HO109.out; subst eo19) | ((with_reducible refine gate_callee (f := 46) rfl ?_); refine goesL_ (some 9) rfl rfl Try.func46 (by kernel_rfl) rfl #[.slice Ao19 y107.length co19, .int .i64 1, .int .i64 0] rfl (by (try simp only [List.map_toArray, List.map_cons, List.map_nil]); first | done | rfl | (simp only [List.length_drop, List.length_take]; rfl)) ?_; (with_reducible refine (arena_Word.calls _ _ y107 1 0 t110 t111 _ ?side1 ?side2 A1.out).mono ?_); (case side1 => repeat (first | exact (Kd.N_reads' HO109.out).2.2 | (with_reducible refine Kd.C_alloc ?_ _) | (with_reducible refine Kd.C_drewN ?_ _) | (with_reducible refine Kd.C_drew ?_))); (case side2 => exact (Kd.N_reads' HO109.out).2.1); rintro e w' ⟨rfl, ⟨nd, rfl⟩⟩; refine ⟨_, rfl, ?_⟩) | ((with_reducible refine gate_dst (N := 12) rfl ?_); (try (refine gate_guard (by rfl) ?_; dsimp only)); refine Kd.R_lit (Kd.int .i64) _ 3 ?hg (N := 12) ?hd (xs := ([3, 2] : List Int)) (inner := [.int .i64 3, .int .i64 2]) (ok := fun _ => True) (okp := fun _ => True) ?hr ?hp (fun _ hk => hk) trivial (Below.refl _ _) (Nat.le_refl _) (by simp) ?_; (case hd => rfl); (case hg => rfl); (case hr => first | (go_simp; done) | (go_simp; rfl)); (case hp => exact (Reps.one (show Kd.M (Kd.int .i64) _ _ _ 3 [.int .i64 3] from rfl) (Reps.one (show Kd.M (Kd.int .i64) _ _ _ 2 [.int .i64 2] from rfl) (Reps.none _ _)))); intro v113 w20 ho21 hb hg_ hnew_; clear hg_ hnew_; (first | rw [← Ny112.out] at ho21 | (simp only [Int.reduceToNat] at ho21; rw [← Ny112.out] at ho21)); have n0_ := Aside0.mk (Kd.N_elder' (by (with_reducible repeat (first | apply Kd.N_alloc | apply Kd.N_drewN | apply Kd.N_drew)); exact HO109.out) (Kd.R_base ho21) hb); have n1_ := Aside0.mk (Kd.R_lower ho21 (below_size (by repeat (first | (with_reducible first | exact HB.out | apply below_alloc | apply pw_below_drewN | apply below_drew1) | exact HB.out)))); have n2_ := Aside0.mk (below_step (by repeat (first | (with_reducible first | exact HB.out | apply below_alloc | apply pw_below_drewN | apply below_drew1) | exact HB.out)) hb); clear HO109; clear HB; have HO109 := n0_; have HO114 := n1_; have HB := n2_; clear n0_ n1_ n2_; clear hb ho21; obtain ⟨Ao22, co22, eo22⟩ := Kd.R_slice HO114.out; subst eo22) | ((with_reducible refine gate_callee (f := 35) rfl ?_); refine goesL_ (some 13) rfl rfl Try.func35 (by kernel_rfl) rfl #[.slice Ao22 y112.length co22, .int .i64 1, .int .i64 0] rfl (by (try simp only [List.map_toArray, List.map_cons, List.map_nil]); first | done | rfl | (simp only [List.length_drop, List.length_take]; rfl)) ?_; (with_reducible refine (arena_Place.calls _ _ y112 1 0 t115 _ ?side1 ?side2 A2.out).mono ?_); (case side1 => repeat (first | exact (Kd.R_reads' HO114.out).2.2 | (with_reducible refine Kd.C_alloc ?_ _) | (with_reducible refine Kd.C_drewN ?_ _) | (with_reducible refine Kd.C_drew ?_))); (case side2 => exact (Kd.R_reads' HO114.out).2.1); rintro e w23 ⟨rfl, hb⟩; refine ⟨_, rfl, ?_⟩; have n0_ := Aside0.mk (Kd.N_below (by (with_reducible repeat (first | apply Kd.N_alloc | apply Kd.N_drewN | apply Kd.N_drew)); exact HO109.out) hb); have n1_ := Aside0.mk (Kd.R_below (by (with_reducible repeat (first | apply Kd.R_alloc | apply Kd.R_drewN | apply Kd.R_drew)); exact HO114.out) hb); have n2_ := Aside0.mk (below_step (by repeat (first | (with_reducible first | exact HB.out | apply below_alloc | apply pw_below_drewN | apply below_drew1) | exact HB.out)) hb); clear HO109; clear HO114; clear HB; have HO109 := n0_; have HO114 := n1_; have HB := n2_; clear n0_ n1_ n2_; (try clear hb); (try clear hb2); (try clear hk); (try clear hi)) | (go_at_call 21; (with_reducible refine (arena_Right_c.calls _ _ y107 true _ ?side1 ?side2 A6.out).mono ?_); (case side1 => repeat (first | exact (Kd.N_reads' HO109.out).2.2 | (with_reducible refine Kd.C_alloc ?_ _) | (with_reducible refine Kd.C_drewN ?_ _) | (with_reducible refine Kd.C_drew ?_))); (case side2 => exact (Kd.N_reads' HO109.out).2.1); rintro e w24 ⟨rfl, hb⟩; have n0_ := Aside0.mk (Kd.N_below (by (with_reducible repeat (first | apply Kd.N_alloc | apply Kd.N_drewN | apply Kd.N_drew)); exact HO109.out) hb); have n1_ := Aside0.mk (Kd.R_below (by (with_reducible repeat (first | apply Kd.R_alloc | apply Kd.R_drewN | apply Kd.R_drew)); exact HO114.out) hb); have n2_ := Aside0.mk (below_step (by repeat (first | (with_reducible first | exact HB.out | apply below_alloc | apply pw_below_drewN | apply below_drew1) | exact HB.out)) hb); clear HO109; clear HO114; clear HB; have HO109 := n0_; have HO114 := n1_; have HB := n2_; clear n0_ n1_ n2_; (try clear hb); (try clear hb2); (try clear hk); (try clear hi)) | (go_at_call 17; (with_reducible refine (arena_Bytes.calls _ _ y107 t117 _ ?side1 ?side2 A8.out).mono ?_); (case side1 => repeat (first | exact (Kd.N_reads' HO109.out).2.2 | (with_reducible refine Kd.C_alloc ?_ _) | (with_reducible refine Kd.C_drewN ?_ _) | (with_reducible refine Kd.C_drew ?_))); (case side2 => exact (Kd.N_reads' HO109.out).2.1); rintro e w25 ⟨v118, rfl, ho0, hb⟩; have n0_ := Aside0.mk (Kd.N_elder' (by (with_reducible repeat (first | apply Kd.N_alloc | apply Kd.N_drewN | apply Kd.N_drew)); exact HO109.out) (Kd.R_base ho0) hb); have n1_ := Aside0.mk (Kd.R_below (by (with_reducible repeat (first | apply Kd.R_alloc | apply Kd.R_drewN | apply Kd.R_drew)); exact HO114.out) hb); have n2_ := Aside0.mk (Kd.R_lower ho0 (below_size (by repeat (first | (with_reducible first | exact HB.out | apply below_alloc | apply pw_below_drewN | apply below_drew1) | exact HB.out)))); have n3_ := Aside0.mk (below_step (by repeat (first | (with_reducible first | exact HB.out | apply below_alloc | apply pw_below_drewN | apply below_drew1) | exact HB.out)) hb); clear HO109; clear HO114; clear HB; have HO109 := n0_; have HO114 := n1_; have HO119 := n2_; have HB := n3_; clear n0_ n1_ n2_ n3_; (try clear hb); (try clear hb2); (try clear hk); (try clear hi); (try clear ho0); obtain ⟨Ao26, co26, eo26⟩ := Kd.R_slice HO119.out; subst eo26) | (go_at_call 36; (with_reducible refine (arena_Words.calls _ _ y107 t120 _ ?side1 ?side2 A10.out).mono ?_); (case side1 => repeat (first | exact (Kd.N_reads' HO109.out).2.2 | (with_reducible refine Kd.C_alloc ?_ _) | (with_reducible refine Kd.C_drewN ?_ _) | (with_reducible refine Kd.C_drew ?_))); (case side2 => exact (Kd.N_reads' HO109.out).2.1); rintro e w27 ⟨rfl, hb⟩; have n0_ := Aside0.mk (Kd.N_below (by (with_reducible repeat (first | apply Kd.N_alloc | apply Kd.N_drewN | apply Kd.N_drew)); exact HO109.out) hb); have n1_ := Aside0.mk (Kd.R_below (by (with_reducible repeat (first | apply Kd.R_alloc | apply Kd.R_drewN | apply Kd.R_drew)); exact HO114.out) hb); have n2_ := Aside0.mk (Kd.R_below (by (with_reducible repeat (first | apply Kd.R_alloc | apply Kd.R_drewN | apply Kd.R_drew)); exact HO119.out) hb); have n3_ := Aside0.mk (below_step (by repeat (first | (with_reducible first | exact HB.out | apply below_alloc | apply pw_below_drewN | apply below_drew1) | exact HB.out)) hb); clear HO109; clear HO114; clear HO119; clear HB; have HO109 := n0_; have HO114 := n1_; have HO119 := n2_; have HB := n3_; clear n0_ n1_ n2_ n3_; (try clear hb); (try clear hb2); (try clear hk); (try clear hi)))
            go_ret
            exact ⟨by first | rfl | (simp [errW_none, errW_some] <;> rfl) | (simp [*, errW_none, errW_some] <;> rfl), by repeat (first | (with_reducible first | exact HB.out | apply below_alloc | apply pw_below_drewN | apply below_drew1) | exact HB.out)⟩
          · rw [if_neg c9] at H
            have c9b0 : ((t117.length : Int) == 40) = false := beq_eq_false_iff_ne.mpr c9
            have c9b1 : ((t117.length : Int) != 40) = true := bne_iff_ne.mpr c9
            obtain rfl := Option.some.inj H
            go_enter Try.func12, Try.ntmps12
            go_wp2_with (first | ((with_reducible refine gate_dst (N := 4) rfl ?_); (try (refine gate_guard (by rfl) ?_; dsimp only)); refine Kd.R_lit (Kd.int .u64) _ 42 ?hg (N := 4) ?hd (xs := ([1, 2, 3] : List Int)) (inner := [.int .u64 1, .int .u64 2, .int .u64 3]) (ok := fun _ => True) (okp := fun _ => True) ?hr ?hp (fun _ hk => hk) trivial (Below.refl _ _) (Nat.le_refl _) (by simp) ?_; (case hd => rfl); (case hg => rfl); (case hr => first | (go_simp; done) | (go_simp; rfl)); (case hp => exact (Reps.one (show Kd.M (Kd.int .u64) _ _ _ 1 [.int .u64 1] from rfl) (Reps.one (show Kd.M (Kd.int .u64) _ _ _ 2 [.int .u64 2] from rfl) (Reps.one (show Kd.M (Kd.int .u64) _ _ _ 3 [.int .u64 3] from rfl) (Reps.none _ _))))); intro v102 w28 ho29 hb hg_ hnew_; clear hg_ hnew_; (first | rw [← Ny101.out] at ho29 | (simp only [Int.reduceToNat] at ho29; rw [← Ny101.out] at ho29)); have n0_ := Aside0.mk (Kd.R_lower ho29 (below_size (by repeat (first | (with_reducible first | exact HB.out | apply below_alloc | apply pw_below_drewN | apply below_drew1) | exact HB.out)))); have n1_ := Aside0.mk (below_step (by repeat (first | (with_reducible first | exact HB.out | apply below_alloc | apply pw_below_drewN | apply below_drew1) | exact HB.out)) hb); clear HB; have HO103 := n0_; have HB := n1_; clear n0_ n1_; clear hb ho29) | ((with_reducible refine gate_dst (N := 5) rfl ?_); (try (refine gate_guard (by rfl) ?_; dsimp only)); refine Kd.R_lit (Kd.int .u64) _ 42 ?hg (N := 5) ?hd (xs := ([4, 5] : List Int)) (inner := [.int .u64 4, .int .u64 5]) (ok := fun _ => True) (okp := fun _ => True) ?hr ?hp (fun _ hk => hk) trivial (Below.refl _ _) (Nat.le_refl _) (by simp) ?_; (case hd => rfl); (case hg => rfl); (case hr => first | (go_simp; done) | (go_simp; rfl)); (case hp => exact (Reps.one (show Kd.M (Kd.int .u64) _ _ _ 4 [.int .u64 4] from rfl) (Reps.one (show Kd.M (Kd.int .u64) _ _ _ 5 [.int .u64 5] from rfl) (Reps.none _ _)))); intro v105 w30 ho31 hb hg_ hnew_; clear hg_ hnew_; (first | rw [← Ny104.out] at ho31 | (simp only [Int.reduceToNat] at ho31; rw [← Ny104.out] at ho31)); have n0_ := Aside0.mk (Kd.R_elder' (by (with_reducible repeat (first | apply Kd.R_alloc | apply Kd.R_drewN | apply Kd.R_drew)); exact HO103.out) (Kd.R_base ho31) hb); have n1_ := Aside0.mk (Kd.R_lower (Kd.R_new' ho31 (Kd.R_lt (by (with_reducible repeat (first | apply Kd.R_alloc | apply Kd.R_drewN | apply Kd.R_drew)); exact HO103.out))) (below_size (by repeat (first | (with_reducible first | exact HB.out | apply below_alloc | apply pw_below_drewN | apply below_drew1) | exact HB.out)))); have n2_ := Aside0.mk (below_step (by repeat (first | (with_reducible first | exact HB.out | apply below_alloc | apply pw_below_drewN | apply below_drew1) | exact HB.out)) hb); clear HO103; clear HB; have HO103 := n0_; have HO106 := n1_; have HB := n2_; clear n0_ n1_ n2_; clear hb ho31; obtain ⟨Ao32, co32, eo32⟩ := Kd.R_slice HO103.out; subst eo32; obtain ⟨Ao33, co33, eo33⟩ := Kd.R_slice HO106.out; subst eo33) | ((with_reducible refine gate_dst (N := 6) rfl ?_); (try (refine gate_guard (by rfl) ?_; dsimp only)); refine Kd.N_lit (Kd.slice 42 (Kd.int .u64)) _ 37 ?hg (N' := 6) ?hd (xs := ([y101, y104] : List (List Int))) (inner := [.slice Ao32 y101.length co32, .slice Ao33 y104.length co33]) (ok := (fun _ => True)) (okp := (fun _ => True)) ?hr ?hp (fun _ hk => hk) ((show ∀ k_, w30.heap.size ≤ k_ → (fun _ => True) k_ from fun k_ hk => trivial) _ (Nat.le_refl _)) (Below.refl _ _) (Nat.le_refl _) (by simp) ?_; (case hd => rfl); (case hg => rfl); (case hr => first | (go_simp; done) | (go_simp; rfl)); (case hp => exact (Reps.one (show Kd.FK (Kd.slice 42 (Kd.int .u64)) _ _ y101 [.slice Ao32 y101.length co32] from (Kd.FK_slice_mk (Kd.R_reads' (Kd.R_mono (ok' := (fun _ => True)) (HO103.out) (fun k_ hk => trivial))).2.1 (Kd.R_F (Kd.R_mono (ok' := (fun _ => True)) (HO103.out) (fun k_ hk => trivial))))) (Reps.one (show Kd.FK (Kd.slice 42 (Kd.int .u64)) _ _ y104 [.slice Ao33 y104.length co33] from (Kd.FK_slice_mk (Kd.R_reads' (Kd.R_mono (ok' := (fun _ => True)) (HO106.out) (fun k_ hk => trivial))).2.1 (Kd.R_F (Kd.R_mono (ok' := (fun _ => True)) (HO106.out) (fun k_ hk => trivial))))) (Reps.none _ _)))); intro v108 w34 ho35 hb hg_ hnew_; clear hg_ hnew_; (first | rw [← Ny107.out] at ho35 | (simp only [Int.reduceToNat] at ho35; rw [← Ny107.out] at ho35)); have n0_ := Aside0.mk (Kd.N_lower ho35 (below_size (by repeat (first | (with_reducible first | exact HB.out | apply below_alloc | apply pw_below_drewN | apply below_drew1) | exact HB.out)))); have n1_ := Aside0.mk (below_step (by repeat (first | (with_reducible first | exact HB.out | apply below_alloc | apply pw_below_drewN | apply below_drew1) | exact HB.out)) hb); clear HB; clear HO103; clear HO106; have HO109 := n0_; have HB := n1_; clear n0_ n1_; clear hb ho35; obtain ⟨Ao36, co36, eo36⟩ := Kd.N_slice HO109.out; subst eo36) | ((with_reducible refine gate_callee (f := 46) rfl ?_); refine goesL_ (some 9) rfl rfl Try.func46 (by kernel_rfl) rfl #[.slice Ao36 y107.length co36, .int .i64 1, .int .i64 0] rfl (by (try simp only [List.map_toArray, List.map_cons, List.map_nil]); first | done | rfl | (simp only [List.length_drop, List.length_take]; rfl)) ?_; (with_reducible refine (arena_Word.calls _ _ y107 1 0 t110 t111 _ ?side1 ?side2 A1.out).mono ?_); (case side1 => repeat (first | exact (Kd.N_reads' HO109.out).2.2 | (with_reducible refine Kd.C_alloc ?_ _) | (with_reducible refine Kd.C_drewN ?_ _) | (with_reducible refine Kd.C_drew ?_))); (case side2 => exact (Kd.N_reads' HO109.out).2.1); rintro e w' ⟨rfl, ⟨nd, rfl⟩⟩; refine ⟨_, rfl, ?_⟩) | ((with_reducible refine gate_dst (N := 12) rfl ?_); (try (refine gate_guard (by rfl) ?_; dsimp only)); refine Kd.R_lit (Kd.int .i64) _ 3 ?hg (N := 12) ?hd (xs := ([3, 2] : List Int)) (inner := [.int .i64 3, .int .i64 2]) (ok := fun _ => True) (okp := fun _ => True) ?hr ?hp (fun _ hk => hk) trivial (Below.refl _ _) (Nat.le_refl _) (by simp) ?_; (case hd => rfl); (case hg => rfl); (case hr => first | (go_simp; done) | (go_simp; rfl)); (case hp => exact (Reps.one (show Kd.M (Kd.int .i64) _ _ _ 3 [.int .i64 3] from rfl) (Reps.one (show Kd.M (Kd.int .i64) _ _ _ 2 [.int .i64 2] from rfl) (Reps.none _ _)))); intro v113 w37 ho38 hb hg_ hnew_; clear hg_ hnew_; (first | rw [← Ny112.out] at ho38 | (simp only [Int.reduceToNat] at ho38; rw [← Ny112.out] at ho38)); have n0_ := Aside0.mk (Kd.N_elder' (by (with_reducible repeat (first | apply Kd.N_alloc | apply Kd.N_drewN | apply Kd.N_drew)); exact HO109.out) (Kd.R_base ho38) hb); have n1_ := Aside0.mk (Kd.R_lower ho38 (below_size (by repeat (first | (with_reducible first | exact HB.out | apply below_alloc | apply pw_below_drewN | apply below_drew1) | exact HB.out)))); have n2_ := Aside0.mk (below_step (by repeat (first | (with_reducible first | exact HB.out | apply below_alloc | apply pw_below_drewN | apply below_drew1) | exact HB.out)) hb); clear HO109; clear HB; have HO109 := n0_; have HO114 := n1_; have HB := n2_; clear n0_ n1_ n2_; clear hb ho38; obtain ⟨Ao39, co39, eo39⟩ := Kd.R_slice HO114.out; subst eo39) | ((with_reducible refine gate_callee (f := 35) rfl ?_); refine goesL_ (some 13) rfl rfl Try.func35 (by kernel_rfl) rfl #[.slice Ao39 y112.length co39, .int .i64 1, .int .i64 0] rfl (by (try simp only [List.map_toArray, List.map_cons, List.map_nil]); first | done | rfl | (simp only [List.length_drop, List.length_take]; rfl)) ?_; (with_reducible refine (arena_Place.calls _ _ y112 1 0 t115 _ ?side1 ?side2 A2.out).mono ?_); (case side1 => repeat (first | exact (Kd.R_reads' HO114.out).2.2 | (with_reducible refine Kd.C_alloc ?_ _) | (with_reducible refine Kd.C_drewN ?_ _) | (with_reducible refine Kd.C_drew ?_))); (case side2 => exact (Kd.R_reads' HO114.out).2.1); rintro e w40 ⟨rfl, hb⟩; refine ⟨_, rfl, ?_⟩; have n0_ := Aside0.mk (Kd.N_below (by (with_reducible repeat (first | apply Kd.N_alloc | apply Kd.N_drewN | apply Kd.N_drew)); exact HO109.out) hb); have n1_ := Aside0.mk (Kd.R_below (by (with_reducible repeat (first | apply Kd.R_alloc | apply Kd.R_drewN | apply Kd.R_drew)); exact HO114.out) hb); have n2_ := Aside0.mk (below_step (by repeat (first | (with_reducible first | exact HB.out | apply below_alloc | apply pw_below_drewN | apply below_drew1) | exact HB.out)) hb); clear HO109; clear HO114; clear HB; have HO109 := n0_; have HO114 := n1_; have HB := n2_; clear n0_ n1_ n2_; (try clear hb); (try clear hb2); (try clear hk); (try clear hi)) | (go_at_call 21; (with_reducible refine (arena_Right_c.calls _ _ y107 true _ ?side1 ?side2 A6.out).mono ?_); (case side1 => repeat (first | exact (Kd.N_reads' HO109.out).2.2 | (with_reducible refine Kd.C_alloc ?_ _) | (with_reducible refine Kd.C_drewN ?_ _) | (with_reducible refine Kd.C_drew ?_))); (case side2 => exact (Kd.N_reads' HO109.out).2.1); rintro e w41 ⟨rfl, hb⟩; have n0_ := Aside0.mk (Kd.N_below (by (with_reducible repeat (first | apply Kd.N_alloc | apply Kd.N_drewN | apply Kd.N_drew)); exact HO109.out) hb); have n1_ := Aside0.mk (Kd.R_below (by (with_reducible repeat (first | apply Kd.R_alloc | apply Kd.R_drewN | apply Kd.R_drew)); exact HO114.out) hb); have n2_ := Aside0.mk (below_step (by repeat (first | (with_reducible first | exact HB.out | apply below_alloc | apply pw_below_drewN | apply below_drew1) | exact HB.out)) hb); clear HO109; clear HO114; clear HB; have HO109 := n0_; have HO114 := n1_; have HB := n2_; clear n0_ n1_ n2_; (try clear hb); (try clear hb2); (try clear hk); (try clear hi)) | (go_at_call 17; (with_reducible refine (arena_Bytes.calls _ _ y107 t117 _ ?side1 ?side2 A8.out).mono ?_); (case side1 => repeat (first | exact (Kd.N_reads' HO109.out).2.2 | (with_reducible refine Kd.C_alloc ?_ _) | (with_reducible refine Kd.C_drewN ?_ _) | (with_reducible refine Kd.C_drew ?_))); (case side2 => exact (Kd.N_reads' HO109.out).2.1); rintro e w42 ⟨v118, rfl, ho0, hb⟩; have n0_ := Aside0.mk (Kd.N_elder' (by (with_reducible repeat (first | apply Kd.N_alloc | apply Kd.N_drewN | apply Kd.N_drew)); exact HO109.out) (Kd.R_base ho0) hb); have n1_ := Aside0.mk (Kd.R_below (by (with_reducible repeat (first | apply Kd.R_alloc | apply Kd.R_drewN | apply Kd.R_drew)); exact HO114.out) hb); have n2_ := Aside0.mk (Kd.R_lower ho0 (below_size (by repeat (first | (with_reducible first | exact HB.out | apply below_alloc | apply pw_below_drewN | apply below_drew1) | exact HB.out)))); have n3_ := Aside0.mk (below_step (by repeat (first | (with_reducible first | exact HB.out | apply below_alloc | apply pw_below_drewN | apply below_drew1) | exact HB.out)) hb); clear HO109; clear HO114; clear HB; have HO109 := n0_; have HO114 := n1_; have HO119 := n2_; have HB := n3_; clear n0_ n1_ n2_ n3_; (try clear hb); (try clear hb2); (try clear hk); (try clear hi); (try clear ho0); obtain ⟨Ao43, co43, eo43⟩ := Kd.R_slice HO119.out; subst eo43))
            go_ret
            exact ⟨by first | rfl | (simp [errW_none, errW_some] <;> rfl) | (simp [*, errW_none, errW_some] <;> rfl), by repeat (first | (with_reducible first | exact HB.out | apply below_alloc | apply pw_below_drewN | apply below_drew1) | exact HB.out)⟩
        · replace c7 := Bool.eq_false_iff.mpr c7
          subst c7
          have H1 : (some false) = some r := by rw [if_neg (show ¬ (false = true) by decide)] at H; exact H
          clear H
          have H := H1
          clear H1
          obtain rfl := Option.some.inj H
          go_enter Try.func12, Try.ntmps12
          go_wp2_with (first | ((with_reducible refine gate_dst (N := 4) rfl ?_); (try (refine gate_guard (by rfl) ?_; dsimp only)); refine Kd.R_lit (Kd.int .u64) _ 42 ?hg (N := 4) ?hd (xs := ([1, 2, 3] : List Int)) (inner := [.int .u64 1, .int .u64 2, .int .u64 3]) (ok := fun _ => True) (okp := fun _ => True) ?hr ?hp (fun _ hk => hk) trivial (Below.refl _ _) (Nat.le_refl _) (by simp) ?_; (case hd => rfl); (case hg => rfl); (case hr => first | (go_simp; done) | (go_simp; rfl)); (case hp => exact (Reps.one (show Kd.M (Kd.int .u64) _ _ _ 1 [.int .u64 1] from rfl) (Reps.one (show Kd.M (Kd.int .u64) _ _ _ 2 [.int .u64 2] from rfl) (Reps.one (show Kd.M (Kd.int .u64) _ _ _ 3 [.int .u64 3] from rfl) (Reps.none _ _))))); intro v102 w44 ho45 hb hg_ hnew_; clear hg_ hnew_; (first | rw [← Ny101.out] at ho45 | (simp only [Int.reduceToNat] at ho45; rw [← Ny101.out] at ho45)); have n0_ := Aside0.mk (Kd.R_lower ho45 (below_size (by repeat (first | (with_reducible first | exact HB.out | apply below_alloc | apply pw_below_drewN | apply below_drew1) | exact HB.out)))); have n1_ := Aside0.mk (below_step (by repeat (first | (with_reducible first | exact HB.out | apply below_alloc | apply pw_below_drewN | apply below_drew1) | exact HB.out)) hb); clear HB; have HO103 := n0_; have HB := n1_; clear n0_ n1_; clear hb ho45) | ((with_reducible refine gate_dst (N := 5) rfl ?_); (try (refine gate_guard (by rfl) ?_; dsimp only)); refine Kd.R_lit (Kd.int .u64) _ 42 ?hg (N := 5) ?hd (xs := ([4, 5] : List Int)) (inner := [.int .u64 4, .int .u64 5]) (ok := fun _ => True) (okp := fun _ => True) ?hr ?hp (fun _ hk => hk) trivial (Below.refl _ _) (Nat.le_refl _) (by simp) ?_; (case hd => rfl); (case hg => rfl); (case hr => first | (go_simp; done) | (go_simp; rfl)); (case hp => exact (Reps.one (show Kd.M (Kd.int .u64) _ _ _ 4 [.int .u64 4] from rfl) (Reps.one (show Kd.M (Kd.int .u64) _ _ _ 5 [.int .u64 5] from rfl) (Reps.none _ _)))); intro v105 w46 ho47 hb hg_ hnew_; clear hg_ hnew_; (first | rw [← Ny104.out] at ho47 | (simp only [Int.reduceToNat] at ho47; rw [← Ny104.out] at ho47)); have n0_ := Aside0.mk (Kd.R_elder' (by (with_reducible repeat (first | apply Kd.R_alloc | apply Kd.R_drewN | apply Kd.R_drew)); exact HO103.out) (Kd.R_base ho47) hb); have n1_ := Aside0.mk (Kd.R_lower (Kd.R_new' ho47 (Kd.R_lt (by (with_reducible repeat (first | apply Kd.R_alloc | apply Kd.R_drewN | apply Kd.R_drew)); exact HO103.out))) (below_size (by repeat (first | (with_reducible first | exact HB.out | apply below_alloc | apply pw_below_drewN | apply below_drew1) | exact HB.out)))); have n2_ := Aside0.mk (below_step (by repeat (first | (with_reducible first | exact HB.out | apply below_alloc | apply pw_below_drewN | apply below_drew1) | exact HB.out)) hb); clear HO103; clear HB; have HO103 := n0_; have HO106 := n1_; have HB := n2_; clear n0_ n1_ n2_; clear hb ho47; obtain ⟨Ao48, co48, eo48⟩ := Kd.R_slice HO103.out; subst eo48; obtain ⟨Ao49, co49, eo49⟩ := Kd.R_slice HO106.out; subst eo49) | ((with_reducible refine gate_dst (N := 6) rfl ?_); (try (refine gate_guard (by rfl) ?_; dsimp only)); refine Kd.N_lit (Kd.slice 42 (Kd.int .u64)) _ 37 ?hg (N' := 6) ?hd (xs := ([y101, y104] : List (List Int))) (inner := [.slice Ao48 y101.length co48, .slice Ao49 y104.length co49]) (ok := (fun _ => True)) (okp := (fun _ => True)) ?hr ?hp (fun _ hk => hk) ((show ∀ k_, w46.heap.size ≤ k_ → (fun _ => True) k_ from fun k_ hk => trivial) _ (Nat.le_refl _)) (Below.refl _ _) (Nat.le_refl _) (by simp) ?_; (case hd => rfl); (case hg => rfl); (case hr => first | (go_simp; done) | (go_simp; rfl)); (case hp => exact (Reps.one (show Kd.FK (Kd.slice 42 (Kd.int .u64)) _ _ y101 [.slice Ao48 y101.length co48] from (Kd.FK_slice_mk (Kd.R_reads' (Kd.R_mono (ok' := (fun _ => True)) (HO103.out) (fun k_ hk => trivial))).2.1 (Kd.R_F (Kd.R_mono (ok' := (fun _ => True)) (HO103.out) (fun k_ hk => trivial))))) (Reps.one (show Kd.FK (Kd.slice 42 (Kd.int .u64)) _ _ y104 [.slice Ao49 y104.length co49] from (Kd.FK_slice_mk (Kd.R_reads' (Kd.R_mono (ok' := (fun _ => True)) (HO106.out) (fun k_ hk => trivial))).2.1 (Kd.R_F (Kd.R_mono (ok' := (fun _ => True)) (HO106.out) (fun k_ hk => trivial))))) (Reps.none _ _)))); intro v108 w50 ho51 hb hg_ hnew_; clear hg_ hnew_; (first | rw [← Ny107.out] at ho51 | (simp only [Int.reduceToNat] at ho51; rw [← Ny107.out] at ho51)); have n0_ := Aside0.mk (Kd.N_lower ho51 (below_size (by repeat (first | (with_reducible first | exact HB.out | apply below_alloc | apply pw_below_drewN | apply below_drew1) | exact HB.out)))); have n1_ := Aside0.mk (below_step (by repeat (first | (with_reducible first | exact HB.out | apply below_alloc | apply pw_below_drewN | apply below_drew1) | exact HB.out)) hb); clear HB; clear HO103; clear HO106; have HO109 := n0_; have HB := n1_; clear n0_ n1_; clear hb ho51; obtain ⟨Ao52, co52, eo52⟩ := Kd.N_slice HO109.out; subst eo52) | ((with_reducible refine gate_callee (f := 46) rfl ?_); refine goesL_ (some 9) rfl rfl Try.func46 (by kernel_rfl) rfl #[.slice Ao52 y107.length co52, .int .i64 1, .int .i64 0] rfl (by (try simp only [List.map_toArray, List.map_cons, List.map_nil]); first | done | rfl | (simp only [List.length_drop, List.length_take]; rfl)) ?_; (with_reducible refine (arena_Word.calls _ _ y107 1 0 t110 t111 _ ?side1 ?side2 A1.out).mono ?_); (case side1 => repeat (first | exact (Kd.N_reads' HO109.out).2.2 | (with_reducible refine Kd.C_alloc ?_ _) | (with_reducible refine Kd.C_drewN ?_ _) | (with_reducible refine Kd.C_drew ?_))); (case side2 => exact (Kd.N_reads' HO109.out).2.1); rintro e w' ⟨rfl, ⟨nd, rfl⟩⟩; refine ⟨_, rfl, ?_⟩) | ((with_reducible refine gate_dst (N := 12) rfl ?_); (try (refine gate_guard (by rfl) ?_; dsimp only)); refine Kd.R_lit (Kd.int .i64) _ 3 ?hg (N := 12) ?hd (xs := ([3, 2] : List Int)) (inner := [.int .i64 3, .int .i64 2]) (ok := fun _ => True) (okp := fun _ => True) ?hr ?hp (fun _ hk => hk) trivial (Below.refl _ _) (Nat.le_refl _) (by simp) ?_; (case hd => rfl); (case hg => rfl); (case hr => first | (go_simp; done) | (go_simp; rfl)); (case hp => exact (Reps.one (show Kd.M (Kd.int .i64) _ _ _ 3 [.int .i64 3] from rfl) (Reps.one (show Kd.M (Kd.int .i64) _ _ _ 2 [.int .i64 2] from rfl) (Reps.none _ _)))); intro v113 w53 ho54 hb hg_ hnew_; clear hg_ hnew_; (first | rw [← Ny112.out] at ho54 | (simp only [Int.reduceToNat] at ho54; rw [← Ny112.out] at ho54)); have n0_ := Aside0.mk (Kd.N_elder' (by (with_reducible repeat (first | apply Kd.N_alloc | apply Kd.N_drewN | apply Kd.N_drew)); exact HO109.out) (Kd.R_base ho54) hb); have n1_ := Aside0.mk (Kd.R_lower ho54 (below_size (by repeat (first | (with_reducible first | exact HB.out | apply below_alloc | apply pw_below_drewN | apply below_drew1) | exact HB.out)))); have n2_ := Aside0.mk (below_step (by repeat (first | (with_reducible first | exact HB.out | apply below_alloc | apply pw_below_drewN | apply below_drew1) | exact HB.out)) hb); clear HO109; clear HB; have HO109 := n0_; have HO114 := n1_; have HB := n2_; clear n0_ n1_ n2_; clear hb ho54; obtain ⟨Ao55, co55, eo55⟩ := Kd.R_slice HO114.out; subst eo55) | ((with_reducible refine gate_callee (f := 35) rfl ?_); refine goesL_ (some 13) rfl rfl Try.func35 (by kernel_rfl) rfl #[.slice Ao55 y112.length co55, .int .i64 1, .int .i64 0] rfl (by (try simp only [List.map_toArray, List.map_cons, List.map_nil]); first | done | rfl | (simp only [List.length_drop, List.length_take]; rfl)) ?_; (with_reducible refine (arena_Place.calls _ _ y112 1 0 t115 _ ?side1 ?side2 A2.out).mono ?_); (case side1 => repeat (first | exact (Kd.R_reads' HO114.out).2.2 | (with_reducible refine Kd.C_alloc ?_ _) | (with_reducible refine Kd.C_drewN ?_ _) | (with_reducible refine Kd.C_drew ?_))); (case side2 => exact (Kd.R_reads' HO114.out).2.1); rintro e w56 ⟨rfl, hb⟩; refine ⟨_, rfl, ?_⟩; have n0_ := Aside0.mk (Kd.N_below (by (with_reducible repeat (first | apply Kd.N_alloc | apply Kd.N_drewN | apply Kd.N_drew)); exact HO109.out) hb); have n1_ := Aside0.mk (Kd.R_below (by (with_reducible repeat (first | apply Kd.R_alloc | apply Kd.R_drewN | apply Kd.R_drew)); exact HO114.out) hb); have n2_ := Aside0.mk (below_step (by repeat (first | (with_reducible first | exact HB.out | apply below_alloc | apply pw_below_drewN | apply below_drew1) | exact HB.out)) hb); clear HO109; clear HO114; clear HB; have HO109 := n0_; have HO114 := n1_; have HB := n2_; clear n0_ n1_ n2_; (try clear hb); (try clear hb2); (try clear hk); (try clear hi)) | (go_at_call 21; (with_reducible refine (arena_Right_c.calls _ _ y107 false _ ?side1 ?side2 A6.out).mono ?_); (case side1 => repeat (first | exact (Kd.N_reads' HO109.out).2.2 | (with_reducible refine Kd.C_alloc ?_ _) | (with_reducible refine Kd.C_drewN ?_ _) | (with_reducible refine Kd.C_drew ?_))); (case side2 => exact (Kd.N_reads' HO109.out).2.1); rintro e w57 ⟨rfl, hb⟩; have n0_ := Aside0.mk (Kd.N_below (by (with_reducible repeat (first | apply Kd.N_alloc | apply Kd.N_drewN | apply Kd.N_drew)); exact HO109.out) hb); have n1_ := Aside0.mk (Kd.R_below (by (with_reducible repeat (first | apply Kd.R_alloc | apply Kd.R_drewN | apply Kd.R_drew)); exact HO114.out) hb); have n2_ := Aside0.mk (below_step (by repeat (first | (with_reducible first | exact HB.out | apply below_alloc | apply pw_below_drewN | apply below_drew1) | exact HB.out)) hb); clear HO109; clear HO114; clear HB; have HO109 := n0_; have HO114 := n1_; have HB := n2_; clear n0_ n1_ n2_; (try clear hb); (try clear hb2); (try clear hk); (try clear hi)))
          go_ret
          exact ⟨by first | rfl | (simp [errW_none, errW_some] <;> rfl) | (simp [*, errW_none, errW_some] <;> rfl), by repeat (first | (with_reducible first | exact HB.out | apply below_alloc | apply pw_below_drewN | apply below_drew1) | exact HB.out)⟩
      · rw [if_neg c5] at H
        have c5b0 : (t111 == 0) = false := beq_eq_false_iff_ne.mpr c5
        have c5b1 : (t111 != 0) = true := bne_iff_ne.mpr c5
        obtain rfl := Option.some.inj H
        go_enter Try.func12, Try.ntmps12
        go_wp2_with (first | ((with_reducible refine gate_dst (N := 4) rfl ?_); (try (refine gate_guard (by rfl) ?_; dsimp only)); refine Kd.R_lit (Kd.int .u64) _ 42 ?hg (N := 4) ?hd (xs := ([1, 2, 3] : List Int)) (inner := [.int .u64 1, .int .u64 2, .int .u64 3]) (ok := fun _ => True) (okp := fun _ => True) ?hr ?hp (fun _ hk => hk) trivial (Below.refl _ _) (Nat.le_refl _) (by simp) ?_; (case hd => rfl); (case hg => rfl); (case hr => first | (go_simp; done) | (go_simp; rfl)); (case hp => exact (Reps.one (show Kd.M (Kd.int .u64) _ _ _ 1 [.int .u64 1] from rfl) (Reps.one (show Kd.M (Kd.int .u64) _ _ _ 2 [.int .u64 2] from rfl) (Reps.one (show Kd.M (Kd.int .u64) _ _ _ 3 [.int .u64 3] from rfl) (Reps.none _ _))))); intro v102 w58 ho59 hb hg_ hnew_; clear hg_ hnew_; (first | rw [← Ny101.out] at ho59 | (simp only [Int.reduceToNat] at ho59; rw [← Ny101.out] at ho59)); have n0_ := Aside0.mk (Kd.R_lower ho59 (below_size (by repeat (first | (with_reducible first | exact HB.out | apply below_alloc | apply pw_below_drewN | apply below_drew1) | exact HB.out)))); have n1_ := Aside0.mk (below_step (by repeat (first | (with_reducible first | exact HB.out | apply below_alloc | apply pw_below_drewN | apply below_drew1) | exact HB.out)) hb); clear HB; have HO103 := n0_; have HB := n1_; clear n0_ n1_; clear hb ho59) | ((with_reducible refine gate_dst (N := 5) rfl ?_); (try (refine gate_guard (by rfl) ?_; dsimp only)); refine Kd.R_lit (Kd.int .u64) _ 42 ?hg (N := 5) ?hd (xs := ([4, 5] : List Int)) (inner := [.int .u64 4, .int .u64 5]) (ok := fun _ => True) (okp := fun _ => True) ?hr ?hp (fun _ hk => hk) trivial (Below.refl _ _) (Nat.le_refl _) (by simp) ?_; (case hd => rfl); (case hg => rfl); (case hr => first | (go_simp; done) | (go_simp; rfl)); (case hp => exact (Reps.one (show Kd.M (Kd.int .u64) _ _ _ 4 [.int .u64 4] from rfl) (Reps.one (show Kd.M (Kd.int .u64) _ _ _ 5 [.int .u64 5] from rfl) (Reps.none _ _)))); intro v105 w60 ho61 hb hg_ hnew_; clear hg_ hnew_; (first | rw [← Ny104.out] at ho61 | (simp only [Int.reduceToNat] at ho61; rw [← Ny104.out] at ho61)); have n0_ := Aside0.mk (Kd.R_elder' (by (with_reducible repeat (first | apply Kd.R_alloc | apply Kd.R_drewN | apply Kd.R_drew)); exact HO103.out) (Kd.R_base ho61) hb); have n1_ := Aside0.mk (Kd.R_lower (Kd.R_new' ho61 (Kd.R_lt (by (with_reducible repeat (first | apply Kd.R_alloc | apply Kd.R_drewN | apply Kd.R_drew)); exact HO103.out))) (below_size (by repeat (first | (with_reducible first | exact HB.out | apply below_alloc | apply pw_below_drewN | apply below_drew1) | exact HB.out)))); have n2_ := Aside0.mk (below_step (by repeat (first | (with_reducible first | exact HB.out | apply below_alloc | apply pw_below_drewN | apply below_drew1) | exact HB.out)) hb); clear HO103; clear HB; have HO103 := n0_; have HO106 := n1_; have HB := n2_; clear n0_ n1_ n2_; clear hb ho61; obtain ⟨Ao62, co62, eo62⟩ := Kd.R_slice HO103.out; subst eo62; obtain ⟨Ao63, co63, eo63⟩ := Kd.R_slice HO106.out; subst eo63) | ((with_reducible refine gate_dst (N := 6) rfl ?_); (try (refine gate_guard (by rfl) ?_; dsimp only)); refine Kd.N_lit (Kd.slice 42 (Kd.int .u64)) _ 37 ?hg (N' := 6) ?hd (xs := ([y101, y104] : List (List Int))) (inner := [.slice Ao62 y101.length co62, .slice Ao63 y104.length co63]) (ok := (fun _ => True)) (okp := (fun _ => True)) ?hr ?hp (fun _ hk => hk) ((show ∀ k_, w60.heap.size ≤ k_ → (fun _ => True) k_ from fun k_ hk => trivial) _ (Nat.le_refl _)) (Below.refl _ _) (Nat.le_refl _) (by simp) ?_; (case hd => rfl); (case hg => rfl); (case hr => first | (go_simp; done) | (go_simp; rfl)); (case hp => exact (Reps.one (show Kd.FK (Kd.slice 42 (Kd.int .u64)) _ _ y101 [.slice Ao62 y101.length co62] from (Kd.FK_slice_mk (Kd.R_reads' (Kd.R_mono (ok' := (fun _ => True)) (HO103.out) (fun k_ hk => trivial))).2.1 (Kd.R_F (Kd.R_mono (ok' := (fun _ => True)) (HO103.out) (fun k_ hk => trivial))))) (Reps.one (show Kd.FK (Kd.slice 42 (Kd.int .u64)) _ _ y104 [.slice Ao63 y104.length co63] from (Kd.FK_slice_mk (Kd.R_reads' (Kd.R_mono (ok' := (fun _ => True)) (HO106.out) (fun k_ hk => trivial))).2.1 (Kd.R_F (Kd.R_mono (ok' := (fun _ => True)) (HO106.out) (fun k_ hk => trivial))))) (Reps.none _ _)))); intro v108 w64 ho65 hb hg_ hnew_; clear hg_ hnew_; (first | rw [← Ny107.out] at ho65 | (simp only [Int.reduceToNat] at ho65; rw [← Ny107.out] at ho65)); have n0_ := Aside0.mk (Kd.N_lower ho65 (below_size (by repeat (first | (with_reducible first | exact HB.out | apply below_alloc | apply pw_below_drewN | apply below_drew1) | exact HB.out)))); have n1_ := Aside0.mk (below_step (by repeat (first | (with_reducible first | exact HB.out | apply below_alloc | apply pw_below_drewN | apply below_drew1) | exact HB.out)) hb); clear HB; clear HO103; clear HO106; have HO109 := n0_; have HB := n1_; clear n0_ n1_; clear hb ho65; obtain ⟨Ao66, co66, eo66⟩ := Kd.N_slice HO109.out; subst eo66) | ((with_reducible refine gate_callee (f := 46) rfl ?_); refine goesL_ (some 9) rfl rfl Try.func46 (by kernel_rfl) rfl #[.slice Ao66 y107.length co66, .int .i64 1, .int .i64 0] rfl (by (try simp only [List.map_toArray, List.map_cons, List.map_nil]); first | done | rfl | (simp only [List.length_drop, List.length_take]; rfl)) ?_; (with_reducible refine (arena_Word.calls _ _ y107 1 0 t110 t111 _ ?side1 ?side2 A1.out).mono ?_); (case side1 => repeat (first | exact (Kd.N_reads' HO109.out).2.2 | (with_reducible refine Kd.C_alloc ?_ _) | (with_reducible refine Kd.C_drewN ?_ _) | (with_reducible refine Kd.C_drew ?_))); (case side2 => exact (Kd.N_reads' HO109.out).2.1); rintro e w' ⟨rfl, ⟨nd, rfl⟩⟩; refine ⟨_, rfl, ?_⟩) | ((with_reducible refine gate_dst (N := 12) rfl ?_); (try (refine gate_guard (by rfl) ?_; dsimp only)); refine Kd.R_lit (Kd.int .i64) _ 3 ?hg (N := 12) ?hd (xs := ([3, 2] : List Int)) (inner := [.int .i64 3, .int .i64 2]) (ok := fun _ => True) (okp := fun _ => True) ?hr ?hp (fun _ hk => hk) trivial (Below.refl _ _) (Nat.le_refl _) (by simp) ?_; (case hd => rfl); (case hg => rfl); (case hr => first | (go_simp; done) | (go_simp; rfl)); (case hp => exact (Reps.one (show Kd.M (Kd.int .i64) _ _ _ 3 [.int .i64 3] from rfl) (Reps.one (show Kd.M (Kd.int .i64) _ _ _ 2 [.int .i64 2] from rfl) (Reps.none _ _)))); intro v113 w67 ho68 hb hg_ hnew_; clear hg_ hnew_; (first | rw [← Ny112.out] at ho68 | (simp only [Int.reduceToNat] at ho68; rw [← Ny112.out] at ho68)); have n0_ := Aside0.mk (Kd.N_elder' (by (with_reducible repeat (first | apply Kd.N_alloc | apply Kd.N_drewN | apply Kd.N_drew)); exact HO109.out) (Kd.R_base ho68) hb); have n1_ := Aside0.mk (Kd.R_lower ho68 (below_size (by repeat (first | (with_reducible first | exact HB.out | apply below_alloc | apply pw_below_drewN | apply below_drew1) | exact HB.out)))); have n2_ := Aside0.mk (below_step (by repeat (first | (with_reducible first | exact HB.out | apply below_alloc | apply pw_below_drewN | apply below_drew1) | exact HB.out)) hb); clear HO109; clear HB; have HO109 := n0_; have HO114 := n1_; have HB := n2_; clear n0_ n1_ n2_; clear hb ho68; obtain ⟨Ao69, co69, eo69⟩ := Kd.R_slice HO114.out; subst eo69) | ((with_reducible refine gate_callee (f := 35) rfl ?_); refine goesL_ (some 13) rfl rfl Try.func35 (by kernel_rfl) rfl #[.slice Ao69 y112.length co69, .int .i64 1, .int .i64 0] rfl (by (try simp only [List.map_toArray, List.map_cons, List.map_nil]); first | done | rfl | (simp only [List.length_drop, List.length_take]; rfl)) ?_; (with_reducible refine (arena_Place.calls _ _ y112 1 0 t115 _ ?side1 ?side2 A2.out).mono ?_); (case side1 => repeat (first | exact (Kd.R_reads' HO114.out).2.2 | (with_reducible refine Kd.C_alloc ?_ _) | (with_reducible refine Kd.C_drewN ?_ _) | (with_reducible refine Kd.C_drew ?_))); (case side2 => exact (Kd.R_reads' HO114.out).2.1); rintro e w70 ⟨rfl, hb⟩; refine ⟨_, rfl, ?_⟩; have n0_ := Aside0.mk (Kd.N_below (by (with_reducible repeat (first | apply Kd.N_alloc | apply Kd.N_drewN | apply Kd.N_drew)); exact HO109.out) hb); have n1_ := Aside0.mk (Kd.R_below (by (with_reducible repeat (first | apply Kd.R_alloc | apply Kd.R_drewN | apply Kd.R_drew)); exact HO114.out) hb); have n2_ := Aside0.mk (below_step (by repeat (first | (with_reducible first | exact HB.out | apply below_alloc | apply pw_below_drewN | apply below_drew1) | exact HB.out)) hb); clear HO109; clear HO114; clear HB; have HO109 := n0_; have HO114 := n1_; have HB := n2_; clear n0_ n1_ n2_; (try clear hb); (try clear hb2); (try clear hk); (try clear hi)))
        go_ret
        exact ⟨by first | rfl | (simp [errW_none, errW_some] <;> rfl) | (simp [*, errW_none, errW_some] <;> rfl), by repeat (first | (with_reducible first | exact HB.out | apply below_alloc | apply pw_below_drewN | apply below_drew1) | exact HB.out)⟩
    · rw [if_neg c4] at H
      have c4b0 : (t110 == 4) = false := beq_eq_false_iff_ne.mpr c4
      have c4b1 : (t110 != 4) = true := bne_iff_ne.mpr c4
      obtain rfl := Option.some.inj H
      go_enter Try.func12, Try.ntmps12
      go_wp2_with (first | ((with_reducible refine gate_dst (N := 4) rfl ?_); (try (refine gate_guard (by rfl) ?_; dsimp only)); refine Kd.R_lit (Kd.int .u64) _ 42 ?hg (N := 4) ?hd (xs := ([1, 2, 3] : List Int)) (inner := [.int .u64 1, .int .u64 2, .int .u64 3]) (ok := fun _ => True) (okp := fun _ => True) ?hr ?hp (fun _ hk => hk) trivial (Below.refl _ _) (Nat.le_refl _) (by simp) ?_; (case hd => rfl); (case hg => rfl); (case hr => first | (go_simp; done) | (go_simp; rfl)); (case hp => exact (Reps.one (show Kd.M (Kd.int .u64) _ _ _ 1 [.int .u64 1] from rfl) (Reps.one (show Kd.M (Kd.int .u64) _ _ _ 2 [.int .u64 2] from rfl) (Reps.one (show Kd.M (Kd.int .u64) _ _ _ 3 [.int .u64 3] from rfl) (Reps.none _ _))))); intro v102 w71 ho72 hb hg_ hnew_; clear hg_ hnew_; (first | rw [← Ny101.out] at ho72 | (simp only [Int.reduceToNat] at ho72; rw [← Ny101.out] at ho72)); have n0_ := Aside0.mk (Kd.R_lower ho72 (below_size (by repeat (first | (with_reducible first | exact HB.out | apply below_alloc | apply pw_below_drewN | apply below_drew1) | exact HB.out)))); have n1_ := Aside0.mk (below_step (by repeat (first | (with_reducible first | exact HB.out | apply below_alloc | apply pw_below_drewN | apply below_drew1) | exact HB.out)) hb); clear HB; have HO103 := n0_; have HB := n1_; clear n0_ n1_; clear hb ho72) | ((with_reducible refine gate_dst (N := 5) rfl ?_); (try (refine gate_guard (by rfl) ?_; dsimp only)); refine Kd.R_lit (Kd.int .u64) _ 42 ?hg (N := 5) ?hd (xs := ([4, 5] : List Int)) (inner := [.int .u64 4, .int .u64 5]) (ok := fun _ => True) (okp := fun _ => True) ?hr ?hp (fun _ hk => hk) trivial (Below.refl _ _) (Nat.le_refl _) (by simp) ?_; (case hd => rfl); (case hg => rfl); (case hr => first | (go_simp; done) | (go_simp; rfl)); (case hp => exact (Reps.one (show Kd.M (Kd.int .u64) _ _ _ 4 [.int .u64 4] from rfl) (Reps.one (show Kd.M (Kd.int .u64) _ _ _ 5 [.int .u64 5] from rfl) (Reps.none _ _)))); intro v105 w73 ho74 hb hg_ hnew_; clear hg_ hnew_; (first | rw [← Ny104.out] at ho74 | (simp only [Int.reduceToNat] at ho74; rw [← Ny104.out] at ho74)); have n0_ := Aside0.mk (Kd.R_elder' (by (with_reducible repeat (first | apply Kd.R_alloc | apply Kd.R_drewN | apply Kd.R_drew)); exact HO103.out) (Kd.R_base ho74) hb); have n1_ := Aside0.mk (Kd.R_lower (Kd.R_new' ho74 (Kd.R_lt (by (with_reducible repeat (first | apply Kd.R_alloc | apply Kd.R_drewN | apply Kd.R_drew)); exact HO103.out))) (below_size (by repeat (first | (with_reducible first | exact HB.out | apply below_alloc | apply pw_below_drewN | apply below_drew1) | exact HB.out)))); have n2_ := Aside0.mk (below_step (by repeat (first | (with_reducible first | exact HB.out | apply below_alloc | apply pw_below_drewN | apply below_drew1) | exact HB.out)) hb); clear HO103; clear HB; have HO103 := n0_; have HO106 := n1_; have HB := n2_; clear n0_ n1_ n2_; clear hb ho74; obtain ⟨Ao75, co75, eo75⟩ := Kd.R_slice HO103.out; subst eo75; obtain ⟨Ao76, co76, eo76⟩ := Kd.R_slice HO106.out; subst eo76) | ((with_reducible refine gate_dst (N := 6) rfl ?_); (try (refine gate_guard (by rfl) ?_; dsimp only)); refine Kd.N_lit (Kd.slice 42 (Kd.int .u64)) _ 37 ?hg (N' := 6) ?hd (xs := ([y101, y104] : List (List Int))) (inner := [.slice Ao75 y101.length co75, .slice Ao76 y104.length co76]) (ok := (fun _ => True)) (okp := (fun _ => True)) ?hr ?hp (fun _ hk => hk) ((show ∀ k_, w73.heap.size ≤ k_ → (fun _ => True) k_ from fun k_ hk => trivial) _ (Nat.le_refl _)) (Below.refl _ _) (Nat.le_refl _) (by simp) ?_; (case hd => rfl); (case hg => rfl); (case hr => first | (go_simp; done) | (go_simp; rfl)); (case hp => exact (Reps.one (show Kd.FK (Kd.slice 42 (Kd.int .u64)) _ _ y101 [.slice Ao75 y101.length co75] from (Kd.FK_slice_mk (Kd.R_reads' (Kd.R_mono (ok' := (fun _ => True)) (HO103.out) (fun k_ hk => trivial))).2.1 (Kd.R_F (Kd.R_mono (ok' := (fun _ => True)) (HO103.out) (fun k_ hk => trivial))))) (Reps.one (show Kd.FK (Kd.slice 42 (Kd.int .u64)) _ _ y104 [.slice Ao76 y104.length co76] from (Kd.FK_slice_mk (Kd.R_reads' (Kd.R_mono (ok' := (fun _ => True)) (HO106.out) (fun k_ hk => trivial))).2.1 (Kd.R_F (Kd.R_mono (ok' := (fun _ => True)) (HO106.out) (fun k_ hk => trivial))))) (Reps.none _ _)))); intro v108 w77 ho78 hb hg_ hnew_; clear hg_ hnew_; (first | rw [← Ny107.out] at ho78 | (simp only [Int.reduceToNat] at ho78; rw [← Ny107.out] at ho78)); have n0_ := Aside0.mk (Kd.N_lower ho78 (below_size (by repeat (first | (with_reducible first | exact HB.out | apply below_alloc | apply pw_below_drewN | apply below_drew1) | exact HB.out)))); have n1_ := Aside0.mk (below_step (by repeat (first | (with_reducible first | exact HB.out | apply below_alloc | apply pw_below_drewN | apply below_drew1) | exact HB.out)) hb); clear HB; clear HO103; clear HO106; have HO109 := n0_; have HB := n1_; clear n0_ n1_; clear hb ho78; obtain ⟨Ao79, co79, eo79⟩ := Kd.N_slice HO109.out; subst eo79) | ((with_reducible refine gate_callee (f := 46) rfl ?_); refine goesL_ (some 9) rfl rfl Try.func46 (by kernel_rfl) rfl #[.slice Ao79 y107.length co79, .int .i64 1, .int .i64 0] rfl (by (try simp only [List.map_toArray, List.map_cons, List.map_nil]); first | done | rfl | (simp only [List.length_drop, List.length_take]; rfl)) ?_; (with_reducible refine (arena_Word.calls _ _ y107 1 0 t110 t111 _ ?side1 ?side2 A1.out).mono ?_); (case side1 => repeat (first | exact (Kd.N_reads' HO109.out).2.2 | (with_reducible refine Kd.C_alloc ?_ _) | (with_reducible refine Kd.C_drewN ?_ _) | (with_reducible refine Kd.C_drew ?_))); (case side2 => exact (Kd.N_reads' HO109.out).2.1); rintro e w' ⟨rfl, ⟨nd, rfl⟩⟩; refine ⟨_, rfl, ?_⟩) | ((with_reducible refine gate_dst (N := 12) rfl ?_); (try (refine gate_guard (by rfl) ?_; dsimp only)); refine Kd.R_lit (Kd.int .i64) _ 3 ?hg (N := 12) ?hd (xs := ([3, 2] : List Int)) (inner := [.int .i64 3, .int .i64 2]) (ok := fun _ => True) (okp := fun _ => True) ?hr ?hp (fun _ hk => hk) trivial (Below.refl _ _) (Nat.le_refl _) (by simp) ?_; (case hd => rfl); (case hg => rfl); (case hr => first | (go_simp; done) | (go_simp; rfl)); (case hp => exact (Reps.one (show Kd.M (Kd.int .i64) _ _ _ 3 [.int .i64 3] from rfl) (Reps.one (show Kd.M (Kd.int .i64) _ _ _ 2 [.int .i64 2] from rfl) (Reps.none _ _)))); intro v113 w80 ho81 hb hg_ hnew_; clear hg_ hnew_; (first | rw [← Ny112.out] at ho81 | (simp only [Int.reduceToNat] at ho81; rw [← Ny112.out] at ho81)); have n0_ := Aside0.mk (Kd.N_elder' (by (with_reducible repeat (first | apply Kd.N_alloc | apply Kd.N_drewN | apply Kd.N_drew)); exact HO109.out) (Kd.R_base ho81) hb); have n1_ := Aside0.mk (Kd.R_lower ho81 (below_size (by repeat (first | (with_reducible first | exact HB.out | apply below_alloc | apply pw_below_drewN | apply below_drew1) | exact HB.out)))); have n2_ := Aside0.mk (below_step (by repeat (first | (with_reducible first | exact HB.out | apply below_alloc | apply pw_below_drewN | apply below_drew1) | exact HB.out)) hb); clear HO109; clear HB; have HO109 := n0_; have HO114 := n1_; have HB := n2_; clear n0_ n1_ n2_; clear hb ho81; obtain ⟨Ao82, co82, eo82⟩ := Kd.R_slice HO114.out; subst eo82) | ((with_reducible refine gate_callee (f := 35) rfl ?_); refine goesL_ (some 13) rfl rfl Try.func35 (by kernel_rfl) rfl #[.slice Ao82 y112.length co82, .int .i64 1, .int .i64 0] rfl (by (try simp only [List.map_toArray, List.map_cons, List.map_nil]); first | done | rfl | (simp only [List.length_drop, List.length_take]; rfl)) ?_; (with_reducible refine (arena_Place.calls _ _ y112 1 0 t115 _ ?side1 ?side2 A2.out).mono ?_); (case side1 => repeat (first | exact (Kd.R_reads' HO114.out).2.2 | (with_reducible refine Kd.C_alloc ?_ _) | (with_reducible refine Kd.C_drewN ?_ _) | (with_reducible refine Kd.C_drew ?_))); (case side2 => exact (Kd.R_reads' HO114.out).2.1); rintro e w83 ⟨rfl, hb⟩; refine ⟨_, rfl, ?_⟩; have n0_ := Aside0.mk (Kd.N_below (by (with_reducible repeat (first | apply Kd.N_alloc | apply Kd.N_drewN | apply Kd.N_drew)); exact HO109.out) hb); have n1_ := Aside0.mk (Kd.R_below (by (with_reducible repeat (first | apply Kd.R_alloc | apply Kd.R_drewN | apply Kd.R_drew)); exact HO114.out) hb); have n2_ := Aside0.mk (below_step (by repeat (first | (with_reducible first | exact HB.out | apply below_alloc | apply pw_below_drewN | apply below_drew1) | exact HB.out)) hb); clear HO109; clear HO114; clear HB; have HO109 := n0_; have HO114 := n1_; have HB := n2_; clear n0_ n1_ n2_; (try clear hb); (try clear hb2); (try clear hk); (try clear hi)))
      go_ret
      exact ⟨by first | rfl | (simp [errW_none, errW_some] <;> rfl) | (simp [*, errW_none, errW_some] <;> rfl), by repeat (first | (with_reducible first | exact HB.out | apply below_alloc | apply pw_below_drewN | apply below_drew1) | exact HB.out)⟩
  · rw [if_neg c3] at H
    have c3b0 : (t115 == 3) = false := beq_eq_false_iff_ne.mpr c3
    have c3b1 : (t115 != 3) = true := bne_iff_ne.mpr c3
    obtain rfl := Option.some.inj H
    go_enter Try.func12, Try.ntmps12
    go_wp2_with (first | ((with_reducible refine gate_dst (N := 4) rfl ?_); (try (refine gate_guard (by rfl) ?_; dsimp only)); refine Kd.R_lit (Kd.int .u64) _ 42 ?hg (N := 4) ?hd (xs := ([1, 2, 3] : List Int)) (inner := [.int .u64 1, .int .u64 2, .int .u64 3]) (ok := fun _ => True) (okp := fun _ => True) ?hr ?hp (fun _ hk => hk) trivial (Below.refl _ _) (Nat.le_refl _) (by simp) ?_; (case hd => rfl); (case hg => rfl); (case hr => first | (go_simp; done) | (go_simp; rfl)); (case hp => exact (Reps.one (show Kd.M (Kd.int .u64) _ _ _ 1 [.int .u64 1] from rfl) (Reps.one (show Kd.M (Kd.int .u64) _ _ _ 2 [.int .u64 2] from rfl) (Reps.one (show Kd.M (Kd.int .u64) _ _ _ 3 [.int .u64 3] from rfl) (Reps.none _ _))))); intro v102 w84 ho85 hb hg_ hnew_; clear hg_ hnew_; (first | rw [← Ny101.out] at ho85 | (simp only [Int.reduceToNat] at ho85; rw [← Ny101.out] at ho85)); have n0_ := Aside0.mk (Kd.R_lower ho85 (below_size (by repeat (first | (with_reducible first | exact HB.out | apply below_alloc | apply pw_below_drewN | apply below_drew1) | exact HB.out)))); have n1_ := Aside0.mk (below_step (by repeat (first | (with_reducible first | exact HB.out | apply below_alloc | apply pw_below_drewN | apply below_drew1) | exact HB.out)) hb); clear HB; have HO103 := n0_; have HB := n1_; clear n0_ n1_; clear hb ho85) | ((with_reducible refine gate_dst (N := 5) rfl ?_); (try (refine gate_guard (by rfl) ?_; dsimp only)); refine Kd.R_lit (Kd.int .u64) _ 42 ?hg (N := 5) ?hd (xs := ([4, 5] : List Int)) (inner := [.int .u64 4, .int .u64 5]) (ok := fun _ => True) (okp := fun _ => True) ?hr ?hp (fun _ hk => hk) trivial (Below.refl _ _) (Nat.le_refl _) (by simp) ?_; (case hd => rfl); (case hg => rfl); (case hr => first | (go_simp; done) | (go_simp; rfl)); (case hp => exact (Reps.one (show Kd.M (Kd.int .u64) _ _ _ 4 [.int .u64 4] from rfl) (Reps.one (show Kd.M (Kd.int .u64) _ _ _ 5 [.int .u64 5] from rfl) (Reps.none _ _)))); intro v105 w86 ho87 hb hg_ hnew_; clear hg_ hnew_; (first | rw [← Ny104.out] at ho87 | (simp only [Int.reduceToNat] at ho87; rw [← Ny104.out] at ho87)); have n0_ := Aside0.mk (Kd.R_elder' (by (with_reducible repeat (first | apply Kd.R_alloc | apply Kd.R_drewN | apply Kd.R_drew)); exact HO103.out) (Kd.R_base ho87) hb); have n1_ := Aside0.mk (Kd.R_lower (Kd.R_new' ho87 (Kd.R_lt (by (with_reducible repeat (first | apply Kd.R_alloc | apply Kd.R_drewN | apply Kd.R_drew)); exact HO103.out))) (below_size (by repeat (first | (with_reducible first | exact HB.out | apply below_alloc | apply pw_below_drewN | apply below_drew1) | exact HB.out)))); have n2_ := Aside0.mk (below_step (by repeat (first | (with_reducible first | exact HB.out | apply below_alloc | apply pw_below_drewN | apply below_drew1) | exact HB.out)) hb); clear HO103; clear HB; have HO103 := n0_; have HO106 := n1_; have HB := n2_; clear n0_ n1_ n2_; clear hb ho87; obtain ⟨Ao88, co88, eo88⟩ := Kd.R_slice HO103.out; subst eo88; obtain ⟨Ao89, co89, eo89⟩ := Kd.R_slice HO106.out; subst eo89) | ((with_reducible refine gate_dst (N := 6) rfl ?_); (try (refine gate_guard (by rfl) ?_; dsimp only)); refine Kd.N_lit (Kd.slice 42 (Kd.int .u64)) _ 37 ?hg (N' := 6) ?hd (xs := ([y101, y104] : List (List Int))) (inner := [.slice Ao88 y101.length co88, .slice Ao89 y104.length co89]) (ok := (fun _ => True)) (okp := (fun _ => True)) ?hr ?hp (fun _ hk => hk) ((show ∀ k_, w86.heap.size ≤ k_ → (fun _ => True) k_ from fun k_ hk => trivial) _ (Nat.le_refl _)) (Below.refl _ _) (Nat.le_refl _) (by simp) ?_; (case hd => rfl); (case hg => rfl); (case hr => first | (go_simp; done) | (go_simp; rfl)); (case hp => exact (Reps.one (show Kd.FK (Kd.slice 42 (Kd.int .u64)) _ _ y101 [.slice Ao88 y101.length co88] from (Kd.FK_slice_mk (Kd.R_reads' (Kd.R_mono (ok' := (fun _ => True)) (HO103.out) (fun k_ hk => trivial))).2.1 (Kd.R_F (Kd.R_mono (ok' := (fun _ => True)) (HO103.out) (fun k_ hk => trivial))))) (Reps.one (show Kd.FK (Kd.slice 42 (Kd.int .u64)) _ _ y104 [.slice Ao89 y104.length co89] from (Kd.FK_slice_mk (Kd.R_reads' (Kd.R_mono (ok' := (fun _ => True)) (HO106.out) (fun k_ hk => trivial))).2.1 (Kd.R_F (Kd.R_mono (ok' := (fun _ => True)) (HO106.out) (fun k_ hk => trivial))))) (Reps.none _ _)))); intro v108 w90 ho91 hb hg_ hnew_; clear hg_ hnew_; (first | rw [← Ny107.out] at ho91 | (simp only [Int.reduceToNat] at ho91; rw [← Ny107.out] at ho91)); have n0_ := Aside0.mk (Kd.N_lower ho91 (below_size (by repeat (first | (with_reducible first | exact HB.out | apply below_alloc | apply pw_below_drewN | apply below_drew1) | exact HB.out)))); have n1_ := Aside0.mk (below_step (by repeat (first | (with_reducible first | exact HB.out | apply below_alloc | apply pw_below_drewN | apply below_drew1) | exact HB.out)) hb); clear HB; clear HO103; clear HO106; have HO109 := n0_; have HB := n1_; clear n0_ n1_; clear hb ho91; obtain ⟨Ao92, co92, eo92⟩ := Kd.N_slice HO109.out; subst eo92) | ((with_reducible refine gate_callee (f := 46) rfl ?_); refine goesL_ (some 9) rfl rfl Try.func46 (by kernel_rfl) rfl #[.slice Ao92 y107.length co92, .int .i64 1, .int .i64 0] rfl (by (try simp only [List.map_toArray, List.map_cons, List.map_nil]); first | done | rfl | (simp only [List.length_drop, List.length_take]; rfl)) ?_; (with_reducible refine (arena_Word.calls _ _ y107 1 0 t110 t111 _ ?side1 ?side2 A1.out).mono ?_); (case side1 => repeat (first | exact (Kd.N_reads' HO109.out).2.2 | (with_reducible refine Kd.C_alloc ?_ _) | (with_reducible refine Kd.C_drewN ?_ _) | (with_reducible refine Kd.C_drew ?_))); (case side2 => exact (Kd.N_reads' HO109.out).2.1); rintro e w' ⟨rfl, ⟨nd, rfl⟩⟩; refine ⟨_, rfl, ?_⟩) | ((with_reducible refine gate_dst (N := 12) rfl ?_); (try (refine gate_guard (by rfl) ?_; dsimp only)); refine Kd.R_lit (Kd.int .i64) _ 3 ?hg (N := 12) ?hd (xs := ([3, 2] : List Int)) (inner := [.int .i64 3, .int .i64 2]) (ok := fun _ => True) (okp := fun _ => True) ?hr ?hp (fun _ hk => hk) trivial (Below.refl _ _) (Nat.le_refl _) (by simp) ?_; (case hd => rfl); (case hg => rfl); (case hr => first | (go_simp; done) | (go_simp; rfl)); (case hp => exact (Reps.one (show Kd.M (Kd.int .i64) _ _ _ 3 [.int .i64 3] from rfl) (Reps.one (show Kd.M (Kd.int .i64) _ _ _ 2 [.int .i64 2] from rfl) (Reps.none _ _)))); intro v113 w93 ho94 hb hg_ hnew_; clear hg_ hnew_; (first | rw [← Ny112.out] at ho94 | (simp only [Int.reduceToNat] at ho94; rw [← Ny112.out] at ho94)); have n0_ := Aside0.mk (Kd.N_elder' (by (with_reducible repeat (first | apply Kd.N_alloc | apply Kd.N_drewN | apply Kd.N_drew)); exact HO109.out) (Kd.R_base ho94) hb); have n1_ := Aside0.mk (Kd.R_lower ho94 (below_size (by repeat (first | (with_reducible first | exact HB.out | apply below_alloc | apply pw_below_drewN | apply below_drew1) | exact HB.out)))); have n2_ := Aside0.mk (below_step (by repeat (first | (with_reducible first | exact HB.out | apply below_alloc | apply pw_below_drewN | apply below_drew1) | exact HB.out)) hb); clear HO109; clear HB; have HO109 := n0_; have HO114 := n1_; have HB := n2_; clear n0_ n1_ n2_; clear hb ho94; obtain ⟨Ao95, co95, eo95⟩ := Kd.R_slice HO114.out; subst eo95) | ((with_reducible refine gate_callee (f := 35) rfl ?_); refine goesL_ (some 13) rfl rfl Try.func35 (by kernel_rfl) rfl #[.slice Ao95 y112.length co95, .int .i64 1, .int .i64 0] rfl (by (try simp only [List.map_toArray, List.map_cons, List.map_nil]); first | done | rfl | (simp only [List.length_drop, List.length_take]; rfl)) ?_; (with_reducible refine (arena_Place.calls _ _ y112 1 0 t115 _ ?side1 ?side2 A2.out).mono ?_); (case side1 => repeat (first | exact (Kd.R_reads' HO114.out).2.2 | (with_reducible refine Kd.C_alloc ?_ _) | (with_reducible refine Kd.C_drewN ?_ _) | (with_reducible refine Kd.C_drew ?_))); (case side2 => exact (Kd.R_reads' HO114.out).2.1); rintro e w96 ⟨rfl, hb⟩; refine ⟨_, rfl, ?_⟩; have n0_ := Aside0.mk (Kd.N_below (by (with_reducible repeat (first | apply Kd.N_alloc | apply Kd.N_drewN | apply Kd.N_drew)); exact HO109.out) hb); have n1_ := Aside0.mk (Kd.R_below (by (with_reducible repeat (first | apply Kd.R_alloc | apply Kd.R_drewN | apply Kd.R_drew)); exact HO114.out) hb); have n2_ := Aside0.mk (below_step (by repeat (first | (with_reducible first | exact HB.out | apply below_alloc | apply pw_below_drewN | apply below_drew1) | exact HB.out)) hb); clear HO109; clear HO114; clear HB; have HO109 := n0_; have HO114 := n1_; have HB := n2_; clear n0_ n1_ n2_; (try clear hb); (try clear hb2); (try clear hk); (try clear hi)))
    go_ret
    exact ⟨by first | rfl | (simp [errW_none, errW_some] <;> rfl) | (simp [*, errW_none, errW_some] <;> rfl), by repeat (first | (with_reducible first | exact HB.out | apply below_alloc | apply pw_below_drewN | apply below_drew1) | exact HB.out)⟩

end Go.Proofs.Ythlhnodedofibaa.F
end

section
/- slices.Backward over bytes: the closure's contract for whatever loop body keeps the slice's box and its bytes. -/
namespace Go.Proofs.Ythlhnodedofibaa.H
open Go.RowKit Go.Shelf
open Go.Proofs.YthlhnodedofibaaW.PrintWords
attribute [local go_sem] Oper.semAt_some

/-- What comes: from the last to the first, with its place. -/
def back (xs : List Int) (k : Nat) : List (Int × Int) := (List.range k).map fun (j : Nat) => ((xs.length : Int) - 1 - j, rd xs ((xs.length : Int) - 1 - j))
theorem back_succ (xs : List Int) (k : Nat) : back xs (k + 1) = back xs k ++ [((xs.length : Int) - 1 - k, rd xs ((xs.length : Int) - 1 - k))] := by simp [back, List.range_succ]
theorem back_length (xs : List Int) (k : Nat) : (back xs k).length = k := by simp [back]

theorem backward_in (a : Option Addr) (len cap : Nat) (w : World) :
    CallsIn Fence.wide 9 Try.prog 73 #[.slice a len cap] w fun e w' => e = .returned (.func (.func 82) #[] #[.pointer (some ⟨w.heap.size, 0, none⟩)]) ∧ w' = w.alloc (.cells #[.slice a len cap] 23) := by
  refine callsIn_of_wp Try.func73 rfl trivial ?_ rfl
  simp only [Try.ntmps73, List.size_toArray, List.length_cons, List.length_nil, Nat.reduceAdd, Nat.reduceSub, Array.replicate_succ, Array.replicate_zero, List.push_toArray, List.append_toArray, List.nil_append, List.cons_append]
  gi_wp2
  go_ret
  exact ⟨rfl, rfl⟩

set_option maxRecDepth 100000 in
set_option maxHeartbeats 2000000 in
theorem backward1_in (l Bs n₀ : Nat) (S : Nat → Prop) (A : Option Addr) (cap : Nat) (xs : List Int) (hx : xs.length ≤ 1000000) (J Jx : List (Int × Int) → World → Prop)
    (hY : ∀ pre x W, J pre W → pre.length < xs.length → YieldAt Fence.wide 8 Try.prog l #[.int .i64 x.1, .int .u8 x.2] W fun e W' =>
      (e = .returned (.bool true) ∧ J (pre ++ [x]) W' ∧ Kset n₀ S W W') ∨ (e = .returned (.bool false) ∧ Jx (pre ++ [x]) W'))
    (W : World) (hBs : W.cell? ⟨Bs, 0, none⟩ = some (.slice A xs.length cap)) (hC : ∀ W', Kset n₀ S W W' → (Kd.int .u8).C W' A xs.length xs) (hBn : Bs < n₀) (hBS : ¬ S Bs) (h0 : J [] W) :
    CallsIn Fence.wide 9 Try.prog 82 #[.func (.yield l) #[] #[], .pointer (some ⟨Bs, 0, none⟩)] W fun e W' => (∃ v, e = .returned v) ∧
      ((∃ ys, ys = back xs xs.length ∧ J ys W') ∨ (∃ pre, (∃ k, k ≤ xs.length ∧ pre = back xs k) ∧ Jx pre W')) := by
  refine callsIn_of_wp Try.func82 rfl trivial ?_ rfl
  simp only [Try.ntmps82, List.size_toArray, List.length_cons, List.length_nil, Nat.reduceAdd, Nat.reduceSub, Array.replicate_succ, Array.replicate_zero, List.push_toArray, List.append_toArray, List.nil_append, List.cons_append]
  gi_wp2
  gi_loopw [3] (fun i wr => ∃ k : Nat, k ≤ xs.length ∧ i = .int .i64 ((xs.length : Int) - 1 - k) ∧ J (back xs k) wr ∧ Kset n₀ S W wr)
    (fun i _ => (intOf i + 1).toNat)
  case atStart => exact ⟨0, Nat.zero_le _, by simp, h0, Kset.refl _ _ _⟩
  case round =>
    obtain ⟨k, hk, rfl, hJs, hnx⟩ := hrel
    have hBs' : wr.cell? ⟨Bs, 0, none⟩ = some (.slice A xs.length cap) := (hnx.cell (p := ⟨Bs, 0, none⟩) hBn hBS).trans hBs
    by_cases hlt : k < xs.length
    · obtain ⟨ad, hA, hcx⟩ := ReadsInt.at_ (Kd.reads_of_C (d := (0 : Int)) (hC wr hnx)) ((xs.length : Int) - 1 - k) (by omega) (by omega)
      obtain ⟨fn, tmps, assign, body, hy, hR⟩ := hY _ ((xs.length : Int) - 1 - k, rd xs ((xs.length : Int) - 1 - k)) wr hJs (by rw [back_length]; exact hlt)
      dsimp only at hy
      rw [← back_succ] at hR
      subst hA
      obtain ⟨i, hi⟩ : ∃ i : Int, (xs.length : Int) - 1 - k = i := ⟨_, rfl⟩
      rw [hi] at hy hcx ⊢
      have hi0 : 0 ≤ i := by omega
      have hi1 : i < (xs.length : Int) := by omega
      have hi2 : i ≤ 1000000 := by omega
      have HI : Hid _ := hi
      clear hi
      gi_wp2
      refine hR.mono ?_
      rintro e W3 (⟨rfl, hJ3, hk3⟩ | ⟨rfl, hJx3⟩)
      · gi_wp2
        go_roundw
        case rel => exact ⟨k + 1, by omega, by rw [← HI.out]; congr 1; omega, hJ3, hnx.trans hk3⟩
        case measure => simp [intOf]; omega
      · gi_wp2
        refine bodyPost_ret (results_none rfl _ _ _) rfl ?_
        exact ⟨⟨_, rfl⟩, .inr ⟨_, ⟨k + 1, by omega, rfl⟩, hJx3⟩⟩
    · obtain rfl : k = xs.length := by omega
      have hneg : ((xs.length : Int) - 1 - (xs.length : Int)) = -1 := by omega
      rw [hneg]
      clear hneg
      gi_wp2
      go_end0
      exact ⟨⟨_, rfl⟩, .inl ⟨_, rfl, hJs⟩⟩

end Go.Proofs.Ythlhnodedofibaa.H
end

section
namespace Go.Proofs.Ythlhnodedofibaa.F
open Go.RowKit Go.Proofs.YthlhnodedofibaaW.PrintWords Go.Proofs.YthlhnodedofibaaW.PrintLast Go.Proofs.YthlhnodedofibaaW.PrintMore
attribute [local go_sem] max2_int min2_int max_two min_two max_three min_three max_four min_four   -- for this text's walks alone
set_option linter.unusedVariables false
set_option linter.unusedSimpArgs false

open Go.Shelf Go.Proofs.Ythlhnodedofibaa.H
attribute [local go_sem] Oper.semAt_some
/-! ### word_Get: given -/
def word_Get.f (l0 : List Int) : Option Int := if bytesB (l0.take 8) = true then some (getL (l0.take 8)) else none
def stepB (n c : Int) : Int := Go.bits .or .u64 (IntKind.u64.wrap (n * 256)) (IntKind.u64.wrap c)
theorem stepB_byte (n c : Int) (h0 : 0 ≤ n) (h1 : n < 72057594037927936) (h2 : 0 ≤ c) (h3 : c ≤ 255) : stepB n c = c + 256 * n := by
  have hk : ∀ z : Int, 0 ≤ z → z < 2 ^ 64 → IntKind.u64.wrap z = z := by
    intro z hz hz2
    simp [IntKind.wrap, IntKind.signed, IntKind.bits]
    omega
  unfold stepB
  rw [hk _ (by omega) (by omega), hk c (by omega) (by omega), bits_join .u64 64 (by decide) hk 8 (n * 256) c (by omega) (by omega) (by omega) h2 (by omega) (by omega)]
  omega
def foldB (pre : List (Int × Int)) : Int := pre.foldl (fun n x => stepB n x.2) 0
theorem foldB_snoc (pre : List (Int × Int)) (x : Int × Int) : foldB (pre ++ [x]) = stepB (foldB pre) x.2 := by simp [foldB]
theorem foldB_back {xs : List Int} (h8 : xs.length ≤ 8) (hc : ∀ c ∈ xs, 0 ≤ c ∧ c ≤ 255) : ∀ k, k ≤ xs.length → foldB (back xs k) = getL (xs.drop (xs.length - k))
  | 0, _ => by simp [foldB, back, getL]
  | k + 1, hk => by
    rw [back_succ, foldB_snoc, foldB_back h8 hc k (by omega)]
    have hlt : xs.length - (k + 1) < xs.length := by omega
    have hd : xs.drop (xs.length - (k + 1)) = xs[xs.length - (k + 1)] :: xs.drop (xs.length - k) := by
      rw [List.drop_eq_getElem_cons hlt]; congr 2; omega
    have hr : rd xs ((xs.length : Int) - 1 - k) = xs[xs.length - (k + 1)] := by
      have e : ((xs.length : Int) - 1 - k).toNat = xs.length - (k + 1) := by omega
      simp [rd, e, List.getD_eq_getElem?_getD, List.getElem?_eq_getElem hlt]
    rw [hd, hr]
    have hb := getL_bound 7 (xs.drop (xs.length - k)) (by simp; omega) (fun c h => hc c (List.mem_of_mem_drop h))
    have hx := hc _ (List.getElem_mem hlt)
    exact stepB_byte _ _ hb.1 (by omega) hx.1 hx.2
set_option maxHeartbeats 1000000 in
set_option maxRecDepth 100000 in
theorem word_Get.calls (A0 : Option Addr) (c0 : Nat) (l0 : List Int) (r : Int) (w : World) (hr0 : Kd.C (Kd.int .u8) w A0 l0.length l0) (hc0 : l0.length ≤ c0) (h : word_Get.f l0 = some r) :
    Calls Try.prog 52 #[.slice A0 l0.length c0] w fun e w' => e = .returned (.int .u64 r) ∧ Below w.heap.size w w' := by
  unfold word_Get.f at h
  split at h
  case isFalse => cases h
  case isTrue hb =>
  obtain rfl := Option.some.inj h
  clear h
  refine (callsIn_wide (n := 10)).1 ?_
  obtain ⟨xs, hxs⟩ : ∃ xs, l0.take 8 = xs := ⟨_, rfl⟩
  have hxl : xs.length = min 8 l0.length := by rw [← hxs, List.length_take]
  have hx8 : xs.length ≤ 8 := by omega
  have hC : (Kd.int .u8).C w A0 xs.length xs := by
    have := (ReadsInt.take_ (Kd.reads_of_C (d := (0 : Int)) hr0) (min 8 l0.length) (by omega))
    rw [← hxl] at this
    have e : l0.take xs.length = xs := by rw [hxl, ← hxs]; simp [List.take_eq_take_iff]
    rw [e] at this
    exact Kd.C_of_reads (d := (0 : Int)) this
  have hmn : (if (8 : Int) < (l0.length : Int) then 8 else (l0.length : Int)) = (xs.length : Int) := by split <;> omega
  have hle : xs.length ≤ l0.length := by omega
  rw [hxs] at hb ⊢
  have hcb := bytesB_at hb
  clear hb hxs hxl hr0
  refine callsIn_of_wp_marks Try.func52 rfl trivial ?_ rfl
  simp only [Try.ntmps52, List.size_toArray, List.length_cons, List.length_nil, Nat.reduceAdd, Nat.reduceSub, Array.replicate_succ, Array.replicate_zero, List.push_toArray, List.append_toArray, List.nil_append, List.cons_append]
  gi_wp2_with (refine ⟨trivial, ?_⟩; gi_at_call 73; refine (backward_in _ _ _ _).mono ?_; rintro e w' ⟨rfl, rfl⟩)
  have bN := Boxed.new w 42 (.int .u64 0)
  have bS := Boxed.new (w.alloc (.cells #[.int .u64 0] 42)) 23 (.slice A0 xs.length c0)
  rw [World.size_alloc] at bS
  have hB0 : Below w.heap.size w ((w.alloc (.cells #[.int .u64 0] 42)).alloc (.cells #[.slice A0 xs.length c0] 23)) := ((Below.refl _ w).alloc (Nat.le_refl _) _).alloc (by simp) _
  refine wpIn_rangeFunc_ownG (F := Fence.wide) (n := 10) rfl (by omega) (gf := 82) (lb := #[.pointer (some ⟨w.heap.size + 1, 0, none⟩)]) rfl trivial (enters_of Try.func82 (by kernel_rfl) rfl)
    (encs := fun x : Int × Int => #[.int .i64 x.1, .int .u8 x.2]) (Kp := Kset (w.heap.size + 2) (fun k => k = w.heap.size)) (S := fun ys => ys = back xs xs.length) (Sp := fun _ => True) (N := xs.length)
    (w0 := (w.alloc (.cells #[.int .u64 0] 42)).alloc (.cells #[.slice A0 xs.length c0] 23)) ?seq ksetK_t (ksetK_b (by simp)) (Below.refl _ _) (fun _ => rfl)
    (fun pre W => Boxed W w.heap.size 42 (.int .u64 (foldB pre)) ∧ Kset (w.heap.size + 2) (fun k => k = w.heap.size) ((w.alloc (.cells #[.int .u64 0] 42)).alloc (.cells #[.slice A0 xs.length c0] 23)) W)
    (fun _ _ _ => False) ?own (fun _ _ _ _ _ hs _ _ => hs) ?start
    (fun x => { tmps := #[.slice A0 l0.length c0, undef, .int .u64 0, .pointer (some ⟨w.heap.size, 0, none⟩), undef, .int .u8 x.2, .slice A0 l0.length c0, .slice A0 l0.length c0, .int .i64 l0.length, .int .i64 xs.length, .slice A0 xs.length c0, .func (.func 82) #[] #[.pointer (some ⟨w.heap.size + 1, 0, none⟩)], .int .i64 x.1, .int .u8 x.2, undef, undef, undef, undef, undef, undef], defers := [] }) ?assign ?body ?done ?stop
  case seq =>
    intro l J Jx W hW hJ hJx hY h0
    refine (backward1_in l (w.heap.size + 1) (w.heap.size + 2) (fun k => k = w.heap.size) A0 c0 xs (by omega) J Jx hY W ((hW.cell (p := ⟨w.heap.size + 1, 0, none⟩) (by simp)).trans bS.cell) (fun W' hk => C_kset hC (hB0.trans (hW.mono (by simp; omega))) hk (by omega) (fun k e => by omega)) (by omega) (by omega) h0).mono ?_
    rintro e W' ⟨he, ⟨ys, rfl, hj⟩ | ⟨pre, _, hj⟩⟩
    · exact ⟨he, .inl ⟨_, rfl, hj⟩⟩
    · exact ⟨he, .inr ⟨_, trivial, hj⟩⟩
  case own => exact OwnFrom.and (Own.from (boxed_own _ _ _) _) (ownFrom_kset (by simp) (by simp))
  case start => exact ⟨by simpa [foldB] using bN.alloc _, Kset.refl _ _ _⟩
  case assign =>
    intro l x W K hK
    gi_wp2
    exact hK
  case body =>
    rintro l pre x W ⟨hb, hk⟩ hlen
    have hc := hb.cell
    have hf := hb.frozen
    gi_wp2
    exact ⟨(KeepsOthers.setCell _ _ _).from _, Kset.setCell (B := w.heap.size + 2) (S := fun k => k = w.heap.size) (Kset.refl _ _ _) (p := ⟨w.heap.size, 0, none⟩) (.inl rfl) _, by rw [foldB_snoc]; exact hb.set _, hk.setCell (p := ⟨w.heap.size, 0, none⟩) (.inl rfl) _⟩
  case done =>
    rintro D ys W hD rfl ⟨hb, hk⟩ hK
    have hc := hb.cell
    gi_wp2
    refine ⟨by simp, .inl ⟨_, _, rfl, run_takeDeferred hK, ?_⟩⟩
    refine ⟨_, results_tmp rfl _ _ _, ?_, ?_⟩
    · rw [foldB_back hx8 hcb _ (Nat.le_refl _)]; simp
    · exact (hB0.trans (hk.below (by omega) (fun k e => by omega))).trans (belowK_b (w := w) (Nat.le_refl _) W D _ _ (by simp at hD; omega) hK rfl rfl)
  case stop =>
    rintro D c pre W _ _ h _
    exact h.elim

end Go.Proofs.Ythlhnodedofibaa.F
end

section
namespace Go.Proofs.Ythlhnodedofibaa.F
open Go.RowKit Go.Proofs.YthlhnodedofibaaW.PrintWords Go.Proofs.YthlhnodedofibaaW.PrintLast Go.Proofs.YthlhnodedofibaaW.PrintMore
attribute [local go_sem] max2_int min2_int max_two min_two max_three min_three max_four min_four   -- for this text's walks alone
set_option linter.unusedVariables false
set_option linter.unusedSimpArgs false

open Go.Proofs.Ythlhnodedofibaa.H
/-! ### arena_Cut: given -/
def arena_Cut.f (l0 l1 : List Int) : Option (List (List Int) × Int) := if bytesB l1 = true ∧ l1.length ≤ 1000000 then some (cutL l0 l1) else none
set_option maxHeartbeats 2000000 in
set_option maxRecDepth 100000 in
theorem arena_Cut.calls (A0 : Option Addr) (c0 : Nat) (l0 : List Int) (A1 : Option Addr) (c1 : Nat) (l1 : List Int) (r1 : List (List Int)) (r2 : Int) (w : World) (hr0 : Kd.C (Kd.int .i64) w A0 l0.length l0) (hc0 : l0.length ≤ c0) (hr1 : Kd.C (Kd.int .u8) w A1 l1.length l1) (hc1 : l1.length ≤ c1) (h : arena_Cut.f l0 l1 = some (r1, r2)) :
    Calls Try.prog 18 #[.slice A0 l0.length c0, .slice A1 l1.length c1] w fun e w' => ∃ v0_ : Value, e = .returned (.tuple #[v0_, .int .u16 r2]) ∧ Kd.S (Kd.slice 42 (Kd.int .u64)) 37 w' w.heap.size (fun _ => True) v0_ r1 ∧ Below w.heap.size w w' := by
  unfold arena_Cut.f at h
  split at h
  case isFalse => cases h
  case isTrue hb =>
  replace h := Option.some.inj h
  obtain ⟨hbb, hbl⟩ := hb
  by_cases hf : fitsB l0 = true
  · obtain ⟨_, h16, _, hnn, hsum⟩ := fitsB_at hf
    have hfi : arena_Fits_c.f l0 = some true := by unfold arena_Fits_c.f; rw [hf]
    have hz : ∀ i, 0 ≤ (l0.take i).sum ∧ (l0.take i).sum ≤ 4096 := fun i => ⟨sum_nonneg' (fun x hx => hnn x (List.mem_of_mem_take hx)), by have := sum_take_le hnn i; omega⟩
    have hs0 := sum_nonneg' hnn
    unfold cutL at h
    rw [if_pos hf] at h
    have HZ : Hid _ := hz
    have HF : Hid _ := hf
    have HH : Hid _ := h
    clear hz hf h
    go_enter Try.func18, Try.ntmps18
    go_wp2
    go_step3
    go_wp2_with (go_at_call 20; refine (arena_Fits_c.calls A0 c0 l0 true _ hr0 hc0 hfi).mono ?_; rintro e w1 ⟨rfl, hb1⟩)
    have hC0 := Kd.C_below hr0 hb1
    go_loopg [6, 18] l0.length (fun g v6 v18 wr => ∃ k : Nat, k + g = l0.length ∧ v18 = .int .i64 k ∧ v6 = .int .i64 (l0.take k).sum ∧ Aside0 (Below w.heap.size w wr))
    case atStart => exact ⟨0, by omega, rfl, by simp, ⟨hb1⟩⟩
    case round =>
      obtain ⟨k, hk, rfl, rfl, HB⟩ := hrel
      have HK : Hid _ := hk
      by_cases hlt : k < l0.length
      · obtain ⟨ad, hA, hcx⟩ := ReadsInt.at_ (Kd.reads_of_C (d := (0 : Int)) (Kd.C_below hr0 HB.out)) (k : Int) (by omega) (by omega)
        rw [Int.toNat_natCast, show rd l0 (k : Int) = l0[k] from getD_toNat l0 0 k hlt] at hcx
        subst hA
        have h1 := HZ.out k
        have h2 := HZ.out (k + 1)
        have hts := sum_take_succ l0 k hlt
        obtain ⟨x, hx⟩ : ∃ x, l0[k] = x := ⟨_, rfl⟩
        rw [hx] at hcx hts
        have hb3 : -9223372036854775808 ≤ (l0.take k).sum + x ∧ (l0.take k).sum + x ≤ 9223372036854775807 := by omega
        have HT : Hid _ := hts
        obtain ⟨hb4, hb5⟩ := hb3
        clear hts h1 h2 hx hk
        go_wp2
        go_roundg (gk - 1)
        case measure => have := HK.out; omega
        case rel => exact ⟨k + 1, by have := HK.out; omega, by go_num, by rw [HT.out], HB⟩
      · obtain rfl : k = l0.length := by omega
        clear hk
        have hsl : (l0.take l0.length).sum = l0.sum := by rw [List.take_length]
        rw [hsl]
        clear hsl
        by_cases hn : (l1.length : Int) = 8 * l0.sum
        · have hnei : ((l1.length : Int) != l0.sum * 8) = false := by simp; omega
          have h8 : -9223372036854775808 ≤ l0.sum * 8 ∧ l0.sum * 8 ≤ 9223372036854775807 := by omega
          obtain ⟨h8a, h8b⟩ := h8
          have HN : Hid _ := hn
          clear hn
          go_wp2
          go_step3
          go_wp2
          have hh := HH.out
          rw [if_pos HN.out] at hh
          obtain ⟨hh1, hh2⟩ := Prod.mk.inj hh
          subst hh1
          subst hh2
          clear hh
          go_loopg [1, 9, 33] l0.length (fun g v1 v9 v33 wr => ∃ (k : Nat) (b : List Int) (A : Option Addr) (c : Nat), k + g = l0.length ∧ v33 = .int .i64 k ∧ v1 = .slice A b.length c ∧ Aside0 (b = l1.drop (8 * ((l0.take k).sum).toNat)) ∧ Aside0 (b.length ≤ c) ∧ Aside0 (Kd.C (Kd.int .u8) w A b.length b) ∧ Aside0 (Kd.S (Kd.slice 42 (Kd.int .u64)) 37 wr w.heap.size (fun _ => True) v9 (cutWords (l0.take k) l1)) ∧ Aside0 (Below w.heap.size w wr))
          case atStart => exact ⟨0, l1, A1, c1, by omega, rfl, rfl, ⟨by simp⟩, ⟨hc1⟩, ⟨hr1⟩, ⟨Kd.S_nil _ _ _ _ _⟩, HB⟩
          case round =>
            clear HB HK
            obtain ⟨k, b, A, c, hk, rfl, rfl, HBE, HBL, HBC, HS, HB⟩ := hrel
            have HK : Hid _ := hk
            clear hk
            by_cases hlt : k < l0.length
            · obtain ⟨ad, hA, hcx⟩ := ReadsInt.at_ (Kd.reads_of_C (d := (0 : Int)) (Kd.C_below hr0 HB.out)) (k : Int) (by omega) (by omega)
              rw [Int.toNat_natCast, show rd l0 (k : Int) = l0[k] from getD_toNat l0 0 k hlt] at hcx
              subst hA
              have hx0 := hnn _ (List.getElem_mem hlt)
              have hsn := cutWords_snoc l0 l1 k hnn hlt
              have hts := sum_take_succ l0 k hlt
              have h1 := HZ.out k
              have h2 := HZ.out (k + 1)
              obtain ⟨m, hm⟩ := Int.eq_ofNat_of_zero_le hx0
              rw [hm] at hcx hsn hts
              rw [Int.toNat_natCast] at hsn
              have hoff : ((l0.take (k + 1)).sum).toNat = ((l0.take k).sum).toNat + m := by omega
              have hall : 8 * ((l0.take (k + 1)).sum).toNat ≤ l1.length := by
                have := HN.out
                have := sum_take_le hnn (k + 1)
                omega
              have hm1 : m ≤ 4096 := by omega
              rw [← HBE.out] at hsn
              have hble : 8 * m ≤ b.length := by rw [HBE.out, List.length_drop]; omega
              have HSN : Hid _ := hsn
              have HOF : Hid _ := hoff
              have HAL : Hid _ := hall
              clear hsn hoff hall hts h1 h2 hm hx0
              obtain ⟨acc, hacc⟩ : ∃ acc, cutWords (l0.take k) l1 = acc := ⟨_, rfl⟩
              have hal : acc.length ≤ 16 := by
                rw [← hacc]
                have hcl : ∀ (s : List Int) (b : List Int), (cutWords s b).length = s.length := by
                  intro s
                  induction s with
                  | nil => intro b; rfl
                  | cons y ys ih => intro b; simp [cutWords, ih]
                rw [hcl, List.length_take]; omega
              rw [hacc] at HS
              have HAC : Hid _ := hacc
              clear hacc
              go_wp2
              go_loopg [1, 9, 12] m (fun g v1 v9 v12 wr => ∃ (j : Nat) (b' : List Int) (A' : Option Addr) (c' : Nat) (A2 : Option Addr) (c2 : Nat), j + g = m ∧ v1 = .slice A' b'.length c' ∧ v12 = .slice A2 j c2 ∧ Aside0 (b' = b.drop (8 * j)) ∧ Aside0 (b'.length ≤ c') ∧ Aside0 (Kd.C (Kd.int .u8) w A' b'.length b') ∧ Aside0 (Kd.S (Kd.slice 42 (Kd.int .u64)) 37 wr w.heap.size (fun k_ => some k_ ≠ (Value.slice A2 j c2).ownBlock) v9 acc) ∧ Aside0 (Kd.R (Kd.int .u64) 42 wr w.heap.size (fun _ => True) (.slice A2 j c2) (segL j b)) ∧ Aside0 (Below w.heap.size w wr))
              case atStart => exact ⟨0, b, A, c, none, 0, by omega, rfl, rfl, ⟨by simp⟩, HBL, HBC, ⟨Kd.S_mono HS.out (fun _ _ => by simp [Value.ownBlock])⟩, ⟨Kd.R_nil _ _ _ _ _⟩, HB⟩
              case round =>
                clear HB HS
                obtain ⟨j, b', A', c', A2, c2, hj, rfl, rfl, HBE', HBL', HBC', HS, HR, HB⟩ := hrel
                have HJ : Hid _ := hj
                by_cases hjm : j < m
                · have hjb : (j == m) = false := by simp; omega
                  have hjbi : ((j : Int) == (m : Int)) = false := by simp; omega
                  clear hj
                  have hb8 : 8 ≤ b'.length := by rw [HBE'.out, List.length_drop]; omega
                  have hget : word_Get.f b' = some (getL (b'.take 8)) := by
                    unfold word_Get.f
                    rw [if_pos (by rw [HBE'.out, HBE.out]; exact bytesB_take (bytesB_drop (bytesB_drop hbb _) _) _)]
                  have hsnoc := segL_snoc j b
                  rw [← HBE'.out] at hsnoc
                  obtain ⟨x, hx⟩ : ∃ x, getL (b'.take 8) = x := ⟨_, rfl⟩
                  rw [hx] at hget hsnoc
                  obtain ⟨A3, hcut, hA3⟩ := print_cut (P := Try.prog) 23 5 .i64 (i := (Try.prog.info? 5).get (by kernel_rfl)) Try.underlying23 (by kernel_rfl) (by kernel_rfl) A' b'.length c' 8 hb8
                  have hcut2 : ∀ W : World, (Instr.slice 23 (.slice A' b'.length c') (some (.int .i64 8)) none none).run Try.prog W = .ok (.slice A3 (b'.length - 8) (c' - 8)) W := hcut
                  clear hcut
                  have hd8 : b'.drop 8 = b.drop (8 * (j + 1)) := by rw [HBE'.out, List.drop_drop]; congr 1
                  have hl8 : (b'.drop 8).length = b'.length - 8 := by rw [List.length_drop]
                  have HD8 : Hid _ := hd8
                  have HL8 : Hid _ := hl8
                  have HX : Hid _ := hsnoc
                  have HA3 : (Kd.int .u8).C w A3 (b'.length - 8) (b'.drop 8) := Kd.C_of_reads (d := (0 : Int)) (hA3 w .u8 b' HBL'.out (Kd.reads_of_C (d := (0 : Int)) HBC'.out))
                  have hsegl : (segL j b).length < 17592186044416 := by rw [segL_length]; omega
                  clear hd8 hl8 hx hsnoc hA3
                  go_wp2_with (first | (go_at_call 52; refine (word_Get.calls A' c' b' x _ (Kd.C_below HBC'.out HB.out) HBL'.out hget).mono ?_; rintro e w2 ⟨rfl, hb2⟩; have HB2 := Aside0.mk (below_then HB.out HB.out.size hb2); have HS2 := Aside0.mk (Kd.S_below HS.out hb2); have HR2 := Aside0.mk (Kd.R_below HR.out hb2); clear HB HS HR hb2) | (at_builtin; refine Kd.R_append (Kd.int .u64) (w0 := w) w.heap.size rfl (.tmp 45) (.tmp 48) 37 42 (.int .u64 0) 8 rfl Try.underlying37 info42 rfl (by decide) (by omega) (.slice A2 j c2) (segL j b) x [.int .u64 x] (fun _ => True) (fun _ => False) rfl rfl ?aP (fun _ hk => hk.elim) ?aF ?aO ?aB ?aS ?aL ?_; (case aP => exact rfl); (case aB => exact HB2.out); (case aF => exact (fun _ _ => trivial)); (case aO => exact HR2.out); (case aS => exact HB2.out.size); (case aL => omega); intro v107 w6 ho hb hg hat; have HO6 := Aside0.mk ho; have HB6 := Aside0.mk hb; have HS6 := Aside0.mk (Kd.S_after (Kd.S_mono HS2.out (fun k_ hk => ⟨trivial, hk⟩)) hg hat); clear ho hb hg hat HB2 HS2 HR2))
                  obtain ⟨A4, c4, e4⟩ := Kd.R_slice HO6.out
                  subst e4
                  go_wp2
                  go_roundg (gk - 1)
                  case measure => have := HJ.out; omega
                  case rel => exact ⟨j + 1, b'.drop 8, A3, c' - 8, A4, c4, by have := HJ.out; omega, by rw [HL8.out], by rw [List.length_append, segL_length]; rfl, ⟨HD8.out⟩, ⟨by rw [HL8.out]; have := HBL'.out; omega⟩, ⟨by rw [HL8.out]; exact HA3⟩, ⟨by have h := HS6.out; rw [List.length_append, segL_length] at h; exact Kd.S_mono h (fun _ hk => hk.2)⟩, ⟨by have h := HO6.out; rw [← HX.out, segL_length] at h; exact h⟩, HB6⟩
                · obtain rfl : j = m := by omega
                  clear hj
                  have hapart := Kd.R_mono (ok' := fun k_ => (fun _ => True) k_ ∧ some k_ ≠ u9.ownBlock) (Kd.R_apart' HR.out (Kd.S_typed HS.out) (by decide)) (fun k_ hk => ⟨trivial, hk.2⟩)
                  have HAP := Aside0.mk hapart
                  clear hapart
                  go_wp2_with (at_builtin; refine Kd.S_append (Kd.slice 42 (Kd.int .u64)) (w0 := w) w.heap.size rfl (.tmp 41) (.tmp 43) 26 37 (.slice none 0 0) 24 rfl Try.underlying26 info37 rfl (by decide) (by omega) u9 acc (segL j b) [.slice A2 j c2] (fun _ => True) (fun k_ => some k_ = (.slice A2 j c2 : Value).ownBlock) rfl rfl ?aP (fun k_ hk_ => HAP.out.1 k_ hk_.symm) ?aF ?aO ?aB ?aS ?aL ?_; (case aP => exact Kd.M_row (Kd.R_mono (Kd.R_tight rfl HAP.out) (fun _ h_ => h_))); (case aB => exact HB.out); (case aF => exact (fun _ _ => trivial)); (case aO => exact Kd.S_mono HS.out (fun k_ hk => ⟨trivial, fun e_ => hk e_⟩)); (case aS => exact HB.out.size); (case aL => omega); intro v107 w6 ho hb hg hat; have HO6 := Aside0.mk ho; have HB6 := Aside0.mk hb; clear ho hb hg hat)
                  go_roundg (l0.length - (k + 1))
                  case measure => have := HK.out; omega
                  case rel => exact ⟨k + 1, b', A', c', by omega, by go_num, rfl, ⟨by rw [HBE'.out, HBE.out, List.drop_drop, HOF.out]; congr 1; omega⟩, HBL', HBC', ⟨by have h := HO6.out; rw [← HAC.out, ← HSN.out] at h; exact h⟩, HB6⟩
            · obtain rfl : k = l0.length := by have := HK.out; omega
              have hs1 := HS.out
              rw [List.take_length] at hs1
              have HS1 := Aside0.mk hs1
              clear hs1 HS
              go_wp2
              rw [Exit.noGoto_ret]
              go_ret2
              exact ⟨_, rfl, HS1.out, HB.out⟩
        · have hnei : ((l1.length : Int) != l0.sum * 8) = true := by simp; omega
          have h8 : -9223372036854775808 ≤ l0.sum * 8 ∧ l0.sum * 8 ≤ 9223372036854775807 := by omega
          obtain ⟨h8a, h8b⟩ := h8
          have hh := HH.out
          rw [if_neg hn] at hh
          cases hh
          clear hn
          go_wp2
          rw [Exit.noGoto_ret]
          go_ret2
          exact ⟨_, rfl, Kd.S_nil _ _ _ _ _, HB.out⟩
  · unfold cutL at h
    rw [if_neg hf] at h
    cases h
    have hfi : arena_Fits_c.f l0 = some false := by unfold arena_Fits_c.f; simpa using hf
    clear hf
    go_enter Try.func18, Try.ntmps18
    go_wp2
    go_step3
    go_wp2_with (go_at_call 20; refine (arena_Fits_c.calls A0 c0 l0 false _ hr0 hc0 hfi).mono ?_; rintro e w1 ⟨rfl, hb1⟩)
    rw [Exit.noGoto_ret]
    go_ret2
    exact ⟨_, rfl, Kd.S_nil _ _ _ _ _, hb1⟩

end Go.Proofs.Ythlhnodedofibaa.F
end

section
namespace Go.Proofs.Ythlhnodedofibaa.F
open Go.RowKit Go.Proofs.YthlhnodedofibaaW.PrintWords Go.Proofs.YthlhnodedofibaaW.PrintLast Go.Proofs.YthlhnodedofibaaW.PrintMore
attribute [local go_sem] max2_int min2_int max_two min_two max_three min_three max_four min_four   -- for this text's walks alone
set_option linter.unusedVariables false
set_option linter.unusedSimpArgs false

/-! ### scullerref07_Fits: function 70 -/
mutual
def scullerref07_Fits.j0 : Nat → List Int → Bool → Option (Bool)
  | 0, _, _ => none
  | k + 1, x0, x18 => if x18 = true then (some false) else (scullerref07_Fits.l0 k x0 0 0)
def scullerref07_Fits.l0 : Nat → List Int → Int → Int → Option (Bool)
  | 0, _, _, _ => none
  | k + 1, x0, x3, x4 => if x4 < (x0.length : Int) then (if 0 ≤ x4 then (if (rd x0 x4) < 0 then (some false) else (if (rd x0 x4) > (wrap64 (4096 - x3)) then (some false) else (scullerref07_Fits.l0 k x0 (wrap64 (x3 + (rd x0 x4))) (wrap64 (x4 + 1))))) else (none)) else (some true)
end
def scullerref07_Fits.f (k : Nat) (l0 : List Int) : Option (Bool) := if (l0.length : Int) < 1 then (scullerref07_Fits.j0 k l0 true) else (if (l0.length : Int) > 16 then (scullerref07_Fits.j0 k l0 true) else (if 0 < (l0.length : Int) then (scullerref07_Fits.j0 k l0 (decide ((rd l0 0) < 1))) else (none)))
theorem scullerref07_Fits.mono_l : ∀ k, (∀ y0 y1, LeO (scullerref07_Fits.j0 k y0 y1) (scullerref07_Fits.j0 (k + 1) y0 y1)) ∧ (∀ y0 y1 y2, LeO (scullerref07_Fits.l0 k y0 y1 y2) (scullerref07_Fits.l0 (k + 1) y0 y1 y2))
  | 0 => ⟨fun _ _ r h => by simp [scullerref07_Fits.j0] at h, fun _ _ _ r h => by simp [scullerref07_Fits.l0] at h⟩
  | k + 1 => by
    obtain ⟨ih0, ih1⟩ := scullerref07_Fits.mono_l k
    refine ⟨?_, ?_⟩
    · intro y0 y1
      unfold scullerref07_Fits.j0
      repeat' first
      | (with_reducible exact ih0 _ _)
      | (with_reducible exact ih1 _ _ _)
      | (with_reducible exact LeO.refl _)
      | (with_reducible exact LeO.none _)
      | (with_reducible refine LeO.ite ?_ ?_)
      | (with_reducible refine LeO.bind ?_ (fun _ => ?_))
      | exact ih0 _ _
      | exact ih1 _ _ _
      | exact LeO.none _
      | refine LeO.ite ?_ ?_
      | refine LeO.bind ?_ (fun _ => ?_)
    · intro y0 y1 y2
      unfold scullerref07_Fits.l0
      repeat' first
      | (with_reducible exact ih0 _ _)
      | (with_reducible exact ih1 _ _ _)
      | (with_reducible exact LeO.refl _)
      | (with_reducible exact LeO.none _)
      | (with_reducible refine LeO.ite ?_ ?_)
      | (with_reducible refine LeO.bind ?_ (fun _ => ?_))
      | exact ih0 _ _
      | exact ih1 _ _ _
      | exact LeO.none _
      | refine LeO.ite ?_ ?_
      | refine LeO.bind ?_ (fun _ => ?_)
theorem scullerref07_Fits.mono : ∀ a0 k, LeO (scullerref07_Fits.f k a0) (scullerref07_Fits.f (k + 1) a0) := by
  intro a0 k
  obtain ⟨ih0, ih1⟩ := scullerref07_Fits.mono_l k
  unfold scullerref07_Fits.f
  repeat' first
      | (with_reducible exact ih0 _ _)
      | (with_reducible exact ih1 _ _ _)
      | (with_reducible exact LeO.refl _)
      | (with_reducible exact LeO.none _)
      | (with_reducible refine LeO.ite ?_ ?_)
      | (with_reducible refine LeO.bind ?_ (fun _ => ?_))
      | exact ih0 _ _
      | exact ih1 _ _ _
      | exact LeO.none _
      | refine LeO.ite ?_ ?_
      | refine LeO.bind ?_ (fun _ => ?_)
set_option maxHeartbeats 8000000 in
set_option maxRecDepth 100000 in
theorem scullerref07_Fits.calls (k : Nat) (A0 : Option Addr) (c0 : Nat) (l0 : List Int) (r : Bool) (w : World) (hr0 : Kd.C (Kd.int .i64) w A0 l0.length l0) (hc0 : l0.length ≤ c0) (h : scullerref07_Fits.f k l0 = some r) :
    Calls Try.prog 70 #[.slice A0 l0.length c0] w fun e w' => e = .returned (.bool r) ∧ Drawn0 w w' := by
  have HR0 := Aside0.mk hr0
  have HC0 := Aside0.mk hc0
  clear hr0 hc0
  have H : (if (l0.length : Int) < 1 then (scullerref07_Fits.j0 k l0 true) else (if (l0.length : Int) > 16 then (scullerref07_Fits.j0 k l0 true) else (if 0 < (l0.length : Int) then (scullerref07_Fits.j0 k l0 (decide ((rd l0 0) < 1))) else (none)))) = some r := h
  clear h
  have HC2 := Aside0.mk H
  clear H
  go_enter Try.func70, Try.ntmps70
  go_upto_region 1 with (fail)
  go_cut [18] (fun v18 wc => ∃ (kq : Nat) (x18_1 : Bool), v18 = .bool x18_1 ∧ Aside0 (scullerref07_Fits.j0 kq l0 x18_1 = some r) ∧ Aside0 (kq ≤ k) ∧ Drawn0 w wc)
  case first =>
    have H := HC2.out
    clear HC2
    by_cases c3 : (l0.length : Int) < 1
    · rw [if_pos c3] at H
      have c3b0 : decide ((l0.length : Int) < 1) = true := decide_eq_true c3
      have c3b1 : decide (l0.length < 1) = true := decide_eq_true (by omega)
      clear c3
      (first | rw [c3b0] | (simp only [i64_w, i32_w]; rw [c3b0]) | skip)
      have H' := Aside0.mk H
      clear H
      go_wp2
      go_meet
      case rel => exact ⟨_, (true), (by first | rfl | (simp; done) | (simp [*]; done)), H', ⟨by first | omega | exact Nat.le_refl _⟩, by repeat (first | exact Drawn0.refl _ | apply Drawn0.step)⟩
    · rw [if_neg c3] at H
      have c3b0 : decide ((l0.length : Int) < 1) = false := decide_eq_false c3
      have c3b1 : decide (l0.length < 1) = false := decide_eq_false (by omega)
      clear c3
      (first | rw [c3b0] | (simp only [i64_w, i32_w]; rw [c3b0]) | skip)
      by_cases c4 : (l0.length : Int) > 16
      · rw [if_pos c4] at H
        have c4b0 : decide (16 < (l0.length : Int)) = true := decide_eq_true c4
        have c4b1 : decide (16 < l0.length) = true := decide_eq_true (by omega)
        clear c4
        have H' := Aside0.mk H
        clear H
        go_wp2
        go_meet
        case rel => exact ⟨_, (true), (by first | rfl | (simp; done) | (simp [*]; done)), H', ⟨by first | omega | exact Nat.le_refl _⟩, by repeat (first | exact Drawn0.refl _ | apply Drawn0.step)⟩
      · rw [if_neg c4] at H
        have c4b0 : decide (16 < (l0.length : Int)) = false := decide_eq_false c4
        have c4b1 : decide (16 < l0.length) = false := decide_eq_false (by omega)
        clear c4
        by_cases c5 : 0 < (l0.length : Int)
        · rw [if_pos c5] at H
          have c5b0 : decide (0 < (l0.length : Int)) = true := decide_eq_true c5
          have c5b1 : decide (0 < l0.length) = true := decide_eq_true (by omega)
          clear c5
          have H' := Aside0.mk H
          clear H
          have p101 : 0 ≤ (0 : Int) := (by omega)
          have q101 : 0 < (l0.length : Int) := of_decide_eq_true (by first | (with_reducible assumption) | assumption)
          obtain ⟨ad101, e101, hx101_0⟩ := Kd.at_int HR0.out 0 p101 q101
          cases e101
          have qi101 : (0 < l0.length) = True := eq_true (by omega)
          (try rw [show ((0 : Int)).toNat = 0 from rfl] at hx101_0)
          (try rw [Addr.add_zero'] at hx101_0)
          replace p101 := eq_true p101
          replace q101 := eq_true q101
          go_wp2
          go_meet
          case rel => exact ⟨_, (decide ((rd l0 0) < 1)), (by first | rfl | (simp; done) | (simp [*]; done)), H', ⟨by first | omega | exact Nat.le_refl _⟩, by repeat (first | exact Drawn0.refl _ | apply Drawn0.step)⟩
        · rw [if_neg c5] at H
          exact absurd H (by simp)
  case rest =>
    clear HC2
    try clear p1
    try clear q1
    try clear hx1
    try clear qi1
    try clear p2
    try clear c3
    try clear c3b0
    try clear c3b1
    try clear c4
    try clear c4b0
    try clear c4b1
    try clear c5
    try clear c5b0
    try clear c5b1
    try clear hx101_0
    try clear p101
    try clear q101
    obtain ⟨kq, x18_1, rfl, HA, HJ1, ⟨mc1, rfl⟩⟩ := hcut
    cases kq with
    | zero => exact absurd HA.out (by simp [scullerref07_Fits.j0])
    | succ kj1 =>
      have H := HA.out
      clear HA
      simp only [scullerref07_Fits.j0] at H
      by_cases c6 : x18_1 = true
      · subst c6
        have H1 : (some false) = some r := by rw [if_pos rfl] at H; exact H
        clear H
        have H := H1
        clear H1
        obtain rfl := Option.some.inj H
        go_wp2
        go_ret
        exact ⟨by first | rfl | (simp; done) | (simp [*]; done), by repeat (first | exact Drawn0.refl _ | apply Drawn0.step)⟩
      · replace c6 := Bool.eq_false_iff.mpr c6
        subst c6
        have H1 : (scullerref07_Fits.l0 kj1 l0 0 0) = some r := by rw [if_neg (show ¬ (false = true) by decide)] at H; exact H
        clear H
        have H := H1
        clear H1
        have H' := Aside0.mk H
        clear H
        go_wp2
        go_loopg [3, 4] kj1 (fun kq v3 v4 w' => ∃ (x3_2 : Int) (x4_2 : Int), v3 = .int .i64 x3_2 ∧ v4 = .int .i64 x4_2 ∧ Aside0 (scullerref07_Fits.l0 kq l0 x3_2 x4_2 = some r) ∧ Aside0 (kq ≤ kj1) ∧ Drawn0 w w')
        case atStart => exact ⟨(0), (0), (by first | rfl | (simp; done) | (simp [*]; done)), (by first | rfl | (simp; done) | (simp [*]; done)), H', ⟨Nat.le_refl _⟩, by repeat (first | exact Drawn0.refl _ | apply Drawn0.step)⟩
        case round =>
          clear H'
          try clear c1
          try clear p1
          try clear q1
          try clear hx1
          try clear qi1
          try clear p2
          try clear c3
          try clear c3b0
          try clear c3b1
          try clear c4
          try clear c4b0
          try clear c4b1
          try clear c5
          try clear c5b0
          try clear c5b1
          try clear c6
          try clear hx101_0
          try clear p1
          try clear p101
          try clear p2
          try clear q1
          try clear q101
          obtain ⟨x3_2, x4_2, rfl, rfl, HA, HK2, ⟨m2, rfl⟩⟩ := hrel
          cases gk with
          | zero => exact absurd HA.out (by simp [scullerref07_Fits.l0])
          | succ k2 =>
            have H := HA.out
            clear HA
            simp only [scullerref07_Fits.l0] at H
            by_cases c7 : x4_2 < (l0.length : Int)
            · rw [if_pos c7] at H
              have c7b0 : decide (x4_2 < (l0.length : Int)) = true := decide_eq_true c7
              clear c7
              by_cases c8 : 0 ≤ x4_2
              · rw [if_pos c8] at H
                have c8b0 : decide (0 ≤ x4_2) = true := decide_eq_true c8
                clear c8
                by_cases c9 : (rd l0 x4_2) < 0
                · rw [if_pos c9] at H
                  have c9b0 : decide ((rd l0 x4_2) < 0) = true := decide_eq_true c9
                  clear c9
                  obtain rfl := Option.some.inj H
                  have p102 : 0 ≤ (x4_2 : Int) := of_decide_eq_true (by first | (with_reducible assumption) | assumption)
                  have q102 : x4_2 < (l0.length : Int) := of_decide_eq_true (by first | (with_reducible assumption) | assumption)
                  obtain ⟨ad102, e102, hx102_0⟩ := Kd.at_int HR0.out x4_2 p102 q102
                  cases e102
                  replace p102 := eq_true p102
                  replace q102 := eq_true q102
                  go_wp2
                  go_ret
                  exact ⟨by first | rfl | (simp; done) | (simp [*]; done), by repeat (first | exact Drawn0.refl _ | apply Drawn0.step)⟩
                · rw [if_neg c9] at H
                  have c9b0 : decide ((rd l0 x4_2) < 0) = false := decide_eq_false c9
                  clear c9
                  by_cases c10 : (rd l0 x4_2) > (wrap64 (4096 - x3_2))
                  · rw [if_pos c10] at H
                    have c10b0 : decide ((wrap64 (4096 - x3_2)) < (rd l0 x4_2)) = true := decide_eq_true c10
                    clear c10
                    obtain rfl := Option.some.inj H
                    have p102 : 0 ≤ (x4_2 : Int) := of_decide_eq_true (by first | (with_reducible assumption) | assumption)
                    have q102 : x4_2 < (l0.length : Int) := of_decide_eq_true (by first | (with_reducible assumption) | assumption)
                    obtain ⟨ad102, e102, hx102_0⟩ := Kd.at_int HR0.out x4_2 p102 q102
                    cases e102
                    replace p102 := eq_true p102
                    replace q102 := eq_true q102
                    have p103 : 0 ≤ (x4_2 : Int) := of_decide_eq_true (by first | (with_reducible assumption) | assumption)
                    have q103 : x4_2 < (l0.length : Int) := of_decide_eq_true (by first | (with_reducible assumption) | assumption)
                    obtain ⟨ad103, e103, hx103_0⟩ := Kd.at_int HR0.out x4_2 p103 q103
                    obtain rfl : ad102 = ad103 := (by injection e103)
                    replace p103 := eq_true p103
                    replace q103 := eq_true q103
                    go_wp2
                    go_ret
                    exact ⟨by first | rfl | (simp; done) | (simp [*]; done), by repeat (first | exact Drawn0.refl _ | apply Drawn0.step)⟩
                  · rw [if_neg c10] at H
                    have c10b0 : decide ((wrap64 (4096 - x3_2)) < (rd l0 x4_2)) = false := decide_eq_false c10
                    clear c10
                    have H' := Aside0.mk H
                    clear H
                    have p102 : 0 ≤ (x4_2 : Int) := of_decide_eq_true (by first | (with_reducible assumption) | assumption)
                    have q102 : x4_2 < (l0.length : Int) := of_decide_eq_true (by first | (with_reducible assumption) | assumption)
                    obtain ⟨ad102, e102, hx102_0⟩ := Kd.at_int HR0.out x4_2 p102 q102
                    cases e102
                    replace p102 := eq_true p102
                    replace q102 := eq_true q102
                    have p103 : 0 ≤ (x4_2 : Int) := of_decide_eq_true (by first | (with_reducible assumption) | assumption)
                    have q103 : x4_2 < (l0.length : Int) := of_decide_eq_true (by first | (with_reducible assumption) | assumption)
                    obtain ⟨ad103, e103, hx103_0⟩ := Kd.at_int HR0.out x4_2 p103 q103
                    obtain rfl : ad102 = ad103 := (by injection e103)
                    replace p103 := eq_true p103
                    replace q103 := eq_true q103
                    have p104 : 0 ≤ (x4_2 : Int) := of_decide_eq_true (by first | (with_reducible assumption) | assumption)
                    have q104 : x4_2 < (l0.length : Int) := of_decide_eq_true (by first | (with_reducible assumption) | assumption)
                    obtain ⟨ad104, e104, hx104_0⟩ := Kd.at_int HR0.out x4_2 p104 q104
                    obtain rfl : ad102 = ad104 := (by injection e104)
                    replace p104 := eq_true p104
                    replace q104 := eq_true q104
                    go_wp2
                    go_roundg k2
                    case measure => have := HJ1.out; have := HK2.out; omega
                    case rel => exact ⟨(wrap64 (x3_2 + (rd l0 x4_2))), (wrap64 (x4_2 + 1)), (by first | rfl | (simp; done) | (simp [*]; done)), (by first | rfl | (simp; done) | (simp [*]; done)), H', ⟨by have := HJ1.out; have := HK2.out; omega⟩, by repeat (first | exact Drawn0.refl _ | apply Drawn0.step)⟩
              · rw [if_neg c8] at H
                exact absurd H (by simp)
            · rw [if_neg c7] at H
              have c7b0 : decide (x4_2 < (l0.length : Int)) = false := decide_eq_false c7
              clear c7
              obtain rfl := Option.some.inj H
              go_wp2
              go_ret
              exact ⟨by first | rfl | (simp; done) | (simp [*]; done), by repeat (first | exact Drawn0.refl _ | apply Drawn0.step)⟩

end Go.Proofs.Ythlhnodedofibaa.F
end

section
namespace Go.Proofs.Ythlhnodedofibaa.F
open Go.RowKit Go.Proofs.YthlhnodedofibaaW.PrintWords Go.Proofs.YthlhnodedofibaaW.PrintLast Go.Proofs.YthlhnodedofibaaW.PrintMore
attribute [local go_sem] max2_int min2_int max_two min_two max_three min_three max_four min_four   -- for this text's walks alone
set_option linter.unusedVariables false
set_option linter.unusedSimpArgs false

open Go.Proofs.Ythlhnodedofibaa.H
def scullerref07_Fits_c.f (l0 : List Int) : Option Bool := some (fitsB l0)
theorem scullerref07_Fits.l0_to (l : List Int) (hl : l.length ≤ 1000000) : ∀ (d i : Nat) (n : Int), l.length - i = d → i ≤ l.length → 0 ≤ n → n ≤ 4096 → ∃ k, scullerref07_Fits.l0 k l n (i : Int) = some (restB n (l.drop i))
  | 0, i, n, hd, hi, h0, h1 => ⟨1, by simp only [scullerref07_Fits.l0]; rw [if_neg (by omega), List.drop_of_length_le (by omega)]; simp [restB, h1]⟩
  | d + 1, i, n, hd, hi, h0, h1 => by
    have hlt : i < l.length := by omega
    have hr : rd l i = l[i] := getD_toNat l 0 i hlt
    have hw : wrap64 (4096 - n) = 4096 - n := by unfold wrap64; omega
    by_cases hx : l[i] < 0
    · refine ⟨1, ?_⟩
      simp only [scullerref07_Fits.l0]
      rw [if_pos (by omega), if_pos (by omega), hr, drop_at l i hlt, restB_cons, if_pos hx, if_pos hx]
    · by_cases h2 : l[i] > 4096 - n
      · refine ⟨1, ?_⟩
        simp only [scullerref07_Fits.l0]
        rw [if_pos (by omega), if_pos (by omega), hr, hw, drop_at l i hlt, restB_cons, if_neg hx, if_neg hx, if_pos h2, if_pos h2]
      · obtain ⟨k, hk⟩ := scullerref07_Fits.l0_to l hl d (i + 1) (n + l[i]) (by omega) (by omega) (by omega) (by omega)
        refine ⟨k + 1, ?_⟩
        simp only [scullerref07_Fits.l0]
        rw [if_pos (by omega), if_pos (by omega), hr, hw, drop_at l i hlt, restB_cons, if_neg hx, if_neg hx, if_neg h2, if_neg h2]
        rw [show wrap64 (n + l[i]) = n + l[i] from by unfold wrap64; omega, show wrap64 ((i : Int) + 1) = ((i + 1 : Nat) : Int) from by unfold wrap64; omega, hk]
theorem scullerref07_Fits_c.to {l0 : List Int} {r : Bool} (h : scullerref07_Fits_c.f l0 = some r) : ∃ k, scullerref07_Fits.f k l0 = some r := by
  obtain rfl := Option.some.inj h
  unfold scullerref07_Fits.f fitsB
  by_cases h1 : (l0.length : Int) < 1
  · have e : decide (1 ≤ l0.length) = false := decide_eq_false (by omega)
    exact ⟨1, by rw [if_pos h1, e]; simp [scullerref07_Fits.j0]⟩
  · have e : decide (1 ≤ l0.length) = true := decide_eq_true (by omega)
    by_cases h2 : (l0.length : Int) > 16
    · have e2 : decide (l0.length ≤ 16) = false := decide_eq_false (by omega)
      exact ⟨1, by rw [if_neg h1, if_pos h2, e, e2]; simp [scullerref07_Fits.j0]⟩
    · have e2 : decide (l0.length ≤ 16) = true := decide_eq_true (by omega)
      have hr : rd l0 0 = l0.getD 0 0 := rfl
      by_cases h3 : l0.getD 0 0 < 1
      · have e3 : decide (1 ≤ l0.getD 0 0) = false := decide_eq_false (by omega)
        exact ⟨1, by rw [if_neg h1, if_neg h2, if_pos (by omega), e, e2, e3, hr, decide_eq_true h3]; simp [scullerref07_Fits.j0]⟩
      · have e3 : decide (1 ≤ l0.getD 0 0) = true := decide_eq_true (by omega)
        obtain ⟨k, hk⟩ := scullerref07_Fits.l0_to l0 (by omega) l0.length 0 0 (by omega) (by omega) (by omega) (by omega)
        refine ⟨k + 1, ?_⟩
        rw [if_neg h1, if_neg h2, if_pos (by omega), e, e2, e3, hr, decide_eq_false h3]
        simp only [scullerref07_Fits.j0, Bool.true_and]
        simpa using hk

theorem scullerref07_Fits_c.calls (A0 : Option Addr) (c0 : Nat) (l0 : List Int) (r : Bool) (w : World) (hr0 : Kd.C (Kd.int .i64) w A0 l0.length l0) (hc0 : l0.length ≤ c0) (h : scullerref07_Fits_c.f l0 = some r) :
    Calls Try.prog 70 #[.slice A0 l0.length c0] w fun e w' => e = .returned (.bool r) ∧ Drawn0 w w' := by
  obtain ⟨k_, hk_⟩ := scullerref07_Fits_c.to h
  exact scullerref07_Fits.calls k_ A0 c0 l0 r w hr0 hc0 hk_

end Go.Proofs.Ythlhnodedofibaa.F
end
