/- Proved: at every input in bounds the statement PackCodes of the pack layer answers yes: Encode, Parse and Same of any datagram and bytes, and of choices, are what the chapter says.
Text 30 of 30; the statement's own row. -/
import Derived.Test.YtoooceaoggkeeaaRows
import Derived.Test.YtoooceaoggkeeaaQPackCodes27
import Derived.WalkKit
import Derived.ProofKit
import Derived.OpenShut
import Derived.ShutString
import Derived.ChangeOld
import Derived.Below
import Derived.SizedLaws
import Derived.Lib.SmallJoins
import Derived.Test.YtoooceaoggkeeaaQPackCodes28
section
/- The statement PackCodes as it is given, out of the contract of the function and the plain law. -/
namespace Go.Proofs.Ytoooceaoggkeeaa.packCodes
open Go.Joins Go.ChangeShapes Go.WideShapes Go.ChangeAt Go.RowKit Go.Deep
open Go.ChangeMaps (open_string shut_string)
set_option linter.unusedVariables false
theorem own : ownKnob Try.prog.godebug = none := by kernel_rfl
theorem laidOut : laidOutB Try.prog = true := by kernel_rfl
def IsRow (k : IntKind) (w : World) (a : Option Addr) (len cap : Nat) (zs : List Int) : Prop :=
 (a = none ∧ len = 0 ∧ cap = 0 ∧ zs = []) ∨
 ∃ x, a = some x ∧ len ≤ cap ∧ cap ≤ maxLen ∧ zs.length = cap ∧ (∀ i, i < zs.length → w.cell? (x.add i) = some (.int k (zs.getD i 0))) ∧ ∀ n ∈ zs, (Lit.int k n).wf = true
section
variable {H : Type} {enc : TypeId × Value → H} {P : Program} {w : World} {base : Nat} {spare : Nat → Bool} {held : Bool}
/-- A struct of seven fields of one cell each, by value. -/
theorem open_agg7 {r : Reach} {b0 : Nat} {t : TypeId} {f0 f1 f2 f3 f4 f5 f6 : Field} {v : Value} {d : DataW H} {p : List MemPlace} (hs : P.underlying t = some (.struct #[f0, f1, f2, f3, f4, f5, f6])) (hone : oneCellFields P #[f0, f1, f2, f3, f4, f5, f6] = true) (hC : P.cellsOf t = 7)
 (hv : Value.okWide P w r b0 t v) (h : DataW.Trod enc P w base spare held t v d p) :
 ∃ (v0 v1 v2 v3 v4 v5 v6 : Value) (y0 y1 y2 y3 y4 y5 y6 : DataW H × List MemPlace) (n : Nat), v = .agg #[v0, v1, v2, v3, v4, v5, v6] ∧
  DataW.trod enc P w base spare held n f0.type [v0] = some y0 ∧ DataW.trod enc P w base spare held n f1.type [v1] = some y1 ∧ DataW.trod enc P w base spare held n f2.type [v2] = some y2 ∧ DataW.trod enc P w base spare held n f3.type [v3] = some y3 ∧ DataW.trod enc P w base spare held n f4.type [v4] = some y4 ∧ DataW.trod enc P w base spare held n f5.type [v5] = some y5 ∧ DataW.trod enc P w base spare held n f6.type [v6] = some y6 := by
 obtain ⟨cs, rfl, hsz⟩ := okWide_struct hs hv
 obtain ⟨l⟩ := cs
 match l, hsz.trans hC with
 | [c0, c1, c2, c3, c4, c5, c6], _ =>
   obtain ⟨fuel, hf⟩ := h
   obtain ⟨xs, n, _, hx, _, hlen, hg⟩ := DataW.trod_struct hs hf
   obtain ⟨o0, k0⟩ := hone_of hone 0 f0 rfl
   obtain ⟨o1, k1⟩ := hone_of hone 1 f1 rfl
   obtain ⟨o2, k2⟩ := hone_of hone 2 f2 rfl
   obtain ⟨o3, k3⟩ := hone_of hone 3 f3 rfl
   obtain ⟨o4, k4⟩ := hone_of hone 4 f4 rfl
   obtain ⟨o5, k5⟩ := hone_of hone 5 f5 rfl
   obtain ⟨o6, k6⟩ := hone_of hone 6 f6 rfl
   match xs, hlen with
   | [y0, y1, y2, y3, y4, y5, y6], _ =>
     exact ⟨c0, c1, c2, c3, c4, c5, c6, y0, y1, y2, y3, y4, y5, y6, n, rfl, by simpa [Value.cells, o0, k0] using hg 0 f0 rfl, by simpa [Value.cells, o1, k1] using hg 1 f1 rfl, by simpa [Value.cells, o2, k2] using hg 2 f2 rfl, by simpa [Value.cells, o3, k3] using hg 3 f3 rfl, by simpa [Value.cells, o4, k4] using hg 4 f4 rfl, by simpa [Value.cells, o5, k5] using hg 5 f5 rfl, by simpa [Value.cells, o6, k6] using hg 6 f6 rfl⟩
/-- A slice of whole numbers, told as a row. -/
theorem row_of {t e : TypeId} {k : IntKind} {fuel : Nat} {v : Value} {x : DataW H × List MemPlace} (ht : P.underlying t = some (.slice e)) (he : P.underlying e = some (.int k)) (hc : P.cellsOf e = 1)
 (h : DataW.trod enc P w base (fun _ => true) held fuel t [v] = some x) : ∃ a len cap zs, v = .slice a len cap ∧ IsRow k w a len cap zs := by
 rcases open_ints ht he hc h with ⟨hcs, _⟩ | ⟨x, l, c, zs, hcs, _, hl, hm, hz, _, hcell, hwz⟩
 · simp at hcs
   subst hcs
   exact ⟨_, _, _, [], rfl, .inl ⟨rfl, rfl, rfl, rfl⟩⟩
 · simp at hcs
   subst hcs
   exact ⟨_, _, _, zs, rfl, .inr ⟨_, rfl, hl, hm, by simpa using hz, hcell, hwz⟩⟩
end
open Go.Proofs.Ytoooceaoggkeeaa.F Go.Proofs.YtoooceaoggkeeaaW.PrintWords Go.Proofs.YtoooceaoggkeeaaW.PrintLast Go.Proofs.YtoooceaoggkeeaaW.PrintMore in
theorem walk (a0 a1 a2 a3 a4 : Int) (S : Option Addr) (lenS capS : Nat) (zS : List Int) (B : Option Addr) (lenB capB : Nat) (zB : List Int) (M : Option Addr) (lenM capM : Nat) (zM : List Int) (b2 b3 b4 b5 : Int) (C : Option Addr) (lenC capC : Nat) (zC : List Int) (b7 b8 b9 : Int) (w : World)
 (w1 : (Lit.int .u64 a1).wf = true) (w4 : (Lit.int .u32 a4).wf = true) (wS : IsRow .i64 w S lenS capS zS) (wB : IsRow .u8 w B lenB capB zB) (wM : IsRow .u8 w M lenM capM zM) (x2 : (Lit.int .u64 b2).wf = true) (x3 : (Lit.int .u32 b3).wf = true) (x4 : (Lit.int .u16 b4).wf = true) (x5 : (Lit.int .u16 b5).wf = true)
 (wC : IsRow .u8 w C lenC capC zC) (x7 : (Lit.int .u8 b7).wf = true) (x8 : (Lit.int .u16 b8).wf = true) (x9 : (Lit.int .u8 b9).wf = true) :
 Calls Try.prog 7 #[.agg #[.int .i64 a0, .int .u64 a1, .int .i64 a2, .int .i64 a3, .int .u32 a4, .slice S lenS capS, .slice B lenB capB], .slice M lenM capM, .int .u64 b2, .int .u32 b3, .int .u16 b4, .int .u16 b5, .slice C lenC capC, .int .u8 b7, .int .u16 b8, .int .u8 b9] w
  fun e w' => e = .returned (.bool true) ∧ Below w.heap.size w w' := by
 obtain ⟨lS, rfl, hrS, _, _, hcS⟩ := ReadsInt.ofRowC wS
 obtain ⟨lB, rfl, hrB, _, hwB, hcB⟩ := ReadsInt.ofRowC wB
 obtain ⟨lM, rfl, hrM, _, hwM, hcM⟩ := ReadsInt.ofRowC wM
 obtain ⟨lC, rfl, hrC, _, hwC, hcC⟩ := ReadsInt.ofRowC wC
 obtain ⟨k, h⟩ := Pure.PackCodes a0 a1 a2 a3 a4 lS lB lM b2 b3 b4 b5 lC b7 b8 b9 (Pure.u64_wf w1) (Pure.u32_wf w4) (Pure.bytes_wf hwB) (Pure.bytes_wf hwM) (Pure.u64_wf x2) (Pure.u32_wf x3) (Pure.u16_wf x4) (Pure.u16_wf x5) (Pure.bytes_wf hwC) (Pure.byte_wf x7) (Pure.u16_wf x8) (Pure.byte_wf x9)
 refine (scullerlaw13_PackCodes.calls k a0 a1 a2 a3 a4 _ _ lS _ _ lB _ _ lM b2 b3 b4 b5 _ _ lC b7 b8 b9 true w (Kd.C_of_reads (d := (0 : Int)) (h1 := fun _ => rfl) hrS) hcS (Kd.C_of_reads (d := (0 : Int)) (h1 := fun _ => rfl) hrB) hcB (Kd.C_of_reads (d := (0 : Int)) (h1 := fun _ => rfl) hrM) hcM (Kd.C_of_reads (d := (0 : Int)) (h1 := fun _ => rfl) hrC) hcC h ⟨rfl⟩).mono ?_
 rintro e w' ⟨rfl, hd⟩
 exact ⟨rfl, hd⟩
set_option maxRecDepth 100000 in
theorem lifted (os : Os) (started : os.Started) (H : Type) (enc : TypeId × Value → H) :
 ReturnsInHanded {} Try.checked os 7 .any (Rows.packCodesSpec.pre6 enc Try.prog Try.f7 Rows.packCodesRow.domain false) (Rows.packCodesSpec.post enc Try.prog Try.f7 false true false false) := by
 refine returnsInHanded_of_change_sized (C := Try.checked) own started (by kernel_rfl) Try.func7
  (ChangeSpec.witness6 (enc := enc) (C := Try.checked) false ⟨#[], #[.agg #[.int .i64 0, .int .u64 0, .int .i64 0, .int .i64 0, .int .u32 0, .slice none 0 0, .slice none 0 0], .slice none 0 0, .int .u64 0, .int .u32 0, .int .u16 0, .int .u16 0, .slice none 0 0, .int .u8 0, .int .u16 0, .int .u8 0], []⟩ 8 (by kernel_rfl) (by kernel_rfl) (by kernel_rfl) (by kernel_rfl)) ?_
 intro W base args ds gs before hval0 hW hcnd hsz0 _
 have hval : ∀ (j : Nat) t v, Try.f7.params[j]? = some t → args[j]? = some v → Value.okWide Try.prog W .any base t v := hval0
 have hW' := hW
 obtain ⟨p, q, hA0, hV, rfl, hfz, hnd⟩ := hW
 have hA : DataW.TrodAll enc Try.prog W 0 (fun _ => true) true Try.f7.params.toList args.toList ds p := hA0
 rw [Try.params7] at hA hval
 obtain ⟨v0, vs0, d0, ds0, p0, q0, hargs, rfl, rfl, h0, r0⟩ := trodAll_cons hA
 obtain ⟨v1, vs1, d1, ds1, p1, q1, rfl, rfl, rfl, h1, r1⟩ := trodAll_cons r0
 obtain ⟨v2, vs2, d2, ds2, p2, q2, rfl, rfl, rfl, h2, r2⟩ := trodAll_cons r1
 obtain ⟨v3, vs3, d3, ds3, p3, q3, rfl, rfl, rfl, h3, r3⟩ := trodAll_cons r2
 obtain ⟨v4, vs4, d4, ds4, p4, q4, rfl, rfl, rfl, h4, r4⟩ := trodAll_cons r3
 obtain ⟨v5, vs5, d5, ds5, p5, q5, rfl, rfl, rfl, h5, r5⟩ := trodAll_cons r4
 obtain ⟨v6, vs6, d6, ds6, p6, q6, rfl, rfl, rfl, h6, r6⟩ := trodAll_cons r5
 obtain ⟨v7, vs7, d7, ds7, p7, q7, rfl, rfl, rfl, h7, r7⟩ := trodAll_cons r6
 obtain ⟨v8, vs8, d8, ds8, p8, q8, rfl, rfl, rfl, h8, r8⟩ := trodAll_cons r7
 obtain ⟨v9, vs9, d9, ds9, p9, q9, rfl, rfl, rfl, h9, r9⟩ := trodAll_cons r8
 obtain ⟨rfl, rfl, rfl⟩ := trodAll_nil r9
 obtain rfl : args = #[v0, v1, v2, v3, v4, v5, v6, v7, v8, v9] := by cases args; simp_all
 obtain ⟨rfl, rfl⟩ := trodVars_none hV
 have k0 := h0
 have lt0 : ∀ x ∈ p0, x.block < W.heap.size := by obtain ⟨m, hm⟩ := k0; exact DataW.trod_lt m _ _ _ hm
 obtain ⟨c0, c1, c2, c3, c4, c5, c6, y0, y1, y2, y3, y4, y5, y6, n, rfl, g0, g1, g2, g3, g4, g5, g6⟩ := open_agg7 Try.underlying28 (by kernel_rfl) (by kernel_rfl) (hval 0 28 v0 rfl rfl) h0
 obtain ⟨a0, e0, -, z0⟩ := DataW.trod_int Try.underlying3 g0
 obtain ⟨a1, e1, -, z1⟩ := DataW.trod_int Try.underlying22 g1
 obtain ⟨a2, e2, -, z2⟩ := DataW.trod_int Try.underlying3 g2
 obtain ⟨a3, e3, -, z3⟩ := DataW.trod_int Try.underlying3 g3
 obtain ⟨a4, e4, -, z4⟩ := DataW.trod_int Try.underlying23 g4
 simp at e0 e1 e2 e3 e4
 subst e0 e1 e2 e3 e4
 obtain ⟨S, lenS, capS, zS, rfl, wS⟩ := row_of Try.underlying26 Try.underlying3 (by kernel_rfl) g5
 obtain ⟨B, lenB, capB, zB, rfl, wB⟩ := row_of Try.underlying25 Try.underlying5 (by kernel_rfl) g6
 obtain ⟨M, lenM, capM, rfl⟩ := okWide_slice Try.underlying25 (hval 1 25 v1 rfl rfl)
 have k1 := h1
 have lt1 : ∀ x ∈ p1, x.block < W.heap.size := by obtain ⟨m, hm⟩ := k1; exact DataW.trod_lt m _ _ _ hm
 obtain ⟨zM, wM⟩ : ∃ zs, IsRow .u8 W M lenM capM zs := by
  obtain ⟨fuel, hf⟩ := h1
  obtain ⟨a, l, c, zs, e, hz⟩ := row_of Try.underlying25 Try.underlying5 (by kernel_rfl) hf
  simp at e
  obtain ⟨rfl, rfl, rfl⟩ := e
  exact ⟨zs, hz⟩
 obtain ⟨b2, rfl, rfl, rfl, x2⟩ := open_int Try.underlying22 (hval 2 22 v2 rfl rfl) h2
 obtain ⟨b3, rfl, rfl, rfl, x3⟩ := open_int Try.underlying23 (hval 3 23 v3 rfl rfl) h3
 obtain ⟨b4, rfl, rfl, rfl, x4⟩ := open_int Try.underlying24 (hval 4 24 v4 rfl rfl) h4
 obtain ⟨b5, rfl, rfl, rfl, x5⟩ := open_int Try.underlying24 (hval 5 24 v5 rfl rfl) h5
 obtain ⟨C, lenC, capC, rfl⟩ := okWide_slice Try.underlying25 (hval 6 25 v6 rfl rfl)
 have k6 := h6
 have lt6 : ∀ x ∈ p6, x.block < W.heap.size := by obtain ⟨m, hm⟩ := k6; exact DataW.trod_lt m _ _ _ hm
 obtain ⟨zC, wC⟩ : ∃ zs, IsRow .u8 W C lenC capC zs := by
  obtain ⟨fuel, hf⟩ := h6
  obtain ⟨a, l, c, zs, e, hz⟩ := row_of Try.underlying25 Try.underlying5 (by kernel_rfl) hf
  simp at e
  obtain ⟨rfl, rfl, rfl⟩ := e
  exact ⟨zs, hz⟩
 obtain ⟨b7, rfl, rfl, rfl, x7⟩ := open_int Try.underlying5 (hval 7 5 v7 rfl rfl) h7
 obtain ⟨b8, rfl, rfl, rfl, x8⟩ := open_int Try.underlying24 (hval 8 24 v8 rfl rfl) h8
 obtain ⟨b9, rfl, rfl, rfl, x9⟩ := open_int Try.underlying5 (hval 9 5 v9 rfl rfl) h9
 clear hA0 hval0 hsz0
 refine (walk a0 a1 a2 a3 a4 S lenS capS zS B lenB capB zB M lenM capM zM b2 b3 b4 b5 C lenC capC zC b7 b8 b9 W z1 z4 wS wB wM x2 x3 x4 x5 wC x7 x8 x9).mono fun e W' ⟨he, bel⟩ => ?_
 subst he
 exact ⟨_, rfl, _, _, _, [], _, [], hW', trodAll_mk1 (shut_bool Try.underlying4 _), (trodAll_cons_mk (Below.trod laidOut (by kernel_rfl) (of_decide_eq_true (by kernel_rfl)) k0 bel lt0) (trodAll_cons_mk (Below.trod laidOut (by kernel_rfl) (of_decide_eq_true (by kernel_rfl)) k1 bel lt1) (trodAll_cons_mk (shut_int Try.underlying22 x2) (trodAll_cons_mk (shut_int Try.underlying23 x3) (trodAll_cons_mk (shut_int Try.underlying24 x4) (trodAll_cons_mk (shut_int Try.underlying24 x5) (trodAll_cons_mk (Below.trod laidOut (by kernel_rfl) (of_decide_eq_true (by kernel_rfl)) k6 bel lt6) (trodAll_cons_mk (shut_int Try.underlying5 x7) (trodAll_cons_mk (shut_int Try.underlying24 x8) (trodAll_cons_mk (shut_int Try.underlying5 x9) trodAll_mk0)))))))))), rfl, bel.frame _, fun h => by cases h⟩
theorem over : Rows.packCodesRow.holds Try.pinned (OpenSpec.ofChange Rows.packCodesSpec) :=
 OpenClaim.holds_of_wide 7 Try.f7 rfl rfl rfl rfl rfl rfl rfl ⟨rfl, rfl, rfl, rfl, rfl⟩ rfl rfl rfl rfl rfl (by kernel_rfl) Try.func7 (by kernel_rfl)
  (of_decide_eq_true (by kernel_rfl)) (by unfold Func.isWrapper; first | (rw [if_pos (by decide +kernel)]; kernel_rfl) | (rw [if_neg (by decide +kernel)]; exact ⟨rfl, rfl⟩))
  (fun os started H enc _ => lifted os started H enc)
theorem proved : Rows.PackCodesSaid := over
#print axioms proved
end Go.Proofs.Ytoooceaoggkeeaa.packCodes
namespace Go.Proofs.Ytoooceaoggkeeaa
/-- The row, under a short name, for the claim. -/
theorem packCodes_holds : Rows.PackCodesSaid := packCodes.proved
end Go.Proofs.Ytoooceaoggkeeaa
end
