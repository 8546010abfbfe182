/- Proved: at every input in bounds the statement PackCut of the pack layer answers yes: of fewer than its least bytes a datagram is told to be too short; one byte less, or more, than it has, is none.
Text 5 of 6; functions told as plain ones, with the contracts of their calls. -/
import Derived.Test.YtoooceaoggkeeaaQPackCut1
import Derived.Test.YtoooceaoggkeeaaQPackCut2
import Derived.Test.YtoooceaoggkeeaaQPackCut3
import Derived.Test.YtoooceaoggkeeaaQPackCut4
section
/- The statements' own arenas: they fit, and what is cut from their bytes is they again. No program in sight. -/
namespace Go.Proofs.Ytoooceaoggkeeaa.H
set_option linter.unusedVariables false
set_option linter.unusedSimpArgs false
end Go.Proofs.Ytoooceaoggkeeaa.H
end

section
/- Numbers in the bounds of their kinds. -/
namespace Go.Proofs.Ytoooceaoggkeeaa.Pure
open Go.RowKit Go.Proofs.Ytoooceaoggkeeaa.H
theorem byte_wf {x : Int} (h : (Lit.int .u8 x).wf = true) : 0 ≤ x ∧ x ≤ 255 := by
 simp [Lit.wf, IntKind.min, IntKind.max, IntKind.signed, IntKind.bits] at h
 omega
theorem bytes_wf {l : List Int} (h : ∀ x ∈ l, (Lit.int .u8 x).wf = true) : bytesB l = true := bytesB_of fun x hx => byte_wf (h x hx)
end Go.Proofs.Ytoooceaoggkeeaa.Pure
end

section
/- One byte another one: the checksum is another one. No program in sight. -/
namespace Go.Proofs.Ytoooceaoggkeeaa.H
set_option linter.unusedVariables false
theorem sealL_length (l : List Int) : (sealL l).length = l.length + 4 := by rw [sealL, List.length_append, putL_length]
theorem rightC_at {l : List Int} (h : rightC l = true) : 4 ≤ l.length ∧ l = sealL (l.take (l.length - 4)) := by
 unfold rightC at h
 rw [Bool.and_eq_true, decide_eq_true_eq, decide_eq_true_eq] at h
 exact ⟨h.1, h.2.symm⟩
end Go.Proofs.Ytoooceaoggkeeaa.H
end

section
/- What a datagram's bytes are parsed as. -/
namespace Go.Proofs.Ytoooceaoggkeeaa.Pure
set_option linter.unusedVariables false
open Go.RowKit Go.Proofs.Ytoooceaoggkeeaa.F Go.Proofs.Ytoooceaoggkeeaa.H Go.Proofs.YtoooceaoggkeeaaW.PrintWords Go.Proofs.YtoooceaoggkeeaaW.PrintLast Go.Proofs.YtoooceaoggkeeaaW.PrintMore
theorem known13 : scullerlaw13_known_c.f = some true := rfl
theorem gramB_length (k s i o m : Int) (sizes body : List Int) : (gramB k s i o m sizes body).length = 17 + 2 * sizes.length + body.length := by
 unfold gramB
 rw [List.length_append, List.length_append, frontG_length, flat2_len]
 omega
/-- A datagram's fields, in their bounds. -/
structure GOk (k s i o m : Int) (sizes body : List Int) : Prop where
 k0 : 0 ≤ k ∧ k ≤ 255
 s0 : 0 ≤ s ∧ s < 18446744073709551616
 i0 : 0 ≤ i ∧ i ≤ 65535
 o0 : 0 ≤ o ∧ o ≤ 65535
 m0 : 0 ≤ m ∧ m < 4294967296
 z0 : ∀ x ∈ sizes, 0 ≤ x ∧ x ≤ 65535
 b0 : bytesB body = true
 one : k = 1 → body = []
 two : k ≠ 1 → sizes = []
 zl : sizes.length ≤ 1000
 bl : body.length ≤ 1000
theorem rightG_at {k i o : Int} {sizes body : List Int} (h : rightG k i o sizes body = true) : (1 ≤ k ∧ k ≤ 8) ∧ (0 ≤ i ∧ i ≤ 65535) ∧ (0 ≤ o ∧ o ≤ 65535) ∧ sizes.length ≤ 4 ∧ body.length ≤ 64 ∧ (∀ x ∈ sizes, 0 ≤ x ∧ x ≤ 4096) ∧ (k = 1 → body = []) ∧ (k ≠ 1 → sizes = []) := by
 have hk := kinds_small k
 simp only [rightG, isKindB, Bool.and_eq_true, decide_eq_true_eq, Bool.not_eq_true'] at h
 obtain ⟨⟨⟨⟨⟨⟨⟨h1, h2⟩, h3⟩, h4⟩, h5⟩, h6⟩, h7⟩, h8⟩ := h
 refine ⟨h1, ⟨h2, h4⟩, ⟨h3, h5⟩, by omega, by omega, fun x hx => badS_any h8 x hx, ?_, ?_⟩
 · intro e
   rw [e, hasL, if_pos rfl] at h7
   exact List.eq_nil_of_length_eq_zero (by omega)
 · intro e
   refine List.eq_nil_of_length_eq_zero ?_
   unfold hasL at h6
   rw [if_neg e] at h6
   split at h6 <;> omega
theorem seal_size (k s i o m : Int) (sizes body : List Int) : (sealL (gramB k s i o m sizes body)).length = 21 + 2 * sizes.length + body.length := by rw [sealL_length, gramB_length]; omega
theorem seal_byte (k s i o m : Int) (sizes : List Int) {body : List Int} (h : bytesB body = true) : bytesB (sealL (gramB k s i o m sizes body)) = true := sealL_byte _ (gramB_byte _ _ _ _ _ _ _ h)
theorem encode_is {k s i o m : Int} {sizes body : List Int} (hz : sizes.length ≤ 1000000) (hl : body.length ≤ 1000000) (hb : bytesB body = true) (hm : 0 ≤ m ∧ m < 4294967296) : pack_Encode.f k s i o m sizes body = some (encodeG k s i o m sizes body) := by
 rw [pack_Encode.f, if_pos ⟨hz, hl, hb, hm.1, hm.2⟩]
theorem encode_right {k s i o m : Int} {sizes body : List Int} (h : rightG k i o sizes body = true) (hb : bytesB body = true) (hm : 0 ≤ m ∧ m < 4294967296) : pack_Encode.f k s i o m sizes body = some (sealL (gramB k s i o m sizes body), 0) := by
 obtain ⟨h1, h2, h3, h4, h5, h6, h7, h8⟩ := rightG_at h
 rw [encode_is (by omega) (by omega) hb hm, encodeG, if_pos h]
theorem parse_is {b : List Int} (hb : bytesB b = true) (hl : b.length ≤ 1000000) : pack_Parse.f b = some (parseG b) := by rw [pack_Parse.f, if_pos ⟨hb, hl⟩]
/-- The statements' datagram may be. -/
theorem gramC_right {s m i o : Int} {c : List Int} {k : Int} (hi : 0 ≤ i ∧ i ≤ 65535) (ho : 0 ≤ o ∧ o ≤ 65535) (hk : 0 ≤ k ∧ k ≤ 230) :
 gramC s m i o c k = (1 + k % 8, s, i, o, m, if k % 8 = 0 then sizesG c else [], if 1 ≤ k % 8 ∧ k % 8 ≤ 3 then c.take 64 else []) ∧ rightG (1 + k % 8) i o (if k % 8 = 0 then sizesG c else []) (if 1 ≤ k % 8 ∧ k % 8 ≤ 3 then c.take 64 else []) = true := by
 constructor
 · rw [gramC, if_neg (by omega), if_neg (by omega)]
 · have hsl := sizesG_length c
   have hbs : (sizesG c).any badS = false := by
    rw [List.any_eq_false]
    intro x hx
    have := sizesG_at c x hx
    simp only [badS, Bool.or_eq_true, decide_eq_true_eq]
    omega
   have ht : (c.take 64).length ≤ 64 := by rw [List.length_take]; omega
   simp only [rightG, isKindB, Bool.and_eq_true, decide_eq_true_eq, Bool.not_eq_true']
   refine ⟨⟨⟨⟨⟨⟨⟨⟨by omega, by omega⟩, hi.1⟩, ho.1⟩, hi.2⟩, ho.2⟩, ?_⟩, ?_⟩, ?_⟩
   · unfold hasL
     by_cases h0 : k % 8 = 0
     · rw [if_pos h0, if_pos (by omega)]
       dsimp only
       omega
     · rw [if_neg h0, if_neg (by omega)]
       split <;> simp
   · unfold hasL
     by_cases h0 : 1 ≤ k % 8 ∧ k % 8 ≤ 3
     · rw [if_pos h0, if_neg (by omega), if_pos (by omega)]
       dsimp only
       omega
     · rw [if_neg h0]
       split
       · simp
       · split <;> simp
   · split
     · exact hbs
     · rfl
theorem gram_is {s m i o : Int} {c : List Int} {k : Int} (hb : bytesB c = true) (hl : c.length ≤ 140737488351232) (hi : 0 ≤ i ∧ i ≤ 65535) (ho : 0 ≤ o ∧ o ≤ 65535) (hk : 0 ≤ k ∧ k ≤ 255) : scullerlaw13_Gram_c.f s m i o c k = some (gramC s m i o c k) :=
 if_pos ⟨hb, hl, hi.1, hi.2, ho.1, ho.2, hk.1, hk.2⟩
theorem body_byte {c : List Int} (hb : bytesB c = true) (p : Prop) [Decidable p] : bytesB (if p then c.take 64 else []) = true := by
 split
 · exact bytesB_take hb 64
 · rfl
theorem u64_wf {x : Int} (h : (Lit.int .u64 x).wf = true) : 0 ≤ x ∧ x < 18446744073709551616 := by
 simp [Lit.wf, IntKind.min, IntKind.max, IntKind.signed, IntKind.bits] at h
 omega
theorem u32_wf {x : Int} (h : (Lit.int .u32 x).wf = true) : 0 ≤ x ∧ x < 4294967296 := by
 simp [Lit.wf, IntKind.min, IntKind.max, IntKind.signed, IntKind.bits] at h
 omega
theorem u16_wf {x : Int} (h : (Lit.int .u16 x).wf = true) : 0 ≤ x ∧ x ≤ 65535 := by
 simp [Lit.wf, IntKind.min, IntKind.max, IntKind.signed, IntKind.bits] at h
 omega
end Go.Proofs.Ytoooceaoggkeeaa.Pure
end

section
/- Cut off, or with a byte more, a datagram is none. -/
namespace Go.Proofs.Ytoooceaoggkeeaa.Pure
open Go.RowKit Go.Proofs.Ytoooceaoggkeeaa.F Go.Proofs.Ytoooceaoggkeeaa.H Go.Proofs.YtoooceaoggkeeaaW.PrintWords Go.Proofs.YtoooceaoggkeeaaW.PrintLast Go.Proofs.YtoooceaoggkeeaaW.PrintMore
theorem seal13 (l : List Int) (hb : bytesB l = true) (hl : l.length ≤ 100000000) : scullerref02_Seal.f l = some (sealL l) := by
 have hr := moreL_range 0 l (by omega) hb
 rw [scullerref02_Seal.f, if_pos (by simp; omega), List.nil_append, Option.bind_some, scullerref02_Sum.f, scullerref02_More_c.f, if_pos ⟨by omega, by omega, hb, by omega⟩, Option.bind_some, Option.bind_some, scullerref01_Put_c.f]
 have hw : IntKind.u64.wrap (moreL 0 l) = moreL 0 l := by simp only [IntKind.wrap, IntKind.signed, IntKind.bits]; simp; omega
 have hu : u64B (moreL 0 l) = true := by unfold u64B; simp; omega
 rw [hw, if_pos hu, Option.bind_some, show putN 4 = 4 from rfl, if_pos (by rw [putL_length]; omega)]
 rfl
theorem PackCut : scullerlaw13_PackCut.Pure := by
 intro a0 a1 l2 a3 a4 a5 h0 h1 hl2 hl2' h2 h3 h4 h5
 have hs := u64_wf h0
 have hm := u32_wf h1
 have hb := bytes_wf h2
 have hk := byte_wf h3
 have hat := u16_wf h4
 have hv := byte_wf h5
 have e230 : Int.tmod a3 230 = a3 % 230 := Int.tmod_eq_emod_of_nonneg hk.1
 have e21 : Int.tmod (wrap64 a4) 21 = a4 % 21 := by rw [show wrap64 a4 = a4 from by unfold wrap64; omega, Int.tmod_eq_emod_of_nonneg hat.1]
 obtain ⟨hge, hgr⟩ := gramC_right (s := a0) (m := a1) (i := 1) (o := 2) (c := l2) (by omega) (by omega) (k := a3 % 230) (by omega)
 have hbb := body_byte hb (1 ≤ a3 % 230 % 8 ∧ a3 % 230 % 8 ≤ 3)
 rw [scullerlaw13_PackCut.f, e230, e21, gram_is hb (by omega) (by omega) (by omega) (by omega), hge, Option.bind_some]
 dsimp only
 generalize (if a3 % 230 % 8 = 0 then sizesG l2 else []) = sizes at *
 generalize (if 1 ≤ a3 % 230 % 8 ∧ a3 % 230 % 8 ≤ 3 then l2.take 64 else []) = body at *
 generalize 1 + a3 % 230 % 8 = kind at *
 have hra := rightG_at hgr
 rw [encode_right hgr hbb hm, Option.bind_some]
 dsimp only
 have hsz := seal_size kind a0 1 2 a1 sizes body
 have hby := seal_byte kind a0 1 2 a1 sizes hbb
 generalize sealL (gramB kind a0 1 2 a1 sizes body) = b at *
 have h21 := Int.emod_nonneg a4 (show (21 : Int) ≠ 0 by decide)
 have h22 := Int.emod_lt_of_pos a4 (show (0 : Int) < 21 by decide)
 have hcut : pack_Parse.f (b.take (a4 % 21).toNat) = some (0, 0, 0, 0, 0, [], [], 10) := by
  rw [parse_is (bytesB_take hby _) (by rw [List.length_take]; omega), parseG, if_pos (by rw [List.length_take]; omega)]
 have hyb : bytesB (b ++ [a5]) = true := by
  rw [bytesB_append, hby, bytesB_of (l := [a5]) (fun c hc => by rw [List.mem_singleton] at hc; omega)]
  rfl
 have hyl : (b ++ [a5]).length = b.length + 1 := by rw [List.length_append]; rfl
 rw [if_neg (show ¬ (b.length : Int) = 0 by omega), if_pos h21, if_pos (show a4 % 21 ≤ (b.length : Int) by omega), hcut, Option.bind_some, List.nil_append, if_pos (show ([] : List Int).length + b.length < 140737488355328 by simp; omega), Option.bind_some, if_pos (show b.length < 140737488355328 by omega), Option.bind_some]
 generalize b ++ [a5] = y at *
 rw [parse_is hyb (by omega), Option.bind_some, known13, Option.bind_some, if_pos rfl]
 dsimp only
 rw [if_pos rfl]
 have hw : wrap64 ((y.length : Int) - 4) = ((y.length - 4 : Nat) : Int) := by unfold wrap64; omega
 rw [hw, Int.toNat_natCast]
 by_cases hrc : rightC y = true
 · obtain ⟨h4, he⟩ := rightC_at hrc
   have hsl : scullerref02_Seal.f (y.take (y.length - 4)) = some y := by
    rw [seal13 _ (bytesB_take hyb _) (by rw [List.length_take]; omega), ← he]
   rw [if_pos (show (0 : Int) ≤ ((y.length - 4 : Nat) : Int) by omega), if_pos (show ((y.length - 4 : Nat) : Int) ≤ (y.length : Int) by omega), hsl, Option.bind_some]
   split
   · simp
   · split
     · rfl
     · simp
 · have hp : parseG y = (0, 0, 0, 0, 0, [], [], 12) := by rw [parseG, if_neg (by omega), if_neg hrc]
   rw [hp]
   dsimp only
   rw [if_neg (show ¬ (12 : Int) = 0 by decide), if_pos rfl]
end Go.Proofs.Ytoooceaoggkeeaa.Pure
end
