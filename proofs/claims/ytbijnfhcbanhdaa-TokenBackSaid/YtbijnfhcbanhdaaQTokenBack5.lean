/- Proved: at every input in bounds the statement TokenBack of the token layer answers yes: what was encoded is decoded as it was; with any byte another one it is none.
Text 5 of 6; functions told as plain ones, with the contracts of their calls. -/
import Derived.Test.YtbijnfhcbanhdaaQTokenBack2
import Derived.Test.YtbijnfhcbanhdaaQTokenBack4
section
/- What a token's bytes are read back as. -/
namespace Go.Proofs.Ytbijnfhcbanhdaa.Pure
set_option linter.unusedVariables false
open Go.RowKit Go.Proofs.Ytbijnfhcbanhdaa.F Go.Proofs.Ytbijnfhcbanhdaa.H Go.Proofs.YtbijnfhcbanhdaaW.PrintWords Go.Proofs.YtbijnfhcbanhdaaW.PrintLast Go.Proofs.YtbijnfhcbanhdaaW.PrintMore
theorem known14 : scullerlaw14_known_c.f = some true := rfl
theorem getR_put (x : Int) (m : Nat) (h0 : 0 ≤ x) (h1 : x < 256 ^ m) (rest : List Int) : getR (putL x m ++ rest) m = (x, rest, false) := by
 unfold getR
 rw [if_neg (by rw [List.length_append, putL_length]; omega), List.take_left' (putL_length x m), List.drop_left' (putL_length x m), getL_putL m x h0 h1]
theorem readSizes_flat : ∀ (sizes acc l : List Int), (∀ x ∈ sizes, 0 ≤ x ∧ x ≤ 65535) → readSizes sizes.length acc ((sizes.flatMap fun n => putL n 2) ++ l) false = (acc ++ sizes, l, false)
 | [], acc, l, _ => by simp [readSizes]
 | x :: sizes, acc, l, h => by
  have hx := h x (by simp)
  rw [List.length_cons, readSizes, List.flatMap_cons, List.append_assoc, getR_put x 2 hx.1 (by omega), Bool.false_or, readSizes_flat sizes (acc ++ [x]) l (fun y hy => h y (by simp [hy])), List.append_assoc]
  rfl
theorem seal_take (l : List Int) : (sealL l).take ((sealL l).length - 4) = l := by rw [sealL_length, Nat.add_sub_cancel, sealL, List.take_left]
theorem tokenB_eq (s : Int) (sizes : List Int) (sum : Int) (known : List Int) : tokenB s sizes sum known = putL s 8 ++ (putL sum 4 ++ (putL sizes.length 1 ++ ((sizes.flatMap fun n => putL n 2) ++ known))) := by
 unfold tokenB tokenH
 rw [List.take_length]
 simp only [List.append_assoc]
theorem tokenB_length (s : Int) (sizes : List Int) (sum : Int) (known : List Int) : (tokenB s sizes sum known).length = 13 + 2 * sizes.length + known.length := by
 unfold tokenB
 rw [List.length_append, tokenH_length, List.take_length]
theorem tokenB_byte (s : Int) (sizes : List Int) (sum : Int) (known : List Int) (h : bytesB known = true) : bytesB (tokenB s sizes sum known) = true := by
 unfold tokenB
 rw [bytesB_append, tokenH_byte, h]
 rfl
theorem drop_put (x : Int) (m : Nat) (r : List Int) : (putL x m ++ r).drop m = r := List.drop_left' (putL_length x m)
theorem take_put (x : Int) (m : Nat) (r : List Int) : (putL x m ++ r).take m = putL x m := List.take_left' (putL_length x m)
/-- A sealed token, right or not: its parts are read back. -/
theorem decode_seal {s : Int} (hs : u64B s = true) {sum : Int} (hm : 0 ≤ sum ∧ sum < 4294967296) {sizes : List Int} (hn : sizes.length ≤ 255) (hz : ∀ x ∈ sizes, 0 ≤ x ∧ x ≤ 65535) (known : List Int) :
 decodeL (sealL (tokenB s sizes sum known)) = if rightT sizes known = true then (s, sizes, sum, known, 0) else (0, [], 0, [], 11) := by
 simp only [u64B, Bool.and_eq_true, decide_eq_true_eq] at hs
 have hlen := tokenB_length s sizes sum known
 have hsl := sealL_length (tokenB s sizes sum known)
 have ht := seal_take (tokenB s sizes sum known)
 have e8 : getL ((tokenB s sizes sum known).take 8) = s := by rw [tokenB_eq, take_put, getL_putL 8 s hs.1 (by omega)]
 have e4 : getL (((tokenB s sizes sum known).drop 8).take 4) = sum := by rw [tokenB_eq, drop_put, take_put, getL_putL 4 sum hm.1 (by omega)]
 have e12 : (tokenB s sizes sum known).drop 12 = putL sizes.length 1 ++ ((sizes.flatMap fun n => putL n 2) ++ known) := by
  rw [show 12 = 8 + 4 from rfl, ← List.drop_drop, tokenB_eq, drop_put, drop_put]
 have e13 : (tokenB s sizes sum known).drop 13 = (sizes.flatMap fun n => putL n 2) ++ known := by
  rw [show 13 = 12 + 1 from rfl, ← List.drop_drop, e12, drop_put]
 have eQ : decodeQ (sealL (tokenB s sizes sum known)) = (sizes, known, false) := by
  rw [decodeQ, ht, e12, e13, take_put, getL_putL 1 sizes.length (by omega) (by omega), Int.toNat_natCast, readSizes_flat _ _ _ hz]
  rfl
 rw [decodeL, if_neg (by omega), if_pos (rightC_seal _), eQ, ht, e8, e4]
 dsimp only
 unfold encodeL
 by_cases hr : rightT sizes known = true
 · rw [if_pos hr, if_pos ⟨rfl, rfl⟩, if_pos hr]
 · rw [if_neg hr, if_neg (by intro h; exact absurd (congrArg Prod.snd h.2) (by simp)), if_neg hr]
theorem fits_small {sizes : List Int} (h : fitsB sizes = true) : sizes.length ≤ 255 ∧ ∀ x ∈ sizes, 0 ≤ x ∧ x ≤ 65535 := by
 obtain ⟨h1, h2, h3, h4, h5⟩ := fitsB_at h
 refine ⟨by omega, fun x hx => ⟨h4 x hx, ?_⟩⟩
 obtain ⟨i, hi, rfl⟩ := List.getElem_of_mem hx
 have := mem_le_sum h4 i hi
 omega
theorem rightT_fits {sizes known : List Int} (h : rightT sizes known = true) : fitsB sizes = true := by
 unfold rightT at h
 rw [Bool.and_eq_true] at h
 exact h.1
/-- The statements' token: what it is. -/
structure TokOk (s : Int) (sizes : List Int) (sum : Int) (known : List Int) : Prop where
 u : u64B s = true
 m : 0 ≤ sum ∧ sum < 4294967296
 r : rightT sizes known = true
 k : bytesB known = true
 l : known.length ≤ 64
theorem TokOk.fits {s : Int} {sizes : List Int} {sum : Int} {known : List Int} (h : TokOk s sizes sum known) : fitsB sizes = true := rightT_fits h.r
theorem TokOk.enc {s : Int} {sizes : List Int} {sum : Int} {known : List Int} (h : TokOk s sizes sum known) : token_Encode_c.f s sizes sum known = some (sealL (tokenB s sizes sum known), 0) := by
 rw [token_Encode_c.f, if_pos ⟨h.k, by have := h.l; omega, h.m.1, h.m.2⟩, encodeL, if_pos h.r]
theorem TokOk.len {s : Int} {sizes : List Int} {sum : Int} {known : List Int} (h : TokOk s sizes sum known) : (known.length : Int) = ((wordsM sizes + 7) / 8 + 7) / 8 := by
 have h2 := h.r
 unfold rightT at h2
 rw [Bool.and_eq_true] at h2
 exact rightBits_length h2.2
theorem TokOk.size {s : Int} {sizes : List Int} {sum : Int} {known : List Int} (h : TokOk s sizes sum known) : (sealL (tokenB s sizes sum known)).length = 17 + 2 * sizes.length + known.length := by
 rw [sealL_length, tokenB_length]; omega
theorem TokOk.byte {s : Int} {sizes : List Int} {sum : Int} {known : List Int} (h : TokOk s sizes sum known) : bytesB (sealL (tokenB s sizes sum known)) = true := sealL_byte _ (tokenB_byte s sizes sum known h.k)
theorem TokOk.dec {s : Int} {sizes : List Int} {sum : Int} {known : List Int} (h : TokOk s sizes sum known) : token_Decode.f (sealL (tokenB s sizes sum known)) = some (s, sizes, sum, known, 0) := by
 have hz := fits_small h.fits
 have := h.l
 have h16 := (fitsB_at h.fits).2.1
 rw [token_Decode.f, if_pos ⟨h.byte, by rw [h.size]; omega⟩, decode_seal h.u h.m hz.1 hz.2, if_pos h.r]
theorem tokenC_ok {s : Int} (hs : u64B s = true) {c : List Int} (hc : bytesB c = true) {n m : Int} (hn : 0 ≤ n) (hm : 0 ≤ m) : TokOk (tokenC s c n m).1 (tokenC s c n m).2.1 (tokenC s c n m).2.2.1 (tokenC s c n m).2.2.2 := by
 have hk := knownL_right hc (chunksL_range (arena12L c n m)).1
 have hr := chunksL_range (arena12L c n m)
 refine ⟨hs, moreL_range 0 _ (by omega) (by rw [bytesB_append, ofBytes_byte, bytesB_of (bytesL_byte _)]; rfl), tokenC_right hc hn hm, hk.1, ?_⟩
 have := rightBits_length hk.2
 show (knownL c (chunksL (arena12L c n m))).length ≤ 64
 omega
theorem token_is {s : Int} (hs : u64B s = true) {c : List Int} (hc : bytesB c = true) (hl : c.length ≤ 140737488351232) {n m : Int} (hn : 0 ≤ n) (hn1 : n ≤ 255) (hm : 0 ≤ m) (hm1 : m ≤ 255) :
 scullerlaw14_Token_c.f s c n m = some (tokenC s c n m) := if_pos ⟨hs, hc, hl, hn, hn1, hm, hm1⟩
theorem u64_wf {x : Int} (h : (Lit.int .u64 x).wf = true) : u64B x = true := by
 simp [Lit.wf, IntKind.min, IntKind.max, IntKind.signed, IntKind.bits] at h
 exact u64B_mk (by omega) (by omega)
theorem u16_wf {x : Int} (h : (Lit.int .u16 x).wf = true) : 0 ≤ x ∧ x ≤ 65535 := by
 simp [Lit.wf, IntKind.min, IntKind.max, IntKind.signed, IntKind.bits] at h
 omega
end Go.Proofs.Ytbijnfhcbanhdaa.Pure
end

section
/- What was encoded is decoded as it was; with one byte another one it is none. -/
namespace Go.Proofs.Ytbijnfhcbanhdaa.Pure
open Go.RowKit Go.Proofs.Ytbijnfhcbanhdaa.F Go.Proofs.Ytbijnfhcbanhdaa.H Go.Proofs.YtbijnfhcbanhdaaW.PrintWords Go.Proofs.YtbijnfhcbanhdaaW.PrintLast Go.Proofs.YtbijnfhcbanhdaaW.PrintMore
theorem same14 (s : Int) (l : List Int) (x : Int) (k : List Int) (hl : l.length ≤ 1000000) : scullerref14_Same.f s l x k s l x k = some true := by
 rw [scullerref14_Same.f, scullerref12_Same.f, if_pos rfl, if_pos rfl, scullerref07_SameInts_c.f, if_pos hl, Option.bind_some, Option.bind_some, if_pos (by simp)]
 simp
theorem TokenBack : scullerlaw14_TokenBack.Pure := by
 intro a0 l1 a2 a3 a4 a5 h0 h1 h2 h3 h4 h5 h6 h7
 have hs := u64_wf h0
 have hb := bytes_wf h3
 have hn := byte_wf h4
 have hm := byte_wf h5
 have hat := u16_wf h6
 have hv := byte_wf h7
 have hok := tokenC_ok hs hb hn.1 hm.1
 have htk := token_is hs hb (by omega) hn.1 hn.2 hm.1 hm.2
 generalize tokenC a0 l1 a2 a3 = t at hok htk
 obtain ⟨s, sizes, sum, known⟩ := t
 dsimp only at hok
 refine ⟨1, ?_⟩
 have hsz := hok.size
 have hby := hok.byte
 have h16 := (fitsB_at hok.fits).2.1
 have hl64 := hok.l
 rw [scullerlaw14_TokenBack.f, htk, Option.bind_some]
 dsimp only
 rw [hok.enc, Option.bind_some]
 dsimp only
 rw [hok.dec, Option.bind_some]
 dsimp only
 rw [if_pos rfl, if_pos rfl, same14 s sizes sum known (by omega), Option.bind_some]
 have hrc := rightC_seal (tokenB s sizes sum known)
 have hdec := hok.dec
 generalize sealL (tokenB s sizes sum known) = b at *
 obtain ⟨i, hi⟩ : ∃ i : Nat, Int.tmod (wrap64 a4) (b.length : Int) = i := by
  have e : wrap64 a4 = a4 := by unfold wrap64; omega
  rw [e, Int.tmod_eq_emod_of_nonneg hat.1]
  exact ⟨(a4 % (b.length : Int)).toNat, by have := Int.emod_nonneg a4 (show (b.length : Int) ≠ 0 by omega); omega⟩
 have hil : i < b.length := by
  have h9 := Int.tmod_lt_of_pos (wrap64 a4) (show (0 : Int) < (b.length : Int) by omega)
  omega
 rw [scullerlaw14_TokenBack.j0, if_neg (by decide), if_neg (by omega), hi, if_pos (by omega), if_pos (by omega), Int.toNat_natCast]
 have hbs := bytesB_set hby i a5 hv
 have er : rd b (i : Int) = b.getD i 0 := by unfold rd; rw [Int.toNat_natCast]
 rw [er]
 by_cases hve : a5 = b.getD i 0
 · have hsame : b.set i a5 = b := by
    rw [hve, List.getD_eq_getElem?_getD, List.getElem?_eq_getElem hil, Option.getD_some]
    exact List.set_getElem_self hil
   rw [hsame, hdec, Option.bind_some]
   dsimp only
   rw [known14, Option.bind_some, if_pos rfl, if_pos hve, if_pos rfl]
 · have hrs := rightC_set hby hrc i hil a5 hv hve
   have hds : token_Decode.f (b.set i a5) = some (0, [], 0, [], 12) := by
    rw [token_Decode.f, if_pos ⟨hbs, by rw [List.length_set]; omega⟩, decodeL, if_neg (by rw [List.length_set]; omega), if_neg (by rw [hrs]; decide)]
   rw [hds, Option.bind_some]
   dsimp only
   rw [known14, Option.bind_some, if_pos rfl, if_neg hve, if_pos rfl]
   rfl
end Go.Proofs.Ytbijnfhcbanhdaa.Pure
end
