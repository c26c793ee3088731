/- The runes of a string and the strings of runes: what decoding and encoding have to do with each other. No program and no memory stands here. -/
import Derived.Lib.MapLaws
import Derived.Lib.ValidLaws
import Derived.Lib.RuneCountTail
import Derived.Lib.QuoteLoop
import Derived.Test.YtpgeimihmkampaaDoorCx0
set_option linter.unusedVariables false
namespace Go.Proofs.YtpgeimihmkampaaDoor.Utf
open Go.Lib Go.Proofs.YtpgeimihmkampaaDoor.C
/-- The runes of a list of bytes. -/
def rl : Nat → List UInt8 → List Int
  | 0, _ => []
  | n + 1, l => if l = [] then [] else ((decodeL l).1 : Int) :: rl n (l.drop (decodeL l).2)
def R (l : List UInt8) : List Int := rl l.length l
theorem rl_nil : ∀ n, rl n [] = []
  | 0 => rfl
  | _ + 1 => by simp [rl]
theorem rl_fuel : ∀ (n m : Nat) (l : List UInt8), l.length ≤ n → l.length ≤ m → rl n l = rl m l
  | 0, m, l, hn, _ => by
    obtain rfl : l = [] := List.eq_nil_of_length_eq_zero (by omega)
    rw [rl_nil, rl_nil]
  | n + 1, 0, l, _, hm => by
    obtain rfl : l = [] := List.eq_nil_of_length_eq_zero (by omega)
    rw [rl_nil, rl_nil]
  | n + 1, m + 1, l, hn, hm => by
    by_cases hne : l = []
    · subst hne; rw [rl_nil, rl_nil]
    · have hw := decodeL_width l
      have hl : 0 < l.length := List.length_pos_iff.2 hne
      simp only [rl, if_neg hne]
      rw [rl_fuel n m _ (by rw [List.length_drop]; omega) (by rw [List.length_drop]; omega)]
theorem R_nil : R [] = [] := rfl
theorem R_step (l : List UInt8) (hne : l ≠ []) : R l = ((decodeL l).1 : Int) :: R (l.drop (decodeL l).2) := by
  have hw := decodeL_width l
  have hl : 0 < l.length := List.length_pos_iff.2 hne
  unfold R
  obtain ⟨n, hn⟩ : ∃ n, l.length = n + 1 := ⟨l.length - 1, by omega⟩
  rw [hn]
  simp only [rl, if_neg hne]
  rw [rl_fuel n _ _ (by rw [List.length_drop]; omega) (Nat.le_refl _)]
/-- Decoding at a place is decoding what is left. -/
theorem decode_drop (s : ByteArray) (pos : Nat) : Utf8.decode s pos = decodeL (s.data.toList.drop pos) := by
  rw [decode_N, decodeL_N, List.length_drop]
  simp only [List.getD_eq_getElem?_getD, List.getElem?_drop, Nat.add_zero]
theorem rnsFrom_R (s : ByteArray) : ∀ (k pos : Nat), s.size ≤ pos + k → rnsFrom s k pos = R (s.data.toList.drop pos)
  | 0, pos, h => by
    have : s.data.toList.drop pos = [] := List.drop_eq_nil_of_le (by rw [← size_eq]; omega)
    rw [this]; rfl
  | k + 1, pos, h => by
    by_cases c : pos < s.size
    · have hne : s.data.toList.drop pos ≠ [] := by
        intro e
        have := List.drop_eq_nil_iff.1 e
        rw [← size_eq] at this
        omega
      have hw := decodeL_width (s.data.toList.drop pos)
      rw [rnsFrom_step s k pos c, R_step _ hne, decode_drop, rnsFrom_R s k _ (by omega), List.drop_drop]
    · have : s.data.toList.drop pos = [] := List.drop_eq_nil_of_le (by rw [← size_eq]; omega)
      rw [rnsFrom_end s _ pos c, this]; rfl
theorem rns_R (s : ByteArray) : rns s = R s.data.toList := by
  have := rnsFrom_R s s.size 0 (by omega)
  simpa [rns] using this

/-! ### what is encoded is decoded again -/
theorem toByte_nat (z : Int) (h0 : 0 ≤ z) (h1 : z < 256) : (z.toNat.toUInt8).toNat = z.toNat := by
  have : z.toNat < 256 := by omega
  simp [UInt8.toNat_ofNat', Nat.mod_eq_of_lt this]
theorem decode_encode (r : Int) (h : validRune r = true) (m : List UInt8) : decodeL (encodeRune r ++ m) = (r.toNat, (encodeRune r).length) := by
  have hv : (0 ≤ r ∧ r < 0xD800) ∨ (0xDFFF < r ∧ r ≤ 0x10FFFF) := by simpa [validRune] using h
  rw [decodeL_N]
  unfold encodeRune
  by_cases c1 : r ≤ 127
  · rw [encodeRuneZ_one (by omega) c1]
    simp only [List.map_cons, List.map_nil, List.cons_append, List.nil_append, List.getD_cons_zero, List.length_cons, List.length_nil]
    rw [toByte_nat r (by omega) (by omega)]
    unfold decodeN
    rw [if_pos (by omega)]
  · by_cases c2 : r ≤ 2047
    · rw [encodeRuneZ_two (by omega) c2]
      simp only [List.map_cons, List.map_nil, List.cons_append, List.nil_append, List.getD_cons_zero, List.getD_cons_succ, List.length_cons, List.length_nil]
      rw [toByte_nat _ (by omega) (by omega), toByte_nat _ (by omega) (by omega)]
      unfold decodeN
      rw [if_neg (by omega), if_pos (by omega), if_pos (by omega)]
      congr 1; omega
    · by_cases c3 : r ≤ 65535
      · rw [encodeRuneZ_three (by omega)]
        simp only [List.map_cons, List.map_nil, List.cons_append, List.nil_append, List.getD_cons_zero, List.getD_cons_succ, List.length_cons, List.length_nil]
        rw [toByte_nat _ (by omega) (by omega), toByte_nat _ (by omega) (by omega), toByte_nat _ (by omega) (by omega)]
        unfold decodeN
        rw [if_neg (by omega), if_neg (by omega), if_pos (by omega), if_pos (by omega)]
        congr 1; omega
      · rw [encodeRuneZ_four (by omega) (by omega)]
        simp only [List.map_cons, List.map_nil, List.cons_append, List.nil_append, List.getD_cons_zero, List.getD_cons_succ, List.length_cons, List.length_nil]
        rw [toByte_nat _ (by omega) (by omega), toByte_nat _ (by omega) (by omega), toByte_nat _ (by omega) (by omega), toByte_nat _ (by omega) (by omega)]
        unfold decodeN
        rw [if_neg (by omega), if_neg (by omega), if_neg (by omega), if_pos (by omega), if_pos (by omega)]
        congr 1; omega
theorem decodeL_valid (l : List UInt8) : validRune ((decodeL l).1 : Int) = true := by
  have h := decodeN_valid l.length (l.getD 0 0).toNat (l.getD 1 0).toNat (l.getD 2 0).toNat (l.getD 3 0).toNat (UInt8.toNat_lt _)
  rw [← decodeL_N] at h
  simp only [validRune, decide_eq_true_eq]
  omega
@[reducible] def bad (l : List UInt8) : Prop := (decodeL l).1 = 65533 ∧ (decodeL l).2 = 1
theorem vstep (l : List UInt8) (hne : l ≠ []) : validD l = if bad l then false else validD (l.drop (decodeL l).2) := validD_step l hne
/-- What stands behind a rune that is no error does not count. -/
theorem decodeL_append (l m : List UInt8) (hne : l ≠ []) (hb : ¬ bad l) : decodeL (l ++ m) = decodeL l := by
  have e := encode_decode l hne hb
  have hw := decodeL_le l hne
  have h1 := decode_encode ((decodeL l).1 : Int) (decodeL_valid l) (l.drop (decodeL l).2 ++ m)
  rw [e, ← List.append_assoc, List.take_append_drop, List.length_take, Nat.min_eq_left hw] at h1
  rw [h1]
  simp
theorem enc_ne (r : Int) : encodeRune r ≠ [] := by
  have := (encodeRuneZ_length r).1
  intro e
  have h2 : (encodeRune r).length = 0 := by rw [e]; rfl
  simp [encodeRune] at h2
  rw [h2] at this
  simp at this
/-- The bytes of a list of runes. -/
def E (rs : List Int) : List UInt8 := rs.flatMap encodeRune
theorem E_nil : E [] = [] := rfl
theorem E_cons (r : Int) (rs : List Int) : E (r :: rs) = encodeRune r ++ E rs := by simp [E]
theorem E_append (a b : List Int) : E (a ++ b) = E a ++ E b := by simp [E]
theorem not_bad (r : Int) (h : validRune r = true) (m : List UInt8) : ¬ bad (encodeRune r ++ m) := by
  unfold bad
  rw [decode_encode r h]
  rintro ⟨h1, h2⟩
  simp only at h1 h2
  have : r = 65533 := by
    have : (0 ≤ r ∧ r < 0xD800) ∨ (0xDFFF < r ∧ r ≤ 0x10FFFF) := by simpa [validRune] using h
    omega
  subst this
  simp [encodeRune, encodeRuneZ] at h2
theorem R_enc (r : Int) (h : validRune r = true) (m : List UInt8) : R (encodeRune r ++ m) = r :: R m := by
  rw [R_step _ (by simp [enc_ne]), decode_encode r h]
  have : (0 ≤ r ∧ r < 0xD800) ∨ (0xDFFF < r ∧ r ≤ 0x10FFFF) := by simpa [validRune] using h
  simp only [List.drop_left]
  rw [Int.toNat_of_nonneg (by omega)]
theorem valid_enc (r : Int) (h : validRune r = true) (m : List UInt8) : validD (encodeRune r ++ m) = validD m := by
  rw [vstep _ (by simp [enc_ne])]
  rw [if_neg (not_bad r h m), decode_encode r h]
  simp
theorem R_E (rs : List Int) (h : ∀ r ∈ rs, validRune r = true) (m : List UInt8) : R (E rs ++ m) = rs ++ R m := by
  induction rs with
  | nil => rfl
  | cons r rs ih => rw [E_cons, List.append_assoc, R_enc r (h r (by simp)), ih (fun x hx => h x (by simp [hx]))]; rfl
theorem valid_E (rs : List Int) (h : ∀ r ∈ rs, validRune r = true) (m : List UInt8) : validD (E rs ++ m) = validD m := by
  induction rs with
  | nil => rfl
  | cons r rs ih => rw [E_cons, List.append_assoc, valid_enc r (h r (by simp)), ih (fun x hx => h x (by simp [hx]))]
/-- A valid list of bytes is made of its runes. -/
theorem E_R : ∀ (n : Nat) (l : List UInt8), l.length ≤ n → validD l = true → E (R l) = l
  | 0, l, hn, _ => by
    obtain rfl : l = [] := List.eq_nil_of_length_eq_zero (by omega)
    rfl
  | n + 1, l, hn, hv => by
    by_cases hne : l = []
    · subst hne; rfl
    · have hw := decodeL_width l
      have hl : 0 < l.length := List.length_pos_iff.2 hne
      rw [vstep l hne] at hv
      by_cases hb : bad l
      · rw [if_pos hb] at hv; cases hv
      · rw [if_neg hb] at hv
        rw [R_step l hne, E_cons, encode_decode l hne hb, E_R n _ (by rw [List.length_drop]; omega) hv, List.take_append_drop]
theorem E_R' {l : List UInt8} (h : validD l = true) : E (R l) = l := E_R l.length l (Nat.le_refl _) h
theorem rl_valid : ∀ (n : Nat) (l : List UInt8), ∀ r ∈ rl n l, validRune r = true
  | 0, _, r, h => by simp [rl] at h
  | n + 1, l, r, h => by
    unfold rl at h
    split at h
    · simp at h
    · rcases List.mem_cons.1 h with rfl | h
      · exact decodeL_valid l
      · exact rl_valid n _ r h
theorem R_valid (l : List UInt8) : ∀ r ∈ R l, validRune r = true := rl_valid _ l
theorem R_append {l : List UInt8} (h : validD l = true) (m : List UInt8) : R (l ++ m) = R l ++ R m := by
  have := R_E (R l) (R_valid l) m
  rwa [E_R' h] at this
theorem valid_append {l : List UInt8} (h : validD l = true) (m : List UInt8) : validD (l ++ m) = validD m := by
  have := valid_E (R l) (R_valid l) m
  rwa [E_R' h] at this
theorem R_inj {l m : List UInt8} (h : validD l = true) (k : validD m = true) (e : R l = R m) : l = m := by
  rw [← E_R' h, e, E_R' k]
theorem valid_E' {rs : List Int} (h : ∀ r ∈ rs, validRune r = true) : validD (E rs) = true := by
  have := valid_E rs h []
  rw [List.append_nil] at this
  rw [this]; rfl
theorem R_E' {rs : List Int} (h : ∀ r ∈ rs, validRune r = true) : R (E rs) = rs := by
  have := R_E rs h []
  rwa [List.append_nil, R_nil, List.append_nil] at this

/-! ### strings of Go -/
theorem encode_enc (r : Int) : (Utf8.encode r).data.toList = encodeRune r := by
  have hv : Utf8.valid r = true ↔ (0 ≤ r ∧ r < 0xD800) ∨ (0xDFFF < r ∧ r ≤ 0x10FFFF) := by
    simp [Utf8.valid]; omega
  unfold Utf8.encode encodeRune
  by_cases h : Utf8.valid r = true
  · have h2 := hv.1 h
    simp only [h, if_true]
    by_cases c1 : r ≤ 127
    · rw [encodeRuneZ_one (by omega) c1, if_pos (by omega)]
      rfl
    · by_cases c2 : r ≤ 2047
      · rw [encodeRuneZ_two (by omega) c2, if_neg (by omega), if_pos (by omega)]
        simp only [List.map_cons, List.map_nil]
        rw [show (192 + r / 64).toNat = 192 + r.toNat / 64 by omega, show (128 + r % 64).toNat = 128 + r.toNat % 64 by omega]
      · by_cases c3 : r ≤ 65535
        · rw [encodeRuneZ_three (by omega), if_neg (by omega), if_neg (by omega), if_pos (by omega)]
          simp only [List.map_cons, List.map_nil]
          rw [show (224 + r / 4096).toNat = 224 + r.toNat / 4096 by omega, show (128 + r / 64 % 64).toNat = 128 + r.toNat / 64 % 64 by omega, show (128 + r % 64).toNat = 128 + r.toNat % 64 by omega]
        · rw [encodeRuneZ_four (by omega) (by omega), if_neg (by omega), if_neg (by omega), if_neg (by omega)]
          simp only [List.map_cons, List.map_nil]
          rw [show (240 + r / 262144).toNat = 240 + r.toNat / 262144 by omega, show (128 + r / 4096 % 64).toNat = 128 + r.toNat / 4096 % 64 by omega, show (128 + r / 64 % 64).toNat = 128 + r.toNat / 64 % 64 by omega, show (128 + r % 64).toNat = 128 + r.toNat % 64 by omega]
  · have h2 : ¬ ((0 ≤ r ∧ r < 0xD800) ∨ (0xDFFF < r ∧ r ≤ 0x10FFFF)) := fun x => h (hv.2 x)
    simp only [h, Bool.false_eq_true, if_false]
    rw [encodeRuneZ_bad (by omega)]
    decide
theorem str_append (a b : ByteArray) : (a ++ b).data.toList = a.data.toList ++ b.data.toList := by simp [ByteArray.data_append]
theorem str_ext {a b : ByteArray} (h : a.data.toList = b.data.toList) : a = b := by
  cases a; cases b
  simp only [ByteArray.mk.injEq]
  exact Array.toList_inj.1 h
theorem strOfRunes_foldl (rs : List Int) : ∀ a : ByteArray, (rs.foldl (fun r n => r ++ Utf8.encode n) a).data.toList = a.data.toList ++ E rs := by
  induction rs with
  | nil => intro a; simp [E]
  | cons r rs ih => intro a; rw [List.foldl_cons, ih, str_append, encode_enc, E_cons, List.append_assoc]
theorem strOfRunes_E (rs : List Int) : (strOfRunes rs).data.toList = E rs := by
  have := strOfRunes_foldl rs .empty
  simpa [strOfRunes] using this
end Go.Proofs.YtpgeimihmkampaaDoor.Utf
