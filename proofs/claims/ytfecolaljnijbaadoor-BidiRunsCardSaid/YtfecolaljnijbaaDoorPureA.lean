/- What the functions of bidi compute, in plain lists: classes, base direction. No program and no memory stands here. -/
import Derived.Test.YtfecolaljnijbaaDoorCx2
import Derived.Test.YtfecolaljnijbaaDoorUtf
set_option linter.unusedVariables false
set_option linter.unusedSimpArgs false
namespace Go.Proofs.YtfecolaljnijbaaDoor.Pure
open Go.RowKit Go.Lib Go.Proofs.YtfecolaljnijbaaDoor.C Go.Proofs.YtfecolaljnijbaaDoorW.PrintWords Go.Proofs.YtfecolaljnijbaaDoor.Utf

theorem wrap_id {x : Int} (h0 : -9223372036854775808 ≤ x) (h1 : x ≤ 9223372036854775807) : wrap64 x = x := by unfold wrap64; omega
theorem rd_get {l : List Int} {n : Nat} (h : n < l.length) : rd l (n : Int) = l[n] := by simp [rd, List.getD, List.getElem?_eq_getElem h]
theorem toList_data (s : ByteArray) : s.toList = s.data.toList := Go.ByteArray.toList_eq s
/-- The class of a rune. -/
def cls (r : Int) : Int := if 1488 ≤ r ∧ r ≤ 1514 then 2 else if (65 ≤ r ∧ r ≤ 90) ∨ (97 ≤ r ∧ r ≤ 122) ∨ 192 ≤ r then 1 else if 48 ≤ r ∧ r ≤ 57 then 3 else if r = 32 then 4 else 5
set_option maxHeartbeats 4000000 in
theorem Class_at {k : Nat} (r : Int) (hk : 5 ≤ k) : bidi_Class.f k r = some (cls r) := by
  obtain ⟨m, rfl⟩ : ∃ m, k = m + 1 + 1 + 1 + 1 + 1 := ⟨k - 5, by omega⟩
  unfold bidi_Class.f
  simp only [bidi_Class.j0, bidi_Class.j1, bidi_Class.j2, bidi_Class.j3, decide_eq_true_eq, Bool.false_eq_true, if_false, if_true]
  unfold cls
  repeat' split
  all_goals first | rfl | (exfalso; omega)
set_option maxHeartbeats 4000000 in
theorem RClass_at {k : Nat} (r : Int) (hk : 5 ≤ k) : pentaglotref43_Class.f k r = some (cls r) := by
  obtain ⟨m, rfl⟩ : ∃ m, k = m + 1 + 1 + 1 + 1 + 1 := ⟨k - 5, by omega⟩
  unfold pentaglotref43_Class.f
  simp only [pentaglotref43_Class.j0, pentaglotref43_Class.j1, pentaglotref43_Class.j2, decide_eq_true_eq, Bool.false_eq_true, if_false, if_true]
  unfold cls
  repeat' split
  all_goals first | rfl | (exfalso; omega)
/-- The base direction: that of the first strong rune. -/
def baseL : List Int → Int
  | [] => 0
  | x :: xs => if cls x = 2 then 1 else if cls x = 1 then 0 else baseL xs
theorem base_loop {k : Nat} (hk : 5 ≤ k) : ∀ xs : List Int, bidi_Base.l0 k xs = some (baseL xs)
  | [] => rfl
  | x :: xs => by
    simp only [bidi_Base.l0, baseL, Class_at x hk, Option.bind_some, base_loop hk xs]
    repeat' split
    all_goals rfl
theorem Base_at {k : Nat} (s : ByteArray) (hs : s.size ≤ 1000000) (hk : 5 ≤ k) : bidi_Base.f k s = some (if validD s.data.toList = true then baseL (rns s) else 0) := by
  unfold bidi_Base.f utf8_ValidString.f
  rw [if_pos hs, if_pos (by omega)]
  simp only [Option.bind_some]
  split
  · rw [base_loop hk]
  · rfl
theorem rbase_loop (xs : List Int) (hl : xs.length ≤ 1000000) : ∀ (d n k : Nat), xs.length - n = d → n ≤ xs.length → d + 6 < k → pentaglotref43_Base.l0 k xs (n : Int) = some (baseL (xs.drop n))
  | 0, n, k, hd, hn, hk => by
    obtain ⟨k, rfl⟩ : ∃ m, k = m + 1 := ⟨k - 1, by omega⟩
    simp only [pentaglotref43_Base.l0]
    rw [if_neg (by omega), List.drop_eq_nil_of_le (by omega)]
    rfl
  | d + 1, n, k, hd, hn, hk => by
    obtain ⟨k, rfl⟩ : ∃ m, k = m + 1 := ⟨k - 1, by omega⟩
    have hlt : n < xs.length := by omega
    simp only [pentaglotref43_Base.l0]
    rw [if_pos (by omega), if_pos (by omega), RClass_at _ (by omega), rd_get hlt, List.drop_eq_getElem_cons hlt]
    simp only [Option.bind_some, baseL]
    rw [wrap_id (by omega) (by omega), show (n : Int) + 1 = ((n + 1 : Nat) : Int) by omega, rbase_loop xs hl d (n + 1) k (by omega) (by omega) (by omega)]
    by_cases c1 : cls xs[n] = 1
    · rw [if_pos c1, if_neg (by omega), if_pos c1]
    · rw [if_neg c1]
      by_cases c2 : cls xs[n] = 2
      · rw [if_pos c2, if_pos c2]
      · rw [if_neg c2, if_neg c2, if_neg c1]
theorem RBase_at {k : Nat} (xs : List Int) (hl : xs.length ≤ 1000000) (hk : xs.length + 6 < k) : pentaglotref43_Base.f k xs = some (baseL xs) := by
  have := rbase_loop xs hl xs.length 0 k (by omega) (by omega) (by omega)
  unfold pentaglotref43_Base.f
  rw [show ((0 : Nat) : Int) = 0 by rfl] at this
  rw [this, List.drop_zero]
theorem awake100 : pentaglotlaw43_awake.f 100 = some true := by decide +kernel
theorem awake_at {k : Nat} (hk : 100 ≤ k) : pentaglotlaw43_awake.f k = some true := at_rounds pentaglotlaw43_awake.mono hk awake100
theorem valid_at (s : ByteArray) (hs : s.size ≤ 1000000) : utf8_ValidString.f s = some (validD s.data.toList) := by unfold utf8_ValidString.f; rw [if_pos (by omega)]
theorem rns_len' (s : ByteArray) : (rns s).length ≤ s.size := rns_len s
theorem short_at (s : ByteArray) : pentaglotlaw43_short.f s = some (decide ((s.size : Int) ≤ 400)) := rfl

theorem BidiClasses (a0 : Int) (s : ByteArray) : ∃ k, pentaglotlaw43_BidiClasses.f k a0 s = some true := by
  obtain ⟨K, hK⟩ : ∃ K : Nat, K = 3000 := ⟨_, rfl⟩
  refine ⟨K + 1, ?_⟩
  unfold pentaglotlaw43_BidiClasses.f
  rw [short_at]
  simp only [Option.bind_some]
  by_cases h : (s.size : Int) ≤ 400
  · have hr := rns_len' s
    rw [decide_eq_true h, if_pos rfl, Class_at _ (by omega), RClass_at _ (by omega)]
    simp only [Option.bind_some, bne_self_eq_false, pentaglotlaw43_BidiClasses.j0, Bool.false_eq_true, if_false]
    rw [valid_at s (by omega), awake_at (by omega), Base_at s (by omega) (by omega), if_pos (by omega : s.size ≤ 70368744177664), RBase_at _ (by omega) (by omega)]
    simp only [Option.bind_some, if_true]
    by_cases v : validD s.data.toList = true
    · rw [if_pos v, if_pos v]; simp
    · rw [if_neg v, if_neg v]; simp
  · rw [decide_eq_false h]
    simp only [Bool.false_eq_true, if_false, pentaglotlaw43_BidiClasses.j0, if_true]
    rw [short_at, decide_eq_false h, awake_at (by omega)]
    rfl
theorem baseL_neutral : ∀ (xs ys : List Int), (∀ x ∈ xs, 2 < cls x) → baseL (xs ++ ys) = baseL ys
  | [], ys, _ => rfl
  | x :: xs, ys, h => by
    have h1 := h x (by simp)
    simp only [List.cons_append, baseL]
    rw [if_neg (by omega), if_neg (by omega), baseL_neutral xs ys (fun y hy => h y (by simp [hy]))]
theorem baseL_cons1 {x : Int} (ys : List Int) (h : cls x = 1) : baseL (x :: ys) = 0 := by
  simp only [baseL]; rw [if_neg (by omega), if_pos h]
theorem baseL_cons2 {x : Int} (ys : List Int) (h : cls x = 2) : baseL (x :: ys) = 1 := by
  simp only [baseL]; rw [if_pos h]
theorem ValidRune_at {k : Nat} (r : Int) (hk : 1 ≤ k) : utf8_ValidRune.f k r = some (validRune r) := by
  obtain ⟨m, rfl⟩ : ∃ m, k = m + 1 := ⟨k - 1, by omega⟩
  unfold utf8_ValidRune.f validRune
  simp only [utf8_ValidRune.j0, decide_eq_true_eq, Bool.false_eq_true, if_false]
  repeat' split
  all_goals first | (congr 1; symm; rw [decide_eq_true_eq]; omega) | (congr 1; symm; rw [decide_eq_false_iff_not]; omega)
theorem size_data (s : ByteArray) : s.data.toList.length = s.size := Array.length_toList
theorem rns_append {a : ByteArray} (b : ByteArray) (h : validD a.data.toList = true) : rns (a ++ b) = rns a ++ rns b := by
  rw [rns_R, str_append, R_append h, rns_R, rns_R]
theorem rns_encode {r : Int} (h : validRune r = true) : rns (Utf8.encode r) = [r] := by
  rw [rns_R, encode_enc, ← List.append_nil (encodeRune r), R_enc r h, R_nil]
theorem valid_encode {r : Int} (h : validRune r = true) : validD (Utf8.encode r).data.toList = true := by
  rw [encode_enc, ← List.append_nil (encodeRune r), valid_enc r h]; rfl
theorem valid_cat {a : ByteArray} (b : ByteArray) (h : validD a.data.toList = true) : validD (a ++ b).data.toList = validD b.data.toList := by
  rw [str_append, valid_append h]
theorem size_encode (r : Int) : (Utf8.encode r).size ≤ 4 := by
  rw [← size_data, encode_enc]; unfold encodeRune encodeRuneZ; repeat' split
  all_goals simp
theorem base_end (a0 a1 : ByteArray) (a2 : Int) (h0 : a0.size ≤ 400) (h1 : a1.size ≤ 400) (v0 : validD a0.data.toList = true) (v1 : validD a1.data.toList = true) (v2 : validRune a2 = true)
    (hn : ∀ x ∈ rns a1, 2 < cls x) (k : Nat) (hk : 200 ≤ k) : ∀ d n, (rns a1).length - n = d → n ≤ (rns a1).length → ∀ j, d + k < j → pentaglotlaw43_BidiBase.l0 j a0 a1 a2 (rns a1) (n : Int) = some true
  | 0, n, hd, hl, j, hj => by
    obtain ⟨j, rfl⟩ : ∃ m, j = m + 1 := ⟨j - 1, by omega⟩
    have hs := size_encode a2
    have s1 : ((a1 ++ Utf8.encode a2) ++ a0).size = a1.size + (Utf8.encode a2).size + a0.size := by simp [ByteArray.size_append]
    have s2 : (a1 ++ a0).size = a1.size + a0.size := by simp [ByteArray.size_append]
    have s3 : (a1 ++ Utf8.encode a2).size = a1.size + (Utf8.encode a2).size := by simp [ByteArray.size_append]
    have w1 : validD ((a1 ++ Utf8.encode a2) ++ a0).data.toList = true := by rw [valid_cat, v0]; rw [valid_cat _ v1, valid_encode v2]
    have w2 : validD (a1 ++ a0).data.toList = true := by rw [valid_cat _ v1, v0]
    have e1 : baseL (rns ((a1 ++ Utf8.encode a2) ++ a0)) = baseL (a2 :: rns a0) := by
      rw [rns_append _ (by rw [valid_cat _ v1, valid_encode v2]), rns_append _ v1, rns_encode v2, List.append_assoc, baseL_neutral _ _ hn]; rfl
    have e2 : baseL (rns (a1 ++ a0)) = baseL (rns a0) := by rw [rns_append _ v1, baseL_neutral _ _ hn]
    simp only [pentaglotlaw43_BidiBase.l0]
    rw [if_neg (by omega), Class_at _ (by omega), Base_at _ (by omega) (by omega), Base_at _ (by omega) (by omega), Base_at _ (by omega) (by omega), awake_at (by omega), w1, w2, v0, e1, e2]
    simp only [Option.bind_some, if_true]
    have p1 : a1.size + (Utf8.encode a2).size ≤ 9223372036854775807 := by omega
    have p2 : (a1 ++ Utf8.encode a2).size + a0.size ≤ 9223372036854775807 := by omega
    have p3 : a1.size + a0.size ≤ 9223372036854775807 := by omega
    simp only [p1, p2, p3, if_true]
    by_cases c1 : cls a2 = 1
    · rw [if_pos c1, baseL_cons1 _ c1, c1, if_pos (by rw [wrap_id (by omega) (by omega)]; rfl)]; simp
    · rw [if_neg c1]
      by_cases c2 : cls a2 = 2
      · rw [if_pos c2, baseL_cons2 _ c2, c2, if_pos (by rw [wrap_id (by omega) (by omega)]; rfl)]; simp
      · rw [if_neg c2]; simp
  | d + 1, n, hd, hl, j, hj => by
    obtain ⟨j, rfl⟩ : ∃ m, j = m + 1 := ⟨j - 1, by omega⟩
    have hlt : n < (rns a1).length := by omega
    have hr := rns_len' a1
    have hc := hn _ (List.getElem_mem hlt)
    simp only [pentaglotlaw43_BidiBase.l0]
    rw [if_pos (by omega), if_pos (by omega), Class_at _ (by omega), rd_get hlt]
    simp only [Option.bind_some]
    rw [if_neg (by omega), wrap_id (by omega) (by omega), show (n : Int) + 1 = ((n + 1 : Nat) : Int) by omega, base_end a0 a1 a2 h0 h1 v0 v1 v2 hn k hk d (n + 1) (by omega) (by omega) j (by omega)]
theorem base_stop (a0 a1 : ByteArray) (a2 : Int) (h1 : a1.size ≤ 400) (hn : ¬ ∀ x ∈ rns a1, 2 < cls x) (k : Nat) (hk : 200 ≤ k) :
    ∀ d n, (rns a1).length - n = d → n ≤ (rns a1).length → (∀ i (h : i < (rns a1).length), i < n → 2 < cls (rns a1)[i]) → ∀ j, d + k < j → pentaglotlaw43_BidiBase.l0 j a0 a1 a2 (rns a1) (n : Int) = some true
  | 0, n, hd, hl, ha, j, hj => by
    exfalso
    apply hn
    intro x hx
    obtain ⟨i, hi, rfl⟩ := List.getElem_of_mem hx
    exact ha i hi (by omega)
  | d + 1, n, hd, hl, ha, j, hj => by
    obtain ⟨j, rfl⟩ : ∃ m, j = m + 1 := ⟨j - 1, by omega⟩
    have hlt : n < (rns a1).length := by omega
    have hr := rns_len' a1
    simp only [pentaglotlaw43_BidiBase.l0]
    rw [if_pos (by omega), if_pos (by omega), Class_at _ (by omega), rd_get hlt]
    simp only [Option.bind_some]
    by_cases c : cls (rns a1)[n] ≤ 2
    · rw [if_pos c, awake_at (by omega)]; rfl
    · rw [if_neg c, wrap_id (by omega) (by omega), show (n : Int) + 1 = ((n + 1 : Nat) : Int) by omega, base_stop a0 a1 a2 h1 hn k hk d (n + 1) (by omega) (by omega) (fun i hi hin => by
        by_cases e : i = n
        · subst e; omega
        · exact ha i hi (by omega)) j (by omega)]
theorem BidiBase (a0 a1 : ByteArray) (a2 : Int) : ∃ k, pentaglotlaw43_BidiBase.f k a0 a1 a2 = some true := by
  obtain ⟨K, hK⟩ : ∃ K : Nat, K = 3000 := ⟨_, rfl⟩
  refine ⟨K + 1, ?_⟩
  have out : pentaglotlaw43_BidiBase.j0 (K + 1) a0 a1 a2 true = some true := by
    simp only [pentaglotlaw43_BidiBase.j0, if_true]
    rw [awake_at (by omega)]; rfl
  unfold pentaglotlaw43_BidiBase.f
  rw [short_at, short_at]
  simp only [Option.bind_some]
  by_cases h0 : (a0.size : Int) ≤ 400
  · rw [decide_eq_true h0, if_pos rfl]
    by_cases h1 : (a1.size : Int) ≤ 400
    · rw [decide_eq_true h1, if_pos rfl, valid_at a0 (by omega), valid_at a1 (by omega), ValidRune_at _ (by omega)]
      simp only [Option.bind_some]
      by_cases v0 : validD a0.data.toList = true
      · rw [if_pos v0]
        by_cases v1 : validD a1.data.toList = true
        · rw [if_pos v1]
          by_cases v2 : validRune a2 = true
          · rw [v2]
            simp only [Bool.not_true, pentaglotlaw43_BidiBase.j0, Bool.false_eq_true, if_false]
            have hr := rns_len' a1
            rw [if_pos (by omega)]
            by_cases hn : ∀ x ∈ rns a1, 2 < cls x
            · exact base_end a0 a1 a2 (by omega) (by omega) v0 v1 v2 hn 200 (by omega) _ 0 rfl (by omega) K (by omega)
            · exact base_stop a0 a1 a2 (by omega) hn 200 (by omega) _ 0 rfl (by omega) (fun i _ hi => absurd hi (Nat.not_lt_zero _)) K (by omega)
          · rw [Bool.eq_false_iff.mpr v2]; exact out
        · rw [if_neg v1]; exact out
      · rw [if_neg v0]; exact out
    · rw [decide_eq_false h1, if_neg (by decide)]; exact out
  · rw [decide_eq_false h0, if_neg (by decide)]; exact out
end Go.Proofs.YtfecolaljnijbaaDoor.Pure
