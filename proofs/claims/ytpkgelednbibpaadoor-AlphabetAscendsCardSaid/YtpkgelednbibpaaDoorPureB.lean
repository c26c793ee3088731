/- What the alphabet's functions compute, in plain lists: valid UTF-8, words, the comparison and its order. No program and no memory stands here. -/
import Derived.Test.YtpkgelednbibpaaDoorPureA
set_option linter.unusedVariables false
set_option linter.unusedSimpArgs false
namespace Go.Proofs.YtpkgelednbibpaaDoor.Pure
open Go.RowKit Go.Lib Go.Proofs.YtpkgelednbibpaaDoor.C Go.Proofs.YtpkgelednbibpaaDoorW.PrintWords Go.Proofs.YtpkgelednbibpaaDoor.Utf

theorem awake100 : pentaglotlaw01_awake.f 100 = some true := by decide +kernel
theorem awake_at {k : Nat} (hk : 100 ≤ k) : pentaglotlaw01_awake.f k = some true := at_rounds pentaglotlaw01_awake.mono hk awake100

/-! ### valid UTF-8 -/
theorem ex_take (s : ByteArray) (pos : Nat) : (s.extract pos (pos + 3)).data.toList = (s.data.toList.drop pos).take 3 := by
  rw [extract_data, Nat.add_sub_cancel_left]
theorem toList_data (s : ByteArray) : s.toList = s.data.toList := Go.ByteArray.toList_eq s
theorem fffd : encodeRune 65533 = [239, 191, 189] := by decide
theorem utf8_loop (s : ByteArray) : ∀ (d pos k : Nat), s.size - pos ≤ d → pos ≤ s.size → d < k → pentaglotref01_UTF8.l0 k s pos = some (validD (s.data.toList.drop pos))
  | d, pos, k, hd, hp, hk => by
    obtain ⟨k, rfl⟩ : ∃ m, k = m + 1 := ⟨k - 1, by omega⟩
    simp only [pentaglotref01_UTF8.l0]
    by_cases c : pos < s.size
    · obtain ⟨d, rfl⟩ : ∃ m, d = m + 1 := ⟨d - 1, by omega⟩
      rw [if_pos c, decode_drop]
      generalize hl : s.data.toList.drop pos = l
      have hlen : l.length = s.size - pos := by rw [← hl, List.length_drop, size_eq]
      have hne : l ≠ [] := by intro e; rw [e] at hlen; simp at hlen; omega
      have hw := decodeL_width l
      have hw2 := decodeL_le l hne
      have ih : pentaglotref01_UTF8.l0 k s (pos + (decodeL l).2) = some (validD (l.drop (decodeL l).2)) := by
        rw [utf8_loop s d (pos + (decodeL l).2) k (by omega) (by omega) (by omega), ← hl, List.drop_drop]
      rw [vstep l hne]
      by_cases e : ((decodeL l).1 : Int) = 65533
      · rw [if_pos e]
        have e2 : (decodeL l).1 = 65533 := by omega
        by_cases hb : bad l
        · rw [if_pos hb]
          have hn : ¬ (l.take 3 = [239, 191, 189]) := by
            intro h3
            have h4 : l = encodeRune 65533 ++ l.drop 3 := by rw [fffd, ← h3, List.take_append_drop]
            exact not_bad 65533 (by decide) (l.drop 3) (h4 ▸ hb)
          by_cases c2 : (s.size : Int) < (pos : Int) + 3
          · rw [if_pos c2]
          · rw [if_neg c2, if_neg]
            rw [toList_data, ex_take, hl]
            exact hn
        · rw [if_neg hb]
          have h5 := encode_decode l hne hb
          rw [e, fffd] at h5
          have h6 := congrArg List.length h5
          rw [List.length_take] at h6
          simp at h6
          have h7 : (decodeL l).2 = 3 := by omega
          rw [if_neg (by omega), if_pos, ih]
          rw [toList_data, ex_take, hl, ← h7, ← h5]
      · rw [if_neg e, if_neg (fun h => e (by rw [h.1]; rfl)), ih]
    · rw [if_neg c, List.drop_eq_nil_of_le (by rw [← size_eq]; omega)]
      rfl
theorem UTF8_at {k : Nat} (s : ByteArray) (hs : s.size ≤ 1000000) (hk : 1000000 < k) : pentaglotref01_UTF8.f k s = some (validD s.data.toList) := by
  unfold pentaglotref01_UTF8.f
  rw [if_pos (by omega), utf8_loop s s.size 0 k (by omega) (by omega) (by omega)]
  rfl

/-! ### words -/
theorem isLetter_fi (l : List S42) (r : Int) : isLetter l r = (fi l r).isSome := rfl
theorem over_loop {k : Nat} (l : List S42) (hl : (l.length : Int) ≤ 1000) (hk : 1001 < k) : ∀ xs, refOver.l0 k l xs = some (xs.all (isLetter l))
  | [] => rfl
  | x :: xs => by
    simp only [refOver.l0]
    rw [Index_at l x hl hk]
    simp only [Option.bind_some]
    rw [List.all_cons, isLetter_fi]
    cases h : fi l x with
    | none => simp
    | some i =>
      have := fi_range h
      simp only [Option.getD_some, Option.isSome_some, Bool.true_and]
      rw [if_neg (by omega), over_loop l hl hk xs]
theorem Over_at {k : Nat} (l : List S42) (s : ByteArray) (hl : (l.length : Int) ≤ 1000) (hs : s.size ≤ 1000000) (hk : 1000000 < k) : pentaglotref01_Over.f k l s = some (validD s.data.toList && (rns s).all (isLetter l)) := by
  unfold pentaglotref01_Over.f
  rw [if_pos hs, UTF8_at s hs hk]
  simp only [Option.bind_some]
  by_cases h : validD s.data.toList = true
  · rw [if_pos h, over_loop l hl (by omega), h]; rfl
  · rw [if_neg h, Bool.eq_false_iff.mpr h]; rfl
/-- A word. -/
def wB (l : List S42) (s : ByteArray) : Bool := validD s.data.toList && ((rns s).all (isLetter l) && decide (((rns s).length : Int) ≤ 40))
theorem RIsWord_at {k : Nat} (l : List S42) (s : ByteArray) (hl : (l.length : Int) ≤ 1000) (hs : s.size ≤ 1000000) (hk : 1000000 < k) : pentaglotref01_IsWord.f k l s = some (wB l s) := by
  unfold pentaglotref01_IsWord.f wB
  rw [Over_at l s hl hs hk]
  simp only [Option.bind_some]
  rw [← Bool.and_assoc]
  by_cases h : (validD s.data.toList && (rns s).all (isLetter l)) = true
  · rw [if_pos h, if_pos (by omega), h]; rfl
  · rw [if_neg h, Bool.eq_false_iff.mpr h]; rfl
theorem okS_mk {l : List S42} {s : ByteArray} (ho : okA l = true) (hs : s.size ≤ 1000000) : okS l s = true := by simp [okS, ho, hs]
theorem AIsWord_at {l : List S42} {s : ByteArray} (ho : okA l = true) (hs : s.size ≤ 1000000) : alphabet_IsWord.f l s = some (wB l s) := by
  unfold alphabet_IsWord.f
  rw [if_pos (okS_mk ho hs)]; rfl

/-! ### the comparison -/
def cmpL : List Int → List Int → Int
  | [], [] => 0
  | [], _ :: _ => -1
  | _ :: _, [] => 1
  | x :: xs, y :: ys => if x < y then -1 else if y < x then 1 else cmpL xs ys
theorem cmpL_nil (ys : List Int) : cmpL [] ys = if 0 < ys.length then -1 else 0 := by cases ys <;> simp [cmpL]
theorem cmpInt_at (x y : Int) : cmp_Compare_int.f x y = some (if x < y then -1 else if x > y then 1 else 0) := by
  unfold cmp_Compare_int.f cmp_isNaN_int.f
  simp only [Option.bind_some, bne_self_eq_false, Bool.false_eq_true, if_false]
  split
  · rfl
  · split <;> rfl
theorem slices_loop (xs ys : List Int) (hx : (xs.length : Int) ≤ 9223372036854775806) : ∀ (d n k : Nat), xs.length - n = d → n ≤ xs.length → n ≤ ys.length → d < k →
    slices_Compare_int_int.l0 k xs ys xs (xs.length : Int) (n : Int) = some (cmpL (xs.drop n) (ys.drop n))
  | 0, n, k, hd, hn, hm, hk => by
    obtain ⟨k, rfl⟩ : ∃ m, k = m + 1 := ⟨k - 1, by omega⟩
    obtain rfl : n = xs.length := by omega
    simp only [slices_Compare_int_int.l0]
    rw [if_neg (by omega), List.drop_length, cmpL_nil, List.length_drop]
    by_cases h : (xs.length : Int) < (ys.length : Int)
    · rw [if_pos h, if_pos (by omega)]
    · rw [if_neg h, if_neg (by omega)]
  | d + 1, n, k, hd, hn, hm, hk => by
    obtain ⟨k, rfl⟩ : ∃ m, k = m + 1 := ⟨k - 1, by omega⟩
    have hlt : n < xs.length := by omega
    simp only [slices_Compare_int_int.l0]
    rw [if_pos (by omega), if_pos (by omega), if_pos (by omega), List.drop_eq_getElem_cons hlt]
    by_cases h : (n : Int) ≥ (ys.length : Int)
    · rw [if_pos h, List.drop_eq_nil_of_le (show ys.length ≤ n by omega)]; rfl
    · have hlt2 : n < ys.length := by omega
      have r1 : rd xs (n : Int) = xs[n] := by simp [rd, List.getD, List.getElem?_eq_getElem hlt]
      have r2 : rd ys (n : Int) = ys[n] := by simp [rd, List.getD, List.getElem?_eq_getElem hlt2]
      rw [if_neg h, if_pos (by omega), List.drop_eq_getElem_cons hlt2, r1, r2, cmpInt_at]
      simp only [Option.bind_some, cmpL]
      by_cases c1 : xs[n] < ys[n]
      · rw [if_pos c1, if_pos c1, if_neg (by decide)]
      · rw [if_neg c1, if_neg c1]
        by_cases c2 : xs[n] > ys[n]
        · rw [if_pos c2, if_pos c2, if_neg (by decide)]
        · rw [if_neg c2, if_neg c2, if_pos rfl, wrap_id (by omega) (by omega), show (n : Int) + 1 = ((n + 1 : Nat) : Int) by omega, slices_loop xs ys hx d (n + 1) k (by omega) (by omega) (by omega) (by omega)]
theorem weights_len (l : List S42) (s : ByteArray) : (weights l s).length ≤ s.size := by
  unfold weights
  rw [List.length_map]
  exact rns_len s
/-- The comparison of two strings. -/
def cmpS (l : List S42) (s t : ByteArray) : Int := cmpL (weights l s) (weights l t)
theorem ACompare_at {k : Nat} {l : List S42} {s t : ByteArray} (ho : okA l = true) (hs : s.size ≤ 1000000) (ht : t.size ≤ 1000000) (hk : 1000000 < k) : alphabet_Compare.f k l s t = some (cmpS l s t) := by
  unfold alphabet_Compare.f
  have := weights_len l s
  rw [if_pos (okS_mk ho hs), if_pos (okS_mk ho ht)]
  unfold slices_Compare_int_int.f
  have h := slices_loop (weights l s) (weights l t) (by omega) (weights l s).length 0 k (by omega) (by omega) (by omega) (by omega)
  rw [show ((0 : Nat) : Int) = 0 by rfl] at h
  rw [h]; rfl
theorem weight_fi (l : List S42) (r : Int) : weight l r = (fi l r).getD ((l.length : Int) + r) := rfl
theorem weight_inj {l : List S42} {r s : Int} (hr : 0 ≤ r) (hs : 0 ≤ s) (h : weight l r = weight l s) : r = s := by
  rw [weight_fi, weight_fi] at h
  cases h1 : fi l r with
  | none =>
    cases h2 : fi l s with
    | none => rw [h1, h2] at h; simp only [Option.getD_none] at h; omega
    | some j => rw [h1, h2] at h; have := fi_range h2; simp only [Option.getD_none, Option.getD_some] at h; omega
  | some i =>
    cases h2 : fi l s with
    | none => rw [h1, h2] at h; have := fi_range h1; simp only [Option.getD_none, Option.getD_some] at h; omega
    | some j =>
      rw [h1, h2] at h
      simp only [Option.getD_some] at h
      subst h
      exact fi_inj h1 h2
theorem before_at {k : Nat} (l : List S42) (x y : Int) (hl : (l.length : Int) ≤ 1000) (hx : 0 ≤ x) (hy : 0 ≤ y) (hk : 1001 < k) : pentaglotref01_before.f k l x y = some (decide (weight l x < weight l y)) := by
  obtain ⟨k, rfl⟩ : ∃ m, k = m + 1 := ⟨k - 1, by omega⟩
  unfold pentaglotref01_before.f
  rw [Index_at l x hl hk, Index_at l y hl hk]
  simp only [Option.bind_some, weight_fi, pentaglotref01_before.j0]
  have e1 : fi l x = none ∨ ∃ i, fi l x = some i := by cases fi l x <;> simp
  have e2 : fi l y = none ∨ ∃ i, fi l y = some i := by cases fi l y <;> simp
  rcases e1 with h1 | ⟨i, h1⟩
  · rcases e2 with h2 | ⟨j, h2⟩
    · simp only [h1, h2, Option.getD_none]
      rw [if_neg (by omega), if_neg (by decide), if_neg (by omega), if_neg (by omega)]
      congr 1
      rw [decide_eq_decide]
      omega
    · have := fi_range h2
      simp only [h1, h2, Option.getD_none, Option.getD_some]
      rw [if_neg (by omega), if_neg (by decide), if_neg (by omega), if_pos (by omega)]
      congr 1
      rw [decide_eq_decide]
      omega
  · have := fi_range h1
    rcases e2 with h2 | ⟨j, h2⟩
    · simp only [h1, h2, Option.getD_none, Option.getD_some]
      rw [if_pos (by omega), if_neg (by simp), if_pos (by omega)]
      congr 1
      rw [decide_eq_decide]
      omega
    · have := fi_range h2
      simp only [h1, h2, Option.getD_some]
      rw [if_pos (by omega), if_pos (by simp; omega)]
theorem rcompare_loop (l : List S42) (xs ys : List Int) (hl : (l.length : Int) ≤ 1000) (hx : (xs.length : Int) ≤ 1000000) (px : ∀ r ∈ xs, 0 ≤ r) (py : ∀ r ∈ ys, 0 ≤ r) : ∀ (d n k : Nat), xs.length - n ≤ d → n ≤ xs.length → n ≤ ys.length → 2 * d + 1010 < k →
    pentaglotref01_Compare.l0 k l xs ys (n : Int) = some (cmpL ((xs.drop n).map (weight l)) ((ys.drop n).map (weight l))) := by
  intro d
  induction d with
  | zero =>
    intro n k hd hn hm hk
    obtain ⟨k, rfl⟩ : ∃ m, k = m + 2 := ⟨k - 2, by omega⟩
    obtain rfl : n = xs.length := by omega
    simp only [pentaglotref01_Compare.l0]
    rw [if_neg (by omega)]
    simp only [pentaglotref01_Compare.j1, Bool.false_eq_true, if_false]
    rw [List.drop_length, List.map_nil, cmpL_nil, List.length_map, List.length_drop]
    by_cases h : (xs.length : Int) < (ys.length : Int)
    · rw [if_pos h, if_pos (by omega)]
    · rw [if_neg h, if_neg (by omega), if_neg (by omega)]
  | succ d ih =>
    intro n k hd hn hm hk
    obtain ⟨k, rfl⟩ : ∃ m, k = m + 2 := ⟨k - 2, by omega⟩
    simp only [pentaglotref01_Compare.l0]
    by_cases h1 : n < xs.length
    · by_cases h2 : n < ys.length
      · have r1 : rd xs (n : Int) = xs[n] := by simp [rd, List.getD, List.getElem?_eq_getElem h1]
        have r2 : rd ys (n : Int) = ys[n] := by simp [rd, List.getD, List.getElem?_eq_getElem h2]
        have p1 := px _ (List.getElem_mem h1)
        have p2 := py _ (List.getElem_mem h2)
        rw [if_pos (by omega), List.drop_eq_getElem_cons h1, List.drop_eq_getElem_cons h2, List.map_cons, List.map_cons, decide_eq_true (show (n : Int) < (ys.length : Int) by omega)]
        simp only [pentaglotref01_Compare.j1, if_true]
        rw [if_pos (by omega), if_pos (by omega), if_pos (by omega), r1, r2]
        by_cases e : xs[n] = ys[n]
        · rw [if_pos e, e, wrap_id (by omega) (by omega), show (n : Int) + 1 = ((n + 1 : Nat) : Int) by omega, ih (n + 1) k (by omega) (by omega) (by omega) (by omega)]
          simp [cmpL]
        · rw [if_neg e, before_at l _ _ hl p1 p2 (by omega)]
          simp only [Option.bind_some, cmpL]
          by_cases c : weight l xs[n] < weight l ys[n]
          · rw [if_pos (decide_eq_true c), if_pos c]
          · have : weight l xs[n] ≠ weight l ys[n] := fun x => e (weight_inj p1 p2 x)
            rw [if_neg (by simpa using c), if_neg c, if_pos (by omega)]
      · obtain rfl : n = ys.length := by omega
        rw [if_pos (by omega), decide_eq_false (by omega)]
        simp only [pentaglotref01_Compare.j1, Bool.false_eq_true, if_false]
        rw [if_neg (by omega), if_pos (by omega), List.drop_length, List.drop_eq_getElem_cons h1]
        rfl
    · obtain rfl : n = xs.length := by omega
      rw [if_neg (by omega)]
      simp only [pentaglotref01_Compare.j1, Bool.false_eq_true, if_false]
      rw [List.drop_length, List.map_nil, cmpL_nil, List.length_map, List.length_drop]
      by_cases h : (xs.length : Int) < (ys.length : Int)
      · rw [if_pos h, if_pos (by omega)]
      · rw [if_neg h, if_neg (by omega), if_neg (by omega)]
theorem valid_nonneg {r : Int} (h : validRune r = true) : 0 ≤ r := by
  have : (0 ≤ r ∧ r < 0xD800) ∨ (0xDFFF < r ∧ r ≤ 0x10FFFF) := by simpa [validRune] using h
  omega
theorem rns_valid (s : ByteArray) : ∀ r ∈ rns s, validRune r = true := by
  rw [rns_R]; exact R_valid _
theorem rns_nonneg (s : ByteArray) : ∀ r ∈ rns s, 0 ≤ r := fun r h => valid_nonneg (rns_valid s r h)
theorem RCompare_at {k : Nat} (l : List S42) (s t : ByteArray) (hl : (l.length : Int) ≤ 1000) (hs : s.size ≤ 1000000) (ht : t.size ≤ 1000000) (hk : 2001010 < k) : pentaglotref01_Compare.f k l s t = some (cmpS l s t) := by
  unfold pentaglotref01_Compare.f
  have := rns_len s
  have h := rcompare_loop l (rns s) (rns t) hl (by omega) (rns_nonneg s) (rns_nonneg t) (rns s).length 0 k (by omega) (by omega) (by omega) (by omega)
  rw [show ((0 : Nat) : Int) = 0 by rfl] at h
  rw [if_pos (by omega), if_pos (by omega), h]
  rfl
theorem cmpL_range : ∀ xs ys, cmpL xs ys = -1 ∨ cmpL xs ys = 0 ∨ cmpL xs ys = 1
  | [], [] => by simp [cmpL]
  | [], _ :: _ => by simp [cmpL]
  | _ :: _, [] => by simp [cmpL]
  | x :: xs, y :: ys => by
    have := cmpL_range xs ys
    unfold cmpL
    split
    · simp
    · split
      · simp
      · exact this
theorem cmpL_anti : ∀ xs ys, cmpL ys xs = -cmpL xs ys
  | [], [] => by simp [cmpL]
  | [], _ :: _ => by simp [cmpL]
  | _ :: _, [] => by simp [cmpL]
  | x :: xs, y :: ys => by
    have := cmpL_anti xs ys
    unfold cmpL
    by_cases a : x < y
    · have b : ¬ y < x := by omega
      simp [a, b]
    · by_cases b : y < x
      · simp [a, b]
      · simp [a, b, this]
theorem cmpL_zero : ∀ xs ys, cmpL xs ys = 0 ↔ xs = ys
  | [], [] => by simp [cmpL]
  | [], _ :: _ => by simp [cmpL]
  | _ :: _, [] => by simp [cmpL]
  | x :: xs, y :: ys => by
    have := cmpL_zero xs ys
    unfold cmpL
    by_cases a : x < y
    · rw [if_pos a]; simp; omega
    · rw [if_neg a]
      by_cases b : y < x
      · rw [if_pos b]; simp; omega
      · rw [if_neg b, this]
        obtain rfl : x = y := by omega
        simp
theorem cmpL_trans : ∀ xs ys zs, cmpL xs ys ≤ 0 → cmpL ys zs ≤ 0 → cmpL xs zs ≤ 0
  | [], _, [], _, _ => by simp [cmpL]
  | [], _, _ :: _, _, _ => by simp [cmpL]
  | _ :: _, [], _, h, _ => by simp [cmpL] at h
  | _ :: _, _ :: _, [], _, h => by simp [cmpL] at h
  | x :: xs, y :: ys, z :: zs, h1, h2 => by
    have ih := cmpL_trans xs ys zs
    unfold cmpL at h1 h2 ⊢
    by_cases a : x < y
    · by_cases b : y < z
      · rw [if_pos (by omega)]; decide
      · rw [if_neg b] at h2
        by_cases c : z < y
        · rw [if_pos c] at h2; cases (show ¬ ((1 : Int) ≤ 0) by decide) h2
        · rw [if_pos (by omega)]; decide
    · rw [if_neg a] at h1
      by_cases a2 : y < x
      · rw [if_pos a2] at h1; cases (show ¬ ((1 : Int) ≤ 0) by decide) h1
      · rw [if_neg a2] at h1
        by_cases b : y < z
        · rw [if_pos (by omega)]; decide
        · rw [if_neg b] at h2
          by_cases c : z < y
          · rw [if_pos c] at h2; cases (show ¬ ((1 : Int) ≤ 0) by decide) h2
          · rw [if_neg c] at h2
            rw [if_neg (by omega), if_neg (by omega)]
            exact ih h1 h2
theorem weights_inj {l : List S42} {s t : ByteArray} (h : weights l s = weights l t) : rns s = rns t := by
  unfold weights at h
  have : ∀ (xs ys : List Int), (∀ r ∈ xs, 0 ≤ r) → (∀ r ∈ ys, 0 ≤ r) → xs.map (weight l) = ys.map (weight l) → xs = ys := by
    intro xs
    induction xs with
    | nil => intro ys _ _ e; cases ys with | nil => rfl | cons y ys => simp at e
    | cons x xs ih =>
      intro ys px py e
      cases ys with
      | nil => simp at e
      | cons y ys =>
        simp only [List.map_cons, List.cons.injEq] at e
        rw [weight_inj (px x (by simp)) (py y (by simp)) e.1, ih ys (fun r hr => px r (by simp [hr])) (fun r hr => py r (by simp [hr])) e.2]
  exact this _ _ (rns_nonneg s) (rns_nonneg t) h
theorem rns_inj {s t : ByteArray} (hs : validD s.data.toList = true) (ht : validD t.data.toList = true) (h : rns s = rns t) : s = t := by
  rw [rns_R, rns_R] at h
  exact str_ext (R_inj hs ht h)
theorem cmpS_zero {l : List S42} {s t : ByteArray} (hs : validD s.data.toList = true) (ht : validD t.data.toList = true) : cmpS l s t = 0 ↔ s = t := by
  unfold cmpS
  rw [cmpL_zero]
  constructor
  · intro h; exact rns_inj hs ht (weights_inj h)
  · rintro rfl; rfl
theorem rns_append {s : ByteArray} (hs : validD s.data.toList = true) (t : ByteArray) : rns (s ++ t) = rns s ++ rns t := by
  rw [rns_R, rns_R, rns_R, str_append, R_append hs]
theorem valid_cat {s : ByteArray} (hs : validD s.data.toList = true) (t : ByteArray) : validD (s ++ t).data.toList = validD t.data.toList := by
  rw [str_append, valid_append hs]
end Go.Proofs.YtpkgelednbibpaaDoor.Pure
