/- What the alphabet's functions compute, in plain lists: positions of runes, valid alphabets, words, the comparison. No program and no memory stands here. -/
import Derived.Test.YtpkgelednbibpaaDoorCx1
import Derived.Test.YtpkgelednbibpaaDoorUtf
set_option linter.unusedVariables false
set_option linter.unusedSimpArgs false
namespace Go.Proofs.YtpkgelednbibpaaDoor.Pure
open Go.RowKit Go.Lib Go.Proofs.YtpkgelednbibpaaDoor.C Go.Proofs.YtpkgelednbibpaaDoorW.PrintWords Go.Proofs.YtpkgelednbibpaaDoor.Utf

theorem wrap_id {x : Int} (h0 : -9223372036854775808 ≤ x) (h1 : x ≤ 9223372036854775807) : wrap64 x = x := by unfold wrap64; omega
/-- Where a rune stands first. -/
def fi (l : List S42) (r : Int) : Option Int := firstIn l l.length r
theorem fi_eq (l : List S42) (r : Int) : fi l r = (l.findIdx? (fun x => x.f0 == r)).map (fun n : Nat => (n : Int)) := by
  unfold fi firstIn
  rw [List.take_length]
theorem rd_get {l : List S42} {n : Nat} (h : n < l.length) : rd_T42 l (n : Int) = l[n] := by simp [rd_T42, List.getD, List.getElem?_eq_getElem h]
theorem rd_int {l : List S42} {i : Int} (h0 : 0 ≤ i) (h1 : i < (l.length : Int)) : ∃ n : Nat, i = (n : Int) ∧ n < l.length := ⟨i.toNat, by omega, by omega⟩

/-! ### Index -/
theorem index_loop (l : List S42) (r : Int) (hl : (l.length : Int) ≤ 1000) : ∀ (d n k : Nat), l.length - n = d → n ≤ l.length → d < k →
    pentaglotref01_Index.l0 k l r (n : Int) = some (((l.drop n).findIdx? (fun x => x.f0 == r)).elim (-1) (fun m : Nat => ((n + m : Nat) : Int)))
  | 0, n, k, hd, hn, hk => by
    obtain ⟨k, rfl⟩ : ∃ m, k = m + 1 := ⟨k - 1, by omega⟩
    simp only [pentaglotref01_Index.l0]
    rw [if_neg (by omega), List.drop_eq_nil_of_le (by omega)]
    rfl
  | d + 1, n, k, hd, hn, hk => by
    obtain ⟨k, rfl⟩ : ∃ m, k = m + 1 := ⟨k - 1, by omega⟩
    have hlt : n < l.length := by omega
    simp only [pentaglotref01_Index.l0]
    rw [if_pos (by omega), if_pos (by omega), rd_get hlt, List.drop_eq_getElem_cons hlt, List.findIdx?_cons]
    by_cases e : l[n].f0 = r
    · rw [if_pos e]
      simp [e]
    · rw [if_neg e, wrap_id (by omega) (by omega), show (n : Int) + 1 = ((n + 1 : Nat) : Int) by omega, index_loop l r hl d (n + 1) k (by omega) (by omega) (by omega)]
      have : (l[n].f0 == r) = false := by simpa using e
      rw [this]
      simp only [Bool.false_eq_true, if_false]
      cases (l.drop (n + 1)).findIdx? (fun x => x.f0 == r) with
      | none => rfl
      | some m => simp; omega
theorem Index_at {k : Nat} (l : List S42) (r : Int) (hl : (l.length : Int) ≤ 1000) (hk : 1001 < k) : pentaglotref01_Index.f k l r = some ((fi l r).getD (-1)) := by
  unfold pentaglotref01_Index.f
  have := index_loop l r hl l.length 0 k (by omega) (by omega) (by omega)
  rw [show ((0 : Nat) : Int) = 0 by rfl] at this
  rw [this, List.drop_zero, fi_eq]
  cases l.findIdx? (fun x => x.f0 == r) <;> simp
theorem fi_some {l : List S42} {r i : Int} (h : fi l r = some i) : ∃ n : Nat, i = (n : Int) ∧ n < l.length ∧ ∀ hn : n < l.length, l[n].f0 = r := by
  rw [fi_eq] at h
  obtain ⟨n, hn, rfl⟩ := Option.map_eq_some_iff.1 h
  obtain ⟨h1, h2, _⟩ := List.findIdx?_eq_some_iff_getElem.1 hn
  exact ⟨n, rfl, h1, fun _ => by simpa using h2⟩
theorem fi_range {l : List S42} {r i : Int} (h : fi l r = some i) : 0 ≤ i ∧ i < (l.length : Int) := firstIn_range (Nat.le_refl _) h
theorem fi_inj {l : List S42} {r s i : Int} (h : fi l r = some i) (k : fi l s = some i) : r = s := by
  obtain ⟨n, rfl, hn, e⟩ := fi_some h
  obtain ⟨m, e2, hm, e'⟩ := fi_some k
  obtain rfl : n = m := by omega
  rw [← e hn, ← e' hn]
theorem wf_i32 {r : Int} (h0 : -2147483648 ≤ r) (h1 : r ≤ 2147483647) : (Lit.int .i32 r).wf = true := by
  have a : IntKind.i32.min = -2147483648 := by decide
  have b : IntKind.i32.max = 2147483647 := by decide
  simp only [Lit.wf, a, b]
  simp
  omega
theorem okA_mk {l : List S42} (hg : good l = true) (hl : (l.length : Int) ≤ 1000) : okA l = true := by simp [okA, hg, hl]
theorem AIndex_at {l : List S42} {r : Int} (ho : okA l = true) (hr : (Lit.int .i32 r).wf = true) : alphabet_Index.f l r = some ((fi l r).getD (-1)) := by
  unfold alphabet_Index.f
  rw [if_pos ho, if_pos hr]; rfl
/-- The classes of a rune. -/
def cls (l : List S42) (r : Int) : Int := (fi l r).elim 0 (fun i => (rd_T42 l i).f1)
theorem AClasses_at {l : List S42} {r : Int} (ho : okA l = true) (hr : (Lit.int .i32 r).wf = true) : alphabet_Classes.f l r = some (cls l r) := by
  unfold alphabet_Classes.f
  rw [if_pos ho, if_pos hr]
  unfold cls fi
  cases firstIn l l.length r <;> rfl
theorem Classes_at {k : Nat} (l : List S42) (r : Int) (hl : (l.length : Int) ≤ 1000) (hk : 1001 < k) : pentaglotref01_Classes.f k l r = some (cls l r) := by
  unfold pentaglotref01_Classes.f cls
  rw [Index_at l r hl hk]
  simp only [Option.bind_some]
  cases h : fi l r with
  | none => rfl
  | some i =>
    obtain ⟨h0, h1⟩ := fi_range h
    simp only [Option.getD_some, Option.elim_some]
    rw [if_neg (by omega), if_pos h0, if_pos h1]

/-! ### valid alphabets -/
def goodR (r : Int) : Bool := decide (32 < r) && validRune r
theorem ValidRune_at {k : Nat} (r : Int) (hk : 1 ≤ k) : utf8_ValidRune.f k r = some (validRune r) := by
  obtain ⟨k, rfl⟩ : ∃ m, k = m + 1 := ⟨k - 1, by omega⟩
  unfold utf8_ValidRune.f
  simp only [utf8_ValidRune.j0]
  by_cases h0 : 0 ≤ r
  · rw [if_pos h0]
    by_cases h1 : r < 55296
    · rw [if_pos (decide_eq_true h1)]; congr 1; symm; simp [validRune]; omega
    · rw [if_neg (by simp [h1])]
      by_cases h2 : 57343 < r
      · rw [if_pos h2]
        by_cases h3 : r ≤ 1114111
        · rw [if_pos h3]; congr 1; symm; simp [validRune]; omega
        · rw [if_neg h3]; congr 1; symm; simp [validRune]; omega
      · rw [if_neg h2]; congr 1; symm; simp [validRune]; omega
  · rw [if_neg h0, if_neg (by decide), if_neg (by omega)]; congr 1; symm; simp [validRune]; omega
theorem Good_at (r : Int) : pentaglotref01_Good.f r = some (goodR r) := by
  unfold pentaglotref01_Good.f goodR validRune
  by_cases h0 : r > 32
  · rw [if_pos h0]
    by_cases h1 : r ≤ 1114111
    · rw [if_pos h1]
      by_cases h2 : r < 55296
      · rw [if_pos h2]; congr 1; symm; simp; omega
      · rw [if_neg h2]; congr 1; rw [Bool.eq_iff_iff]; simp; omega
    · rw [if_neg h1]; congr 1; symm; simp; omega
  · rw [if_neg h0]; congr 1; symm; simp; omega
/-- The rune at n has not come before. -/
def new (l : List S42) (n : Nat) : Bool := (firstIn l n (rd_T42 l n).f0).isNone
theorem distinct_le (l : List S42) : ∀ m, C.distinct l m ≤ m
  | 0 => Nat.le_refl _
  | m + 1 => by
    have := distinct_le l m
    unfold C.distinct
    split <;> omega
theorem distinct_eq (l : List S42) : ∀ m, (C.distinct l m = m ↔ ∀ n, n < m → new l n = true)
  | 0 => by simp [C.distinct]
  | m + 1 => by
    have ih := distinct_eq l m
    have hle := distinct_le l m
    unfold C.distinct
    by_cases h : (firstIn l m (rd_T42 l m).f0).isSome = true
    · rw [if_pos h]
      constructor
      · intro e; omega
      · intro a
        have := a m (by omega)
        unfold new at this
        rw [Option.isNone_iff_eq_none] at this
        rw [this] at h
        cases h
    · rw [if_neg h]
      have hn : new l m = true := by
        unfold new
        rw [Option.isNone_iff_eq_none]
        exact Option.not_isSome_iff_eq_none.1 h
      constructor
      · intro e n hlt
        rcases Nat.lt_succ_iff_lt_or_eq.1 hlt with h1 | rfl
        · exact ih.1 (by omega) n h1
        · exact hn
      · intro a
        have := ih.2 (fun n hlt => a n (by omega))
        omega
theorem new_iff {l : List S42} {n : Nat} (h : n < l.length) : new l n = true ↔ fi l (rd_T42 l n).f0 = some (n : Int) := by
  unfold new
  rw [rd_get h, fi_eq]
  unfold firstIn
  rw [Option.isNone_iff_eq_none, Option.map_eq_none_iff, List.findIdx?_eq_none_iff]
  constructor
  · intro a
    have : l.findIdx? (fun x => x.f0 == l[n].f0) = some n := by
      refine List.findIdx?_eq_some_iff_getElem.2 ⟨h, by simp, fun j hj => ?_⟩
      have hj2 : j < (l.take n).length := by rw [List.length_take]; omega
      have := a _ (List.getElem_mem hj2)
      rw [List.getElem_take] at this
      simpa using this
    rw [this]; rfl
  · intro a x hx
    obtain ⟨m, hm, e⟩ := Option.map_eq_some_iff.1 a
    obtain rfl : m = n := by omega
    obtain ⟨_, _, h3⟩ := List.findIdx?_eq_some_iff_getElem.1 hm
    obtain ⟨j, hj, rfl⟩ := List.getElem_of_mem hx
    rw [List.length_take] at hj
    rw [List.getElem_take]
    have := h3 j (by omega)
    simpa using this
/-- A valid alphabet. -/
def vB (l : List S42) : Bool := decide (1 ≤ (l.length : Int)) && decide ((l.length : Int) ≤ 64) && (l.all (fun x => goodR x.f0) && decide (C.distinct l l.length = l.length))
structure Val (l : List S42) : Prop where
  l1 : 1 ≤ (l.length : Int)
  l64 : (l.length : Int) ≤ 64
  ok : ∀ x ∈ l, goodR x.f0 = true
  fst : ∀ n, n < l.length → fi l (rd_T42 l n).f0 = some (n : Int)
theorem vB_iff (l : List S42) : vB l = true ↔ Val l := by
  unfold vB
  rw [Bool.and_eq_true, Bool.and_eq_true, Bool.and_eq_true, decide_eq_true_iff, decide_eq_true_iff, decide_eq_true_iff, List.all_eq_true, distinct_eq]
  constructor
  · rintro ⟨⟨a, b⟩, c, d⟩
    exact ⟨a, b, c, fun n hn => (new_iff hn).1 (d n hn)⟩
  · rintro ⟨a, b, c, d⟩
    exact ⟨⟨a, b⟩, c, fun n hn => (new_iff hn).2 (d n hn)⟩
theorem goodR_not {r : Int} (h : r ≤ 32) : goodR r = false := by simp [goodR]; omega
theorem valid_loop (l : List S42) (hg : good l = true) (hl : (l.length : Int) ≤ 1000) : ∀ (d n k : Nat), l.length - n = d → n ≤ l.length → d < k →
    alphabet_Valid.l0 k l (n : Int) = some ((l.drop n).all (fun x => goodR x.f0) && decide (C.distinct l l.length = l.length))
  | 0, n, k, hd, hn, hk => by
    obtain ⟨k, rfl⟩ : ∃ m, k = m + 1 := ⟨k - 1, by omega⟩
    simp only [alphabet_Valid.l0]
    rw [if_neg (by omega), if_pos hg, List.drop_eq_nil_of_le (by omega)]
    congr 1
    rw [Bool.eq_iff_iff]
    simp
    omega
  | d + 1, n, k, hd, hn, hk => by
    obtain ⟨k, rfl⟩ : ∃ m, k = m + 1 := ⟨k - 1, by omega⟩
    have hlt : n < l.length := by omega
    simp only [alphabet_Valid.l0]
    rw [if_pos (by omega), rd_get hlt, List.drop_eq_getElem_cons hlt, List.all_cons]
    by_cases e : l[n].f0 ≤ 32
    · rw [if_pos e, goodR_not e]; rfl
    · rw [if_neg e, ValidRune_at _ (by omega)]
      simp only [Option.bind_some]
      by_cases v : validRune l[n].f0 = true
      · rw [if_pos v, show (n : Int) + 1 = ((n + 1 : Nat) : Int) by omega, valid_loop l hg hl d (n + 1) k (by omega) (by omega) (by omega)]
        have : goodR l[n].f0 = true := by simp [goodR, v]; omega
        rw [this, Bool.true_and]
      · rw [if_neg v]
        have : goodR l[n].f0 = false := by simp [goodR, v]
        rw [this]; rfl
theorem Valid_at {k : Nat} (l : List S42) (hg : good l = true) (hk : 1001 < k) : alphabet_Valid.f k l = some (vB l) := by
  unfold alphabet_Valid.f vB
  by_cases h1 : (l.length : Int) < 1
  · rw [if_pos h1, decide_eq_false (by omega)]; rfl
  · rw [if_neg h1, decide_eq_true (show 1 ≤ (l.length : Int) by omega)]
    by_cases h2 : (l.length : Int) > 64
    · rw [if_pos h2, decide_eq_false (by omega)]; rfl
    · rw [if_neg h2, decide_eq_true (show (l.length : Int) ≤ 64 by omega)]
      have := valid_loop l hg (by omega) l.length 0 k (by omega) (by omega) (by omega)
      rw [show ((0 : Nat) : Int) = 0 by rfl] at this
      rw [this]; rfl
theorem rvalid_loop (l : List S42) (hl : (l.length : Int) ≤ 1000) : ∀ (d n k : Nat), l.length - n = d → n ≤ l.length → d + 1002 < k →
    ∃ b, pentaglotref01_Valid.l0 k l (n : Int) = some b ∧ (b = true ↔ ∀ m, n ≤ m → m < l.length → goodR (rd_T42 l m).f0 = true ∧ fi l (rd_T42 l m).f0 = some (m : Int))
  | 0, n, k, hd, hn, hk => by
    obtain ⟨k, rfl⟩ : ∃ m, k = m + 1 := ⟨k - 1, by omega⟩
    simp only [pentaglotref01_Valid.l0]
    rw [if_neg (by omega)]
    exact ⟨true, rfl, fun _ m h1 h2 => by omega, fun _ => rfl⟩
  | d + 1, n, k, hd, hn, hk => by
    obtain ⟨k, rfl⟩ : ∃ m, k = m + 1 := ⟨k - 1, by omega⟩
    have hlt : n < l.length := by omega
    simp only [pentaglotref01_Valid.l0]
    rw [if_pos (by omega), if_pos (by omega), Good_at]
    simp only [Option.bind_some]
    by_cases v : goodR (rd_T42 l n).f0 = true
    · rw [if_pos v, Index_at l _ hl (by omega)]
      simp only [Option.bind_some]
      by_cases e : fi l (rd_T42 l n).f0 = some (n : Int)
      · rw [e, Option.getD_some, if_pos rfl, wrap_id (by omega) (by omega), show (n : Int) + 1 = ((n + 1 : Nat) : Int) by omega]
        obtain ⟨b, hb, hi⟩ := rvalid_loop l hl d (n + 1) k (by omega) (by omega) (by omega)
        refine ⟨b, hb, hi.trans ⟨fun a m h1 h2 => ?_, fun a m h1 h2 => a m (by omega) h2⟩⟩
        rcases Nat.lt_or_eq_of_le h1 with h3 | rfl
        · exact a m (by omega) h2
        · exact ⟨v, e⟩
      · rw [if_neg]
        · exact ⟨false, rfl, fun h => (by cases h), fun a => absurd (a n (Nat.le_refl _) hlt).2 e⟩
        · intro h
          apply e
          cases hf : fi l (rd_T42 l n).f0 with
          | none => rw [hf] at h; simp only [Option.getD_none] at h; omega
          | some i => rw [hf] at h; simp only [Option.getD_some] at h; rw [h]
    · rw [if_neg v]
      exact ⟨false, rfl, fun h => (by cases h), fun a => absurd (a n (Nat.le_refl _) hlt).1 v⟩
theorem RValid_at {k : Nat} (l : List S42) (hl : (l.length : Int) ≤ 1000) (hk : 3001 < k) : pentaglotref01_Valid.f k l = some (vB l) := by
  obtain ⟨k, rfl⟩ : ∃ m, k = m + 1 := ⟨k - 1, by omega⟩
  unfold pentaglotref01_Valid.f
  simp only [pentaglotref01_Valid.j0]
  by_cases h1 : (l.length : Int) < 1
  · rw [if_pos h1, if_pos trivial]
    congr 1; symm
    rw [Bool.eq_false_iff]
    intro h
    have := ((vB_iff l).1 h).l1
    omega
  · rw [if_neg h1]
    by_cases h2 : (l.length : Int) > 64
    · rw [if_pos (decide_eq_true h2)]
      congr 1; symm
      rw [Bool.eq_false_iff]
      intro h
      have := ((vB_iff l).1 h).l64
      omega
    · rw [if_neg (by simp only [decide_eq_true_eq]; exact h2)]
      obtain ⟨b, hb, hi⟩ := rvalid_loop l hl l.length 0 k (by omega) (by omega) (by omega)
      rw [show ((0 : Nat) : Int) = 0 by rfl] at hb
      rw [hb]
      congr 1
      rw [Bool.eq_iff_iff, vB_iff, hi]
      constructor
      · intro a
        refine ⟨by omega, by omega, fun x hx => ?_, fun n hn => (a n (by omega) hn).2⟩
        obtain ⟨n, hn, rfl⟩ := List.getElem_of_mem hx
        have := (a n (by omega) hn).1
        rwa [rd_get hn] at this
      · intro v m _ hm
        refine ⟨?_, v.fst m hm⟩
        rw [rd_get hm]
        exact v.ok _ (List.getElem_mem hm)

/-! ### few -/
def fewB (l : List S42) (ws : List ByteArray) : Bool := ws.all (fun w => decide ((w.size : Int) ≤ 200)) && (decide ((l.length : Int) ≤ 70) && decide ((ws.length : Int) ≤ 40))
theorem few_loop (l : List S42) (ws : List ByteArray) (hw : (ws.length : Int) ≤ 9223372036854775806) : ∀ (d n k : Nat), ws.length - n = d → n ≤ ws.length → d < k →
    pentaglotlaw01_few.l0 k l ws (n : Int) = some ((ws.drop n).all (fun w => decide ((w.size : Int) ≤ 200)) && (decide ((l.length : Int) ≤ 70) && decide ((ws.length : Int) ≤ 40)))
  | 0, n, k, hd, hn, hk => by
    obtain ⟨k, rfl⟩ : ∃ m, k = m + 1 := ⟨k - 1, by omega⟩
    simp only [pentaglotlaw01_few.l0]
    rw [if_neg (by omega), List.drop_eq_nil_of_le (by omega)]
    by_cases h : (l.length : Int) ≤ 70
    · rw [if_pos h, decide_eq_true h]; rfl
    · rw [if_neg h, decide_eq_false h]; rfl
  | d + 1, n, k, hd, hn, hk => by
    obtain ⟨k, rfl⟩ : ∃ m, k = m + 1 := ⟨k - 1, by omega⟩
    have hlt : n < ws.length := by omega
    have hrd : rdOf ByteArray.empty ws (n : Int) = ws[n] := by simp [rdOf, List.getD, List.getElem?_eq_getElem hlt]
    simp only [pentaglotlaw01_few.l0]
    rw [if_pos (by omega), if_pos (by omega), hrd, List.drop_eq_getElem_cons hlt, List.all_cons]
    by_cases e : (ws[n].size : Int) > 200
    · rw [if_pos e, decide_eq_false (by omega)]; rfl
    · rw [if_neg e, decide_eq_true (show (ws[n].size : Int) ≤ 200 by omega), wrap_id (by omega) (by omega), show (n : Int) + 1 = ((n + 1 : Nat) : Int) by omega, few_loop l ws hw d (n + 1) k (by omega) (by omega) (by omega), Bool.true_and]
theorem few_at {k : Nat} (l : List S42) (ws : List ByteArray) (hw : (ws.length : Int) ≤ 9223372036854775806) (hk : ws.length < k) : pentaglotlaw01_few.f k l ws = some (fewB l ws) := by
  unfold pentaglotlaw01_few.f fewB
  have := few_loop l ws hw ws.length 0 k (by omega) (by omega) (by omega)
  rw [show ((0 : Nat) : Int) = 0 by rfl] at this
  rw [this]; rfl
theorem few_len {l : List S42} {ws : List ByteArray} (h : fewB l ws = true) : (l.length : Int) ≤ 70 := by
  unfold fewB at h
  simp only [Bool.and_eq_true, decide_eq_true_eq] at h
  exact h.2.1
theorem few_size {l : List S42} {ws : List ByteArray} (h : fewB l ws = true) {w : ByteArray} (hw : w ∈ ws) : w.size ≤ 200 := by
  unfold fewB at h
  simp only [Bool.and_eq_true, decide_eq_true_eq, List.all_eq_true] at h
  have := h.1 w hw
  omega
end Go.Proofs.YtpkgelednbibpaaDoor.Pure
