/- The pure texts of this seat, made into one: no program and no memory stands here. -/
import Derived.Test.YtpgeimihmkampaaDoorCx1
import Derived.Test.YtpgeimihmkampaaDoorUtf
import Derived.Laws.BitsAllLaws
/- What the alphabet's functions compute, in plain lists: positions of runes, valid alphabets, words, the comparison. No program and no memory stands here. -/
set_option linter.unusedVariables false
set_option linter.unusedSimpArgs false
namespace Go.Proofs.YtpgeimihmkampaaDoor.Pure
open Go.RowKit Go.Lib Go.Proofs.YtpgeimihmkampaaDoor.C Go.Proofs.YtpgeimihmkampaaDoorW.PrintWords Go.Proofs.YtpgeimihmkampaaDoor.Utf

theorem wrap_id {x : Int} (h0 : -9223372036854775808 ≤ x) (h1 : x ≤ 9223372036854775807) : wrap64 x = x := by unfold wrap64; omega
/-- Where a rune stands first. -/
def fi (l : List S42) (r : Int) : Option Int := firstIn l l.length r
theorem fi_eq (l : List S42) (r : Int) : fi l r = (l.findIdx? (fun x => x.f0 == r)).map (fun n : Nat => (n : Int)) := by
  unfold fi firstIn
  rw [List.take_length]
theorem rd_get {l : List S42} {n : Nat} (h : n < l.length) : rd_T42 l (n : Int) = l[n] := by simp [rd_T42, List.getD, List.getElem?_eq_getElem h]
theorem rd_int {l : List S42} {i : Int} (h0 : 0 ≤ i) (h1 : i < (l.length : Int)) : ∃ n : Nat, i = (n : Int) ∧ n < l.length := ⟨i.toNat, by omega, by omega⟩

/-! ### Index -/
theorem index_loop (l : List S42) (r : Int) (hl : (l.length : Int) ≤ 1000) : ∀ (d n k : Nat), l.length - n = d → n ≤ l.length → d < k →
    pentaglotref01_Index.l0 k l r (n : Int) = some (((l.drop n).findIdx? (fun x => x.f0 == r)).elim (-1) (fun m : Nat => ((n + m : Nat) : Int)))
  | 0, n, k, hd, hn, hk => by
    obtain ⟨k, rfl⟩ : ∃ m, k = m + 1 := ⟨k - 1, by omega⟩
    simp only [pentaglotref01_Index.l0]
    rw [if_neg (by omega), List.drop_eq_nil_of_le (by omega)]
    rfl
  | d + 1, n, k, hd, hn, hk => by
    obtain ⟨k, rfl⟩ : ∃ m, k = m + 1 := ⟨k - 1, by omega⟩
    have hlt : n < l.length := by omega
    simp only [pentaglotref01_Index.l0]
    rw [if_pos (by omega), if_pos (by omega), rd_get hlt, List.drop_eq_getElem_cons hlt, List.findIdx?_cons]
    by_cases e : l[n].f0 = r
    · rw [if_pos e]
      simp [e]
    · rw [if_neg e, wrap_id (by omega) (by omega), show (n : Int) + 1 = ((n + 1 : Nat) : Int) by omega, index_loop l r hl d (n + 1) k (by omega) (by omega) (by omega)]
      have : (l[n].f0 == r) = false := by simpa using e
      rw [this]
      simp only [Bool.false_eq_true, if_false]
      cases (l.drop (n + 1)).findIdx? (fun x => x.f0 == r) with
      | none => rfl
      | some m => simp; omega
theorem Index_at {k : Nat} (l : List S42) (r : Int) (hl : (l.length : Int) ≤ 1000) (hk : 1001 < k) : pentaglotref01_Index.f k l r = some ((fi l r).getD (-1)) := by
  unfold pentaglotref01_Index.f
  have := index_loop l r hl l.length 0 k (by omega) (by omega) (by omega)
  rw [show ((0 : Nat) : Int) = 0 by rfl] at this
  rw [this, List.drop_zero, fi_eq]
  cases l.findIdx? (fun x => x.f0 == r) <;> simp
theorem fi_some {l : List S42} {r i : Int} (h : fi l r = some i) : ∃ n : Nat, i = (n : Int) ∧ n < l.length ∧ ∀ hn : n < l.length, l[n].f0 = r := by
  rw [fi_eq] at h
  obtain ⟨n, hn, rfl⟩ := Option.map_eq_some_iff.1 h
  obtain ⟨h1, h2, _⟩ := List.findIdx?_eq_some_iff_getElem.1 hn
  exact ⟨n, rfl, h1, fun _ => by simpa using h2⟩
theorem fi_range {l : List S42} {r i : Int} (h : fi l r = some i) : 0 ≤ i ∧ i < (l.length : Int) := firstIn_range (Nat.le_refl _) h
theorem fi_inj {l : List S42} {r s i : Int} (h : fi l r = some i) (k : fi l s = some i) : r = s := by
  obtain ⟨n, rfl, hn, e⟩ := fi_some h
  obtain ⟨m, e2, hm, e'⟩ := fi_some k
  obtain rfl : n = m := by omega
  rw [← e hn, ← e' hn]
theorem wf_i32 {r : Int} (h0 : -2147483648 ≤ r) (h1 : r ≤ 2147483647) : (Lit.int .i32 r).wf = true := by
  have a : IntKind.i32.min = -2147483648 := by decide
  have b : IntKind.i32.max = 2147483647 := by decide
  simp only [Lit.wf, a, b]
  simp
  omega
theorem okA_mk {l : List S42} (hg : good l = true) (hl : (l.length : Int) ≤ 1000) : okA l = true := by simp [okA, hg, hl]
theorem AIndex_at {l : List S42} {r : Int} (ho : okA l = true) (hr : (Lit.int .i32 r).wf = true) : alphabet_Index.f l r = some ((fi l r).getD (-1)) := by
  unfold alphabet_Index.f
  rw [if_pos ho, if_pos hr]; rfl
/-- The classes of a rune. -/
def cls (l : List S42) (r : Int) : Int := (fi l r).elim 0 (fun i => (rd_T42 l i).f1)
theorem AClasses_at {l : List S42} {r : Int} (ho : okA l = true) (hr : (Lit.int .i32 r).wf = true) : alphabet_Classes.f l r = some (cls l r) := by
  unfold alphabet_Classes.f
  rw [if_pos ho, if_pos hr]
  unfold cls fi
  cases firstIn l l.length r <;> rfl
theorem Classes_at {k : Nat} (l : List S42) (r : Int) (hl : (l.length : Int) ≤ 1000) (hk : 1001 < k) : pentaglotref01_Classes.f k l r = some (cls l r) := by
  unfold pentaglotref01_Classes.f cls
  rw [Index_at l r hl hk]
  simp only [Option.bind_some]
  cases h : fi l r with
  | none => rfl
  | some i =>
    obtain ⟨h0, h1⟩ := fi_range h
    simp only [Option.getD_some, Option.elim_some]
    rw [if_neg (by omega), if_pos h0, if_pos h1]

/-! ### valid alphabets -/
def goodR (r : Int) : Bool := decide (32 < r) && validRune r
theorem ValidRune_at {k : Nat} (r : Int) (hk : 1 ≤ k) : utf8_ValidRune.f k r = some (validRune r) := by
  obtain ⟨k, rfl⟩ : ∃ m, k = m + 1 := ⟨k - 1, by omega⟩
  unfold utf8_ValidRune.f
  simp only [utf8_ValidRune.j0]
  by_cases h0 : 0 ≤ r
  · rw [if_pos h0]
    by_cases h1 : r < 55296
    · rw [if_pos (decide_eq_true h1)]; congr 1; symm; simp [validRune]; omega
    · rw [if_neg (by simp [h1])]
      by_cases h2 : 57343 < r
      · rw [if_pos h2]
        by_cases h3 : r ≤ 1114111
        · rw [if_pos h3]; congr 1; symm; simp [validRune]; omega
        · rw [if_neg h3]; congr 1; symm; simp [validRune]; omega
      · rw [if_neg h2]; congr 1; symm; simp [validRune]; omega
  · rw [if_neg h0, if_neg (by decide), if_neg (by omega)]; congr 1; symm; simp [validRune]; omega
theorem Good_at (r : Int) : pentaglotref01_Good.f r = some (goodR r) := by
  unfold pentaglotref01_Good.f goodR validRune
  by_cases h0 : r > 32
  · rw [if_pos h0]
    by_cases h1 : r ≤ 1114111
    · rw [if_pos h1]
      by_cases h2 : r < 55296
      · rw [if_pos h2]; congr 1; symm; simp; omega
      · rw [if_neg h2]; congr 1; rw [Bool.eq_iff_iff]; simp; omega
    · rw [if_neg h1]; congr 1; symm; simp; omega
  · rw [if_neg h0]; congr 1; symm; simp; omega
/-- The rune at n has not come before. -/
def new (l : List S42) (n : Nat) : Bool := (firstIn l n (rd_T42 l n).f0).isNone
theorem distinct_le (l : List S42) : ∀ m, C.distinct l m ≤ m
  | 0 => Nat.le_refl _
  | m + 1 => by
    have := distinct_le l m
    unfold C.distinct
    split <;> omega
theorem distinct_eq (l : List S42) : ∀ m, (C.distinct l m = m ↔ ∀ n, n < m → new l n = true)
  | 0 => by simp [C.distinct]
  | m + 1 => by
    have ih := distinct_eq l m
    have hle := distinct_le l m
    unfold C.distinct
    by_cases h : (firstIn l m (rd_T42 l m).f0).isSome = true
    · rw [if_pos h]
      constructor
      · intro e; omega
      · intro a
        have := a m (by omega)
        unfold new at this
        rw [Option.isNone_iff_eq_none] at this
        rw [this] at h
        cases h
    · rw [if_neg h]
      have hn : new l m = true := by
        unfold new
        rw [Option.isNone_iff_eq_none]
        exact Option.not_isSome_iff_eq_none.1 h
      constructor
      · intro e n hlt
        rcases Nat.lt_succ_iff_lt_or_eq.1 hlt with h1 | rfl
        · exact ih.1 (by omega) n h1
        · exact hn
      · intro a
        have := ih.2 (fun n hlt => a n (by omega))
        omega
theorem new_iff {l : List S42} {n : Nat} (h : n < l.length) : new l n = true ↔ fi l (rd_T42 l n).f0 = some (n : Int) := by
  unfold new
  rw [rd_get h, fi_eq]
  unfold firstIn
  rw [Option.isNone_iff_eq_none, Option.map_eq_none_iff, List.findIdx?_eq_none_iff]
  constructor
  · intro a
    have : l.findIdx? (fun x => x.f0 == l[n].f0) = some n := by
      refine List.findIdx?_eq_some_iff_getElem.2 ⟨h, by simp, fun j hj => ?_⟩
      have hj2 : j < (l.take n).length := by rw [List.length_take]; omega
      have := a _ (List.getElem_mem hj2)
      rw [List.getElem_take] at this
      simpa using this
    rw [this]; rfl
  · intro a x hx
    obtain ⟨m, hm, e⟩ := Option.map_eq_some_iff.1 a
    obtain rfl : m = n := by omega
    obtain ⟨_, _, h3⟩ := List.findIdx?_eq_some_iff_getElem.1 hm
    obtain ⟨j, hj, rfl⟩ := List.getElem_of_mem hx
    rw [List.length_take] at hj
    rw [List.getElem_take]
    have := h3 j (by omega)
    simpa using this
/-- A valid alphabet. -/
def vB (l : List S42) : Bool := decide (1 ≤ (l.length : Int)) && decide ((l.length : Int) ≤ 64) && (l.all (fun x => goodR x.f0) && decide (C.distinct l l.length = l.length))
structure Val (l : List S42) : Prop where
  l1 : 1 ≤ (l.length : Int)
  l64 : (l.length : Int) ≤ 64
  ok : ∀ x ∈ l, goodR x.f0 = true
  fst : ∀ n, n < l.length → fi l (rd_T42 l n).f0 = some (n : Int)
theorem vB_iff (l : List S42) : vB l = true ↔ Val l := by
  unfold vB
  rw [Bool.and_eq_true, Bool.and_eq_true, Bool.and_eq_true, decide_eq_true_iff, decide_eq_true_iff, decide_eq_true_iff, List.all_eq_true, distinct_eq]
  constructor
  · rintro ⟨⟨a, b⟩, c, d⟩
    exact ⟨a, b, c, fun n hn => (new_iff hn).1 (d n hn)⟩
  · rintro ⟨a, b, c, d⟩
    exact ⟨⟨a, b⟩, c, fun n hn => (new_iff hn).2 (d n hn)⟩
theorem goodR_not {r : Int} (h : r ≤ 32) : goodR r = false := by simp [goodR]; omega
theorem valid_loop (l : List S42) (hg : good l = true) (hl : (l.length : Int) ≤ 1000) : ∀ (d n k : Nat), l.length - n = d → n ≤ l.length → d < k →
    alphabet_Valid.l0 k l (n : Int) = some ((l.drop n).all (fun x => goodR x.f0) && decide (C.distinct l l.length = l.length))
  | 0, n, k, hd, hn, hk => by
    obtain ⟨k, rfl⟩ : ∃ m, k = m + 1 := ⟨k - 1, by omega⟩
    simp only [alphabet_Valid.l0]
    rw [if_neg (by omega), if_pos hg, List.drop_eq_nil_of_le (by omega)]
    congr 1
    rw [Bool.eq_iff_iff]
    simp
    omega
  | d + 1, n, k, hd, hn, hk => by
    obtain ⟨k, rfl⟩ : ∃ m, k = m + 1 := ⟨k - 1, by omega⟩
    have hlt : n < l.length := by omega
    simp only [alphabet_Valid.l0]
    rw [if_pos (by omega), rd_get hlt, List.drop_eq_getElem_cons hlt, List.all_cons]
    by_cases e : l[n].f0 ≤ 32
    · rw [if_pos e, goodR_not e]; rfl
    · rw [if_neg e, ValidRune_at _ (by omega)]
      simp only [Option.bind_some]
      by_cases v : validRune l[n].f0 = true
      · rw [if_pos v, show (n : Int) + 1 = ((n + 1 : Nat) : Int) by omega, valid_loop l hg hl d (n + 1) k (by omega) (by omega) (by omega)]
        have : goodR l[n].f0 = true := by simp [goodR, v]; omega
        rw [this, Bool.true_and]
      · rw [if_neg v]
        have : goodR l[n].f0 = false := by simp [goodR, v]
        rw [this]; rfl
theorem Valid_at {k : Nat} (l : List S42) (hg : good l = true) (hk : 1001 < k) : alphabet_Valid.f k l = some (vB l) := by
  unfold alphabet_Valid.f vB
  by_cases h1 : (l.length : Int) < 1
  · rw [if_pos h1, decide_eq_false (by omega)]; rfl
  · rw [if_neg h1, decide_eq_true (show 1 ≤ (l.length : Int) by omega)]
    by_cases h2 : (l.length : Int) > 64
    · rw [if_pos h2, decide_eq_false (by omega)]; rfl
    · rw [if_neg h2, decide_eq_true (show (l.length : Int) ≤ 64 by omega)]
      have := valid_loop l hg (by omega) l.length 0 k (by omega) (by omega) (by omega)
      rw [show ((0 : Nat) : Int) = 0 by rfl] at this
      rw [this]; rfl
theorem rvalid_loop (l : List S42) (hl : (l.length : Int) ≤ 1000) : ∀ (d n k : Nat), l.length - n = d → n ≤ l.length → d + 1002 < k →
    ∃ b, pentaglotref01_Valid.l0 k l (n : Int) = some b ∧ (b = true ↔ ∀ m, n ≤ m → m < l.length → goodR (rd_T42 l m).f0 = true ∧ fi l (rd_T42 l m).f0 = some (m : Int))
  | 0, n, k, hd, hn, hk => by
    obtain ⟨k, rfl⟩ : ∃ m, k = m + 1 := ⟨k - 1, by omega⟩
    simp only [pentaglotref01_Valid.l0]
    rw [if_neg (by omega)]
    exact ⟨true, rfl, fun _ m h1 h2 => by omega, fun _ => rfl⟩
  | d + 1, n, k, hd, hn, hk => by
    obtain ⟨k, rfl⟩ : ∃ m, k = m + 1 := ⟨k - 1, by omega⟩
    have hlt : n < l.length := by omega
    simp only [pentaglotref01_Valid.l0]
    rw [if_pos (by omega), if_pos (by omega), Good_at]
    simp only [Option.bind_some]
    by_cases v : goodR (rd_T42 l n).f0 = true
    · rw [if_pos v, Index_at l _ hl (by omega)]
      simp only [Option.bind_some]
      by_cases e : fi l (rd_T42 l n).f0 = some (n : Int)
      · rw [e, Option.getD_some, if_pos rfl, wrap_id (by omega) (by omega), show (n : Int) + 1 = ((n + 1 : Nat) : Int) by omega]
        obtain ⟨b, hb, hi⟩ := rvalid_loop l hl d (n + 1) k (by omega) (by omega) (by omega)
        refine ⟨b, hb, hi.trans ⟨fun a m h1 h2 => ?_, fun a m h1 h2 => a m (by omega) h2⟩⟩
        rcases Nat.lt_or_eq_of_le h1 with h3 | rfl
        · exact a m (by omega) h2
        · exact ⟨v, e⟩
      · rw [if_neg]
        · exact ⟨false, rfl, fun h => (by cases h), fun a => absurd (a n (Nat.le_refl _) hlt).2 e⟩
        · intro h
          apply e
          cases hf : fi l (rd_T42 l n).f0 with
          | none => rw [hf] at h; simp only [Option.getD_none] at h; omega
          | some i => rw [hf] at h; simp only [Option.getD_some] at h; rw [h]
    · rw [if_neg v]
      exact ⟨false, rfl, fun h => (by cases h), fun a => absurd (a n (Nat.le_refl _) hlt).1 v⟩
theorem RValid_at {k : Nat} (l : List S42) (hl : (l.length : Int) ≤ 1000) (hk : 3001 < k) : pentaglotref01_Valid.f k l = some (vB l) := by
  obtain ⟨k, rfl⟩ : ∃ m, k = m + 1 := ⟨k - 1, by omega⟩
  unfold pentaglotref01_Valid.f
  simp only [pentaglotref01_Valid.j0]
  by_cases h1 : (l.length : Int) < 1
  · rw [if_pos h1, if_pos trivial]
    congr 1; symm
    rw [Bool.eq_false_iff]
    intro h
    have := ((vB_iff l).1 h).l1
    omega
  · rw [if_neg h1]
    by_cases h2 : (l.length : Int) > 64
    · rw [if_pos (decide_eq_true h2)]
      congr 1; symm
      rw [Bool.eq_false_iff]
      intro h
      have := ((vB_iff l).1 h).l64
      omega
    · rw [if_neg (by simp only [decide_eq_true_eq]; exact h2)]
      obtain ⟨b, hb, hi⟩ := rvalid_loop l hl l.length 0 k (by omega) (by omega) (by omega)
      rw [show ((0 : Nat) : Int) = 0 by rfl] at hb
      rw [hb]
      congr 1
      rw [Bool.eq_iff_iff, vB_iff, hi]
      constructor
      · intro a
        refine ⟨by omega, by omega, fun x hx => ?_, fun n hn => (a n (by omega) hn).2⟩
        obtain ⟨n, hn, rfl⟩ := List.getElem_of_mem hx
        have := (a n (by omega) hn).1
        rwa [rd_get hn] at this
      · intro v m _ hm
        refine ⟨?_, v.fst m hm⟩
        rw [rd_get hm]
        exact v.ok _ (List.getElem_mem hm)

/-! ### few -/
def fewB (l : List S42) (ws : List ByteArray) : Bool := ws.all (fun w => decide ((w.size : Int) ≤ 200)) && (decide ((l.length : Int) ≤ 70) && decide ((ws.length : Int) ≤ 40))
theorem few_loop (l : List S42) (ws : List ByteArray) (hw : (ws.length : Int) ≤ 9223372036854775806) : ∀ (d n k : Nat), ws.length - n = d → n ≤ ws.length → d < k →
    pentaglotlaw01_few.l0 k l ws (n : Int) = some ((ws.drop n).all (fun w => decide ((w.size : Int) ≤ 200)) && (decide ((l.length : Int) ≤ 70) && decide ((ws.length : Int) ≤ 40)))
  | 0, n, k, hd, hn, hk => by
    obtain ⟨k, rfl⟩ : ∃ m, k = m + 1 := ⟨k - 1, by omega⟩
    simp only [pentaglotlaw01_few.l0]
    rw [if_neg (by omega), List.drop_eq_nil_of_le (by omega)]
    by_cases h : (l.length : Int) ≤ 70
    · rw [if_pos h, decide_eq_true h]; rfl
    · rw [if_neg h, decide_eq_false h]; rfl
  | d + 1, n, k, hd, hn, hk => by
    obtain ⟨k, rfl⟩ : ∃ m, k = m + 1 := ⟨k - 1, by omega⟩
    have hlt : n < ws.length := by omega
    have hrd : rdOf ByteArray.empty ws (n : Int) = ws[n] := by simp [rdOf, List.getD, List.getElem?_eq_getElem hlt]
    simp only [pentaglotlaw01_few.l0]
    rw [if_pos (by omega), if_pos (by omega), hrd, List.drop_eq_getElem_cons hlt, List.all_cons]
    by_cases e : (ws[n].size : Int) > 200
    · rw [if_pos e, decide_eq_false (by omega)]; rfl
    · rw [if_neg e, decide_eq_true (show (ws[n].size : Int) ≤ 200 by omega), wrap_id (by omega) (by omega), show (n : Int) + 1 = ((n + 1 : Nat) : Int) by omega, few_loop l ws hw d (n + 1) k (by omega) (by omega) (by omega), Bool.true_and]
theorem few_at {k : Nat} (l : List S42) (ws : List ByteArray) (hw : (ws.length : Int) ≤ 9223372036854775806) (hk : ws.length < k) : pentaglotlaw01_few.f k l ws = some (fewB l ws) := by
  unfold pentaglotlaw01_few.f fewB
  have := few_loop l ws hw ws.length 0 k (by omega) (by omega) (by omega)
  rw [show ((0 : Nat) : Int) = 0 by rfl] at this
  rw [this]; rfl
theorem few_len {l : List S42} {ws : List ByteArray} (h : fewB l ws = true) : (l.length : Int) ≤ 70 := by
  unfold fewB at h
  simp only [Bool.and_eq_true, decide_eq_true_eq] at h
  exact h.2.1
theorem few_size {l : List S42} {ws : List ByteArray} (h : fewB l ws = true) {w : ByteArray} (hw : w ∈ ws) : w.size ≤ 200 := by
  unfold fewB at h
  simp only [Bool.and_eq_true, decide_eq_true_eq, List.all_eq_true] at h
  have := h.1 w hw
  omega
end Go.Proofs.YtpgeimihmkampaaDoor.Pure
/- What the alphabet's functions compute, in plain lists: valid UTF-8, words, the comparison and its order. No program and no memory stands here. -/
set_option linter.unusedVariables false
set_option linter.unusedSimpArgs false
namespace Go.Proofs.YtpgeimihmkampaaDoor.Pure
open Go.RowKit Go.Lib Go.Proofs.YtpgeimihmkampaaDoor.C Go.Proofs.YtpgeimihmkampaaDoorW.PrintWords Go.Proofs.YtpgeimihmkampaaDoor.Utf

theorem awake100 : pentaglotlaw01_awake.f 100 = some true := by decide +kernel
theorem awake_at {k : Nat} (hk : 100 ≤ k) : pentaglotlaw01_awake.f k = some true := at_rounds pentaglotlaw01_awake.mono hk awake100

/-! ### valid UTF-8 -/
theorem ex_take (s : ByteArray) (pos : Nat) : (s.extract pos (pos + 3)).data.toList = (s.data.toList.drop pos).take 3 := by
  rw [extract_data, Nat.add_sub_cancel_left]
theorem toList_data (s : ByteArray) : s.toList = s.data.toList := Go.ByteArray.toList_eq s
theorem fffd : encodeRune 65533 = [239, 191, 189] := by decide
theorem utf8_loop (s : ByteArray) : ∀ (d pos k : Nat), s.size - pos ≤ d → pos ≤ s.size → d < k → pentaglotref01_UTF8.l0 k s pos = some (validD (s.data.toList.drop pos))
  | d, pos, k, hd, hp, hk => by
    obtain ⟨k, rfl⟩ : ∃ m, k = m + 1 := ⟨k - 1, by omega⟩
    simp only [pentaglotref01_UTF8.l0]
    by_cases c : pos < s.size
    · obtain ⟨d, rfl⟩ : ∃ m, d = m + 1 := ⟨d - 1, by omega⟩
      rw [if_pos c, decode_drop]
      generalize hl : s.data.toList.drop pos = l
      have hlen : l.length = s.size - pos := by rw [← hl, List.length_drop, size_eq]
      have hne : l ≠ [] := by intro e; rw [e] at hlen; simp at hlen; omega
      have hw := decodeL_width l
      have hw2 := decodeL_le l hne
      have ih : pentaglotref01_UTF8.l0 k s (pos + (decodeL l).2) = some (validD (l.drop (decodeL l).2)) := by
        rw [utf8_loop s d (pos + (decodeL l).2) k (by omega) (by omega) (by omega), ← hl, List.drop_drop]
      rw [vstep l hne]
      by_cases e : ((decodeL l).1 : Int) = 65533
      · rw [if_pos e]
        have e2 : (decodeL l).1 = 65533 := by omega
        by_cases hb : bad l
        · rw [if_pos hb]
          have hn : ¬ (l.take 3 = [239, 191, 189]) := by
            intro h3
            have h4 : l = encodeRune 65533 ++ l.drop 3 := by rw [fffd, ← h3, List.take_append_drop]
            exact not_bad 65533 (by decide) (l.drop 3) (h4 ▸ hb)
          by_cases c2 : (s.size : Int) < (pos : Int) + 3
          · rw [if_pos c2]
          · rw [if_neg c2, if_neg]
            rw [toList_data, ex_take, hl]
            exact hn
        · rw [if_neg hb]
          have h5 := encode_decode l hne hb
          rw [e, fffd] at h5
          have h6 := congrArg List.length h5
          rw [List.length_take] at h6
          simp at h6
          have h7 : (decodeL l).2 = 3 := by omega
          rw [if_neg (by omega), if_pos, ih]
          rw [toList_data, ex_take, hl, ← h7, ← h5]
      · rw [if_neg e, if_neg (fun h => e (by rw [h.1]; rfl)), ih]
    · rw [if_neg c, List.drop_eq_nil_of_le (by rw [← size_eq]; omega)]
      rfl
theorem UTF8_at {k : Nat} (s : ByteArray) (hs : s.size ≤ 1000000) (hk : 1000000 < k) : pentaglotref01_UTF8.f k s = some (validD s.data.toList) := by
  unfold pentaglotref01_UTF8.f
  rw [if_pos (by omega), utf8_loop s s.size 0 k (by omega) (by omega) (by omega)]
  rfl

/-! ### words -/
theorem isLetter_fi (l : List S42) (r : Int) : isLetter l r = (fi l r).isSome := rfl
theorem over_loop {k : Nat} (l : List S42) (hl : (l.length : Int) ≤ 1000) (hk : 1001 < k) : ∀ xs, refOver.l0 k l xs = some (xs.all (isLetter l))
  | [] => rfl
  | x :: xs => by
    simp only [refOver.l0]
    rw [Index_at l x hl hk]
    simp only [Option.bind_some]
    rw [List.all_cons, isLetter_fi]
    cases h : fi l x with
    | none => simp
    | some i =>
      have := fi_range h
      simp only [Option.getD_some, Option.isSome_some, Bool.true_and]
      rw [if_neg (by omega), over_loop l hl hk xs]
theorem Over_at {k : Nat} (l : List S42) (s : ByteArray) (hl : (l.length : Int) ≤ 1000) (hs : s.size ≤ 1000000) (hk : 1000000 < k) : pentaglotref01_Over.f k l s = some (validD s.data.toList && (rns s).all (isLetter l)) := by
  unfold pentaglotref01_Over.f
  rw [if_pos hs, UTF8_at s hs hk]
  simp only [Option.bind_some]
  by_cases h : validD s.data.toList = true
  · rw [if_pos h, over_loop l hl (by omega), h]; rfl
  · rw [if_neg h, Bool.eq_false_iff.mpr h]; rfl
/-- A word. -/
def wB (l : List S42) (s : ByteArray) : Bool := validD s.data.toList && ((rns s).all (isLetter l) && decide (((rns s).length : Int) ≤ 40))
theorem RIsWord_at {k : Nat} (l : List S42) (s : ByteArray) (hl : (l.length : Int) ≤ 1000) (hs : s.size ≤ 1000000) (hk : 1000000 < k) : pentaglotref01_IsWord.f k l s = some (wB l s) := by
  unfold pentaglotref01_IsWord.f wB
  rw [Over_at l s hl hs hk]
  simp only [Option.bind_some]
  rw [← Bool.and_assoc]
  by_cases h : (validD s.data.toList && (rns s).all (isLetter l)) = true
  · rw [if_pos h, if_pos (by omega), h]; rfl
  · rw [if_neg h, Bool.eq_false_iff.mpr h]; rfl
theorem okS_mk {l : List S42} {s : ByteArray} (ho : okA l = true) (hs : s.size ≤ 1000000) : okS l s = true := by simp [okS, ho, hs]
theorem AIsWord_at {l : List S42} {s : ByteArray} (ho : okA l = true) (hs : s.size ≤ 1000000) : alphabet_IsWord.f l s = some (wB l s) := by
  unfold alphabet_IsWord.f
  rw [if_pos (okS_mk ho hs)]; rfl

/-! ### the comparison -/
def cmpL : List Int → List Int → Int
  | [], [] => 0
  | [], _ :: _ => -1
  | _ :: _, [] => 1
  | x :: xs, y :: ys => if x < y then -1 else if y < x then 1 else cmpL xs ys
theorem cmpL_nil (ys : List Int) : cmpL [] ys = if 0 < ys.length then -1 else 0 := by cases ys <;> simp [cmpL]
theorem cmpInt_at (x y : Int) : cmp_Compare_int.f x y = some (if x < y then -1 else if x > y then 1 else 0) := by
  unfold cmp_Compare_int.f cmp_isNaN_int.f
  simp only [Option.bind_some, bne_self_eq_false, Bool.false_eq_true, if_false]
  split
  · rfl
  · split <;> rfl
theorem slices_loop (xs ys : List Int) (hx : (xs.length : Int) ≤ 9223372036854775806) : ∀ (d n k : Nat), xs.length - n = d → n ≤ xs.length → n ≤ ys.length → d < k →
    slices_Compare_int_int.l0 k xs ys xs (xs.length : Int) (n : Int) = some (cmpL (xs.drop n) (ys.drop n))
  | 0, n, k, hd, hn, hm, hk => by
    obtain ⟨k, rfl⟩ : ∃ m, k = m + 1 := ⟨k - 1, by omega⟩
    obtain rfl : n = xs.length := by omega
    simp only [slices_Compare_int_int.l0]
    rw [if_neg (by omega), List.drop_length, cmpL_nil, List.length_drop]
    by_cases h : (xs.length : Int) < (ys.length : Int)
    · rw [if_pos h, if_pos (by omega)]
    · rw [if_neg h, if_neg (by omega)]
  | d + 1, n, k, hd, hn, hm, hk => by
    obtain ⟨k, rfl⟩ : ∃ m, k = m + 1 := ⟨k - 1, by omega⟩
    have hlt : n < xs.length := by omega
    simp only [slices_Compare_int_int.l0]
    rw [if_pos (by omega), if_pos (by omega), if_pos (by omega), List.drop_eq_getElem_cons hlt]
    by_cases h : (n : Int) ≥ (ys.length : Int)
    · rw [if_pos h, List.drop_eq_nil_of_le (show ys.length ≤ n by omega)]; rfl
    · have hlt2 : n < ys.length := by omega
      have r1 : rd xs (n : Int) = xs[n] := by simp [rd, List.getD, List.getElem?_eq_getElem hlt]
      have r2 : rd ys (n : Int) = ys[n] := by simp [rd, List.getD, List.getElem?_eq_getElem hlt2]
      rw [if_neg h, if_pos (by omega), List.drop_eq_getElem_cons hlt2, r1, r2, cmpInt_at]
      simp only [Option.bind_some, cmpL]
      by_cases c1 : xs[n] < ys[n]
      · rw [if_pos c1, if_pos c1, if_neg (by decide)]
      · rw [if_neg c1, if_neg c1]
        by_cases c2 : xs[n] > ys[n]
        · rw [if_pos c2, if_pos c2, if_neg (by decide)]
        · rw [if_neg c2, if_neg c2, if_pos rfl, wrap_id (by omega) (by omega), show (n : Int) + 1 = ((n + 1 : Nat) : Int) by omega, slices_loop xs ys hx d (n + 1) k (by omega) (by omega) (by omega) (by omega)]
theorem weights_len (l : List S42) (s : ByteArray) : (weights l s).length ≤ s.size := by
  unfold weights
  rw [List.length_map]
  exact rns_len s
/-- The comparison of two strings. -/
def cmpS (l : List S42) (s t : ByteArray) : Int := cmpL (weights l s) (weights l t)
theorem ACompare_at {k : Nat} {l : List S42} {s t : ByteArray} (ho : okA l = true) (hs : s.size ≤ 1000000) (ht : t.size ≤ 1000000) (hk : 1000000 < k) : alphabet_Compare.f k l s t = some (cmpS l s t) := by
  unfold alphabet_Compare.f
  have := weights_len l s
  rw [if_pos (okS_mk ho hs), if_pos (okS_mk ho ht)]
  unfold slices_Compare_int_int.f
  have h := slices_loop (weights l s) (weights l t) (by omega) (weights l s).length 0 k (by omega) (by omega) (by omega) (by omega)
  rw [show ((0 : Nat) : Int) = 0 by rfl] at h
  rw [h]; rfl
theorem weight_fi (l : List S42) (r : Int) : weight l r = (fi l r).getD ((l.length : Int) + r) := rfl
theorem weight_inj {l : List S42} {r s : Int} (hr : 0 ≤ r) (hs : 0 ≤ s) (h : weight l r = weight l s) : r = s := by
  rw [weight_fi, weight_fi] at h
  cases h1 : fi l r with
  | none =>
    cases h2 : fi l s with
    | none => rw [h1, h2] at h; simp only [Option.getD_none] at h; omega
    | some j => rw [h1, h2] at h; have := fi_range h2; simp only [Option.getD_none, Option.getD_some] at h; omega
  | some i =>
    cases h2 : fi l s with
    | none => rw [h1, h2] at h; have := fi_range h1; simp only [Option.getD_none, Option.getD_some] at h; omega
    | some j =>
      rw [h1, h2] at h
      simp only [Option.getD_some] at h
      subst h
      exact fi_inj h1 h2
theorem before_at {k : Nat} (l : List S42) (x y : Int) (hl : (l.length : Int) ≤ 1000) (hx : 0 ≤ x) (hy : 0 ≤ y) (hk : 1001 < k) : pentaglotref01_before.f k l x y = some (decide (weight l x < weight l y)) := by
  obtain ⟨k, rfl⟩ : ∃ m, k = m + 1 := ⟨k - 1, by omega⟩
  unfold pentaglotref01_before.f
  rw [Index_at l x hl hk, Index_at l y hl hk]
  simp only [Option.bind_some, weight_fi, pentaglotref01_before.j0]
  have e1 : fi l x = none ∨ ∃ i, fi l x = some i := by cases fi l x <;> simp
  have e2 : fi l y = none ∨ ∃ i, fi l y = some i := by cases fi l y <;> simp
  rcases e1 with h1 | ⟨i, h1⟩
  · rcases e2 with h2 | ⟨j, h2⟩
    · simp only [h1, h2, Option.getD_none]
      rw [if_neg (by omega), if_neg (by decide), if_neg (by omega), if_neg (by omega)]
      congr 1
      rw [decide_eq_decide]
      omega
    · have := fi_range h2
      simp only [h1, h2, Option.getD_none, Option.getD_some]
      rw [if_neg (by omega), if_neg (by decide), if_neg (by omega), if_pos (by omega)]
      congr 1
      rw [decide_eq_decide]
      omega
  · have := fi_range h1
    rcases e2 with h2 | ⟨j, h2⟩
    · simp only [h1, h2, Option.getD_none, Option.getD_some]
      rw [if_pos (by omega), if_neg (by simp), if_pos (by omega)]
      congr 1
      rw [decide_eq_decide]
      omega
    · have := fi_range h2
      simp only [h1, h2, Option.getD_some]
      rw [if_pos (by omega), if_pos (by simp; omega)]
theorem rcompare_loop (l : List S42) (xs ys : List Int) (hl : (l.length : Int) ≤ 1000) (hx : (xs.length : Int) ≤ 1000000) (px : ∀ r ∈ xs, 0 ≤ r) (py : ∀ r ∈ ys, 0 ≤ r) : ∀ (d n k : Nat), xs.length - n ≤ d → n ≤ xs.length → n ≤ ys.length → 2 * d + 1010 < k →
    pentaglotref01_Compare.l0 k l xs ys (n : Int) = some (cmpL ((xs.drop n).map (weight l)) ((ys.drop n).map (weight l))) := by
  intro d
  induction d with
  | zero =>
    intro n k hd hn hm hk
    obtain ⟨k, rfl⟩ : ∃ m, k = m + 2 := ⟨k - 2, by omega⟩
    obtain rfl : n = xs.length := by omega
    simp only [pentaglotref01_Compare.l0]
    rw [if_neg (by omega)]
    simp only [pentaglotref01_Compare.j1, Bool.false_eq_true, if_false]
    rw [List.drop_length, List.map_nil, cmpL_nil, List.length_map, List.length_drop]
    by_cases h : (xs.length : Int) < (ys.length : Int)
    · rw [if_pos h, if_pos (by omega)]
    · rw [if_neg h, if_neg (by omega), if_neg (by omega)]
  | succ d ih =>
    intro n k hd hn hm hk
    obtain ⟨k, rfl⟩ : ∃ m, k = m + 2 := ⟨k - 2, by omega⟩
    simp only [pentaglotref01_Compare.l0]
    by_cases h1 : n < xs.length
    · by_cases h2 : n < ys.length
      · have r1 : rd xs (n : Int) = xs[n] := by simp [rd, List.getD, List.getElem?_eq_getElem h1]
        have r2 : rd ys (n : Int) = ys[n] := by simp [rd, List.getD, List.getElem?_eq_getElem h2]
        have p1 := px _ (List.getElem_mem h1)
        have p2 := py _ (List.getElem_mem h2)
        rw [if_pos (by omega), List.drop_eq_getElem_cons h1, List.drop_eq_getElem_cons h2, List.map_cons, List.map_cons, decide_eq_true (show (n : Int) < (ys.length : Int) by omega)]
        simp only [pentaglotref01_Compare.j1, if_true]
        rw [if_pos (by omega), if_pos (by omega), if_pos (by omega), r1, r2]
        by_cases e : xs[n] = ys[n]
        · rw [if_pos e, e, wrap_id (by omega) (by omega), show (n : Int) + 1 = ((n + 1 : Nat) : Int) by omega, ih (n + 1) k (by omega) (by omega) (by omega) (by omega)]
          simp [cmpL]
        · rw [if_neg e, before_at l _ _ hl p1 p2 (by omega)]
          simp only [Option.bind_some, cmpL]
          by_cases c : weight l xs[n] < weight l ys[n]
          · rw [if_pos (decide_eq_true c), if_pos c]
          · have : weight l xs[n] ≠ weight l ys[n] := fun x => e (weight_inj p1 p2 x)
            rw [if_neg (by simpa using c), if_neg c, if_pos (by omega)]
      · obtain rfl : n = ys.length := by omega
        rw [if_pos (by omega), decide_eq_false (by omega)]
        simp only [pentaglotref01_Compare.j1, Bool.false_eq_true, if_false]
        rw [if_neg (by omega), if_pos (by omega), List.drop_length, List.drop_eq_getElem_cons h1]
        rfl
    · obtain rfl : n = xs.length := by omega
      rw [if_neg (by omega)]
      simp only [pentaglotref01_Compare.j1, Bool.false_eq_true, if_false]
      rw [List.drop_length, List.map_nil, cmpL_nil, List.length_map, List.length_drop]
      by_cases h : (xs.length : Int) < (ys.length : Int)
      · rw [if_pos h, if_pos (by omega)]
      · rw [if_neg h, if_neg (by omega), if_neg (by omega)]
theorem valid_nonneg {r : Int} (h : validRune r = true) : 0 ≤ r := by
  have : (0 ≤ r ∧ r < 0xD800) ∨ (0xDFFF < r ∧ r ≤ 0x10FFFF) := by simpa [validRune] using h
  omega
theorem rns_valid (s : ByteArray) : ∀ r ∈ rns s, validRune r = true := by
  rw [rns_R]; exact R_valid _
theorem rns_nonneg (s : ByteArray) : ∀ r ∈ rns s, 0 ≤ r := fun r h => valid_nonneg (rns_valid s r h)
theorem RCompare_at {k : Nat} (l : List S42) (s t : ByteArray) (hl : (l.length : Int) ≤ 1000) (hs : s.size ≤ 1000000) (ht : t.size ≤ 1000000) (hk : 2001010 < k) : pentaglotref01_Compare.f k l s t = some (cmpS l s t) := by
  unfold pentaglotref01_Compare.f
  have := rns_len s
  have h := rcompare_loop l (rns s) (rns t) hl (by omega) (rns_nonneg s) (rns_nonneg t) (rns s).length 0 k (by omega) (by omega) (by omega) (by omega)
  rw [show ((0 : Nat) : Int) = 0 by rfl] at h
  rw [if_pos (by omega), if_pos (by omega), h]
  rfl
theorem cmpL_range : ∀ xs ys, cmpL xs ys = -1 ∨ cmpL xs ys = 0 ∨ cmpL xs ys = 1
  | [], [] => by simp [cmpL]
  | [], _ :: _ => by simp [cmpL]
  | _ :: _, [] => by simp [cmpL]
  | x :: xs, y :: ys => by
    have := cmpL_range xs ys
    unfold cmpL
    split
    · simp
    · split
      · simp
      · exact this
theorem cmpL_anti : ∀ xs ys, cmpL ys xs = -cmpL xs ys
  | [], [] => by simp [cmpL]
  | [], _ :: _ => by simp [cmpL]
  | _ :: _, [] => by simp [cmpL]
  | x :: xs, y :: ys => by
    have := cmpL_anti xs ys
    unfold cmpL
    by_cases a : x < y
    · have b : ¬ y < x := by omega
      simp [a, b]
    · by_cases b : y < x
      · simp [a, b]
      · simp [a, b, this]
theorem cmpL_zero : ∀ xs ys, cmpL xs ys = 0 ↔ xs = ys
  | [], [] => by simp [cmpL]
  | [], _ :: _ => by simp [cmpL]
  | _ :: _, [] => by simp [cmpL]
  | x :: xs, y :: ys => by
    have := cmpL_zero xs ys
    unfold cmpL
    by_cases a : x < y
    · rw [if_pos a]; simp; omega
    · rw [if_neg a]
      by_cases b : y < x
      · rw [if_pos b]; simp; omega
      · rw [if_neg b, this]
        obtain rfl : x = y := by omega
        simp
theorem cmpL_trans : ∀ xs ys zs, cmpL xs ys ≤ 0 → cmpL ys zs ≤ 0 → cmpL xs zs ≤ 0
  | [], _, [], _, _ => by simp [cmpL]
  | [], _, _ :: _, _, _ => by simp [cmpL]
  | _ :: _, [], _, h, _ => by simp [cmpL] at h
  | _ :: _, _ :: _, [], _, h => by simp [cmpL] at h
  | x :: xs, y :: ys, z :: zs, h1, h2 => by
    have ih := cmpL_trans xs ys zs
    unfold cmpL at h1 h2 ⊢
    by_cases a : x < y
    · by_cases b : y < z
      · rw [if_pos (by omega)]; decide
      · rw [if_neg b] at h2
        by_cases c : z < y
        · rw [if_pos c] at h2; cases (show ¬ ((1 : Int) ≤ 0) by decide) h2
        · rw [if_pos (by omega)]; decide
    · rw [if_neg a] at h1
      by_cases a2 : y < x
      · rw [if_pos a2] at h1; cases (show ¬ ((1 : Int) ≤ 0) by decide) h1
      · rw [if_neg a2] at h1
        by_cases b : y < z
        · rw [if_pos (by omega)]; decide
        · rw [if_neg b] at h2
          by_cases c : z < y
          · rw [if_pos c] at h2; cases (show ¬ ((1 : Int) ≤ 0) by decide) h2
          · rw [if_neg c] at h2
            rw [if_neg (by omega), if_neg (by omega)]
            exact ih h1 h2
theorem weights_inj {l : List S42} {s t : ByteArray} (h : weights l s = weights l t) : rns s = rns t := by
  unfold weights at h
  have : ∀ (xs ys : List Int), (∀ r ∈ xs, 0 ≤ r) → (∀ r ∈ ys, 0 ≤ r) → xs.map (weight l) = ys.map (weight l) → xs = ys := by
    intro xs
    induction xs with
    | nil => intro ys _ _ e; cases ys with | nil => rfl | cons y ys => simp at e
    | cons x xs ih =>
      intro ys px py e
      cases ys with
      | nil => simp at e
      | cons y ys =>
        simp only [List.map_cons, List.cons.injEq] at e
        rw [weight_inj (px x (by simp)) (py y (by simp)) e.1, ih ys (fun r hr => px r (by simp [hr])) (fun r hr => py r (by simp [hr])) e.2]
  exact this _ _ (rns_nonneg s) (rns_nonneg t) h
theorem rns_inj {s t : ByteArray} (hs : validD s.data.toList = true) (ht : validD t.data.toList = true) (h : rns s = rns t) : s = t := by
  rw [rns_R, rns_R] at h
  exact str_ext (R_inj hs ht h)
theorem cmpS_zero {l : List S42} {s t : ByteArray} (hs : validD s.data.toList = true) (ht : validD t.data.toList = true) : cmpS l s t = 0 ↔ s = t := by
  unfold cmpS
  rw [cmpL_zero]
  constructor
  · intro h; exact rns_inj hs ht (weights_inj h)
  · rintro rfl; rfl
theorem rns_append {s : ByteArray} (hs : validD s.data.toList = true) (t : ByteArray) : rns (s ++ t) = rns s ++ rns t := by
  rw [rns_R, rns_R, rns_R, str_append, R_append hs]
theorem valid_cat {s : ByteArray} (hs : validD s.data.toList = true) (t : ByteArray) : validD (s ++ t).data.toList = validD t.data.toList := by
  rw [str_append, valid_append hs]
end Go.Proofs.YtpgeimihmkampaaDoor.Pure
/- The laws of the alphabet, in plain lists: Valid, Index, Letters, Word, Joins, Compare, Order, Select, Partner. No program and no memory stands here. -/
set_option linter.unusedVariables false
set_option linter.unusedSimpArgs false
namespace Go.Proofs.YtpgeimihmkampaaDoor.Pure
open Go.RowKit Go.Lib Go.Proofs.YtpgeimihmkampaaDoor.C Go.Proofs.YtpgeimihmkampaaDoorW.PrintWords Go.Proofs.YtpgeimihmkampaaDoor.Utf

theorem good_of {l : List S42} (h : ∀ s ∈ l, (Lit.int .i32 s.f0).wf = true ∧ (Lit.int .u32 s.f1).wf = true) : good l = true := List.all_eq_true.2 (fun x hx => (h x hx).1)
theorem u32_wf {n : Int} (h : (Lit.int .u32 n).wf = true) : 0 ≤ n ∧ n < 4294967296 := by
  have a : IntKind.u32.min = 0 := by decide
  have b : IntKind.u32.max = 4294967295 := by decide
  simp only [Lit.wf, a, b] at h
  simp at h
  omega
theorem u32_lo {n : Int} (h : (Lit.int .u32 n).wf = true) : 0 ≤ n := (u32_wf h).1
theorem u32_hi {n : Int} (h : (Lit.int .u32 n).wf = true) : n < 4294967296 := (u32_wf h).2
theorem u32_of {l : List S42} (h : ∀ s ∈ l, (Lit.int .i32 s.f0).wf = true ∧ (Lit.int .u32 s.f1).wf = true) : ∀ s ∈ l, 0 ≤ s.f1 ∧ s.f1 < 4294967296 := fun s hs => u32_wf (h s hs).2
theorem AlphabetValid (l : List S42) (hg : good l = true) : ∃ k, pentaglotlaw01_AlphabetValid.f k l = some true := by
  obtain ⟨K, hK⟩ : ∃ K : Nat, K = 3000000 := ⟨_, rfl⟩
  refine ⟨K + 1, ?_⟩
  unfold pentaglotlaw01_AlphabetValid.f
  rw [awake_at (by omega)]
  simp only [Option.bind_some, if_true]
  rw [few_at l [] (by simp) (by simp)]
  simp only [Option.bind_some, pentaglotlaw01_AlphabetValid.j0]
  by_cases F : fewB l [] = true
  · have hl := few_len F
    rw [F, if_neg (by decide), Valid_at l hg (by omega)]
    simp only [Option.bind_some]
    rw [RValid_at l (by omega) (by omega)]
    simp
  · rw [Bool.eq_false_iff.mpr F, if_pos (by decide), awake_at (by omega)]
    rfl
theorem AlphabetIndex (l : List S42) (r : Int) (hg : good l = true) (hr : (Lit.int .i32 r).wf = true) : ∃ k, pentaglotlaw01_AlphabetIndex.f k l r = some true := by
  obtain ⟨K, hK⟩ : ∃ K : Nat, K = 3000000 := ⟨_, rfl⟩
  refine ⟨K + 1, ?_⟩
  unfold pentaglotlaw01_AlphabetIndex.f
  rw [awake_at (by omega)]
  simp only [Option.bind_some, if_true]
  rw [few_at l [] (by simp) (by simp)]
  simp only [Option.bind_some, pentaglotlaw01_AlphabetIndex.j0]
  by_cases F : fewB l [] = true
  · have hl := few_len F
    have ho := okA_mk hg (show (l.length : Int) ≤ 1000 by omega)
    rw [F, if_neg (by decide), AIndex_at ho hr]
    simp only [Option.bind_some]
    rw [Index_at l r (by omega) (by omega)]
    simp only [Option.bind_some, if_true]
    rw [AClasses_at ho hr]
    simp only [Option.bind_some]
    rw [Classes_at l r (by omega) (by omega)]
    simp
  · rw [Bool.eq_false_iff.mpr F, if_pos (by decide), awake_at (by omega)]
    rfl
theorem good_rd {l : List S42} (hg : good l = true) {n : Nat} (h : n < l.length) : (Lit.int .i32 (rd_T42 l (n : Int)).f0).wf = true := by
  have := List.all_eq_true.1 hg _ (List.getElem_mem h)
  rwa [rd_get h]
theorem AlphabetLetters (l : List S42) (i : Int) (hg : good l = true) : ∃ k, pentaglotlaw01_AlphabetLetters.f k l i = some true := by
  obtain ⟨K, hK⟩ : ∃ K : Nat, K = 3000000 := ⟨_, rfl⟩
  refine ⟨K + 1, ?_⟩
  unfold pentaglotlaw01_AlphabetLetters.f
  rw [awake_at (by omega)]
  simp only [Option.bind_some, if_true]
  have out : pentaglotlaw01_AlphabetLetters.j0 (K + 1) l i true = some true := by
    simp only [pentaglotlaw01_AlphabetLetters.j0]
    rw [if_pos trivial, awake_at (by omega)]
    rfl
  by_cases h0 : i < 0
  · rw [if_pos h0, out]
  · rw [if_neg h0]
    by_cases h1 : i ≥ (l.length : Int)
    · rw [if_pos h1, out]
    · rw [if_neg h1, Valid_at l hg (by omega)]
      simp only [Option.bind_some]
      by_cases V : vB l = true
      · have v := (vB_iff l).1 V
        have hl := v.l64
        have ho := okA_mk hg (show (l.length : Int) ≤ 1000 by omega)
        obtain ⟨n, rfl, hn⟩ := rd_int (l := l) (i := i) (by omega) (by omega)
        rw [V]
        simp only [Bool.not_true, pentaglotlaw01_AlphabetLetters.j0]
        rw [if_neg (by decide), if_pos (by omega), if_pos (by omega), AIndex_at ho (good_rd hg hn)]
        simp only [Option.bind_some]
        rw [v.fst n hn, Option.getD_some, if_pos rfl, AClasses_at ho (good_rd hg hn)]
        simp only [Option.bind_some]
        unfold cls
        rw [v.fst n hn]
        simp
      · rw [Bool.eq_false_iff.mpr V]
        exact out
theorem AlphabetWord (l : List S42) (s : ByteArray) (hg : good l = true) : ∃ k, pentaglotlaw01_AlphabetWord.f k l s = some true := by
  obtain ⟨K, hK⟩ : ∃ K : Nat, K = 3000000 := ⟨_, rfl⟩
  refine ⟨K + 1, ?_⟩
  unfold pentaglotlaw01_AlphabetWord.f
  rw [awake_at (by omega)]
  simp only [Option.bind_some, if_true]
  rw [few_at l [s] (by simp) (by simp; omega)]
  simp only [Option.bind_some, pentaglotlaw01_AlphabetWord.j0]
  by_cases F : fewB l [s] = true
  · have hl := few_len F
    have hs := few_size F (w := s) (by simp)
    have ho := okA_mk hg (show (l.length : Int) ≤ 1000 by omega)
    rw [F, if_neg (by decide), AIsWord_at ho (by omega)]
    simp only [Option.bind_some]
    rw [RIsWord_at l s (by omega) (by omega) (by omega)]
    simp
  · rw [Bool.eq_false_iff.mpr F, if_pos (by decide), awake_at (by omega)]
    rfl
theorem AlphabetCompare (l : List S42) (s t : ByteArray) (hg : good l = true) : ∃ k, pentaglotlaw01_AlphabetCompare.f k l s t = some true := by
  obtain ⟨K, hK⟩ : ∃ K : Nat, K = 3000000 := ⟨_, rfl⟩
  refine ⟨K + 1, ?_⟩
  unfold pentaglotlaw01_AlphabetCompare.f
  rw [awake_at (by omega)]
  simp only [Option.bind_some, if_true]
  rw [few_at l [s, t] (by simp) (by simp; omega)]
  simp only [Option.bind_some, pentaglotlaw01_AlphabetCompare.j0]
  by_cases F : fewB l [s, t] = true
  · have hl := few_len F
    have hs := few_size F (w := s) (by simp)
    have ht := few_size F (w := t) (by simp)
    have ho := okA_mk hg (show (l.length : Int) ≤ 1000 by omega)
    rw [F, if_neg (by decide), ACompare_at ho (by omega) (by omega) (by omega)]
    simp only [Option.bind_some]
    rw [RCompare_at l s t (by omega) (by omega) (by omega) (by omega)]
    simp
  · rw [Bool.eq_false_iff.mpr F, if_pos (by decide), awake_at (by omega)]
    rfl
theorem wB_append (l : List S42) {s t : ByteArray} (hs : validD s.data.toList = true) (ht : validD t.data.toList = true) :
    wB l (s ++ t) = (wB l s && (wB l t && decide (((rns s).length : Int) + (rns t).length ≤ 40))) := by
  unfold wB
  rw [valid_cat hs, hs, ht, rns_append hs, List.all_append, List.length_append]
  rw [Bool.eq_iff_iff]
  simp only [Bool.true_and, Bool.and_eq_true, decide_eq_true_eq]
  constructor
  · rintro ⟨⟨a, b⟩, c⟩
    exact ⟨⟨a, by omega⟩, ⟨b, by omega⟩, by omega⟩
  · rintro ⟨⟨a, _⟩, ⟨b, _⟩, c⟩
    exact ⟨⟨a, b⟩, by omega⟩
theorem AlphabetJoins (l : List S42) (s t : ByteArray) (hg : good l = true) : ∃ k, pentaglotlaw01_AlphabetJoins.f k l s t = some true := by
  obtain ⟨K, hK⟩ : ∃ K : Nat, K = 3000000 := ⟨_, rfl⟩
  refine ⟨K + 1, ?_⟩
  unfold pentaglotlaw01_AlphabetJoins.f
  rw [awake_at (by omega)]
  simp only [Option.bind_some, if_true]
  have out : pentaglotlaw01_AlphabetJoins.j0 (K + 1) l s t true = some true := by
    simp only [pentaglotlaw01_AlphabetJoins.j0]
    rw [if_pos trivial, awake_at (by omega)]
    rfl
  rw [few_at l [s, t] (by simp) (by simp; omega)]
  simp only [Option.bind_some]
  by_cases F : fewB l [s, t] = true
  · have hl := few_len F
    have hs := few_size F (w := s) (by simp)
    have ht := few_size F (w := t) (by simp)
    have ho := okA_mk hg (show (l.length : Int) ≤ 1000 by omega)
    rw [if_pos F, UTF8_at s (by omega) (by omega)]
    simp only [Option.bind_some]
    by_cases U : validD s.data.toList = true
    · rw [if_pos U, UTF8_at t (by omega) (by omega)]
      simp only [Option.bind_some]
      by_cases V : validD t.data.toList = true
      · rw [V]
        simp only [Bool.not_true, pentaglotlaw01_AlphabetJoins.j0]
        have l1 := rns_len s
        have l2 := rns_len t
        have hc : (s ++ t).size ≤ 1000000 := by rw [ByteArray.size_append]; omega
        rw [if_neg (by decide), AIsWord_at ho (show s.size ≤ 1000000 by omega), AIsWord_at ho (show t.size ≤ 1000000 by omega), AIsWord_at ho hc, wB_append l U V]
        simp only [Option.bind_some]
        by_cases W : wB l s = true
        · rw [if_pos W]
          by_cases W2 : wB l t = true
          · rw [if_pos W2, if_pos (by omega), if_pos (by omega), if_pos (by omega), W, W2, wrap_id (by omega) (by omega)]
            simp
          · rw [if_neg W2, if_pos (by omega), W, Bool.eq_false_iff.mpr W2]
            simp
        · rw [if_neg W, if_pos (by omega), Bool.eq_false_iff.mpr W]
          simp
      · rw [Bool.eq_false_iff.mpr V]
        exact out
    · rw [if_neg U, out]
  · rw [if_neg F, out]
theorem str_beq (s t : ByteArray) : (s.toList == t.toList) = decide (s = t) := by
  rw [Bool.eq_iff_iff, beq_iff_eq, decide_eq_true_iff, toList_data, toList_data]
  exact ⟨str_ext, fun h => by rw [h]⟩
theorem AlphabetOrder (l : List S42) (s t u : ByteArray) (hg : good l = true) : ∃ k, pentaglotlaw01_AlphabetOrder.f k l s t u = some true := by
  obtain ⟨K, hK⟩ : ∃ K : Nat, K = 3000000 := ⟨_, rfl⟩
  refine ⟨K + 1, ?_⟩
  unfold pentaglotlaw01_AlphabetOrder.f
  rw [awake_at (by omega)]
  simp only [Option.bind_some, if_true]
  have out : pentaglotlaw01_AlphabetOrder.j0 (K + 1) l s t u true = some true := by
    simp only [pentaglotlaw01_AlphabetOrder.j0]
    rw [if_pos trivial, awake_at (by omega)]
    rfl
  rw [few_at l [s, t, u] (by simp) (by simp; omega)]
  simp only [Option.bind_some]
  by_cases F : fewB l [s, t, u] = true
  · have hl := few_len F
    have hs := few_size F (w := s) (by simp)
    have ht := few_size F (w := t) (by simp)
    have hu := few_size F (w := u) (by simp)
    have ho := okA_mk hg (show (l.length : Int) ≤ 1000 by omega)
    rw [if_pos F, UTF8_at s (by omega) (by omega)]
    simp only [Option.bind_some]
    by_cases U : validD s.data.toList = true
    · rw [if_pos U, UTF8_at t (by omega) (by omega)]
      simp only [Option.bind_some]
      by_cases V : validD t.data.toList = true
      · rw [V]
        simp only [Bool.not_true, pentaglotlaw01_AlphabetOrder.j0]
        rw [if_neg (by decide), ACompare_at ho (show s.size ≤ 1000000 by omega) (show t.size ≤ 1000000 by omega) (by omega), ACompare_at ho (show t.size ≤ 1000000 by omega) (show u.size ≤ 1000000 by omega) (by omega), ACompare_at ho (show t.size ≤ 1000000 by omega) (show s.size ≤ 1000000 by omega) (by omega)]
        simp only [Option.bind_some]
        have hr := cmpL_range (weights l s) (weights l t)
        have ha : cmpS l t s = -cmpS l s t := cmpL_anti _ _
        have hz := cmpS_zero (l := l) U V
        have htr := cmpL_trans (weights l s) (weights l t) (weights l u)
        have hcu : cmpS l s u = cmpL (weights l s) (weights l u) := rfl
        have hct : cmpS l s t = cmpL (weights l s) (weights l t) := rfl
        have htu : cmpS l t u = cmpL (weights l t) (weights l u) := rfl
        rw [← hct] at hr htr
        rw [← htu, ← hcu] at htr
        rw [ha, wrap_id (by omega) (by omega), if_pos rfl, str_beq]
        have hq : ((cmpS l s t == 0) != decide (s = t)) = false := by
          rw [bne_eq_false_iff_eq, Bool.eq_iff_iff, beq_iff_eq, decide_eq_true_iff]
          exact hz
        rw [hq, if_neg (by decide), if_neg (by omega), if_neg (by omega)]
        by_cases a : cmpS l s t > 0
        · rw [if_pos a]
        · rw [if_neg a]
          by_cases b : cmpS l t u > 0
          · rw [if_pos b]
          · rw [if_neg b, ACompare_at ho (show s.size ≤ 1000000 by omega) (show u.size ≤ 1000000 by omega) (by omega)]
            simp only [Option.bind_some]
            rw [decide_eq_true (htr (by omega) (by omega))]
      · rw [Bool.eq_false_iff.mpr V]
        exact out
    · rw [if_neg U, out]
  · rw [if_neg F, out]

/-! ### Select -/
def sel (l : List S42) (m : Int) : List Int := (l.filter (fun x => Go.bits .and .u32 x.f1 m == m)).map (fun x => x.f0)
theorem sel_cons (x : S42) (l : List S42) (m : Int) : sel (x :: l) m = if Go.bits .and .u32 x.f1 m = m then x.f0 :: sel l m else sel l m := by
  unfold sel
  rw [List.filter_cons]
  by_cases h : Go.bits .and .u32 x.f1 m = m
  · rw [if_pos (by simp [h]), if_pos h]; rfl
  · rw [if_neg (by simp [h]), if_neg h]
theorem select_loop (l : List S42) (m : Int) (hl : (l.length : Int) ≤ 1000) : ∀ (d n k : Nat) (acc : List Int), l.length - n = d → n ≤ l.length → acc.length ≤ n → d < k →
    alphabet_Select.l0 k m acc l (l.length : Int) (n : Int) = some (acc ++ sel (l.drop n) m)
  | 0, n, k, acc, hd, hn, ha, hk => by
    obtain ⟨k, rfl⟩ : ∃ m, k = m + 1 := ⟨k - 1, by omega⟩
    simp only [alphabet_Select.l0]
    rw [if_neg (by omega), List.drop_eq_nil_of_le (by omega)]
    simp [sel]
  | d + 1, n, k, acc, hd, hn, ha, hk => by
    obtain ⟨k, rfl⟩ : ∃ m, k = m + 1 := ⟨k - 1, by omega⟩
    have hlt : n < l.length := by omega
    simp only [alphabet_Select.l0]
    rw [if_pos (by omega), if_pos (by omega), if_pos (by omega), rd_get hlt, List.drop_eq_getElem_cons hlt, sel_cons, wrap_id (by omega) (by omega), show (n : Int) + 1 = ((n + 1 : Nat) : Int) by omega]
    by_cases e : Go.bits .and .u32 l[n].f1 m = m
    · rw [if_pos e, if_pos e, if_pos (by omega), select_loop l m hl d (n + 1) k _ (by omega) (by omega) (by simp; omega) (by omega)]
      simp
    · rw [if_neg e, if_neg e, select_loop l m hl d (n + 1) k _ (by omega) (by omega) (by omega) (by omega)]
theorem rselect_loop (l : List S42) (m : Int) (hl : (l.length : Int) ≤ 1000) : ∀ (d n k : Nat) (acc : List Int), l.length - n = d → n ≤ l.length → acc.length ≤ n → d < k →
    pentaglotref01_Select.l0 k m acc l (l.length : Int) (n : Int) = some (acc ++ sel (l.drop n) m)
  | 0, n, k, acc, hd, hn, ha, hk => by
    obtain ⟨k, rfl⟩ : ∃ m, k = m + 1 := ⟨k - 1, by omega⟩
    simp only [pentaglotref01_Select.l0]
    rw [if_neg (by omega), List.drop_eq_nil_of_le (by omega)]
    simp [sel]
  | d + 1, n, k, acc, hd, hn, ha, hk => by
    obtain ⟨k, rfl⟩ : ∃ m, k = m + 1 := ⟨k - 1, by omega⟩
    have hlt : n < l.length := by omega
    simp only [pentaglotref01_Select.l0]
    rw [if_pos (by omega), if_pos (by omega), if_pos (by omega), rd_get hlt, List.drop_eq_getElem_cons hlt, sel_cons, wrap_id (by omega) (by omega), show (n : Int) + 1 = ((n + 1 : Nat) : Int) by omega]
    simp only [pentaglotref01_Has.f, Option.bind_some]
    by_cases e : Go.bits .and .u32 l[n].f1 m = m
    · rw [if_pos (by simp [e]), if_pos e, if_pos (by omega), rselect_loop l m hl d (n + 1) k _ (by omega) (by omega) (by simp; omega) (by omega)]
      simp
    · rw [if_neg (by simp [e]), if_neg e, rselect_loop l m hl d (n + 1) k _ (by omega) (by omega) (by omega) (by omega)]
theorem AlphabetSelect (l : List S42) (m : Int) (hg : good l = true) : ∃ k, pentaglotlaw01_AlphabetSelect.f k l m = some true := by
  obtain ⟨K, hK⟩ : ∃ K : Nat, K = 3000000 := ⟨_, rfl⟩
  refine ⟨K + 1, ?_⟩
  unfold pentaglotlaw01_AlphabetSelect.f
  rw [awake_at (by omega)]
  simp only [Option.bind_some, if_true]
  rw [few_at l [] (by simp) (by simp)]
  simp only [Option.bind_some, pentaglotlaw01_AlphabetSelect.j0]
  by_cases F : fewB l [] = true
  · have hl := few_len F
    have h1 := select_loop l m (by omega) l.length 0 K [] (by omega) (by omega) (by simp) (by omega)
    have h2 := rselect_loop l m (by omega) l.length 0 K [] (by omega) (by omega) (by simp) (by omega)
    rw [show ((0 : Nat) : Int) = 0 by rfl] at h1 h2
    rw [F, if_neg (by decide)]
    unfold alphabet_Select.f pentaglotref01_Select.f
    rw [h1, h2]
    simp only [Option.bind_some, pentaglotref01_Runes.f, if_true]
    simp
  · rw [Bool.eq_false_iff.mpr F, if_pos (by decide), awake_at (by omega)]
    rfl

/-! ### Partner -/
/-- The first letter with these classes. -/
def byCls (w : Int) : List S42 → Int × Bool
  | [] => (0, false)
  | x :: xs => if x.f1 = w then (x.f0, true) else byCls w xs
theorem partner_loop (l : List S42) (w : Int) (hl : (l.length : Int) ≤ 1000) : ∀ (d n k : Nat), l.length - n = d → n ≤ l.length → d < k →
    alphabet_Partner.l0 k l w (n : Int) = some (byCls w (l.drop n))
  | 0, n, k, hd, hn, hk => by
    obtain ⟨k, rfl⟩ : ∃ m, k = m + 1 := ⟨k - 1, by omega⟩
    simp only [alphabet_Partner.l0]
    rw [if_neg (by omega), List.drop_eq_nil_of_le (by omega)]
    rfl
  | d + 1, n, k, hd, hn, hk => by
    obtain ⟨k, rfl⟩ : ∃ m, k = m + 1 := ⟨k - 1, by omega⟩
    have hlt : n < l.length := by omega
    simp only [alphabet_Partner.l0]
    rw [if_pos (by omega), rd_get hlt, List.drop_eq_getElem_cons hlt]
    simp only [byCls]
    by_cases e : l[n].f1 = w
    · rw [if_pos e, if_pos e]
    · rw [if_neg e, if_neg e, show (n : Int) + 1 = ((n + 1 : Nat) : Int) by omega, partner_loop l w hl d (n + 1) k (by omega) (by omega) (by omega)]
/-- The partner of a rune. -/
def prt (l : List S42) (r t : Int) : Int × Bool := (fi l r).elim (0, false) (fun i => byCls (Go.bits .xor .u32 (rd_T42 l i).f1 t) l)
theorem APartner_at {k : Nat} {l : List S42} {r t : Int} (ho : okA l = true) (hr : (Lit.int .i32 r).wf = true) (hk : 1001 < k) : alphabet_Partner.f k l r t = some (prt l r t) := by
  unfold alphabet_Partner.f prt
  rw [if_pos ho, if_pos hr]
  have hl := (okA_at ho).2
  have e : firstIn l l.length r = fi l r := rfl
  rw [e]
  cases h : fi l r with
  | none => rfl
  | some i =>
    have := partner_loop l (Go.bits .xor .u32 (rd_T42 l i).f1 t) hl l.length 0 k (by omega) (by omega) (by omega)
    rw [show ((0 : Nat) : Int) = 0 by rfl] at this
    exact this
theorem rpartner_loop (l : List S42) (i t : Int) (hl : (l.length : Int) ≤ 1000) (h0 : 0 ≤ i) (h1 : i < (l.length : Int)) : ∀ (d n k : Nat), l.length - n = d → n ≤ l.length → d < k →
    pentaglotref01_Partner.l0 k l t i l (l.length : Int) (n : Int) = some (byCls (Go.bits .xor .u32 (rd_T42 l i).f1 t) (l.drop n))
  | 0, n, k, hd, hn, hk => by
    obtain ⟨k, rfl⟩ : ∃ m, k = m + 1 := ⟨k - 1, by omega⟩
    simp only [pentaglotref01_Partner.l0]
    rw [if_neg (by omega), List.drop_eq_nil_of_le (by omega)]
    rfl
  | d + 1, n, k, hd, hn, hk => by
    obtain ⟨k, rfl⟩ : ∃ m, k = m + 1 := ⟨k - 1, by omega⟩
    have hlt : n < l.length := by omega
    simp only [pentaglotref01_Partner.l0]
    rw [if_pos (by omega), if_pos (by omega), if_pos (by omega), if_pos h0, if_pos h1, rd_get hlt, List.drop_eq_getElem_cons hlt]
    simp only [byCls]
    by_cases e : l[n].f1 = Go.bits .xor .u32 (rd_T42 l i).f1 t
    · rw [if_pos e, if_pos e]
    · rw [if_neg e, if_neg e, wrap_id (by omega) (by omega), show (n : Int) + 1 = ((n + 1 : Nat) : Int) by omega, rpartner_loop l i t hl h0 h1 d (n + 1) k (by omega) (by omega) (by omega)]
theorem RPartner_at {k : Nat} (l : List S42) (r t : Int) (hl : (l.length : Int) ≤ 1000) (hk : 1001 < k) : pentaglotref01_Partner.f k l r t = some (prt l r t) := by
  unfold pentaglotref01_Partner.f prt
  rw [Index_at l r hl hk]
  simp only [Option.bind_some]
  cases h : fi l r with
  | none => rfl
  | some i =>
    obtain ⟨h0, h1⟩ := fi_range h
    have := rpartner_loop l i t hl h0 h1 l.length 0 k (by omega) (by omega) (by omega)
    rw [show ((0 : Nat) : Int) = 0 by rfl] at this
    simp only [Option.getD_some, Option.elim_some]
    rw [if_neg (by omega), this]
    rfl
theorem byCls_found (w : Int) : ∀ l : List S42, (byCls w l).2 = true → ∃ x, x ∈ l ∧ x.f0 = (byCls w l).1 ∧ x.f1 = w
  | [], h => by cases h
  | x :: xs, h => by
    simp only [byCls] at h ⊢
    by_cases e : x.f1 = w
    · rw [if_pos e]; exact ⟨x, by simp, rfl, e⟩
    · rw [if_neg e] at h ⊢
      obtain ⟨y, a, b, c⟩ := byCls_found w xs h
      exact ⟨y, by simp [a], b, c⟩
theorem byCls_has (w : Int) : ∀ l : List S42, (∃ x, x ∈ l ∧ x.f1 = w) → (byCls w l).2 = true
  | [], h => by obtain ⟨x, hx, _⟩ := h; simp at hx
  | x :: xs, h => by
    simp only [byCls]
    by_cases e : x.f1 = w
    · rw [if_pos e]
    · rw [if_neg e]
      obtain ⟨y, hy, hw⟩ := h
      rcases List.mem_cons.1 hy with rfl | hy
      · exact absurd hw e
      · exact byCls_has w xs ⟨y, hy, hw⟩
/-- Of a valid alphabet: a letter's rune has that letter's classes. -/
theorem cls_mem {l : List S42} (v : Val l) {x : S42} (hx : x ∈ l) : ∃ i, fi l x.f0 = some i ∧ rd_T42 l i = x := by
  obtain ⟨n, hn, rfl⟩ := List.getElem_of_mem hx
  have := v.fst n hn
  rw [rd_get hn] at this
  exact ⟨n, this, rd_get hn⟩
theorem xor_back {a t : Int} (h1 : 0 ≤ a) (h2 : a < 4294967296) (h3 : 0 ≤ t) (h4 : t < 4294967296) : Go.bits .xor .u32 (Go.bits .xor .u32 a t) t = a := by
  have e := u32_xor a t h1 h2 h3 h4
  have hx : a.toNat ^^^ t.toNat < 2 ^ 32 := Nat.xor_lt_two_pow (by omega) (by omega)
  rw [e, u32_xor _ t (by omega) (by omega) h3 h4, Int.toNat_natCast, Nat.xor_assoc, Nat.xor_self, Nat.xor_zero]
  omega
theorem AlphabetPartner (l : List S42) (r t : Int) (hg : good l = true) (hu : ∀ x ∈ l, 0 ≤ x.f1 ∧ x.f1 < 4294967296) (hr : (Lit.int .i32 r).wf = true) (h0 : 0 ≤ t) (h1 : t < 4294967296) : ∃ k, pentaglotlaw01_AlphabetPartner.f k l r t = some true := by
  obtain ⟨K, hK⟩ : ∃ K : Nat, K = 3000000 := ⟨_, rfl⟩
  refine ⟨K + 3, ?_⟩
  unfold pentaglotlaw01_AlphabetPartner.f
  rw [awake_at (by omega)]
  simp only [Option.bind_some, if_true]
  rw [few_at l [] (by simp) (by simp)]
  simp only [Option.bind_some, pentaglotlaw01_AlphabetPartner.j0]
  by_cases F : fewB l [] = true
  · have hl := few_len F
    have ho := okA_mk hg (show (l.length : Int) ≤ 1000 by omega)
    rw [F, if_neg (by decide), APartner_at ho hr (by omega)]
    simp only [Option.bind_some]
    rw [RPartner_at l r t (by omega) (by omega)]
    simp only [Option.bind_some, if_true, bne_self_eq_false, pentaglotlaw01_AlphabetPartner.j1]
    rw [if_neg (by decide)]
    by_cases P : (prt l r t).2 = true
    · rw [if_pos P, RValid_at l (by omega) (by omega)]
      simp only [Option.bind_some, pentaglotlaw01_AlphabetPartner.j2]
      by_cases V : vB l = true
      · have v := (vB_iff l).1 V
        rw [V, if_neg (by decide)]
        have hfi : ∃ i, fi l r = some i := by
          unfold prt at P
          cases h : fi l r with
          | none => rw [h] at P; cases P
          | some i => exact ⟨i, rfl⟩
        obtain ⟨i, hi⟩ := hfi
        obtain ⟨n, rfl, hn⟩ := fi_some hi
        have hP : prt l r t = byCls (Go.bits .xor .u32 (rd_T42 l (n : Int)).f1 t) l := by unfold prt; rw [hi]; rfl
        rw [hP] at P ⊢
        obtain ⟨y, hy, e1, e2⟩ := byCls_found _ l P
        rw [← e1]
        have hyw : (Lit.int .i32 y.f0).wf = true := List.all_eq_true.1 hg y hy
        have hrn : rd_T42 l (n : Int) ∈ l := by rw [rd_get hn.1]; exact List.getElem_mem hn.1
        have hun := hu _ hrn
        obtain ⟨j, hj, ej⟩ := cls_mem v hy
        rw [APartner_at ho hyw (by omega)]
        simp only [Option.bind_some]
        have hQ : prt l y.f0 t = byCls (rd_T42 l (n : Int)).f1 l := by
          unfold prt
          rw [hj, Option.elim_some, ej, e2, xor_back hun.1 hun.2 h0 h1]
        have hQ2 := byCls_has (rd_T42 l (n : Int)).f1 l ⟨_, hrn, rfl⟩
        rw [hQ, if_pos hQ2]
        obtain ⟨z, hz, z1, z2⟩ := byCls_found _ l hQ2
        rw [← z1, AClasses_at ho (List.all_eq_true.1 hg z hz), AClasses_at ho hr]
        simp only [Option.bind_some]
        obtain ⟨q, hq, eq⟩ := cls_mem v hz
        unfold cls
        rw [hq, hi, Option.elim_some, Option.elim_some, eq, z2]
        simp
      · rw [Bool.eq_false_iff.mpr V]
        rfl
    · rw [if_neg P]
      simp only [pentaglotlaw01_AlphabetPartner.j2, if_true]
  · rw [Bool.eq_false_iff.mpr F, if_pos (by decide), awake_at (by omega)]
    rfl
end Go.Proofs.YtpgeimihmkampaaDoor.Pure
/- The laws of the alphabet, in plain lists: Words, Ascends. No program and no memory stands here. -/
set_option linter.unusedVariables false
set_option linter.unusedSimpArgs false
namespace Go.Proofs.YtpgeimihmkampaaDoor.Pure
open Go.RowKit Go.Lib Go.Proofs.YtpgeimihmkampaaDoor.C Go.Proofs.YtpgeimihmkampaaDoorW.PrintWords Go.Proofs.YtpgeimihmkampaaDoor.Utf

/-- Each string with each letter behind it. -/
def nxt (l : List S42) (ws : List ByteArray) : List ByteArray := ws.flatMap (fun s => l.map (fun x => s ++ Utf8.encode x.f0))
theorem nxt_cons (l : List S42) (s : ByteArray) (ws : List ByteArray) : nxt l (s :: ws) = l.map (fun x => s ++ Utf8.encode x.f0) ++ nxt l ws := by simp [nxt]
theorem nxt_length (l : List S42) : ∀ ws, (nxt l ws).length = ws.length * l.length
  | [] => by simp [nxt]
  | s :: ws => by rw [nxt_cons, List.length_append, nxt_length l ws, List.length_map, List.length_cons, Nat.add_mul]; omega
theorem enc_size (r : Int) : (Utf8.encode r).size ≤ 4 := encode_size_le r
def low (B : Nat) (ws : List ByteArray) : Prop := ∀ w ∈ ws, w.size ≤ B
theorem nxt_low {l : List S42} {B : Nat} {ws : List ByteArray} (h : low B ws) : low (B + 4) (nxt l ws) := by
  intro w hw
  obtain ⟨s, hs, hw⟩ := List.mem_flatMap.1 hw
  obtain ⟨x, hx, rfl⟩ := List.mem_map.1 hw
  have := h s hs
  have := enc_size x.f0
  rw [ByteArray.size_append]
  omega
theorem rdOf_get {ws : List ByteArray} {n : Nat} (h : n < ws.length) : rdOf ByteArray.empty ws (n : Int) = ws[n] := by simp [rdOf, List.getD, List.getElem?_eq_getElem h]

/-! ### the program's Words -/
theorem words_l2 (l : List S42) (hl : (l.length : Int) ≤ 1000) (s : ByteArray) (hs : s.size ≤ 1000) (m i : Int) (ws : List ByteArray) (j : Int) (r : List ByteArray) : ∀ (d n : Nat) (acc : List ByteArray), l.length - n = d → n ≤ l.length → acc.length + d ≤ 1000000 →
    Ev (fun k => alphabet_Words.l1 k l (acc ++ (l.drop n).map (fun x => s ++ Utf8.encode x.f0)) m i ws (ws.length : Int) (wrap64 (j + 1))) r → Ev (fun k => alphabet_Words.l2 k l acc s m i ws (ws.length : Int) j l (l.length : Int) (n : Int)) r
  | 0, n, acc, hd, hn, ha, h => by
    rw [List.drop_eq_nil_of_le (by omega), List.map_nil, List.append_nil] at h
    refine Ev.step (fun k => ?_) h
    simp only [alphabet_Words.l2]
    rw [if_neg (by omega)]
  | d + 1, n, acc, hd, hn, ha, h => by
    have hlt : n < l.length := by omega
    rw [List.drop_eq_getElem_cons hlt, List.map_cons] at h
    have ih := words_l2 l hl s hs m i ws j r d (n + 1) (acc ++ [s ++ Utf8.encode l[n].f0]) (by omega) (by omega) (by simp; omega) (by simpa using h)
    refine Ev.step (fun k => ?_) ih
    simp only [alphabet_Words.l2]
    have := enc_size l[n].f0
    rw [if_pos (by omega), if_pos (by omega), if_pos (by omega), rd_get hlt, if_pos (by omega), if_pos (by omega), wrap_id (by omega) (by omega), show (n : Int) + 1 = ((n + 1 : Nat) : Int) by omega]
theorem words_l1 (l : List S42) (hl : (l.length : Int) ≤ 64) (m i : Int) (ws : List ByteArray) (hw : ws.length ≤ 256) (hb : low 1000 ws) (r : List ByteArray) : ∀ (d n : Nat) (acc : List ByteArray), ws.length - n = d → n ≤ ws.length → acc.length + d * 64 ≤ 100000 →
    Ev (fun k => alphabet_Words.l0 k l (acc ++ nxt l (ws.drop n)) m (wrap64 (i + 1))) r → Ev (fun k => alphabet_Words.l1 k l acc m i ws (ws.length : Int) (n : Int)) r
  | 0, n, acc, hd, hn, ha, h => by
    rw [List.drop_eq_nil_of_le (by omega)] at h
    refine Ev.step (fun k => ?_) (by simpa [nxt] using h)
    simp only [alphabet_Words.l1]
    rw [if_neg (by omega)]
  | d + 1, n, acc, hd, hn, ha, h => by
    have hlt : n < ws.length := by omega
    rw [List.drop_eq_getElem_cons hlt, nxt_cons, ← List.append_assoc] at h
    have ih := words_l1 l hl m i ws hw hb r d (n + 1) _ (by omega) (by omega) (by rw [List.length_append, List.length_map]; omega) h
    have h2 := words_l2 l (by omega) ws[n] (hb _ (List.getElem_mem hlt)) m i ws (n : Int) r l.length 0 acc (by omega) (by omega) (by omega)
      (by rw [List.drop_zero, wrap_id (by omega) (by omega), show (n : Int) + 1 = ((n + 1 : Nat) : Int) by omega]; exact ih)
    refine Ev.step (fun k => ?_) h2
    simp only [alphabet_Words.l1]
    rw [if_pos (by omega), if_pos (by omega), if_pos (by omega), rdOf_get hlt]
    rfl
/-- The words with m letters more, or nothing. -/
def more (l : List S42) : Nat → List ByteArray → List ByteArray
  | 0, ws => ws
  | m + 1, ws => if ws.length * l.length > 256 then [] else more l m (nxt l ws)
theorem words_l0 (l : List S42) (hl : (l.length : Int) ≤ 64) (m : Nat) (hm : m ≤ 40) : ∀ (d i : Nat) (ws : List ByteArray), m - i = d → i ≤ m → ws.length ≤ 256 → low (4 * i) ws →
    Ev (fun k => alphabet_Words.l0 k l ws (m : Int) (i : Int)) (more l d ws)
  | 0, i, ws, hd, hi, hw, hb => by
    refine Ev.step (fun k => ?_) (Ev.now _)
    simp only [alphabet_Words.l0]
    rw [if_neg (by omega)]
    rfl
  | d + 1, i, ws, hd, hi, hw, hb => by
    have hmul : ((ws.length : Int) * (l.length : Int)) = ((ws.length * l.length : Nat) : Int) := by simp
    have hle : ws.length * l.length ≤ 256 * 64 := Nat.mul_le_mul hw (by omega)
    by_cases c : ws.length * l.length > 256
    · refine Ev.step (fun k => ?_) (Ev.now _)
      simp only [alphabet_Words.l0]
      rw [if_pos (by omega), hmul, wrap_id (by omega) (by omega), if_pos (by omega)]
      simp [more, c]
    · have ih := words_l0 l hl m hm d (i + 1) (nxt l ws) (by omega) (by omega) (by rw [nxt_length]; omega) (nxt_low hb)
      have h1 := words_l1 l hl (m : Int) (i : Int) ws hw (fun w hw2 => by have := hb w hw2; omega) (more l d (nxt l ws)) ws.length 0 [] (by omega) (by omega) (by simp; omega)
        (by rw [List.drop_zero, wrap_id (by omega) (by omega), show (i : Int) + 1 = ((i + 1 : Nat) : Int) by omega]; exact ih)
      have e : more l (d + 1) ws = more l d (nxt l ws) := by simp [more, c]
      rw [e]
      refine Ev.step (fun k => ?_) h1
      simp only [alphabet_Words.l0]
      rw [if_pos (by omega), hmul, wrap_id (by omega) (by omega), if_neg (by omega)]
      rfl
/-- Words. -/
def W (l : List S42) (n : Int) : List ByteArray := if vB l = true ∧ 0 ≤ n ∧ n ≤ 40 then more l n.toNat [(⟨#[]⟩ : ByteArray)] else []
theorem low_one : low (4 * 0) [(⟨#[]⟩ : ByteArray)] := by
  intro w hw
  rw [List.mem_singleton.1 hw]
  decide
theorem Words_ev (l : List S42) (n : Int) (hg : good l = true) : Ev (fun k => alphabet_Words.f k l n) (W l n) := by
  have hV : Ev (fun k => alphabet_Valid.f k l) (vB l) := ⟨1002, fun k hk => Valid_at l hg (by omega)⟩
  unfold alphabet_Words.f
  refine Ev.bind hV ?_
  have no : Ev (fun k => alphabet_Words.j0 k l n true) [] := Ev.step (fun k => by simp only [alphabet_Words.j0]; rfl) (Ev.now _)
  unfold W
  by_cases v : vB l = true
  · by_cases h0 : n < 0
    · rw [if_neg (by omega)]
      refine Ev.congr (fun k => ?_) no
      rw [if_pos v, if_pos h0]
    · by_cases h1 : n > 40
      · rw [if_neg (by omega)]
        refine Ev.congr (fun k => ?_) no
        rw [if_pos v, if_neg h0, decide_eq_true h1]
      · rw [if_pos ⟨v, by omega, by omega⟩]
        have hl := ((vB_iff l).1 v).l64
        have h := words_l0 l hl n.toNat (by omega) n.toNat 0 [(⟨#[]⟩ : ByteArray)] (by omega) (by omega) (by simp) low_one
        rw [show ((n.toNat : Nat) : Int) = n by omega] at h
        have h2 : Ev (fun k => alphabet_Words.j0 k l n false) (more l n.toNat [(⟨#[]⟩ : ByteArray)]) := Ev.step (fun k => by simp only [alphabet_Words.j0]; rfl) h
        refine Ev.congr (fun k => ?_) h2
        rw [if_pos v, if_neg h0, decide_eq_false h1]
  · rw [if_neg (fun h => v h.1)]
    refine Ev.congr (fun k => ?_) no
    rw [if_neg v]

/-! ### the document's Words -/
theorem rwords_l2 (l : List S42) (hl : (l.length : Int) ≤ 1000) (s : ByteArray) (hs : s.size ≤ 1000) (m i : Int) (ws : List ByteArray) (j : Int) (r : List ByteArray) : ∀ (d n : Nat) (acc : List ByteArray), l.length - n = d → n ≤ l.length → acc.length + d ≤ 1000000 →
    Ev (fun k => pentaglotref01_Words.l1 k l m i (acc ++ (l.drop n).map (fun x => s ++ Utf8.encode x.f0)) ws (ws.length : Int) (wrap64 (j + 1))) r → Ev (fun k => pentaglotref01_Words.l2 k l m i acc s ws (ws.length : Int) j l (l.length : Int) (n : Int)) r
  | 0, n, acc, hd, hn, ha, h => by
    rw [List.drop_eq_nil_of_le (by omega), List.map_nil, List.append_nil] at h
    refine Ev.step (fun k => ?_) h
    simp only [pentaglotref01_Words.l2]
    rw [if_neg (by omega)]
  | d + 1, n, acc, hd, hn, ha, h => by
    have hlt : n < l.length := by omega
    rw [List.drop_eq_getElem_cons hlt, List.map_cons] at h
    have ih := rwords_l2 l hl s hs m i ws j r d (n + 1) (acc ++ [s ++ Utf8.encode l[n].f0]) (by omega) (by omega) (by simp; omega) (by simpa using h)
    refine Ev.step (fun k => ?_) ih
    simp only [pentaglotref01_Words.l2]
    have := enc_size l[n].f0
    rw [if_pos (by omega), if_pos (by omega), if_pos (by omega), rd_get hlt, if_pos (by omega), if_pos (by omega), wrap_id (by omega) (by omega), show (n : Int) + 1 = ((n + 1 : Nat) : Int) by omega]
theorem rwords_l1 (l : List S42) (hl : (l.length : Int) ≤ 64) (m i : Int) (ws : List ByteArray) (hw : ws.length ≤ 256) (hb : low 1000 ws) (r : List ByteArray) : ∀ (d n : Nat) (acc : List ByteArray), ws.length - n = d → n ≤ ws.length → acc.length + d * 64 ≤ 100000 →
    Ev (fun k => pentaglotref01_Words.l1 k l m i (acc ++ nxt l (ws.drop n)) ws (ws.length : Int) (ws.length : Int)) r → Ev (fun k => pentaglotref01_Words.l1 k l m i acc ws (ws.length : Int) (n : Int)) r
  | 0, n, acc, hd, hn, ha, h => by
    obtain rfl : n = ws.length := by omega
    rw [List.drop_length] at h
    simpa [nxt] using h
  | d + 1, n, acc, hd, hn, ha, h => by
    have hlt : n < ws.length := by omega
    rw [List.drop_eq_getElem_cons hlt, nxt_cons, ← List.append_assoc] at h
    have ih := rwords_l1 l hl m i ws hw hb r d (n + 1) _ (by omega) (by omega) (by rw [List.length_append, List.length_map]; omega) h
    have h2 := rwords_l2 l (by omega) ws[n] (hb _ (List.getElem_mem hlt)) m i ws (n : Int) r l.length 0 acc (by omega) (by omega) (by omega)
      (by rw [List.drop_zero, wrap_id (by omega) (by omega), show (n : Int) + 1 = ((n + 1 : Nat) : Int) by omega]; exact ih)
    refine Ev.step (fun k => ?_) h2
    simp only [pentaglotref01_Words.l1]
    rw [if_pos (by omega), if_pos (by omega), if_pos (by omega), rdOf_get hlt]
    rfl
theorem rwords_l0 (l : List S42) (hl : (l.length : Int) ≤ 64) (m : Nat) (hm : m ≤ 40) : ∀ (d i : Nat) (ws : List ByteArray), m - i = d → i ≤ m → ws.length ≤ 256 → low (4 * i) ws →
    Ev (fun k => pentaglotref01_Words.l0 k l (m : Int) ws (i : Int)) (more l d ws)
  | 0, i, ws, hd, hi, hw, hb => by
    refine Ev.step (fun k => ?_) (Ev.now _)
    simp only [pentaglotref01_Words.l0]
    rw [if_neg (by omega)]
    rfl
  | d + 1, i, ws, hd, hi, hw, hb => by
    have hlen := nxt_length l ws
    have key : Ev (fun k => pentaglotref01_Words.l1 k l (m : Int) (i : Int) (nxt l ws) ws (ws.length : Int) (ws.length : Int)) (more l (d + 1) ws) := by
      by_cases c : ws.length * l.length > 256
      · refine Ev.step (fun k => ?_) (Ev.now _)
        simp only [pentaglotref01_Words.l1]
        rw [if_neg (by omega), if_pos (by omega)]
        simp [more, c]
      · have ih := rwords_l0 l hl m hm d (i + 1) (nxt l ws) (by omega) (by omega) (by omega) (nxt_low hb)
        have e : more l (d + 1) ws = more l d (nxt l ws) := by simp [more, c]
        rw [e]
        refine Ev.step (fun k => ?_) ih
        simp only [pentaglotref01_Words.l1]
        rw [if_neg (by omega), if_neg (by omega), wrap_id (by omega) (by omega)]
        rfl
    have h1 := rwords_l1 l hl (m : Int) (i : Int) ws hw (fun w hw2 => by have := hb w hw2; omega) (more l (d + 1) ws) ws.length 0 [] (by omega) (by omega) (by simp; omega)
      (by rw [List.drop_zero]; exact key)
    refine Ev.step (fun k => ?_) h1
    simp only [pentaglotref01_Words.l0]
    rw [if_pos (by omega)]
    rfl
theorem RWords_ev (l : List S42) (n : Int) (hl : (l.length : Int) ≤ 1000) : Ev (fun k => pentaglotref01_Words.f k l n) (W l n) := by
  have hV : Ev (fun k => pentaglotref01_Valid.f k l) (vB l) := ⟨3002, fun k hk => RValid_at l hl (by omega)⟩
  unfold pentaglotref01_Words.f
  refine Ev.bind hV ?_
  have no : Ev (fun k => pentaglotref01_Words.j0 k l n true) [] := Ev.step (fun k => by simp only [pentaglotref01_Words.j0]; rfl) (Ev.now _)
  unfold W
  by_cases v : vB l = true
  · by_cases h0 : n < 0
    · rw [if_neg (by omega)]
      refine Ev.congr (fun k => ?_) no
      rw [if_pos v, if_pos h0]
    · by_cases h1 : n > 40
      · rw [if_neg (by omega)]
        refine Ev.congr (fun k => ?_) no
        rw [if_pos v, if_neg h0, decide_eq_true h1]
      · rw [if_pos ⟨v, by omega, by omega⟩]
        have hl := ((vB_iff l).1 v).l64
        have h := rwords_l0 l hl n.toNat (by omega) n.toNat 0 [(⟨#[]⟩ : ByteArray)] (by omega) (by omega) (by simp) low_one
        rw [show ((n.toNat : Nat) : Int) = n by omega] at h
        have h2 : Ev (fun k => pentaglotref01_Words.j0 k l n false) (more l n.toNat [(⟨#[]⟩ : ByteArray)]) := Ev.step (fun k => by simp only [pentaglotref01_Words.j0]; rfl) h
        refine Ev.congr (fun k => ?_) h2
        rw [if_pos v, if_neg h0, decide_eq_false h1]
  · rw [if_neg (fun h => v h.1)]
    refine Ev.congr (fun k => ?_) no
    rw [if_neg v]
theorem same_loop (ws : List ByteArray) (hw : (ws.length : Int) ≤ 9223372036854775806) : ∀ (d n k : Nat), ws.length - n = d → n ≤ ws.length → d < k → pentaglotref01_Same.l0 k ws ws (ws.length : Int) (n : Int) = some true
  | 0, n, k, hd, hn, hk => by
    obtain ⟨k, rfl⟩ : ∃ m, k = m + 1 := ⟨k - 1, by omega⟩
    simp only [pentaglotref01_Same.l0]
    rw [if_neg (by omega)]
  | d + 1, n, k, hd, hn, hk => by
    obtain ⟨k, rfl⟩ : ∃ m, k = m + 1 := ⟨k - 1, by omega⟩
    simp only [pentaglotref01_Same.l0]
    rw [if_pos (by omega), if_pos (by omega), if_pos (by omega), if_pos (by omega), if_pos trivial, wrap_id (by omega) (by omega), show (n : Int) + 1 = ((n + 1 : Nat) : Int) by omega, same_loop ws hw d (n + 1) k (by omega) (by omega) (by omega)]
theorem Same_at {k : Nat} (ws : List ByteArray) (hw : (ws.length : Int) ≤ 9223372036854775806) (hk : ws.length < k) : pentaglotref01_Same.f k ws ws = some true := by
  unfold pentaglotref01_Same.f
  have := same_loop ws hw ws.length 0 k (by omega) (by omega) (by omega)
  rw [show ((0 : Nat) : Int) = 0 by rfl] at this
  rw [if_pos rfl, this]
theorem more_length (l : List S42) : ∀ d ws, ws.length ≤ 256 → (more l d ws).length ≤ 256
  | 0, ws, h => h
  | d + 1, ws, h => by
    unfold more
    split
    · simp
    · exact more_length l d _ (by rw [nxt_length]; omega)
theorem W_length (l : List S42) (n : Int) : (W l n).length ≤ 256 := by
  unfold W
  split
  · exact more_length l _ _ (by simp)
  · simp
theorem AlphabetWords (l : List S42) (n : Int) (hg : good l = true) : ∃ k, pentaglotlaw01_AlphabetWords.f k l n = some true := by
  obtain ⟨K1, h1⟩ := Words_ev l n hg
  replace h1 : ∀ k, K1 ≤ k → alphabet_Words.f k l n = some (W l n) := h1
  by_cases F : fewB l [] = true
  · have hl := few_len F
    obtain ⟨K2, h2⟩ := RWords_ev l n (by omega)
    replace h2 : ∀ k, K2 ≤ k → pentaglotref01_Words.f k l n = some (W l n) := h2
    obtain ⟨K, hK⟩ : ∃ K : Nat, K = 3000000 + K1 + K2 := ⟨_, rfl⟩
    refine ⟨K + 1, ?_⟩
    unfold pentaglotlaw01_AlphabetWords.f
    rw [awake_at (by omega)]
    simp only [Option.bind_some, if_true]
    rw [few_at l [] (by simp) (by simp)]
    simp only [Option.bind_some, pentaglotlaw01_AlphabetWords.j0]
    have := W_length l n
    rw [F, if_neg (by decide), h1 K (by omega), h2 K (by omega)]
    simp only [Option.bind_some]
    rw [Same_at _ (by omega) (by omega)]
    rfl
  · obtain ⟨K, hK⟩ : ∃ K : Nat, K = 3000000 := ⟨_, rfl⟩
    refine ⟨K + 1, ?_⟩
    unfold pentaglotlaw01_AlphabetWords.f
    rw [awake_at (by omega)]
    simp only [Option.bind_some, if_true]
    rw [few_at l [] (by simp) (by simp)]
    simp only [Option.bind_some, pentaglotlaw01_AlphabetWords.j0]
    rw [Bool.eq_false_iff.mpr F, if_pos (by decide), awake_at (by omega)]
    rfl

/-! ### the words as lists of runes -/
/-- All lists of m letters' runes, in the order of the letters. -/
def wds (l : List S42) : Nat → List (List Int)
  | 0 => [[]]
  | m + 1 => (wds l m).flatMap (fun w => l.map (fun x => w ++ [x.f0]))
theorem wds_length (l : List S42) : ∀ m, ∀ w ∈ wds l m, w.length = m
  | 0, w, h => by rw [List.mem_singleton.1 h]; rfl
  | m + 1, w, h => by
    obtain ⟨v, hv, hw⟩ := List.mem_flatMap.1 h
    obtain ⟨x, hx, rfl⟩ := List.mem_map.1 hw
    have := wds_length l m v hv
    simp [this]
theorem wds_letters (l : List S42) : ∀ m, ∀ w ∈ wds l m, ∀ r ∈ w, ∃ x ∈ l, x.f0 = r
  | 0, w, h, r, hr => by rw [List.mem_singleton.1 h] at hr; cases hr
  | m + 1, w, h, r, hr => by
    obtain ⟨v, hv, hw⟩ := List.mem_flatMap.1 h
    obtain ⟨x, hx, rfl⟩ := List.mem_map.1 hw
    rcases List.mem_append.1 hr with hr | hr
    · exact wds_letters l m v hv r hr
    · exact ⟨x, hx, (List.mem_singleton.1 hr).symm⟩
theorem wds_all (l : List S42) : ∀ (m : Nat) (w : List Int), w.length = m → (∀ r ∈ w, ∃ x ∈ l, x.f0 = r) → w ∈ wds l m
  | 0, w, h, _ => by rw [List.eq_nil_of_length_eq_zero h]; simp [wds]
  | m + 1, w, h, hr => by
    have hne : w ≠ [] := by intro e; rw [e] at h; cases h
    have e := List.dropLast_concat_getLast hne
    obtain ⟨x, hx, hx2⟩ := hr (w.getLast hne) (List.getLast_mem hne)
    refine List.mem_flatMap.2 ⟨w.dropLast, wds_all l m _ (by rw [List.length_dropLast, h]; rfl) (fun r hr2 => hr r (List.dropLast_subset w hr2)), List.mem_map.2 ⟨x, hx, ?_⟩⟩
    rw [hx2, e]
theorem cmpL_prefix : ∀ (a b c d : List Int), a.length = b.length → cmpL a b = -1 → cmpL (a ++ c) (b ++ d) = -1
  | [], [], c, d, _, h => by simp [cmpL] at h
  | [], _ :: _, c, d, h, _ => by cases h
  | _ :: _, [], c, d, h, _ => by cases h
  | x :: a, y :: b, c, d, h, k => by
    simp only [List.cons_append, cmpL] at k ⊢
    by_cases c1 : x < y
    · rw [if_pos c1]
    · rw [if_neg c1] at k ⊢
      by_cases c2 : y < x
      · rw [if_pos c2] at k; cases k
      · rw [if_neg c2] at k ⊢
        exact cmpL_prefix a b c d (by simpa using h) k
theorem cmpL_last (x y : Int) (h : x < y) : ∀ a : List Int, cmpL (a ++ [x]) (a ++ [y]) = -1
  | [] => by simp [cmpL, h]
  | z :: a => by
    simp only [List.cons_append, cmpL]
    rw [if_neg (by omega), if_neg (by omega), cmpL_last x y h a]
theorem letters_asc {l : List S42} (v : Val l) : l.Pairwise (fun x y => weight l x.f0 < weight l y.f0) := by
  rw [List.pairwise_iff_getElem]
  intro i j hi hj hij
  have h1 := v.fst i hi
  have h2 := v.fst j hj
  rw [rd_get hi] at h1
  rw [rd_get hj] at h2
  rw [weight_fi, weight_fi, h1, h2]
  simp
  omega
theorem wds_asc {l : List S42} (v : Val l) : ∀ m, (wds l m).Pairwise (fun a b => cmpL (a.map (weight l)) (b.map (weight l)) = -1)
  | 0 => by simp [wds]
  | m + 1 => by
    unfold wds
    rw [List.pairwise_flatMap]
    constructor
    · intro w hw
      rw [List.pairwise_map]
      refine (letters_asc v).imp (fun {x y} h => ?_)
      rw [List.map_append, List.map_append]
      exact cmpL_last _ _ h _
    · refine (List.Pairwise.and_mem.1 (wds_asc v m)).imp (fun {a b} h => ?_)
      intro x hx y hy
      obtain ⟨p, hp, rfl⟩ := List.mem_map.1 hx
      obtain ⟨q, hq, rfl⟩ := List.mem_map.1 hy
      rw [List.map_append, List.map_append]
      exact cmpL_prefix _ _ _ _ (by rw [List.length_map, List.length_map, wds_length l m a h.1, wds_length l m b h.2.1]) h.2.2
theorem more_wds (l : List S42) : ∀ (d i : Nat), more l d ((wds l i).map strOfRunes) = [] ∨ more l d ((wds l i).map strOfRunes) = (wds l (i + d)).map strOfRunes
  | 0, i => .inr rfl
  | d + 1, i => by
    have e : nxt l ((wds l i).map strOfRunes) = (wds l (i + 1)).map strOfRunes := by
      unfold nxt
      rw [show wds l (i + 1) = (wds l i).flatMap (fun w => l.map (fun x => w ++ [x.f0])) from rfl, List.flatMap_map, List.map_flatMap]
      congr 1
      funext w
      rw [List.map_map]
      congr 1
      funext x
      simp [strOfRunes, List.foldl_append]
    unfold more
    split
    · exact .inl rfl
    · rw [e]
      have := more_wds l d (i + 1)
      rwa [show i + 1 + d = i + (d + 1) by omega] at this
theorem W_wds (l : List S42) (n : Int) : W l n = [] ∨ (Val l ∧ 0 ≤ n ∧ n ≤ 40 ∧ W l n = (wds l n.toNat).map strOfRunes) := by
  unfold W
  split
  · rename_i h
    have := more_wds l n.toNat 0
    rw [show (wds l 0).map strOfRunes = [(⟨#[]⟩ : ByteArray)] from rfl, Nat.zero_add] at this
    rcases this with e | e
    · exact .inl e
    · exact .inr ⟨(vB_iff l).1 h.1, h.2.1, h.2.2, e⟩
  · exact .inl rfl
theorem goodR_valid {r : Int} (h : goodR r = true) : validRune r = true := by
  unfold goodR at h
  rw [Bool.and_eq_true] at h
  exact h.2
/-- A word of letters: its bytes are valid and give its runes again. -/
structure Made (l : List S42) (n : Nat) (w : List Int) : Prop where
  valid : validD (strOfRunes w).data.toList = true
  rns : rns (strOfRunes w) = w
  size : (strOfRunes w).size ≤ 4 * n
  len : w.length = n
theorem made {l : List S42} (v : Val l) {n : Nat} {w : List Int} (h : w ∈ wds l n) : Made l n w := by
  have hv : ∀ r ∈ w, validRune r = true := fun r hr => by
    obtain ⟨x, hx, rfl⟩ := wds_letters l n w h r hr
    exact goodR_valid (v.ok x hx)
  have hlen := wds_length l n w h
  refine ⟨by rw [strOfRunes_E]; exact valid_E' hv, by rw [rns_R, strOfRunes_E]; exact R_E' hv, ?_, hlen⟩
  have := foldl_size_le w ByteArray.empty
  have h2 : (ByteArray.empty).size = 0 := rfl
  unfold strOfRunes
  omega
theorem isLetter_iff {l : List S42} (v : Val l) (r : Int) : isLetter l r = true ↔ ∃ x ∈ l, x.f0 = r := by
  rw [isLetter_fi]
  constructor
  · intro h
    obtain ⟨i, hi⟩ := Option.isSome_iff_exists.1 h
    obtain ⟨n, rfl, hn⟩ := fi_some hi
    exact ⟨l[n], List.getElem_mem hn.1, hn.2 hn.1⟩
  · rintro ⟨x, hx, rfl⟩
    obtain ⟨i, hi, _⟩ := cls_mem v hx
    rw [hi]; rfl
theorem made_word {l : List S42} (v : Val l) {n : Nat} (hn : n ≤ 40) {w : List Int} (h : w ∈ wds l n) : wB l (strOfRunes w) = true := by
  have m := made v h
  unfold wB
  rw [m.valid, m.rns, m.len, Bool.true_and, Bool.and_eq_true, decide_eq_true_iff, List.all_eq_true]
  exact ⟨fun r hr => (isLetter_iff v r).2 (wds_letters l n w h r hr), by omega⟩
theorem word_made {l : List S42} (v : Val l) {n : Nat} {s : ByteArray} (h : wB l s = true) (e : (rns s).length = n) : s ∈ (wds l n).map strOfRunes := by
  unfold wB at h
  rw [Bool.and_eq_true, Bool.and_eq_true, List.all_eq_true] at h
  refine List.mem_map.2 ⟨rns s, wds_all l n _ e (fun r hr => (isLetter_iff v r).1 (h.2.1 r hr)), ?_⟩
  apply str_ext
  rw [strOfRunes_E, rns_R, E_R' h.1]

/-! ### Ascends -/
def memB (s : ByteArray) (ws : List ByteArray) : Bool := ws.any (fun w => decide (w = s))
theorem memB_iff (s : ByteArray) (ws : List ByteArray) : memB s ws = true ↔ s ∈ ws := by
  unfold memB
  rw [List.any_eq_true]
  constructor
  · rintro ⟨x, hx, e⟩
    rwa [← of_decide_eq_true e]
  · intro h
    exact ⟨s, h, decide_eq_true rfl⟩
theorem asc_loop {l : List S42} (ho : okA l = true) (n : Int) (s : ByteArray) (hs : s.size ≤ 1000) (ws : List ByteArray) (hlen : ws.length ≤ 1000) (hne : 0 < ws.length) (hsz : low 1000 ws)
    (hw : ∀ w ∈ ws, wB l w = true ∧ ((rns w).length : Int) = n) (hc : ∀ i, ∀ h : i + 1 < ws.length, cmpS l ws[i] ws[i + 1] = -1) (hf : memB s ws = (wB l s && decide (((rns s).length : Int) = n))) :
    ∀ (d i k : Nat) (b : Bool), ws.length - i = d → i ≤ ws.length → 1000010 + d < k → b = memB s (ws.take i) → pentaglotlaw01_AlphabetAscends.l0 k l n s ws b (i : Int) = some true
  | 0, i, k, b, hd, hi, hk, hb => by
    obtain ⟨k, rfl⟩ : ∃ m, k = m + 1 := ⟨k - 1, by omega⟩
    obtain rfl : i = ws.length := by omega
    rw [List.take_length] at hb
    simp only [pentaglotlaw01_AlphabetAscends.l0]
    rw [if_neg (by omega), if_neg (by omega), AIsWord_at ho (by omega)]
    simp only [Option.bind_some]
    rw [hb, hf]
    by_cases w : wB l s = true
    · rw [if_pos w, if_pos (by omega), w, Bool.true_and]
      congr 1
      rw [beq_iff_eq, Bool.eq_iff_iff]
      simp
    · rw [if_neg w, Bool.eq_false_iff.mpr w, Bool.false_and]
      rfl
  | d + 1, i, k, b, hd, hi, hk, hb => by
    obtain ⟨k, rfl⟩ : ∃ m, k = m + 1 := ⟨k - 1, by omega⟩
    have hlt : i < ws.length := by omega
    have hm := List.getElem_mem hlt
    obtain ⟨w1, w2⟩ := hw _ hm
    have hz := hsz _ hm
    have hnext : ∀ c, c = memB s (ws.take (i + 1)) → pentaglotlaw01_AlphabetAscends.l0 k l n s ws c (wrap64 ((i : Int) + 1)) = some true := fun c e => by
      rw [wrap_id (by omega) (by omega), show (i : Int) + 1 = ((i + 1 : Nat) : Int) by omega]
      exact asc_loop ho n s hs ws hlen hne hsz hw hc hf d (i + 1) k c (by omega) (by omega) (by omega) e
    have htake : ws.take (i + 1) = ws.take i ++ [ws[i]] := List.take_succ_eq_append_getElem hlt
    have hb1 : b = true → true = memB s (ws.take (i + 1)) := fun e => by
      rw [e] at hb
      have := (memB_iff _ _).1 hb.symm
      symm
      rw [memB_iff, htake]
      exact List.mem_append.2 (.inl this)
    have hb2 : b = false → (ws[i].toList == s.toList) = memB s (ws.take (i + 1)) := fun e => by
      rw [e] at hb
      have h2 : ¬ s ∈ ws.take i := fun x => by rw [(memB_iff _ _).2 x] at hb; cases hb
      rw [str_beq, Bool.eq_iff_iff, decide_eq_true_iff, memB_iff, htake]
      exact ⟨fun e => List.mem_append.2 (.inr (by rw [e]; exact List.mem_singleton.2 rfl)), fun h => (List.mem_append.1 h).elim (fun h => absurd h h2) (fun h => (List.mem_singleton.1 h).symm)⟩
    have fin : (if b = true then pentaglotlaw01_AlphabetAscends.l0 k l n s ws true (wrap64 ((i : Int) + 1)) else pentaglotlaw01_AlphabetAscends.l0 k l n s ws (ws[i].toList == s.toList) (wrap64 ((i : Int) + 1))) = some true := by
      cases b with
      | true => rw [if_pos rfl]; exact hnext _ (hb1 rfl)
      | false => rw [if_neg (by decide)]; exact hnext _ (hb2 rfl)
    simp only [pentaglotlaw01_AlphabetAscends.l0]
    rw [if_pos (by omega), if_pos (by omega), rdOf_get hlt, AIsWord_at ho (by omega)]
    simp only [Option.bind_some]
    rw [if_pos w1, if_pos (by omega), if_pos w2]
    by_cases h0 : i = 0
    · rw [if_neg (by omega)]
      exact fin
    · obtain ⟨j, rfl⟩ : ∃ j, i = j + 1 := ⟨i - 1, by omega⟩
      have hj : j < ws.length := by omega
      rw [if_pos (by omega), show ((j + 1 : Nat) : Int) - 1 = (j : Int) by omega, wrap_id (x := (j : Int)) (by omega) (by omega), if_pos (by omega), if_pos (by omega), rdOf_get hj, ACompare_at ho (by have := hsz _ (List.getElem_mem hj); omega) (by omega) (by omega), hc j hlt]
      simp only [Option.bind_some]
      rw [if_pos trivial]
      exact fin
theorem AlphabetAscends (l : List S42) (n : Int) (s : ByteArray) (hg : good l = true) : ∃ k, pentaglotlaw01_AlphabetAscends.f k l n s = some true := by
  obtain ⟨K1, h1⟩ := Words_ev l n hg
  replace h1 : ∀ k, K1 ≤ k → alphabet_Words.f k l n = some (W l n) := h1
  obtain ⟨K, hK⟩ : ∃ K : Nat, K = 3000000 + K1 := ⟨_, rfl⟩
  refine ⟨K + 1, ?_⟩
  unfold pentaglotlaw01_AlphabetAscends.f
  rw [awake_at (by omega)]
  simp only [Option.bind_some, if_true]
  rw [few_at l [s] (by simp) (by simp; omega)]
  simp only [Option.bind_some, pentaglotlaw01_AlphabetAscends.j0]
  by_cases F : fewB l [s] = true
  · have hl := few_len F
    have hs := few_size F (w := s) (by simp)
    have ho := okA_mk hg (show (l.length : Int) ≤ 1000 by omega)
    rw [F, if_neg (by decide), h1 K (by omega)]
    simp only [Option.bind_some]
    by_cases h0 : W l n = []
    · rw [h0]
      obtain ⟨k, rfl⟩ : ∃ m, K = m + 1 := ⟨K - 1, by omega⟩
      simp only [pentaglotlaw01_AlphabetAscends.l0, List.length_nil]
      rw [if_neg (by decide), if_pos (by rfl)]
    · rcases W_wds l n with e | ⟨v, n0, n1, e⟩
      · exact absurd e h0
      · have hWl := W_length l n
        have hpos : 0 < (W l n).length := List.length_pos_iff.2 h0
        have hlow : low 1000 (W l n) := by
          intro w hw
          rw [e] at hw
          obtain ⟨x, hx, rfl⟩ := List.mem_map.1 hw
          have := (made v hx).size
          omega
        have h := asc_loop ho n s (by omega) (W l n) (by omega) hpos hlow
          (by
            intro w hw
            rw [e] at hw
            obtain ⟨x, hx, rfl⟩ := List.mem_map.1 hw
            have m := made v hx
            exact ⟨made_word v (by omega) hx, by rw [m.rns, m.len]; omega⟩)
          (by
            intro i hi
            have hp := wds_asc v n.toNat
            rw [List.pairwise_iff_getElem] at hp
            have hi2 : i + 1 < (wds l n.toNat).length := by rw [e, List.length_map] at hi; exact hi
            have := hp i (i + 1) (by omega) hi2 (by omega)
            have e1 : (W l n)[i] = strOfRunes (wds l n.toNat)[i] := by simp [e]
            have e2 : (W l n)[i + 1] = strOfRunes (wds l n.toNat)[i + 1] := by simp [e]
            rw [e1, e2]
            unfold cmpS weights
            rw [(made v (List.getElem_mem (show i < (wds l n.toNat).length by omega))).rns, (made v (List.getElem_mem hi2)).rns]
            exact this)
          (by
            rw [Bool.eq_iff_iff, memB_iff, Bool.and_eq_true, decide_eq_true_iff]
            constructor
            · intro hm
              rw [e] at hm
              obtain ⟨x, hx, rfl⟩ := List.mem_map.1 hm
              have m := made v hx
              exact ⟨made_word v (by omega) hx, by rw [m.rns, m.len]; omega⟩
            · rintro ⟨a, b⟩
              rw [e]
              exact word_made v a (by omega))
          (W l n).length 0 K false (by omega) (by omega) (by omega) (by rw [List.take_zero]; rfl)
        rw [show ((0 : Nat) : Int) = 0 by rfl] at h
        exact h
  · rw [Bool.eq_false_iff.mpr F, if_pos (by decide), awake_at (by omega)]
    rfl
end Go.Proofs.YtpgeimihmkampaaDoor.Pure
/- The laws on Sort: what the stable sort gives is what the specification's insertion gives, is ordered, and holds each string as often. No program and no memory stands here. -/
set_option linter.unusedVariables false
set_option linter.unusedSimpArgs false
namespace Go.Proofs.YtpgeimihmkampaaDoor.Pure
open Go.RowKit Go.Lib Go.Proofs.YtpgeimihmkampaaDoor.C Go.Proofs.YtpgeimihmkampaaDoorW.PrintWords Go.Proofs.YtpgeimihmkampaaDoor.Utf

theorem few_loop2 (l : List S42) (ws : List ByteArray) (hw : (ws.length : Int) ≤ 9223372036854775807) : ∀ (d n k : Nat), ws.length - n = d → n ≤ ws.length → d < k →
    pentaglotlaw01_few.l0 k l ws (n : Int) = some ((ws.drop n).all (fun w => decide ((w.size : Int) ≤ 200)) && (decide ((l.length : Int) ≤ 70) && decide ((ws.length : Int) ≤ 40)))
  | 0, n, k, hd, hn, hk => by
    obtain ⟨k, rfl⟩ : ∃ m, k = m + 1 := ⟨k - 1, by omega⟩
    simp only [pentaglotlaw01_few.l0]
    rw [if_neg (by omega), List.drop_eq_nil_of_le (by omega)]
    by_cases h : (l.length : Int) ≤ 70
    · rw [if_pos h, decide_eq_true h]; rfl
    · rw [if_neg h, decide_eq_false h]; rfl
  | d + 1, n, k, hd, hn, hk => by
    obtain ⟨k, rfl⟩ : ∃ m, k = m + 1 := ⟨k - 1, by omega⟩
    have hlt : n < ws.length := by omega
    have hrd : rdOf ByteArray.empty ws (n : Int) = ws[n] := by simp [rdOf, List.getD, List.getElem?_eq_getElem hlt]
    simp only [pentaglotlaw01_few.l0]
    rw [if_pos (by omega), if_pos (by omega), hrd, List.drop_eq_getElem_cons hlt, List.all_cons]
    by_cases e : (ws[n].size : Int) > 200
    · rw [if_pos e, decide_eq_false (by omega)]; rfl
    · rw [if_neg e, decide_eq_true (show (ws[n].size : Int) ≤ 200 by omega), wrap_id (by omega) (by omega), show (n : Int) + 1 = ((n + 1 : Nat) : Int) by omega, few_loop2 l ws hw d (n + 1) k (by omega) (by omega) (by omega), Bool.true_and]
theorem few_at2 {k : Nat} (l : List S42) (ws : List ByteArray) (hw : (ws.length : Int) ≤ 9223372036854775807) (hk : ws.length < k) : pentaglotlaw01_few.f k l ws = some (fewB l ws) := by
  unfold pentaglotlaw01_few.f fewB
  have := few_loop2 l ws hw ws.length 0 k (by omega) (by omega) (by omega)
  rw [show ((0 : Nat) : Int) = 0 by rfl] at this
  rw [this]; rfl
theorem few_40 {l : List S42} {ws : List ByteArray} (h : fewB l ws = true) : ws.length ≤ 40 := by
  unfold fewB at h
  simp only [Bool.and_eq_true, decide_eq_true_eq] at h
  omega
theorem cmpC_eq : ∀ xs ys, cmpC xs ys = cmpL xs ys
  | [], [] => rfl
  | [], _ :: _ => rfl
  | _ :: _, [] => rfl
  | x :: xs, y :: ys => by
    unfold cmpC cmpL
    rw [cmpC_eq xs ys]
theorem cmpW_eq (l : List S42) (s t : ByteArray) : cmpW l s t = cmpS l s t := cmpC_eq _ _
theorem Sort_at {k : Nat} {l : List S42} {ws : List ByteArray} (ho : okA l = true) (hs : ∀ s ∈ ws, s.size ≤ 200) (h40 : ws.length ≤ 40) (hk : 200 < k) : alphabet_Sort.f k l ws = some (Stb.isort (cmpW l) ws) := by
  unfold alphabet_Sort.f
  have h : okW k l ws = true := by
    unfold okW
    simp only [Bool.and_eq_true, List.all_eq_true, decide_eq_true_eq]
    refine ⟨ho, fun s hm => ⟨okS_mk ho (by have := hs s hm; omega), ?_⟩, h40⟩
    have h1 := weights_len l s
    have h2 := hs s hm
    omega
  rw [if_pos h]
theorem rdO {out : List ByteArray} {n : Nat} (h : n < out.length) : rdOf ByteArray.empty out (n : Int) = Stb.el out n := by
  rw [Stb.el_get h]
  simp [rdOf, List.getD, List.getElem?_eq_getElem h]
theorem rsort_l1 (l : List S42) (out ws : List ByteArray) (w : ByteArray) (j : Nat) (hl : (l.length : Int) ≤ 1000) (ho : ∀ s ∈ out, s.size ≤ 200) (hw : w.size ≤ 200) (h40 : out.length ≤ 40) (hj : j ≤ 40) (B : Nat) (hB : 2001010 < B) :
    ∀ (n k : Nat), n ≤ out.length → n + B < k → ∃ k', B ≤ k' ∧ k ≤ k' + n + 1 ∧
      pentaglotref01_Sort.l1 k l out w (n : Int) ws (ws.length : Int) (j : Int) = pentaglotref01_Sort.l0 k' l (out.take (Stb.posR (cmpW l) w out n) ++ w :: out.drop (Stb.posR (cmpW l) w out n)) ws (ws.length : Int) ((j + 1 : Nat) : Int)
  | 0, k, hn, hk => by
    obtain ⟨k, rfl⟩ : ∃ m, k = m + 1 := ⟨k - 1, by omega⟩
    refine ⟨k, by omega, by omega, ?_⟩
    simp only [pentaglotref01_Sort.l1, Stb.posR]
    rw [if_neg (by decide)]
    simp only [Option.bind_some]
    have q1 : (0 : Int) ≤ ((0 : Nat) : Int) := by decide
    have q2 : ((0 : Nat) : Int) ≤ (out.length : Int) := by omega
    have q3 : ([] : List ByteArray).length + (out.take ((0 : Nat) : Int).toNat).length < 8796093022208 := by simp
    have q4 : ([] ++ out.take ((0 : Nat) : Int).toNat).length < 8796093022208 := by simp
    have q5 : ([] ++ out.take ((0 : Nat) : Int).toNat ++ [w]).length + (out.drop ((0 : Nat) : Int).toNat).length < 8796093022208 := by simp; omega
    have hwj : wrap64 ((j : Int) + 1) = ((j + 1 : Nat) : Int) := by rw [wrap_id (by omega) (by omega)]; omega
    rw [if_pos q1, if_pos q2, if_pos q3, if_pos q4, if_pos q5, hwj]
    simp
  | n + 1, k, hn, hk => by
    obtain ⟨k, rfl⟩ : ∃ m, k = m + 1 := ⟨k - 1, by omega⟩
    have hlt : n < out.length := by omega
    have hm : Stb.el out n ∈ out := by rw [Stb.el_get hlt]; exact List.getElem_mem hlt
    have p1 : ((n + 1 : Nat) : Int) > 0 := by omega
    have p3 : (0 : Int) ≤ (n : Int) := by omega
    have p4 : (n : Int) < (out.length : Int) := by omega
    have hs := ho _ hm
    have hc := RCompare_at (k := k) l (Stb.el out n) w hl (by omega) (by omega) (by omega)
    rw [← cmpW_eq] at hc
    have q1 : (0 : Int) ≤ ((n + 1 : Nat) : Int) := by omega
    have q2 : ((n + 1 : Nat) : Int) ≤ (out.length : Int) := by omega
    have q3 : ([] : List ByteArray).length + (out.take ((n + 1 : Nat) : Int).toNat).length < 8796093022208 := by simp; omega
    have q4 : ([] ++ out.take ((n + 1 : Nat) : Int).toNat).length < 8796093022208 := by simp; omega
    have q5 : ([] ++ out.take ((n + 1 : Nat) : Int).toNat ++ [w]).length + (out.drop ((n + 1 : Nat) : Int).toNat).length < 8796093022208 := by simp; omega
    have r1 : n ≤ out.length := by omega
    have r2 : n + B < k := by omega
    have r3 : B ≤ k := by omega
    have hwj : wrap64 ((j : Int) + 1) = ((j + 1 : Nat) : Int) := by rw [wrap_id (by omega) (by omega)]; omega
    have hwn : wrap64 (((n + 1 : Nat) : Int) - 1) = (n : Int) := by clear hwj; rw [wrap_id (by omega) (by omega)]; omega
    obtain ⟨k', i1, i2, i3⟩ := rsort_l1 l out ws w j hl ho hw h40 hj B hB n k r1 r2
    simp only [pentaglotref01_Sort.l1]
    rw [if_pos p1, hwn, if_pos p3, if_pos p4, rdO hlt, hc]
    simp only [Option.bind_some, Stb.posR]
    by_cases c : cmpW l (Stb.el out n) w > 0
    · rw [if_pos c, if_pos c]
      exact ⟨k', i1, by clear hwj hwn; omega, i3⟩
    · refine ⟨k, r3, by clear hwj hwn; omega, ?_⟩
      rw [if_neg c, if_neg c, if_pos q1, if_pos q2, if_pos q3, if_pos q4, if_pos q5, hwj]
      simp
theorem rsort_l0 (l : List S42) (ws : List ByteArray) (hl : (l.length : Int) ≤ 1000) (hw : ∀ s ∈ ws, s.size ≤ 200) (h40 : ws.length ≤ 40) (B : Nat) (hB : 2001010 < B) :
    ∀ (d n k : Nat) (out : List ByteArray), ws.length - n = d → n ≤ ws.length → out.length ≤ n → (∀ s ∈ out, s.size ≤ 200) → 50 * d + B + 50 < k → pentaglotref01_Sort.l0 k l out ws (ws.length : Int) (n : Int) = some (Stb.isortA (cmpW l) out (ws.drop n))
  | 0, n, k, out, hd, hn, hol, ho, hk => by
    obtain ⟨k, rfl⟩ : ∃ m, k = m + 1 := ⟨k - 1, by omega⟩
    simp only [pentaglotref01_Sort.l0]
    rw [if_neg (by omega), List.drop_eq_nil_of_le (by omega)]
    rfl
  | d + 1, n, k, out, hd, hn, hol, ho, hk => by
    obtain ⟨k, rfl⟩ : ∃ m, k = m + 1 := ⟨k - 1, by omega⟩
    have hlt : n < ws.length := by omega
    have hm : ws[n] ∈ ws := List.getElem_mem hlt
    obtain ⟨k', i1, i2, i3⟩ := rsort_l1 l out ws ws[n] n hl ho (hw _ hm) (by omega) (by omega) B hB out.length k (Nat.le_refl _) (by omega)
    simp only [pentaglotref01_Sort.l0]
    rw [if_pos (by omega), if_pos (by omega), if_pos (by omega), rdO hlt, Stb.el_get hlt, i3, List.drop_eq_getElem_cons hlt]
    have hp := Stb.posR_le (cmpW l) ws[n] out out.length
    have hperm := Stb.insB_perm (cmpW l) ws[n] out
    have ih := rsort_l0 l ws hl hw h40 B hB d (n + 1) k' (Stb.insB (cmpW l) ws[n] out) (by omega) (by omega) (by rw [hperm.length_eq, List.length_cons]; omega) (fun s hs => by
      rcases List.mem_cons.1 (hperm.mem_iff.1 hs) with e | e
      · rw [e]; exact hw _ hm
      · exact ho s e) (by omega)
    unfold Stb.insB at ih
    rw [ih]
    rfl
theorem RSort_at {k : Nat} {l : List S42} {ws : List ByteArray} (hl : (l.length : Int) ≤ 1000) (hw : ∀ s ∈ ws, s.size ≤ 200) (h40 : ws.length ≤ 40) (hk : 2010000 < k) : pentaglotref01_Sort.f k l ws = some (Stb.isort (cmpW l) ws) := by
  unfold pentaglotref01_Sort.f
  have := rsort_l0 l ws hl hw h40 2001011 (by omega) ws.length 0 k [] (by omega) (by omega) (by simp) (by simp) (by omega)
  rw [show ((0 : Nat) : Int) = 0 by rfl] at this
  rw [this, List.drop_zero]
  rfl
theorem AlphabetSort (l : List S42) (ws : List ByteArray) (hg : good l = true) (hw : ws.length ≤ 9223372036854775807) : ∃ k, pentaglotlaw01_AlphabetSort.f k l ws = some true := by
  obtain ⟨K, hK⟩ : ∃ K : Nat, K = 3000000 + ws.length := ⟨_, rfl⟩
  refine ⟨K + 1, ?_⟩
  unfold pentaglotlaw01_AlphabetSort.f
  rw [awake_at (by omega)]
  simp only [Option.bind_some, if_true]
  rw [few_at2 l ws (by omega) (by omega)]
  simp only [Option.bind_some, pentaglotlaw01_AlphabetSort.j0]
  by_cases F : fewB l ws = true
  · have h1 := few_len F
    have h2 := few_40 F
    have ho := okA_mk hg (show (l.length : Int) ≤ 1000 by omega)
    rw [F, Bool.not_true, if_neg (by decide), Sort_at ho (fun s hs => few_size F hs) h2 (by omega), RSort_at (by omega) (fun s hs => few_size F hs) h2 (by omega)]
    simp only [Option.bind_some]
    rw [Same_at _ (by rw [Stb.isort_len]; omega) (by rw [Stb.isort_len]; omega)]
    rfl
  · rw [Bool.eq_false_iff.mpr F, Bool.not_false, if_pos rfl, awake_at (by omega)]
    rfl
end Go.Proofs.YtpgeimihmkampaaDoor.Pure
