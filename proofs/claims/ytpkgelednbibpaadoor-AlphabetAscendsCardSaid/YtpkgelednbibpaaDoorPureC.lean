/- The laws of the alphabet, in plain lists: Valid, Index, Letters, Word, Joins, Compare, Order, Select, Partner. No program and no memory stands here. -/
import Derived.Test.YtpkgelednbibpaaDoorPureB
import Derived.Laws.BitsAllLaws
set_option linter.unusedVariables false
set_option linter.unusedSimpArgs false
namespace Go.Proofs.YtpkgelednbibpaaDoor.Pure
open Go.RowKit Go.Lib Go.Proofs.YtpkgelednbibpaaDoor.C Go.Proofs.YtpkgelednbibpaaDoorW.PrintWords Go.Proofs.YtpkgelednbibpaaDoor.Utf

theorem good_of {l : List S42} (h : ∀ s ∈ l, (Lit.int .i32 s.f0).wf = true ∧ (Lit.int .u32 s.f1).wf = true) : good l = true := List.all_eq_true.2 (fun x hx => (h x hx).1)
theorem u32_wf {n : Int} (h : (Lit.int .u32 n).wf = true) : 0 ≤ n ∧ n < 4294967296 := by
  have a : IntKind.u32.min = 0 := by decide
  have b : IntKind.u32.max = 4294967295 := by decide
  simp only [Lit.wf, a, b] at h
  simp at h
  omega
theorem u32_lo {n : Int} (h : (Lit.int .u32 n).wf = true) : 0 ≤ n := (u32_wf h).1
theorem u32_hi {n : Int} (h : (Lit.int .u32 n).wf = true) : n < 4294967296 := (u32_wf h).2
theorem u32_of {l : List S42} (h : ∀ s ∈ l, (Lit.int .i32 s.f0).wf = true ∧ (Lit.int .u32 s.f1).wf = true) : ∀ s ∈ l, 0 ≤ s.f1 ∧ s.f1 < 4294967296 := fun s hs => u32_wf (h s hs).2
theorem AlphabetValid (l : List S42) (hg : good l = true) : ∃ k, pentaglotlaw01_AlphabetValid.f k l = some true := by
  obtain ⟨K, hK⟩ : ∃ K : Nat, K = 3000000 := ⟨_, rfl⟩
  refine ⟨K + 1, ?_⟩
  unfold pentaglotlaw01_AlphabetValid.f
  rw [awake_at (by omega)]
  simp only [Option.bind_some, if_true]
  rw [few_at l [] (by simp) (by simp)]
  simp only [Option.bind_some, pentaglotlaw01_AlphabetValid.j0]
  by_cases F : fewB l [] = true
  · have hl := few_len F
    rw [F, if_neg (by decide), Valid_at l hg (by omega)]
    simp only [Option.bind_some]
    rw [RValid_at l (by omega) (by omega)]
    simp
  · rw [Bool.eq_false_iff.mpr F, if_pos (by decide), awake_at (by omega)]
    rfl
theorem AlphabetIndex (l : List S42) (r : Int) (hg : good l = true) (hr : (Lit.int .i32 r).wf = true) : ∃ k, pentaglotlaw01_AlphabetIndex.f k l r = some true := by
  obtain ⟨K, hK⟩ : ∃ K : Nat, K = 3000000 := ⟨_, rfl⟩
  refine ⟨K + 1, ?_⟩
  unfold pentaglotlaw01_AlphabetIndex.f
  rw [awake_at (by omega)]
  simp only [Option.bind_some, if_true]
  rw [few_at l [] (by simp) (by simp)]
  simp only [Option.bind_some, pentaglotlaw01_AlphabetIndex.j0]
  by_cases F : fewB l [] = true
  · have hl := few_len F
    have ho := okA_mk hg (show (l.length : Int) ≤ 1000 by omega)
    rw [F, if_neg (by decide), AIndex_at ho hr]
    simp only [Option.bind_some]
    rw [Index_at l r (by omega) (by omega)]
    simp only [Option.bind_some, if_true]
    rw [AClasses_at ho hr]
    simp only [Option.bind_some]
    rw [Classes_at l r (by omega) (by omega)]
    simp
  · rw [Bool.eq_false_iff.mpr F, if_pos (by decide), awake_at (by omega)]
    rfl
theorem good_rd {l : List S42} (hg : good l = true) {n : Nat} (h : n < l.length) : (Lit.int .i32 (rd_T42 l (n : Int)).f0).wf = true := by
  have := List.all_eq_true.1 hg _ (List.getElem_mem h)
  rwa [rd_get h]
theorem AlphabetLetters (l : List S42) (i : Int) (hg : good l = true) : ∃ k, pentaglotlaw01_AlphabetLetters.f k l i = some true := by
  obtain ⟨K, hK⟩ : ∃ K : Nat, K = 3000000 := ⟨_, rfl⟩
  refine ⟨K + 1, ?_⟩
  unfold pentaglotlaw01_AlphabetLetters.f
  rw [awake_at (by omega)]
  simp only [Option.bind_some, if_true]
  have out : pentaglotlaw01_AlphabetLetters.j0 (K + 1) l i true = some true := by
    simp only [pentaglotlaw01_AlphabetLetters.j0]
    rw [if_pos trivial, awake_at (by omega)]
    rfl
  by_cases h0 : i < 0
  · rw [if_pos h0, out]
  · rw [if_neg h0]
    by_cases h1 : i ≥ (l.length : Int)
    · rw [if_pos h1, out]
    · rw [if_neg h1, Valid_at l hg (by omega)]
      simp only [Option.bind_some]
      by_cases V : vB l = true
      · have v := (vB_iff l).1 V
        have hl := v.l64
        have ho := okA_mk hg (show (l.length : Int) ≤ 1000 by omega)
        obtain ⟨n, rfl, hn⟩ := rd_int (l := l) (i := i) (by omega) (by omega)
        rw [V]
        simp only [Bool.not_true, pentaglotlaw01_AlphabetLetters.j0]
        rw [if_neg (by decide), if_pos (by omega), if_pos (by omega), AIndex_at ho (good_rd hg hn)]
        simp only [Option.bind_some]
        rw [v.fst n hn, Option.getD_some, if_pos rfl, AClasses_at ho (good_rd hg hn)]
        simp only [Option.bind_some]
        unfold cls
        rw [v.fst n hn]
        simp
      · rw [Bool.eq_false_iff.mpr V]
        exact out
theorem AlphabetWord (l : List S42) (s : ByteArray) (hg : good l = true) : ∃ k, pentaglotlaw01_AlphabetWord.f k l s = some true := by
  obtain ⟨K, hK⟩ : ∃ K : Nat, K = 3000000 := ⟨_, rfl⟩
  refine ⟨K + 1, ?_⟩
  unfold pentaglotlaw01_AlphabetWord.f
  rw [awake_at (by omega)]
  simp only [Option.bind_some, if_true]
  rw [few_at l [s] (by simp) (by simp; omega)]
  simp only [Option.bind_some, pentaglotlaw01_AlphabetWord.j0]
  by_cases F : fewB l [s] = true
  · have hl := few_len F
    have hs := few_size F (w := s) (by simp)
    have ho := okA_mk hg (show (l.length : Int) ≤ 1000 by omega)
    rw [F, if_neg (by decide), AIsWord_at ho (by omega)]
    simp only [Option.bind_some]
    rw [RIsWord_at l s (by omega) (by omega) (by omega)]
    simp
  · rw [Bool.eq_false_iff.mpr F, if_pos (by decide), awake_at (by omega)]
    rfl
theorem AlphabetCompare (l : List S42) (s t : ByteArray) (hg : good l = true) : ∃ k, pentaglotlaw01_AlphabetCompare.f k l s t = some true := by
  obtain ⟨K, hK⟩ : ∃ K : Nat, K = 3000000 := ⟨_, rfl⟩
  refine ⟨K + 1, ?_⟩
  unfold pentaglotlaw01_AlphabetCompare.f
  rw [awake_at (by omega)]
  simp only [Option.bind_some, if_true]
  rw [few_at l [s, t] (by simp) (by simp; omega)]
  simp only [Option.bind_some, pentaglotlaw01_AlphabetCompare.j0]
  by_cases F : fewB l [s, t] = true
  · have hl := few_len F
    have hs := few_size F (w := s) (by simp)
    have ht := few_size F (w := t) (by simp)
    have ho := okA_mk hg (show (l.length : Int) ≤ 1000 by omega)
    rw [F, if_neg (by decide), ACompare_at ho (by omega) (by omega) (by omega)]
    simp only [Option.bind_some]
    rw [RCompare_at l s t (by omega) (by omega) (by omega) (by omega)]
    simp
  · rw [Bool.eq_false_iff.mpr F, if_pos (by decide), awake_at (by omega)]
    rfl
theorem wB_append (l : List S42) {s t : ByteArray} (hs : validD s.data.toList = true) (ht : validD t.data.toList = true) :
    wB l (s ++ t) = (wB l s && (wB l t && decide (((rns s).length : Int) + (rns t).length ≤ 40))) := by
  unfold wB
  rw [valid_cat hs, hs, ht, rns_append hs, List.all_append, List.length_append]
  rw [Bool.eq_iff_iff]
  simp only [Bool.true_and, Bool.and_eq_true, decide_eq_true_eq]
  constructor
  · rintro ⟨⟨a, b⟩, c⟩
    exact ⟨⟨a, by omega⟩, ⟨b, by omega⟩, by omega⟩
  · rintro ⟨⟨a, _⟩, ⟨b, _⟩, c⟩
    exact ⟨⟨a, b⟩, by omega⟩
theorem AlphabetJoins (l : List S42) (s t : ByteArray) (hg : good l = true) : ∃ k, pentaglotlaw01_AlphabetJoins.f k l s t = some true := by
  obtain ⟨K, hK⟩ : ∃ K : Nat, K = 3000000 := ⟨_, rfl⟩
  refine ⟨K + 1, ?_⟩
  unfold pentaglotlaw01_AlphabetJoins.f
  rw [awake_at (by omega)]
  simp only [Option.bind_some, if_true]
  have out : pentaglotlaw01_AlphabetJoins.j0 (K + 1) l s t true = some true := by
    simp only [pentaglotlaw01_AlphabetJoins.j0]
    rw [if_pos trivial, awake_at (by omega)]
    rfl
  rw [few_at l [s, t] (by simp) (by simp; omega)]
  simp only [Option.bind_some]
  by_cases F : fewB l [s, t] = true
  · have hl := few_len F
    have hs := few_size F (w := s) (by simp)
    have ht := few_size F (w := t) (by simp)
    have ho := okA_mk hg (show (l.length : Int) ≤ 1000 by omega)
    rw [if_pos F, UTF8_at s (by omega) (by omega)]
    simp only [Option.bind_some]
    by_cases U : validD s.data.toList = true
    · rw [if_pos U, UTF8_at t (by omega) (by omega)]
      simp only [Option.bind_some]
      by_cases V : validD t.data.toList = true
      · rw [V]
        simp only [Bool.not_true, pentaglotlaw01_AlphabetJoins.j0]
        have l1 := rns_len s
        have l2 := rns_len t
        have hc : (s ++ t).size ≤ 1000000 := by rw [ByteArray.size_append]; omega
        rw [if_neg (by decide), AIsWord_at ho (show s.size ≤ 1000000 by omega), AIsWord_at ho (show t.size ≤ 1000000 by omega), AIsWord_at ho hc, wB_append l U V]
        simp only [Option.bind_some]
        by_cases W : wB l s = true
        · rw [if_pos W]
          by_cases W2 : wB l t = true
          · rw [if_pos W2, if_pos (by omega), if_pos (by omega), if_pos (by omega), W, W2, wrap_id (by omega) (by omega)]
            simp
          · rw [if_neg W2, if_pos (by omega), W, Bool.eq_false_iff.mpr W2]
            simp
        · rw [if_neg W, if_pos (by omega), Bool.eq_false_iff.mpr W]
          simp
      · rw [Bool.eq_false_iff.mpr V]
        exact out
    · rw [if_neg U, out]
  · rw [if_neg F, out]
theorem str_beq (s t : ByteArray) : (s.toList == t.toList) = decide (s = t) := by
  rw [Bool.eq_iff_iff, beq_iff_eq, decide_eq_true_iff, toList_data, toList_data]
  exact ⟨str_ext, fun h => by rw [h]⟩
theorem AlphabetOrder (l : List S42) (s t u : ByteArray) (hg : good l = true) : ∃ k, pentaglotlaw01_AlphabetOrder.f k l s t u = some true := by
  obtain ⟨K, hK⟩ : ∃ K : Nat, K = 3000000 := ⟨_, rfl⟩
  refine ⟨K + 1, ?_⟩
  unfold pentaglotlaw01_AlphabetOrder.f
  rw [awake_at (by omega)]
  simp only [Option.bind_some, if_true]
  have out : pentaglotlaw01_AlphabetOrder.j0 (K + 1) l s t u true = some true := by
    simp only [pentaglotlaw01_AlphabetOrder.j0]
    rw [if_pos trivial, awake_at (by omega)]
    rfl
  rw [few_at l [s, t, u] (by simp) (by simp; omega)]
  simp only [Option.bind_some]
  by_cases F : fewB l [s, t, u] = true
  · have hl := few_len F
    have hs := few_size F (w := s) (by simp)
    have ht := few_size F (w := t) (by simp)
    have hu := few_size F (w := u) (by simp)
    have ho := okA_mk hg (show (l.length : Int) ≤ 1000 by omega)
    rw [if_pos F, UTF8_at s (by omega) (by omega)]
    simp only [Option.bind_some]
    by_cases U : validD s.data.toList = true
    · rw [if_pos U, UTF8_at t (by omega) (by omega)]
      simp only [Option.bind_some]
      by_cases V : validD t.data.toList = true
      · rw [V]
        simp only [Bool.not_true, pentaglotlaw01_AlphabetOrder.j0]
        rw [if_neg (by decide), ACompare_at ho (show s.size ≤ 1000000 by omega) (show t.size ≤ 1000000 by omega) (by omega), ACompare_at ho (show t.size ≤ 1000000 by omega) (show u.size ≤ 1000000 by omega) (by omega), ACompare_at ho (show t.size ≤ 1000000 by omega) (show s.size ≤ 1000000 by omega) (by omega)]
        simp only [Option.bind_some]
        have hr := cmpL_range (weights l s) (weights l t)
        have ha : cmpS l t s = -cmpS l s t := cmpL_anti _ _
        have hz := cmpS_zero (l := l) U V
        have htr := cmpL_trans (weights l s) (weights l t) (weights l u)
        have hcu : cmpS l s u = cmpL (weights l s) (weights l u) := rfl
        have hct : cmpS l s t = cmpL (weights l s) (weights l t) := rfl
        have htu : cmpS l t u = cmpL (weights l t) (weights l u) := rfl
        rw [← hct] at hr htr
        rw [← htu, ← hcu] at htr
        rw [ha, wrap_id (by omega) (by omega), if_pos rfl, str_beq]
        have hq : ((cmpS l s t == 0) != decide (s = t)) = false := by
          rw [bne_eq_false_iff_eq, Bool.eq_iff_iff, beq_iff_eq, decide_eq_true_iff]
          exact hz
        rw [hq, if_neg (by decide), if_neg (by omega), if_neg (by omega)]
        by_cases a : cmpS l s t > 0
        · rw [if_pos a]
        · rw [if_neg a]
          by_cases b : cmpS l t u > 0
          · rw [if_pos b]
          · rw [if_neg b, ACompare_at ho (show s.size ≤ 1000000 by omega) (show u.size ≤ 1000000 by omega) (by omega)]
            simp only [Option.bind_some]
            rw [decide_eq_true (htr (by omega) (by omega))]
      · rw [Bool.eq_false_iff.mpr V]
        exact out
    · rw [if_neg U, out]
  · rw [if_neg F, out]

/-! ### Select -/
def sel (l : List S42) (m : Int) : List Int := (l.filter (fun x => Go.bits .and .u32 x.f1 m == m)).map (fun x => x.f0)
theorem sel_cons (x : S42) (l : List S42) (m : Int) : sel (x :: l) m = if Go.bits .and .u32 x.f1 m = m then x.f0 :: sel l m else sel l m := by
  unfold sel
  rw [List.filter_cons]
  by_cases h : Go.bits .and .u32 x.f1 m = m
  · rw [if_pos (by simp [h]), if_pos h]; rfl
  · rw [if_neg (by simp [h]), if_neg h]
theorem select_loop (l : List S42) (m : Int) (hl : (l.length : Int) ≤ 1000) : ∀ (d n k : Nat) (acc : List Int), l.length - n = d → n ≤ l.length → acc.length ≤ n → d < k →
    alphabet_Select.l0 k m acc l (l.length : Int) (n : Int) = some (acc ++ sel (l.drop n) m)
  | 0, n, k, acc, hd, hn, ha, hk => by
    obtain ⟨k, rfl⟩ : ∃ m, k = m + 1 := ⟨k - 1, by omega⟩
    simp only [alphabet_Select.l0]
    rw [if_neg (by omega), List.drop_eq_nil_of_le (by omega)]
    simp [sel]
  | d + 1, n, k, acc, hd, hn, ha, hk => by
    obtain ⟨k, rfl⟩ : ∃ m, k = m + 1 := ⟨k - 1, by omega⟩
    have hlt : n < l.length := by omega
    simp only [alphabet_Select.l0]
    rw [if_pos (by omega), if_pos (by omega), if_pos (by omega), rd_get hlt, List.drop_eq_getElem_cons hlt, sel_cons, wrap_id (by omega) (by omega), show (n : Int) + 1 = ((n + 1 : Nat) : Int) by omega]
    by_cases e : Go.bits .and .u32 l[n].f1 m = m
    · rw [if_pos e, if_pos e, if_pos (by omega), select_loop l m hl d (n + 1) k _ (by omega) (by omega) (by simp; omega) (by omega)]
      simp
    · rw [if_neg e, if_neg e, select_loop l m hl d (n + 1) k _ (by omega) (by omega) (by omega) (by omega)]
theorem rselect_loop (l : List S42) (m : Int) (hl : (l.length : Int) ≤ 1000) : ∀ (d n k : Nat) (acc : List Int), l.length - n = d → n ≤ l.length → acc.length ≤ n → d < k →
    pentaglotref01_Select.l0 k m acc l (l.length : Int) (n : Int) = some (acc ++ sel (l.drop n) m)
  | 0, n, k, acc, hd, hn, ha, hk => by
    obtain ⟨k, rfl⟩ : ∃ m, k = m + 1 := ⟨k - 1, by omega⟩
    simp only [pentaglotref01_Select.l0]
    rw [if_neg (by omega), List.drop_eq_nil_of_le (by omega)]
    simp [sel]
  | d + 1, n, k, acc, hd, hn, ha, hk => by
    obtain ⟨k, rfl⟩ : ∃ m, k = m + 1 := ⟨k - 1, by omega⟩
    have hlt : n < l.length := by omega
    simp only [pentaglotref01_Select.l0]
    rw [if_pos (by omega), if_pos (by omega), if_pos (by omega), rd_get hlt, List.drop_eq_getElem_cons hlt, sel_cons, wrap_id (by omega) (by omega), show (n : Int) + 1 = ((n + 1 : Nat) : Int) by omega]
    simp only [pentaglotref01_Has.f, Option.bind_some]
    by_cases e : Go.bits .and .u32 l[n].f1 m = m
    · rw [if_pos (by simp [e]), if_pos e, if_pos (by omega), rselect_loop l m hl d (n + 1) k _ (by omega) (by omega) (by simp; omega) (by omega)]
      simp
    · rw [if_neg (by simp [e]), if_neg e, rselect_loop l m hl d (n + 1) k _ (by omega) (by omega) (by omega) (by omega)]
theorem AlphabetSelect (l : List S42) (m : Int) (hg : good l = true) : ∃ k, pentaglotlaw01_AlphabetSelect.f k l m = some true := by
  obtain ⟨K, hK⟩ : ∃ K : Nat, K = 3000000 := ⟨_, rfl⟩
  refine ⟨K + 1, ?_⟩
  unfold pentaglotlaw01_AlphabetSelect.f
  rw [awake_at (by omega)]
  simp only [Option.bind_some, if_true]
  rw [few_at l [] (by simp) (by simp)]
  simp only [Option.bind_some, pentaglotlaw01_AlphabetSelect.j0]
  by_cases F : fewB l [] = true
  · have hl := few_len F
    have h1 := select_loop l m (by omega) l.length 0 K [] (by omega) (by omega) (by simp) (by omega)
    have h2 := rselect_loop l m (by omega) l.length 0 K [] (by omega) (by omega) (by simp) (by omega)
    rw [show ((0 : Nat) : Int) = 0 by rfl] at h1 h2
    rw [F, if_neg (by decide)]
    unfold alphabet_Select.f pentaglotref01_Select.f
    rw [h1, h2]
    simp only [Option.bind_some, pentaglotref01_Runes.f, if_true]
    simp
  · rw [Bool.eq_false_iff.mpr F, if_pos (by decide), awake_at (by omega)]
    rfl

/-! ### Partner -/
/-- The first letter with these classes. -/
def byCls (w : Int) : List S42 → Int × Bool
  | [] => (0, false)
  | x :: xs => if x.f1 = w then (x.f0, true) else byCls w xs
theorem partner_loop (l : List S42) (w : Int) (hl : (l.length : Int) ≤ 1000) : ∀ (d n k : Nat), l.length - n = d → n ≤ l.length → d < k →
    alphabet_Partner.l0 k l w (n : Int) = some (byCls w (l.drop n))
  | 0, n, k, hd, hn, hk => by
    obtain ⟨k, rfl⟩ : ∃ m, k = m + 1 := ⟨k - 1, by omega⟩
    simp only [alphabet_Partner.l0]
    rw [if_neg (by omega), List.drop_eq_nil_of_le (by omega)]
    rfl
  | d + 1, n, k, hd, hn, hk => by
    obtain ⟨k, rfl⟩ : ∃ m, k = m + 1 := ⟨k - 1, by omega⟩
    have hlt : n < l.length := by omega
    simp only [alphabet_Partner.l0]
    rw [if_pos (by omega), rd_get hlt, List.drop_eq_getElem_cons hlt]
    simp only [byCls]
    by_cases e : l[n].f1 = w
    · rw [if_pos e, if_pos e]
    · rw [if_neg e, if_neg e, show (n : Int) + 1 = ((n + 1 : Nat) : Int) by omega, partner_loop l w hl d (n + 1) k (by omega) (by omega) (by omega)]
/-- The partner of a rune. -/
def prt (l : List S42) (r t : Int) : Int × Bool := (fi l r).elim (0, false) (fun i => byCls (Go.bits .xor .u32 (rd_T42 l i).f1 t) l)
theorem APartner_at {k : Nat} {l : List S42} {r t : Int} (ho : okA l = true) (hr : (Lit.int .i32 r).wf = true) (hk : 1001 < k) : alphabet_Partner.f k l r t = some (prt l r t) := by
  unfold alphabet_Partner.f prt
  rw [if_pos ho, if_pos hr]
  have hl := (okA_at ho).2
  have e : firstIn l l.length r = fi l r := rfl
  rw [e]
  cases h : fi l r with
  | none => rfl
  | some i =>
    have := partner_loop l (Go.bits .xor .u32 (rd_T42 l i).f1 t) hl l.length 0 k (by omega) (by omega) (by omega)
    rw [show ((0 : Nat) : Int) = 0 by rfl] at this
    exact this
theorem rpartner_loop (l : List S42) (i t : Int) (hl : (l.length : Int) ≤ 1000) (h0 : 0 ≤ i) (h1 : i < (l.length : Int)) : ∀ (d n k : Nat), l.length - n = d → n ≤ l.length → d < k →
    pentaglotref01_Partner.l0 k l t i l (l.length : Int) (n : Int) = some (byCls (Go.bits .xor .u32 (rd_T42 l i).f1 t) (l.drop n))
  | 0, n, k, hd, hn, hk => by
    obtain ⟨k, rfl⟩ : ∃ m, k = m + 1 := ⟨k - 1, by omega⟩
    simp only [pentaglotref01_Partner.l0]
    rw [if_neg (by omega), List.drop_eq_nil_of_le (by omega)]
    rfl
  | d + 1, n, k, hd, hn, hk => by
    obtain ⟨k, rfl⟩ : ∃ m, k = m + 1 := ⟨k - 1, by omega⟩
    have hlt : n < l.length := by omega
    simp only [pentaglotref01_Partner.l0]
    rw [if_pos (by omega), if_pos (by omega), if_pos (by omega), if_pos h0, if_pos h1, rd_get hlt, List.drop_eq_getElem_cons hlt]
    simp only [byCls]
    by_cases e : l[n].f1 = Go.bits .xor .u32 (rd_T42 l i).f1 t
    · rw [if_pos e, if_pos e]
    · rw [if_neg e, if_neg e, wrap_id (by omega) (by omega), show (n : Int) + 1 = ((n + 1 : Nat) : Int) by omega, rpartner_loop l i t hl h0 h1 d (n + 1) k (by omega) (by omega) (by omega)]
theorem RPartner_at {k : Nat} (l : List S42) (r t : Int) (hl : (l.length : Int) ≤ 1000) (hk : 1001 < k) : pentaglotref01_Partner.f k l r t = some (prt l r t) := by
  unfold pentaglotref01_Partner.f prt
  rw [Index_at l r hl hk]
  simp only [Option.bind_some]
  cases h : fi l r with
  | none => rfl
  | some i =>
    obtain ⟨h0, h1⟩ := fi_range h
    have := rpartner_loop l i t hl h0 h1 l.length 0 k (by omega) (by omega) (by omega)
    rw [show ((0 : Nat) : Int) = 0 by rfl] at this
    simp only [Option.getD_some, Option.elim_some]
    rw [if_neg (by omega), this]
    rfl
theorem byCls_found (w : Int) : ∀ l : List S42, (byCls w l).2 = true → ∃ x, x ∈ l ∧ x.f0 = (byCls w l).1 ∧ x.f1 = w
  | [], h => by cases h
  | x :: xs, h => by
    simp only [byCls] at h ⊢
    by_cases e : x.f1 = w
    · rw [if_pos e]; exact ⟨x, by simp, rfl, e⟩
    · rw [if_neg e] at h ⊢
      obtain ⟨y, a, b, c⟩ := byCls_found w xs h
      exact ⟨y, by simp [a], b, c⟩
theorem byCls_has (w : Int) : ∀ l : List S42, (∃ x, x ∈ l ∧ x.f1 = w) → (byCls w l).2 = true
  | [], h => by obtain ⟨x, hx, _⟩ := h; simp at hx
  | x :: xs, h => by
    simp only [byCls]
    by_cases e : x.f1 = w
    · rw [if_pos e]
    · rw [if_neg e]
      obtain ⟨y, hy, hw⟩ := h
      rcases List.mem_cons.1 hy with rfl | hy
      · exact absurd hw e
      · exact byCls_has w xs ⟨y, hy, hw⟩
/-- Of a valid alphabet: a letter's rune has that letter's classes. -/
theorem cls_mem {l : List S42} (v : Val l) {x : S42} (hx : x ∈ l) : ∃ i, fi l x.f0 = some i ∧ rd_T42 l i = x := by
  obtain ⟨n, hn, rfl⟩ := List.getElem_of_mem hx
  have := v.fst n hn
  rw [rd_get hn] at this
  exact ⟨n, this, rd_get hn⟩
theorem xor_back {a t : Int} (h1 : 0 ≤ a) (h2 : a < 4294967296) (h3 : 0 ≤ t) (h4 : t < 4294967296) : Go.bits .xor .u32 (Go.bits .xor .u32 a t) t = a := by
  have e := u32_xor a t h1 h2 h3 h4
  have hx : a.toNat ^^^ t.toNat < 2 ^ 32 := Nat.xor_lt_two_pow (by omega) (by omega)
  rw [e, u32_xor _ t (by omega) (by omega) h3 h4, Int.toNat_natCast, Nat.xor_assoc, Nat.xor_self, Nat.xor_zero]
  omega
theorem AlphabetPartner (l : List S42) (r t : Int) (hg : good l = true) (hu : ∀ x ∈ l, 0 ≤ x.f1 ∧ x.f1 < 4294967296) (hr : (Lit.int .i32 r).wf = true) (h0 : 0 ≤ t) (h1 : t < 4294967296) : ∃ k, pentaglotlaw01_AlphabetPartner.f k l r t = some true := by
  obtain ⟨K, hK⟩ : ∃ K : Nat, K = 3000000 := ⟨_, rfl⟩
  refine ⟨K + 3, ?_⟩
  unfold pentaglotlaw01_AlphabetPartner.f
  rw [awake_at (by omega)]
  simp only [Option.bind_some, if_true]
  rw [few_at l [] (by simp) (by simp)]
  simp only [Option.bind_some, pentaglotlaw01_AlphabetPartner.j0]
  by_cases F : fewB l [] = true
  · have hl := few_len F
    have ho := okA_mk hg (show (l.length : Int) ≤ 1000 by omega)
    rw [F, if_neg (by decide), APartner_at ho hr (by omega)]
    simp only [Option.bind_some]
    rw [RPartner_at l r t (by omega) (by omega)]
    simp only [Option.bind_some, if_true, bne_self_eq_false, pentaglotlaw01_AlphabetPartner.j1]
    rw [if_neg (by decide)]
    by_cases P : (prt l r t).2 = true
    · rw [if_pos P, RValid_at l (by omega) (by omega)]
      simp only [Option.bind_some, pentaglotlaw01_AlphabetPartner.j2]
      by_cases V : vB l = true
      · have v := (vB_iff l).1 V
        rw [V, if_neg (by decide)]
        have hfi : ∃ i, fi l r = some i := by
          unfold prt at P
          cases h : fi l r with
          | none => rw [h] at P; cases P
          | some i => exact ⟨i, rfl⟩
        obtain ⟨i, hi⟩ := hfi
        obtain ⟨n, rfl, hn⟩ := fi_some hi
        have hP : prt l r t = byCls (Go.bits .xor .u32 (rd_T42 l (n : Int)).f1 t) l := by unfold prt; rw [hi]; rfl
        rw [hP] at P ⊢
        obtain ⟨y, hy, e1, e2⟩ := byCls_found _ l P
        rw [← e1]
        have hyw : (Lit.int .i32 y.f0).wf = true := List.all_eq_true.1 hg y hy
        have hrn : rd_T42 l (n : Int) ∈ l := by rw [rd_get hn.1]; exact List.getElem_mem hn.1
        have hun := hu _ hrn
        obtain ⟨j, hj, ej⟩ := cls_mem v hy
        rw [APartner_at ho hyw (by omega)]
        simp only [Option.bind_some]
        have hQ : prt l y.f0 t = byCls (rd_T42 l (n : Int)).f1 l := by
          unfold prt
          rw [hj, Option.elim_some, ej, e2, xor_back hun.1 hun.2 h0 h1]
        have hQ2 := byCls_has (rd_T42 l (n : Int)).f1 l ⟨_, hrn, rfl⟩
        rw [hQ, if_pos hQ2]
        obtain ⟨z, hz, z1, z2⟩ := byCls_found _ l hQ2
        rw [← z1, AClasses_at ho (List.all_eq_true.1 hg z hz), AClasses_at ho hr]
        simp only [Option.bind_some]
        obtain ⟨q, hq, eq⟩ := cls_mem v hz
        unfold cls
        rw [hq, hi, Option.elim_some, Option.elim_some, eq, z2]
        simp
      · rw [Bool.eq_false_iff.mpr V]
        rfl
    · rw [if_neg P]
      simp only [pentaglotlaw01_AlphabetPartner.j2, if_true]
  · rw [Bool.eq_false_iff.mpr F, if_pos (by decide), awake_at (by omega)]
    rfl
end Go.Proofs.YtpkgelednbibpaaDoor.Pure
