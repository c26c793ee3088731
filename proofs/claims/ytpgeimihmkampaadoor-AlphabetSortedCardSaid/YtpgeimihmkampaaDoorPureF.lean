/- The second law on Sort: each string is at most the next one, and each occurs as often as before. No program and no memory stands here. -/
import Derived.Test.YtpgeimihmkampaaDoorPure
set_option linter.unusedVariables false
set_option linter.unusedSimpArgs false
namespace Go.Proofs.YtpgeimihmkampaaDoor.Pure
open Go.RowKit Go.Lib Go.Proofs.YtpgeimihmkampaaDoor.C Go.Proofs.YtpgeimihmkampaaDoorW.PrintWords Go.Proofs.YtpgeimihmkampaaDoor.Utf

/-- How often a string occurs. -/
def cnt (s : ByteArray) (xs : List ByteArray) : Nat := xs.countP (fun y => decide (y.toList = s.toList))
theorem cnt_le (s : ByteArray) (xs : List ByteArray) : cnt s xs ≤ xs.length := List.countP_le_length
theorem cnt_take (s : ByteArray) (xs : List ByteArray) {m : Nat} (h : m < xs.length) : cnt s (xs.take (m + 1)) = cnt s (xs.take m) + if xs[m].toList = s.toList then 1 else 0 := by
  unfold cnt
  rw [List.take_succ_eq_append_getElem h, List.countP_append, List.countP_cons, List.countP_nil, Nat.zero_add]
  simp
theorem rdB {out : List ByteArray} {n : Nat} (h : n < out.length) : rdOf ByteArray.empty out (n : Int) = out[n] := by
  simp [rdOf, List.getD, List.getElem?_eq_getElem h]
theorem sorted_l1 (ws x : List ByteArray) (s : ByteArray) (hw : ws.length ≤ 40) (hx : x.length = ws.length) (hc : cnt s x = cnt s ws) : ∀ (d m k : Nat), ws.length - m = d → m ≤ ws.length → d < k →
    pentaglotlaw01_AlphabetSorted.l1 k ws s x ((cnt s x : Int) - (cnt s (ws.take m) : Int)) (m : Int) = some true
  | 0, m, k, hd, hm, hk => by
    obtain ⟨k, rfl⟩ : ∃ q, k = q + 1 := ⟨k - 1, by omega⟩
    simp only [pentaglotlaw01_AlphabetSorted.l1]
    rw [if_neg (by omega), List.take_of_length_le (by omega), if_pos (by omega), hx]
    simp
  | d + 1, m, k, hd, hm, hk => by
    obtain ⟨k, rfl⟩ : ∃ q, k = q + 1 := ⟨k - 1, by omega⟩
    have hlt : m < ws.length := by omega
    have h1 := cnt_take s ws hlt
    have b1 := cnt_le s (ws.take m)
    have b2 := cnt_le s x
    rw [List.length_take] at b1
    have ih := sorted_l1 ws x s hw hx hc d (m + 1) k (by omega) (by omega) (by omega)
    have p1 : (m : Int) < (ws.length : Int) := by omega
    have p2 : (0 : Int) ≤ (m : Int) := by omega
    have w1 : wrap64 ((m : Int) + 1) = ((m + 1 : Nat) : Int) := by rw [wrap_id (by omega) (by omega)]; omega
    have w2 : wrap64 ((cnt s x : Int) - (cnt s (ws.take m) : Int) - 1) = (cnt s x : Int) - (cnt s (ws.take m) : Int) - 1 := by clear w1 ih h1; exact wrap_id (by omega) (by omega)
    simp only [pentaglotlaw01_AlphabetSorted.l1]
    rw [if_pos p1, if_pos p2, rdB hlt, w1, w2]
    rw [h1] at ih
    by_cases c : ws[m].toList = s.toList
    · rw [if_pos c] at ih ⊢
      rw [← ih]
      congr 1
      clear w1 w2
      omega
    · rw [if_neg c] at ih ⊢
      exact ih
theorem sorted_l0 (l : List S42) (ws x : List ByteArray) (s : ByteArray) (ho : okA l = true) (hs : ∀ y ∈ x, y.size ≤ 200) (hp : x.Pairwise (fun a b => cmpW l a b ≤ 0)) (hw : ws.length ≤ 40) (hx : x.length = ws.length) (hc : cnt s x = cnt s ws) (B : Nat) (hB : 1000000 < B) : ∀ (d m k : Nat), x.length - m = d → m ≤ x.length → 2 * d + B + 50 < k →
    pentaglotlaw01_AlphabetSorted.l0 k l ws s x (cnt s (x.take m) : Int) (m : Int) = some true
  | 0, m, k, hd, hm, hk => by
    obtain ⟨k, rfl⟩ : ∃ q, k = q + 1 := ⟨k - 1, by omega⟩
    simp only [pentaglotlaw01_AlphabetSorted.l0]
    rw [if_neg (by omega), List.take_of_length_le (by omega)]
    have := sorted_l1 ws x s hw hx hc ws.length 0 k (by omega) (by omega) (by omega)
    rw [List.take_zero] at this
    simpa [cnt] using this
  | d + 1, m, k, hd, hm, hk => by
    obtain ⟨k, rfl⟩ : ∃ q, k = q + 1 + 1 := ⟨k - 2, by omega⟩
    have hlt : m < x.length := by omega
    have h1 := cnt_take s x hlt
    have b1 := cnt_le s (x.take m)
    rw [List.length_take] at b1
    have ih := sorted_l0 l ws x s ho hs hp hw hx hc B hB d (m + 1) k (by omega) (by omega) (by omega)
    have p1 : (m : Int) < (x.length : Int) := by omega
    have p2 : (0 : Int) ≤ (m : Int) := by omega
    have w1 : wrap64 ((m : Int) + 1) = ((m + 1 : Nat) : Int) := by rw [wrap_id (by omega) (by omega)]; omega
    have w2 : wrap64 ((cnt s (x.take m) : Int) + 1) = ((cnt s (x.take m) + 1 : Nat) : Int) := by clear w1 ih h1; rw [wrap_id (by omega) (by omega)]; omega
    have j2 : pentaglotlaw01_AlphabetSorted.j2 (k + 1) l ws s x (cnt s (x.take m) : Int) (m : Int) false = some true := by
      simp only [pentaglotlaw01_AlphabetSorted.j2, Bool.false_eq_true, if_false]
      rw [if_pos p2, if_pos p1, rdB hlt, w1, w2]
      rw [h1] at ih
      by_cases c : x[m].toList = s.toList
      · rw [if_pos c] at ih ⊢
        exact ih
      · rw [if_neg c] at ih ⊢
        exact ih
    simp only [pentaglotlaw01_AlphabetSorted.l0]
    rw [if_pos p1]
    by_cases c0 : (m : Int) > 0
    · have q1 : m - 1 < x.length := by clear w1 w2; omega
      have w3 : wrap64 ((m : Int) - 1) = ((m - 1 : Nat) : Int) := by clear w1 w2; rw [wrap_id (by omega) (by omega)]; omega
      have q2 : (0 : Int) ≤ ((m - 1 : Nat) : Int) := by clear w1 w2 w3; omega
      have q3 : ((m - 1 : Nat) : Int) < (x.length : Int) := by clear w1 w2 w3; omega
      have q4 : m - 1 < m := by clear w1 w2 w3; omega
      have hle := List.pairwise_iff_getElem.1 hp (m - 1) m q1 hlt q4
      rw [cmpW_eq] at hle
      have z1 := hs _ (List.getElem_mem q1)
      have z2 := hs _ (List.getElem_mem hlt)
      have hcm := ACompare_at (k := k + 1) (l := l) (s := x[m - 1]) (t := x[m]) ho (by clear w1 w2 w3; omega) (by clear w1 w2 w3; omega) (by clear w1 w2 w3; omega)
      rw [if_pos c0, w3, if_pos q2, if_pos q3, if_pos p2, rdB q1, rdB hlt, hcm]
      simp only [Option.bind_some]
      rw [decide_eq_false (show ¬ cmpS l x[m - 1] x[m] > 0 by clear w1 w2 w3; omega)]
      exact j2
    · rw [if_neg c0]
      exact j2
theorem AlphabetSorted (l : List S42) (ws : List ByteArray) (s : ByteArray) (hg : good l = true) (hw : ws.length ≤ 9223372036854775807) : ∃ k, pentaglotlaw01_AlphabetSorted.f k l ws s = some true := by
  obtain ⟨K, hK⟩ : ∃ K : Nat, K = 3000000 + ws.length := ⟨_, rfl⟩
  refine ⟨K + 1, ?_⟩
  have out : pentaglotlaw01_AlphabetSorted.j0 (K + 1) l ws s true = some true := by
    simp only [pentaglotlaw01_AlphabetSorted.j0, if_true]
    rw [awake_at (by omega)]
    rfl
  unfold pentaglotlaw01_AlphabetSorted.f
  rw [awake_at (by omega)]
  simp only [Option.bind_some, if_true]
  rw [few_at2 l ws (by omega) (by omega)]
  simp only [Option.bind_some]
  by_cases F : fewB l ws = true
  · rw [F, if_pos rfl]
    by_cases Z : (s.size : Int) > 200
    · rw [decide_eq_true Z]; exact out
    · rw [decide_eq_false Z]
      have h1 := few_len F
      have h2 := few_40 F
      have ho := okA_mk hg (show (l.length : Int) ≤ 1000 by omega)
      simp only [pentaglotlaw01_AlphabetSorted.j0, Bool.false_eq_true, if_false]
      rw [Sort_at ho (fun s hs => few_size F hs) h2 (by omega)]
      simp only [Option.bind_some]
      have hperm := Stb.isort_perm (cmpW l) ws
      have := sorted_l0 l ws (Stb.isort (cmpW l) ws) s ho (fun y hy => few_size F (hperm.mem_iff.1 hy)) (Stb.isort_sorted (cmpW_cmp l) ws) h2 (Stb.isort_len _ _) (by unfold cnt; exact hperm.countP_eq _) 1000001 (by omega) _ 0 K rfl (by omega) (by rw [Stb.isort_len]; omega)
      rw [List.take_zero] at this
      simpa [cnt] using this
  · rw [Bool.eq_false_iff.mpr F, if_neg (by decide)]
    exact out
end Go.Proofs.YtpgeimihmkampaaDoor.Pure
