/- The laws of the alphabet, in plain lists: Words, Ascends. No program and no memory stands here. -/
import Derived.Test.YtpkgelednbibpaaDoorPureC
set_option linter.unusedVariables false
set_option linter.unusedSimpArgs false
namespace Go.Proofs.YtpkgelednbibpaaDoor.Pure
open Go.RowKit Go.Lib Go.Proofs.YtpkgelednbibpaaDoor.C Go.Proofs.YtpkgelednbibpaaDoorW.PrintWords Go.Proofs.YtpkgelednbibpaaDoor.Utf

/-- Each string with each letter behind it. -/
def nxt (l : List S42) (ws : List ByteArray) : List ByteArray := ws.flatMap (fun s => l.map (fun x => s ++ Utf8.encode x.f0))
theorem nxt_cons (l : List S42) (s : ByteArray) (ws : List ByteArray) : nxt l (s :: ws) = l.map (fun x => s ++ Utf8.encode x.f0) ++ nxt l ws := by simp [nxt]
theorem nxt_length (l : List S42) : ∀ ws, (nxt l ws).length = ws.length * l.length
  | [] => by simp [nxt]
  | s :: ws => by rw [nxt_cons, List.length_append, nxt_length l ws, List.length_map, List.length_cons, Nat.add_mul]; omega
theorem enc_size (r : Int) : (Utf8.encode r).size ≤ 4 := encode_size_le r
def low (B : Nat) (ws : List ByteArray) : Prop := ∀ w ∈ ws, w.size ≤ B
theorem nxt_low {l : List S42} {B : Nat} {ws : List ByteArray} (h : low B ws) : low (B + 4) (nxt l ws) := by
  intro w hw
  obtain ⟨s, hs, hw⟩ := List.mem_flatMap.1 hw
  obtain ⟨x, hx, rfl⟩ := List.mem_map.1 hw
  have := h s hs
  have := enc_size x.f0
  rw [ByteArray.size_append]
  omega
theorem rdOf_get {ws : List ByteArray} {n : Nat} (h : n < ws.length) : rdOf ByteArray.empty ws (n : Int) = ws[n] := by simp [rdOf, List.getD, List.getElem?_eq_getElem h]

/-! ### the program's Words -/
theorem words_l2 (l : List S42) (hl : (l.length : Int) ≤ 1000) (s : ByteArray) (hs : s.size ≤ 1000) (m i : Int) (ws : List ByteArray) (j : Int) (r : List ByteArray) : ∀ (d n : Nat) (acc : List ByteArray), l.length - n = d → n ≤ l.length → acc.length + d ≤ 1000000 →
    Ev (fun k => alphabet_Words.l1 k l (acc ++ (l.drop n).map (fun x => s ++ Utf8.encode x.f0)) m i ws (ws.length : Int) (wrap64 (j + 1))) r → Ev (fun k => alphabet_Words.l2 k l acc s m i ws (ws.length : Int) j l (l.length : Int) (n : Int)) r
  | 0, n, acc, hd, hn, ha, h => by
    rw [List.drop_eq_nil_of_le (by omega), List.map_nil, List.append_nil] at h
    refine Ev.step (fun k => ?_) h
    simp only [alphabet_Words.l2]
    rw [if_neg (by omega)]
  | d + 1, n, acc, hd, hn, ha, h => by
    have hlt : n < l.length := by omega
    rw [List.drop_eq_getElem_cons hlt, List.map_cons] at h
    have ih := words_l2 l hl s hs m i ws j r d (n + 1) (acc ++ [s ++ Utf8.encode l[n].f0]) (by omega) (by omega) (by simp; omega) (by simpa using h)
    refine Ev.step (fun k => ?_) ih
    simp only [alphabet_Words.l2]
    have := enc_size l[n].f0
    rw [if_pos (by omega), if_pos (by omega), if_pos (by omega), rd_get hlt, if_pos (by omega), if_pos (by omega), wrap_id (by omega) (by omega), show (n : Int) + 1 = ((n + 1 : Nat) : Int) by omega]
theorem words_l1 (l : List S42) (hl : (l.length : Int) ≤ 64) (m i : Int) (ws : List ByteArray) (hw : ws.length ≤ 256) (hb : low 1000 ws) (r : List ByteArray) : ∀ (d n : Nat) (acc : List ByteArray), ws.length - n = d → n ≤ ws.length → acc.length + d * 64 ≤ 100000 →
    Ev (fun k => alphabet_Words.l0 k l (acc ++ nxt l (ws.drop n)) m (wrap64 (i + 1))) r → Ev (fun k => alphabet_Words.l1 k l acc m i ws (ws.length : Int) (n : Int)) r
  | 0, n, acc, hd, hn, ha, h => by
    rw [List.drop_eq_nil_of_le (by omega)] at h
    refine Ev.step (fun k => ?_) (by simpa [nxt] using h)
    simp only [alphabet_Words.l1]
    rw [if_neg (by omega)]
  | d + 1, n, acc, hd, hn, ha, h => by
    have hlt : n < ws.length := by omega
    rw [List.drop_eq_getElem_cons hlt, nxt_cons, ← List.append_assoc] at h
    have ih := words_l1 l hl m i ws hw hb r d (n + 1) _ (by omega) (by omega) (by rw [List.length_append, List.length_map]; omega) h
    have h2 := words_l2 l (by omega) ws[n] (hb _ (List.getElem_mem hlt)) m i ws (n : Int) r l.length 0 acc (by omega) (by omega) (by omega)
      (by rw [List.drop_zero, wrap_id (by omega) (by omega), show (n : Int) + 1 = ((n + 1 : Nat) : Int) by omega]; exact ih)
    refine Ev.step (fun k => ?_) h2
    simp only [alphabet_Words.l1]
    rw [if_pos (by omega), if_pos (by omega), if_pos (by omega), rdOf_get hlt]
    rfl
/-- The words with m letters more, or nothing. -/
def more (l : List S42) : Nat → List ByteArray → List ByteArray
  | 0, ws => ws
  | m + 1, ws => if ws.length * l.length > 256 then [] else more l m (nxt l ws)
theorem words_l0 (l : List S42) (hl : (l.length : Int) ≤ 64) (m : Nat) (hm : m ≤ 40) : ∀ (d i : Nat) (ws : List ByteArray), m - i = d → i ≤ m → ws.length ≤ 256 → low (4 * i) ws →
    Ev (fun k => alphabet_Words.l0 k l ws (m : Int) (i : Int)) (more l d ws)
  | 0, i, ws, hd, hi, hw, hb => by
    refine Ev.step (fun k => ?_) (Ev.now _)
    simp only [alphabet_Words.l0]
    rw [if_neg (by omega)]
    rfl
  | d + 1, i, ws, hd, hi, hw, hb => by
    have hmul : ((ws.length : Int) * (l.length : Int)) = ((ws.length * l.length : Nat) : Int) := by simp
    have hle : ws.length * l.length ≤ 256 * 64 := Nat.mul_le_mul hw (by omega)
    by_cases c : ws.length * l.length > 256
    · refine Ev.step (fun k => ?_) (Ev.now _)
      simp only [alphabet_Words.l0]
      rw [if_pos (by omega), hmul, wrap_id (by omega) (by omega), if_pos (by omega)]
      simp [more, c]
    · have ih := words_l0 l hl m hm d (i + 1) (nxt l ws) (by omega) (by omega) (by rw [nxt_length]; omega) (nxt_low hb)
      have h1 := words_l1 l hl (m : Int) (i : Int) ws hw (fun w hw2 => by have := hb w hw2; omega) (more l d (nxt l ws)) ws.length 0 [] (by omega) (by omega) (by simp; omega)
        (by rw [List.drop_zero, wrap_id (by omega) (by omega), show (i : Int) + 1 = ((i + 1 : Nat) : Int) by omega]; exact ih)
      have e : more l (d + 1) ws = more l d (nxt l ws) := by simp [more, c]
      rw [e]
      refine Ev.step (fun k => ?_) h1
      simp only [alphabet_Words.l0]
      rw [if_pos (by omega), hmul, wrap_id (by omega) (by omega), if_neg (by omega)]
      rfl
/-- Words. -/
def W (l : List S42) (n : Int) : List ByteArray := if vB l = true ∧ 0 ≤ n ∧ n ≤ 40 then more l n.toNat [(⟨#[]⟩ : ByteArray)] else []
theorem low_one : low (4 * 0) [(⟨#[]⟩ : ByteArray)] := by
  intro w hw
  rw [List.mem_singleton.1 hw]
  decide
theorem Words_ev (l : List S42) (n : Int) (hg : good l = true) : Ev (fun k => alphabet_Words.f k l n) (W l n) := by
  have hV : Ev (fun k => alphabet_Valid.f k l) (vB l) := ⟨1002, fun k hk => Valid_at l hg (by omega)⟩
  unfold alphabet_Words.f
  refine Ev.bind hV ?_
  have no : Ev (fun k => alphabet_Words.j0 k l n true) [] := Ev.step (fun k => by simp only [alphabet_Words.j0]; rfl) (Ev.now _)
  unfold W
  by_cases v : vB l = true
  · by_cases h0 : n < 0
    · rw [if_neg (by omega)]
      refine Ev.congr (fun k => ?_) no
      rw [if_pos v, if_pos h0]
    · by_cases h1 : n > 40
      · rw [if_neg (by omega)]
        refine Ev.congr (fun k => ?_) no
        rw [if_pos v, if_neg h0, decide_eq_true h1]
      · rw [if_pos ⟨v, by omega, by omega⟩]
        have hl := ((vB_iff l).1 v).l64
        have h := words_l0 l hl n.toNat (by omega) n.toNat 0 [(⟨#[]⟩ : ByteArray)] (by omega) (by omega) (by simp) low_one
        rw [show ((n.toNat : Nat) : Int) = n by omega] at h
        have h2 : Ev (fun k => alphabet_Words.j0 k l n false) (more l n.toNat [(⟨#[]⟩ : ByteArray)]) := Ev.step (fun k => by simp only [alphabet_Words.j0]; rfl) h
        refine Ev.congr (fun k => ?_) h2
        rw [if_pos v, if_neg h0, decide_eq_false h1]
  · rw [if_neg (fun h => v h.1)]
    refine Ev.congr (fun k => ?_) no
    rw [if_neg v]

/-! ### the document's Words -/
theorem rwords_l2 (l : List S42) (hl : (l.length : Int) ≤ 1000) (s : ByteArray) (hs : s.size ≤ 1000) (m i : Int) (ws : List ByteArray) (j : Int) (r : List ByteArray) : ∀ (d n : Nat) (acc : List ByteArray), l.length - n = d → n ≤ l.length → acc.length + d ≤ 1000000 →
    Ev (fun k => pentaglotref01_Words.l1 k l m i (acc ++ (l.drop n).map (fun x => s ++ Utf8.encode x.f0)) ws (ws.length : Int) (wrap64 (j + 1))) r → Ev (fun k => pentaglotref01_Words.l2 k l m i acc s ws (ws.length : Int) j l (l.length : Int) (n : Int)) r
  | 0, n, acc, hd, hn, ha, h => by
    rw [List.drop_eq_nil_of_le (by omega), List.map_nil, List.append_nil] at h
    refine Ev.step (fun k => ?_) h
    simp only [pentaglotref01_Words.l2]
    rw [if_neg (by omega)]
  | d + 1, n, acc, hd, hn, ha, h => by
    have hlt : n < l.length := by omega
    rw [List.drop_eq_getElem_cons hlt, List.map_cons] at h
    have ih := rwords_l2 l hl s hs m i ws j r d (n + 1) (acc ++ [s ++ Utf8.encode l[n].f0]) (by omega) (by omega) (by simp; omega) (by simpa using h)
    refine Ev.step (fun k => ?_) ih
    simp only [pentaglotref01_Words.l2]
    have := enc_size l[n].f0
    rw [if_pos (by omega), if_pos (by omega), if_pos (by omega), rd_get hlt, if_pos (by omega), if_pos (by omega), wrap_id (by omega) (by omega), show (n : Int) + 1 = ((n + 1 : Nat) : Int) by omega]
theorem rwords_l1 (l : List S42) (hl : (l.length : Int) ≤ 64) (m i : Int) (ws : List ByteArray) (hw : ws.length ≤ 256) (hb : low 1000 ws) (r : List ByteArray) : ∀ (d n : Nat) (acc : List ByteArray), ws.length - n = d → n ≤ ws.length → acc.length + d * 64 ≤ 100000 →
    Ev (fun k => pentaglotref01_Words.l1 k l m i (acc ++ nxt l (ws.drop n)) ws (ws.length : Int) (ws.length : Int)) r → Ev (fun k => pentaglotref01_Words.l1 k l m i acc ws (ws.length : Int) (n : Int)) r
  | 0, n, acc, hd, hn, ha, h => by
    obtain rfl : n = ws.length := by omega
    rw [List.drop_length] at h
    simpa [nxt] using h
  | d + 1, n, acc, hd, hn, ha, h => by
    have hlt : n < ws.length := by omega
    rw [List.drop_eq_getElem_cons hlt, nxt_cons, ← List.append_assoc] at h
    have ih := rwords_l1 l hl m i ws hw hb r d (n + 1) _ (by omega) (by omega) (by rw [List.length_append, List.length_map]; omega) h
    have h2 := rwords_l2 l (by omega) ws[n] (hb _ (List.getElem_mem hlt)) m i ws (n : Int) r l.length 0 acc (by omega) (by omega) (by omega)
      (by rw [List.drop_zero, wrap_id (by omega) (by omega), show (n : Int) + 1 = ((n + 1 : Nat) : Int) by omega]; exact ih)
    refine Ev.step (fun k => ?_) h2
    simp only [pentaglotref01_Words.l1]
    rw [if_pos (by omega), if_pos (by omega), if_pos (by omega), rdOf_get hlt]
    rfl
theorem rwords_l0 (l : List S42) (hl : (l.length : Int) ≤ 64) (m : Nat) (hm : m ≤ 40) : ∀ (d i : Nat) (ws : List ByteArray), m - i = d → i ≤ m → ws.length ≤ 256 → low (4 * i) ws →
    Ev (fun k => pentaglotref01_Words.l0 k l (m : Int) ws (i : Int)) (more l d ws)
  | 0, i, ws, hd, hi, hw, hb => by
    refine Ev.step (fun k => ?_) (Ev.now _)
    simp only [pentaglotref01_Words.l0]
    rw [if_neg (by omega)]
    rfl
  | d + 1, i, ws, hd, hi, hw, hb => by
    have hlen := nxt_length l ws
    have key : Ev (fun k => pentaglotref01_Words.l1 k l (m : Int) (i : Int) (nxt l ws) ws (ws.length : Int) (ws.length : Int)) (more l (d + 1) ws) := by
      by_cases c : ws.length * l.length > 256
      · refine Ev.step (fun k => ?_) (Ev.now _)
        simp only [pentaglotref01_Words.l1]
        rw [if_neg (by omega), if_pos (by omega)]
        simp [more, c]
      · have ih := rwords_l0 l hl m hm d (i + 1) (nxt l ws) (by omega) (by omega) (by omega) (nxt_low hb)
        have e : more l (d + 1) ws = more l d (nxt l ws) := by simp [more, c]
        rw [e]
        refine Ev.step (fun k => ?_) ih
        simp only [pentaglotref01_Words.l1]
        rw [if_neg (by omega), if_neg (by omega), wrap_id (by omega) (by omega)]
        rfl
    have h1 := rwords_l1 l hl (m : Int) (i : Int) ws hw (fun w hw2 => by have := hb w hw2; omega) (more l (d + 1) ws) ws.length 0 [] (by omega) (by omega) (by simp; omega)
      (by rw [List.drop_zero]; exact key)
    refine Ev.step (fun k => ?_) h1
    simp only [pentaglotref01_Words.l0]
    rw [if_pos (by omega)]
    rfl
theorem RWords_ev (l : List S42) (n : Int) (hl : (l.length : Int) ≤ 1000) : Ev (fun k => pentaglotref01_Words.f k l n) (W l n) := by
  have hV : Ev (fun k => pentaglotref01_Valid.f k l) (vB l) := ⟨3002, fun k hk => RValid_at l hl (by omega)⟩
  unfold pentaglotref01_Words.f
  refine Ev.bind hV ?_
  have no : Ev (fun k => pentaglotref01_Words.j0 k l n true) [] := Ev.step (fun k => by simp only [pentaglotref01_Words.j0]; rfl) (Ev.now _)
  unfold W
  by_cases v : vB l = true
  · by_cases h0 : n < 0
    · rw [if_neg (by omega)]
      refine Ev.congr (fun k => ?_) no
      rw [if_pos v, if_pos h0]
    · by_cases h1 : n > 40
      · rw [if_neg (by omega)]
        refine Ev.congr (fun k => ?_) no
        rw [if_pos v, if_neg h0, decide_eq_true h1]
      · rw [if_pos ⟨v, by omega, by omega⟩]
        have hl := ((vB_iff l).1 v).l64
        have h := rwords_l0 l hl n.toNat (by omega) n.toNat 0 [(⟨#[]⟩ : ByteArray)] (by omega) (by omega) (by simp) low_one
        rw [show ((n.toNat : Nat) : Int) = n by omega] at h
        have h2 : Ev (fun k => pentaglotref01_Words.j0 k l n false) (more l n.toNat [(⟨#[]⟩ : ByteArray)]) := Ev.step (fun k => by simp only [pentaglotref01_Words.j0]; rfl) h
        refine Ev.congr (fun k => ?_) h2
        rw [if_pos v, if_neg h0, decide_eq_false h1]
  · rw [if_neg (fun h => v h.1)]
    refine Ev.congr (fun k => ?_) no
    rw [if_neg v]
theorem same_loop (ws : List ByteArray) (hw : (ws.length : Int) ≤ 9223372036854775806) : ∀ (d n k : Nat), ws.length - n = d → n ≤ ws.length → d < k → pentaglotref01_Same.l0 k ws ws (ws.length : Int) (n : Int) = some true
  | 0, n, k, hd, hn, hk => by
    obtain ⟨k, rfl⟩ : ∃ m, k = m + 1 := ⟨k - 1, by omega⟩
    simp only [pentaglotref01_Same.l0]
    rw [if_neg (by omega)]
  | d + 1, n, k, hd, hn, hk => by
    obtain ⟨k, rfl⟩ : ∃ m, k = m + 1 := ⟨k - 1, by omega⟩
    simp only [pentaglotref01_Same.l0]
    rw [if_pos (by omega), if_pos (by omega), if_pos (by omega), if_pos (by omega), if_pos trivial, wrap_id (by omega) (by omega), show (n : Int) + 1 = ((n + 1 : Nat) : Int) by omega, same_loop ws hw d (n + 1) k (by omega) (by omega) (by omega)]
theorem Same_at {k : Nat} (ws : List ByteArray) (hw : (ws.length : Int) ≤ 9223372036854775806) (hk : ws.length < k) : pentaglotref01_Same.f k ws ws = some true := by
  unfold pentaglotref01_Same.f
  have := same_loop ws hw ws.length 0 k (by omega) (by omega) (by omega)
  rw [show ((0 : Nat) : Int) = 0 by rfl] at this
  rw [if_pos rfl, this]
theorem more_length (l : List S42) : ∀ d ws, ws.length ≤ 256 → (more l d ws).length ≤ 256
  | 0, ws, h => h
  | d + 1, ws, h => by
    unfold more
    split
    · simp
    · exact more_length l d _ (by rw [nxt_length]; omega)
theorem W_length (l : List S42) (n : Int) : (W l n).length ≤ 256 := by
  unfold W
  split
  · exact more_length l _ _ (by simp)
  · simp
theorem AlphabetWords (l : List S42) (n : Int) (hg : good l = true) : ∃ k, pentaglotlaw01_AlphabetWords.f k l n = some true := by
  obtain ⟨K1, h1⟩ := Words_ev l n hg
  replace h1 : ∀ k, K1 ≤ k → alphabet_Words.f k l n = some (W l n) := h1
  by_cases F : fewB l [] = true
  · have hl := few_len F
    obtain ⟨K2, h2⟩ := RWords_ev l n (by omega)
    replace h2 : ∀ k, K2 ≤ k → pentaglotref01_Words.f k l n = some (W l n) := h2
    obtain ⟨K, hK⟩ : ∃ K : Nat, K = 3000000 + K1 + K2 := ⟨_, rfl⟩
    refine ⟨K + 1, ?_⟩
    unfold pentaglotlaw01_AlphabetWords.f
    rw [awake_at (by omega)]
    simp only [Option.bind_some, if_true]
    rw [few_at l [] (by simp) (by simp)]
    simp only [Option.bind_some, pentaglotlaw01_AlphabetWords.j0]
    have := W_length l n
    rw [F, if_neg (by decide), h1 K (by omega), h2 K (by omega)]
    simp only [Option.bind_some]
    rw [Same_at _ (by omega) (by omega)]
    rfl
  · obtain ⟨K, hK⟩ : ∃ K : Nat, K = 3000000 := ⟨_, rfl⟩
    refine ⟨K + 1, ?_⟩
    unfold pentaglotlaw01_AlphabetWords.f
    rw [awake_at (by omega)]
    simp only [Option.bind_some, if_true]
    rw [few_at l [] (by simp) (by simp)]
    simp only [Option.bind_some, pentaglotlaw01_AlphabetWords.j0]
    rw [Bool.eq_false_iff.mpr F, if_pos (by decide), awake_at (by omega)]
    rfl

/-! ### the words as lists of runes -/
/-- All lists of m letters' runes, in the order of the letters. -/
def wds (l : List S42) : Nat → List (List Int)
  | 0 => [[]]
  | m + 1 => (wds l m).flatMap (fun w => l.map (fun x => w ++ [x.f0]))
theorem wds_length (l : List S42) : ∀ m, ∀ w ∈ wds l m, w.length = m
  | 0, w, h => by rw [List.mem_singleton.1 h]; rfl
  | m + 1, w, h => by
    obtain ⟨v, hv, hw⟩ := List.mem_flatMap.1 h
    obtain ⟨x, hx, rfl⟩ := List.mem_map.1 hw
    have := wds_length l m v hv
    simp [this]
theorem wds_letters (l : List S42) : ∀ m, ∀ w ∈ wds l m, ∀ r ∈ w, ∃ x ∈ l, x.f0 = r
  | 0, w, h, r, hr => by rw [List.mem_singleton.1 h] at hr; cases hr
  | m + 1, w, h, r, hr => by
    obtain ⟨v, hv, hw⟩ := List.mem_flatMap.1 h
    obtain ⟨x, hx, rfl⟩ := List.mem_map.1 hw
    rcases List.mem_append.1 hr with hr | hr
    · exact wds_letters l m v hv r hr
    · exact ⟨x, hx, (List.mem_singleton.1 hr).symm⟩
theorem wds_all (l : List S42) : ∀ (m : Nat) (w : List Int), w.length = m → (∀ r ∈ w, ∃ x ∈ l, x.f0 = r) → w ∈ wds l m
  | 0, w, h, _ => by rw [List.eq_nil_of_length_eq_zero h]; simp [wds]
  | m + 1, w, h, hr => by
    have hne : w ≠ [] := by intro e; rw [e] at h; cases h
    have e := List.dropLast_concat_getLast hne
    obtain ⟨x, hx, hx2⟩ := hr (w.getLast hne) (List.getLast_mem hne)
    refine List.mem_flatMap.2 ⟨w.dropLast, wds_all l m _ (by rw [List.length_dropLast, h]; rfl) (fun r hr2 => hr r (List.dropLast_subset w hr2)), List.mem_map.2 ⟨x, hx, ?_⟩⟩
    rw [hx2, e]
theorem cmpL_prefix : ∀ (a b c d : List Int), a.length = b.length → cmpL a b = -1 → cmpL (a ++ c) (b ++ d) = -1
  | [], [], c, d, _, h => by simp [cmpL] at h
  | [], _ :: _, c, d, h, _ => by cases h
  | _ :: _, [], c, d, h, _ => by cases h
  | x :: a, y :: b, c, d, h, k => by
    simp only [List.cons_append, cmpL] at k ⊢
    by_cases c1 : x < y
    · rw [if_pos c1]
    · rw [if_neg c1] at k ⊢
      by_cases c2 : y < x
      · rw [if_pos c2] at k; cases k
      · rw [if_neg c2] at k ⊢
        exact cmpL_prefix a b c d (by simpa using h) k
theorem cmpL_last (x y : Int) (h : x < y) : ∀ a : List Int, cmpL (a ++ [x]) (a ++ [y]) = -1
  | [] => by simp [cmpL, h]
  | z :: a => by
    simp only [List.cons_append, cmpL]
    rw [if_neg (by omega), if_neg (by omega), cmpL_last x y h a]
theorem letters_asc {l : List S42} (v : Val l) : l.Pairwise (fun x y => weight l x.f0 < weight l y.f0) := by
  rw [List.pairwise_iff_getElem]
  intro i j hi hj hij
  have h1 := v.fst i hi
  have h2 := v.fst j hj
  rw [rd_get hi] at h1
  rw [rd_get hj] at h2
  rw [weight_fi, weight_fi, h1, h2]
  simp
  omega
theorem wds_asc {l : List S42} (v : Val l) : ∀ m, (wds l m).Pairwise (fun a b => cmpL (a.map (weight l)) (b.map (weight l)) = -1)
  | 0 => by simp [wds]
  | m + 1 => by
    unfold wds
    rw [List.pairwise_flatMap]
    constructor
    · intro w hw
      rw [List.pairwise_map]
      refine (letters_asc v).imp (fun {x y} h => ?_)
      rw [List.map_append, List.map_append]
      exact cmpL_last _ _ h _
    · refine (List.Pairwise.and_mem.1 (wds_asc v m)).imp (fun {a b} h => ?_)
      intro x hx y hy
      obtain ⟨p, hp, rfl⟩ := List.mem_map.1 hx
      obtain ⟨q, hq, rfl⟩ := List.mem_map.1 hy
      rw [List.map_append, List.map_append]
      exact cmpL_prefix _ _ _ _ (by rw [List.length_map, List.length_map, wds_length l m a h.1, wds_length l m b h.2.1]) h.2.2
theorem more_wds (l : List S42) : ∀ (d i : Nat), more l d ((wds l i).map strOfRunes) = [] ∨ more l d ((wds l i).map strOfRunes) = (wds l (i + d)).map strOfRunes
  | 0, i => .inr rfl
  | d + 1, i => by
    have e : nxt l ((wds l i).map strOfRunes) = (wds l (i + 1)).map strOfRunes := by
      unfold nxt
      rw [show wds l (i + 1) = (wds l i).flatMap (fun w => l.map (fun x => w ++ [x.f0])) from rfl, List.flatMap_map, List.map_flatMap]
      congr 1
      funext w
      rw [List.map_map]
      congr 1
      funext x
      simp [strOfRunes, List.foldl_append]
    unfold more
    split
    · exact .inl rfl
    · rw [e]
      have := more_wds l d (i + 1)
      rwa [show i + 1 + d = i + (d + 1) by omega] at this
theorem W_wds (l : List S42) (n : Int) : W l n = [] ∨ (Val l ∧ 0 ≤ n ∧ n ≤ 40 ∧ W l n = (wds l n.toNat).map strOfRunes) := by
  unfold W
  split
  · rename_i h
    have := more_wds l n.toNat 0
    rw [show (wds l 0).map strOfRunes = [(⟨#[]⟩ : ByteArray)] from rfl, Nat.zero_add] at this
    rcases this with e | e
    · exact .inl e
    · exact .inr ⟨(vB_iff l).1 h.1, h.2.1, h.2.2, e⟩
  · exact .inl rfl
theorem goodR_valid {r : Int} (h : goodR r = true) : validRune r = true := by
  unfold goodR at h
  rw [Bool.and_eq_true] at h
  exact h.2
/-- A word of letters: its bytes are valid and give its runes again. -/
structure Made (l : List S42) (n : Nat) (w : List Int) : Prop where
  valid : validD (strOfRunes w).data.toList = true
  rns : rns (strOfRunes w) = w
  size : (strOfRunes w).size ≤ 4 * n
  len : w.length = n
theorem made {l : List S42} (v : Val l) {n : Nat} {w : List Int} (h : w ∈ wds l n) : Made l n w := by
  have hv : ∀ r ∈ w, validRune r = true := fun r hr => by
    obtain ⟨x, hx, rfl⟩ := wds_letters l n w h r hr
    exact goodR_valid (v.ok x hx)
  have hlen := wds_length l n w h
  refine ⟨by rw [strOfRunes_E]; exact valid_E' hv, by rw [rns_R, strOfRunes_E]; exact R_E' hv, ?_, hlen⟩
  have := foldl_size_le w ByteArray.empty
  have h2 : (ByteArray.empty).size = 0 := rfl
  unfold strOfRunes
  omega
theorem isLetter_iff {l : List S42} (v : Val l) (r : Int) : isLetter l r = true ↔ ∃ x ∈ l, x.f0 = r := by
  rw [isLetter_fi]
  constructor
  · intro h
    obtain ⟨i, hi⟩ := Option.isSome_iff_exists.1 h
    obtain ⟨n, rfl, hn⟩ := fi_some hi
    exact ⟨l[n], List.getElem_mem hn.1, hn.2 hn.1⟩
  · rintro ⟨x, hx, rfl⟩
    obtain ⟨i, hi, _⟩ := cls_mem v hx
    rw [hi]; rfl
theorem made_word {l : List S42} (v : Val l) {n : Nat} (hn : n ≤ 40) {w : List Int} (h : w ∈ wds l n) : wB l (strOfRunes w) = true := by
  have m := made v h
  unfold wB
  rw [m.valid, m.rns, m.len, Bool.true_and, Bool.and_eq_true, decide_eq_true_iff, List.all_eq_true]
  exact ⟨fun r hr => (isLetter_iff v r).2 (wds_letters l n w h r hr), by omega⟩
theorem word_made {l : List S42} (v : Val l) {n : Nat} {s : ByteArray} (h : wB l s = true) (e : (rns s).length = n) : s ∈ (wds l n).map strOfRunes := by
  unfold wB at h
  rw [Bool.and_eq_true, Bool.and_eq_true, List.all_eq_true] at h
  refine List.mem_map.2 ⟨rns s, wds_all l n _ e (fun r hr => (isLetter_iff v r).1 (h.2.1 r hr)), ?_⟩
  apply str_ext
  rw [strOfRunes_E, rns_R, E_R' h.1]

/-! ### Ascends -/
def memB (s : ByteArray) (ws : List ByteArray) : Bool := ws.any (fun w => decide (w = s))
theorem memB_iff (s : ByteArray) (ws : List ByteArray) : memB s ws = true ↔ s ∈ ws := by
  unfold memB
  rw [List.any_eq_true]
  constructor
  · rintro ⟨x, hx, e⟩
    rwa [← of_decide_eq_true e]
  · intro h
    exact ⟨s, h, decide_eq_true rfl⟩
theorem asc_loop {l : List S42} (ho : okA l = true) (n : Int) (s : ByteArray) (hs : s.size ≤ 1000) (ws : List ByteArray) (hlen : ws.length ≤ 1000) (hne : 0 < ws.length) (hsz : low 1000 ws)
    (hw : ∀ w ∈ ws, wB l w = true ∧ ((rns w).length : Int) = n) (hc : ∀ i, ∀ h : i + 1 < ws.length, cmpS l ws[i] ws[i + 1] = -1) (hf : memB s ws = (wB l s && decide (((rns s).length : Int) = n))) :
    ∀ (d i k : Nat) (b : Bool), ws.length - i = d → i ≤ ws.length → 1000010 + d < k → b = memB s (ws.take i) → pentaglotlaw01_AlphabetAscends.l0 k l n s ws b (i : Int) = some true
  | 0, i, k, b, hd, hi, hk, hb => by
    obtain ⟨k, rfl⟩ : ∃ m, k = m + 1 := ⟨k - 1, by omega⟩
    obtain rfl : i = ws.length := by omega
    rw [List.take_length] at hb
    simp only [pentaglotlaw01_AlphabetAscends.l0]
    rw [if_neg (by omega), if_neg (by omega), AIsWord_at ho (by omega)]
    simp only [Option.bind_some]
    rw [hb, hf]
    by_cases w : wB l s = true
    · rw [if_pos w, if_pos (by omega), w, Bool.true_and]
      congr 1
      rw [beq_iff_eq, Bool.eq_iff_iff]
      simp
    · rw [if_neg w, Bool.eq_false_iff.mpr w, Bool.false_and]
      rfl
  | d + 1, i, k, b, hd, hi, hk, hb => by
    obtain ⟨k, rfl⟩ : ∃ m, k = m + 1 := ⟨k - 1, by omega⟩
    have hlt : i < ws.length := by omega
    have hm := List.getElem_mem hlt
    obtain ⟨w1, w2⟩ := hw _ hm
    have hz := hsz _ hm
    have hnext : ∀ c, c = memB s (ws.take (i + 1)) → pentaglotlaw01_AlphabetAscends.l0 k l n s ws c (wrap64 ((i : Int) + 1)) = some true := fun c e => by
      rw [wrap_id (by omega) (by omega), show (i : Int) + 1 = ((i + 1 : Nat) : Int) by omega]
      exact asc_loop ho n s hs ws hlen hne hsz hw hc hf d (i + 1) k c (by omega) (by omega) (by omega) e
    have htake : ws.take (i + 1) = ws.take i ++ [ws[i]] := List.take_succ_eq_append_getElem hlt
    have hb1 : b = true → true = memB s (ws.take (i + 1)) := fun e => by
      rw [e] at hb
      have := (memB_iff _ _).1 hb.symm
      symm
      rw [memB_iff, htake]
      exact List.mem_append.2 (.inl this)
    have hb2 : b = false → (ws[i].toList == s.toList) = memB s (ws.take (i + 1)) := fun e => by
      rw [e] at hb
      have h2 : ¬ s ∈ ws.take i := fun x => by rw [(memB_iff _ _).2 x] at hb; cases hb
      rw [str_beq, Bool.eq_iff_iff, decide_eq_true_iff, memB_iff, htake]
      exact ⟨fun e => List.mem_append.2 (.inr (by rw [e]; exact List.mem_singleton.2 rfl)), fun h => (List.mem_append.1 h).elim (fun h => absurd h h2) (fun h => (List.mem_singleton.1 h).symm)⟩
    have fin : (if b = true then pentaglotlaw01_AlphabetAscends.l0 k l n s ws true (wrap64 ((i : Int) + 1)) else pentaglotlaw01_AlphabetAscends.l0 k l n s ws (ws[i].toList == s.toList) (wrap64 ((i : Int) + 1))) = some true := by
      cases b with
      | true => rw [if_pos rfl]; exact hnext _ (hb1 rfl)
      | false => rw [if_neg (by decide)]; exact hnext _ (hb2 rfl)
    simp only [pentaglotlaw01_AlphabetAscends.l0]
    rw [if_pos (by omega), if_pos (by omega), rdOf_get hlt, AIsWord_at ho (by omega)]
    simp only [Option.bind_some]
    rw [if_pos w1, if_pos (by omega), if_pos w2]
    by_cases h0 : i = 0
    · rw [if_neg (by omega)]
      exact fin
    · obtain ⟨j, rfl⟩ : ∃ j, i = j + 1 := ⟨i - 1, by omega⟩
      have hj : j < ws.length := by omega
      rw [if_pos (by omega), show ((j + 1 : Nat) : Int) - 1 = (j : Int) by omega, wrap_id (x := (j : Int)) (by omega) (by omega), if_pos (by omega), if_pos (by omega), rdOf_get hj, ACompare_at ho (by have := hsz _ (List.getElem_mem hj); omega) (by omega) (by omega), hc j hlt]
      simp only [Option.bind_some]
      rw [if_pos trivial]
      exact fin
theorem AlphabetAscends (l : List S42) (n : Int) (s : ByteArray) (hg : good l = true) : ∃ k, pentaglotlaw01_AlphabetAscends.f k l n s = some true := by
  obtain ⟨K1, h1⟩ := Words_ev l n hg
  replace h1 : ∀ k, K1 ≤ k → alphabet_Words.f k l n = some (W l n) := h1
  obtain ⟨K, hK⟩ : ∃ K : Nat, K = 3000000 + K1 := ⟨_, rfl⟩
  refine ⟨K + 1, ?_⟩
  unfold pentaglotlaw01_AlphabetAscends.f
  rw [awake_at (by omega)]
  simp only [Option.bind_some, if_true]
  rw [few_at l [s] (by simp) (by simp; omega)]
  simp only [Option.bind_some, pentaglotlaw01_AlphabetAscends.j0]
  by_cases F : fewB l [s] = true
  · have hl := few_len F
    have hs := few_size F (w := s) (by simp)
    have ho := okA_mk hg (show (l.length : Int) ≤ 1000 by omega)
    rw [F, if_neg (by decide), h1 K (by omega)]
    simp only [Option.bind_some]
    by_cases h0 : W l n = []
    · rw [h0]
      obtain ⟨k, rfl⟩ : ∃ m, K = m + 1 := ⟨K - 1, by omega⟩
      simp only [pentaglotlaw01_AlphabetAscends.l0, List.length_nil]
      rw [if_neg (by decide), if_pos (by rfl)]
    · rcases W_wds l n with e | ⟨v, n0, n1, e⟩
      · exact absurd e h0
      · have hWl := W_length l n
        have hpos : 0 < (W l n).length := List.length_pos_iff.2 h0
        have hlow : low 1000 (W l n) := by
          intro w hw
          rw [e] at hw
          obtain ⟨x, hx, rfl⟩ := List.mem_map.1 hw
          have := (made v hx).size
          omega
        have h := asc_loop ho n s (by omega) (W l n) (by omega) hpos hlow
          (by
            intro w hw
            rw [e] at hw
            obtain ⟨x, hx, rfl⟩ := List.mem_map.1 hw
            have m := made v hx
            exact ⟨made_word v (by omega) hx, by rw [m.rns, m.len]; omega⟩)
          (by
            intro i hi
            have hp := wds_asc v n.toNat
            rw [List.pairwise_iff_getElem] at hp
            have hi2 : i + 1 < (wds l n.toNat).length := by rw [e, List.length_map] at hi; exact hi
            have := hp i (i + 1) (by omega) hi2 (by omega)
            have e1 : (W l n)[i] = strOfRunes (wds l n.toNat)[i] := by simp [e]
            have e2 : (W l n)[i + 1] = strOfRunes (wds l n.toNat)[i + 1] := by simp [e]
            rw [e1, e2]
            unfold cmpS weights
            rw [(made v (List.getElem_mem (show i < (wds l n.toNat).length by omega))).rns, (made v (List.getElem_mem hi2)).rns]
            exact this)
          (by
            rw [Bool.eq_iff_iff, memB_iff, Bool.and_eq_true, decide_eq_true_iff]
            constructor
            · intro hm
              rw [e] at hm
              obtain ⟨x, hx, rfl⟩ := List.mem_map.1 hm
              have m := made v hx
              exact ⟨made_word v (by omega) hx, by rw [m.rns, m.len]; omega⟩
            · rintro ⟨a, b⟩
              rw [e]
              exact word_made v a (by omega))
          (W l n).length 0 K false (by omega) (by omega) (by omega) (by rw [List.take_zero]; rfl)
        rw [show ((0 : Nat) : Int) = 0 by rfl] at h
        exact h
  · rw [Bool.eq_false_iff.mpr F, if_pos (by decide), awake_at (by omega)]
    rfl
end Go.Proofs.YtpkgelednbibpaaDoor.Pure
