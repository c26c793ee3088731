/- The laws of levels, order and the visual string. No program and no memory stands here. -/
import Derived.Test.YtfecolaljnijbaaDoorPureD
set_option linter.unusedVariables false
set_option linter.unusedSimpArgs false
namespace Go.Proofs.YtfecolaljnijbaaDoor.Pure
open Go.RowKit Go.Lib Go.Proofs.YtfecolaljnijbaaDoor.C Go.Proofs.YtfecolaljnijbaaDoorW.PrintWords Go.Proofs.YtfecolaljnijbaaDoor.Utf

/-! ### the reference's turn -/
theorem rt_l1 (ls order : List Int) (least : Int) (acc : List Int) (i : Nat) (res : List Int) (K0 : Nat) (hl : order.length ≤ 1000000) (hr : ∀ x ∈ order, 0 ≤ x ∧ x < (ls.length : Int)) :
    ∀ (d n k : Nat), order.length - n = d → n ≤ order.length → ((order.drop n).takeWhile (qL ls least)).length + K0 < k → (∀ k', K0 ≤ k' → pentaglotref43_turn.j2 k' ls order least acc (i : Int) ((n + ((order.drop n).takeWhile (qL ls least)).length : Nat) : Int) = some res) →
    pentaglotref43_turn.l1 k ls order least acc (i : Int) (n : Int) = some res
  | 0, n, k, hd, hn, hk, h => by
    obtain ⟨k, rfl⟩ : ∃ m, k = m + 1 := ⟨k - 1, by omega⟩
    simp only [pentaglotref43_turn.l1]
    rw [if_neg (by omega)]
    have := h k (by omega)
    rw [List.drop_eq_nil_of_le (by omega)] at this
    simpa using this
  | d + 1, n, k, hd, hn, hk, h => by
    obtain ⟨k, rfl⟩ : ∃ m, k = m + 1 := ⟨k - 1, by omega⟩
    have hlt : n < order.length := by omega
    have hx := hr _ (List.getElem_mem hlt)
    have hg := List.drop_eq_getElem_cons hlt
    simp only [pentaglotref43_turn.l1]
    rw [if_pos (by omega), if_pos (by omega), rd_get hlt, if_pos hx.1, if_pos hx.2]
    by_cases c : rd ls order[n] ≥ least
    · rw [if_pos c, wrap_id (by omega) (by omega), show (n : Int) + 1 = ((n + 1 : Nat) : Int) by omega]
      rw [hg, List.takeWhile_cons, if_pos (by simpa [qL] using c), List.length_cons] at hk
      refine rt_l1 ls order least acc i res K0 hl hr d (n + 1) k (by omega) (by omega) (by omega) (fun k' hk' => ?_)
      have := h k' hk'
      rw [hg, List.takeWhile_cons, if_pos (by simpa [qL] using c), List.length_cons] at this
      rw [show n + 1 + ((order.drop (n + 1)).takeWhile (qL ls least)).length = n + (((order.drop (n + 1)).takeWhile (qL ls least)).length + 1) by omega]
      exact this
    · rw [if_neg c]
      have := h k (by omega)
      rw [hg, List.takeWhile_cons, if_neg (by simpa [qL] using c)] at this
      simpa using this
theorem rt_l2 (ls order : List Int) (least : Int) (i e : Nat) (res : List Int) (K0 : Nat) (hl : order.length ≤ 1000000) (he : e ≤ order.length) :
    ∀ (d m k : Nat) (acc : List Int), m - i = d → i ≤ m → m ≤ order.length → acc.length + d ≤ 1000000 → d + K0 < k →
    (∀ k', K0 ≤ k' → (if (e : Int) < (order.length : Int) then pentaglotref43_turn.l0 k' ls order least ((acc ++ ((order.take m).drop i).reverse) ++ [rd order (e : Int)]) ((e + 1 : Nat) : Int) else pentaglotref43_turn.l0 k' ls order least (acc ++ ((order.take m).drop i).reverse) ((e + 1 : Nat) : Int)) = some res) →
    pentaglotref43_turn.l2 k ls order least acc (i : Int) (e : Int) ((m : Int) - 1) = some res
  | 0, m, k, acc, hd, hi, hm, ha, hk, h => by
    obtain ⟨k, rfl⟩ : ∃ m, k = m + 1 := ⟨k - 1, by omega⟩
    simp only [pentaglotref43_turn.l2]
    have := h k (by omega)
    rw [List.drop_eq_nil_of_le (by rw [List.length_take]; omega)] at this
    simp only [List.reverse_nil, List.append_nil] at this
    rw [if_neg (by omega), wrap_id (by omega) (by omega), show (e : Int) + 1 = ((e + 1 : Nat) : Int) by omega]
    by_cases c : (e : Int) < (order.length : Int)
    · rw [if_pos c] at this ⊢
      rw [if_pos (by omega), if_pos (by omega)]
      exact this
    · rw [if_neg c] at this ⊢
      exact this
  | d + 1, m, k, acc, hd, hi, hm, ha, hk, h => by
    obtain ⟨k, rfl⟩ : ∃ m, k = m + 1 := ⟨k - 1, by omega⟩
    obtain ⟨m, rfl⟩ : ∃ m', m = m' + 1 := ⟨m - 1, by omega⟩
    have hlt : m < order.length := by omega
    simp only [pentaglotref43_turn.l2]
    rw [show ((m + 1 : Nat) : Int) - 1 = (m : Int) by omega, if_pos (by omega), if_pos (by omega), if_pos (by omega), if_pos (by omega), rd_get hlt, wrap_id (by omega) (by omega)]
    refine rt_l2 ls order least i e res K0 hl he d m k _ (by omega) (by omega) (by omega) (by simp; omega) (by omega) (fun k' hk' => ?_)
    have := h k' hk'
    have e1 : ((order.take (m + 1)).drop i).reverse = order[m] :: ((order.take m).drop i).reverse := by
      rw [List.take_succ_eq_append_getElem hlt, List.drop_append_of_le_length (by rw [List.length_take]; omega), List.reverse_append]
      rfl
    rw [e1] at this
    simpa [List.append_assoc] using this
theorem rturn_at (ls order : List Int) (least : Int) (hl : order.length ≤ 1000000) (hr : ∀ x ∈ order, 0 ≤ x ∧ x < (ls.length : Int)) : ∀ (d i k : Nat) (acc : List Int), order.length - i = d → i ≤ order.length + 1 → acc.length + d ≤ 1000000 → 4 * d + 8 < k →
    pentaglotref43_turn.l0 k ls order least acc (i : Int) = some (acc ++ rra (qL ls least) [] (order.drop i)) := by
  intro d
  induction d using Nat.strongRecOn with
  | _ d ih =>
    intro i k acc hd hi ha hk
    obtain ⟨k, rfl⟩ : ∃ m, k = m + 1 := ⟨k - 1, by omega⟩
    simp only [pentaglotref43_turn.l0]
    by_cases c : i < order.length
    · rw [if_pos (by omega)]
      have hsp := List.takeWhile_append_dropWhile (p := qL ls least) (l := order.drop i)
      have hru := rra_run (qL ls least) (order.drop i)
      have htl : ((order.drop i).takeWhile (qL ls least)).length ≤ order.length - i := by have := congrArg List.length hsp; rw [List.length_append, List.length_drop] at this; omega
      refine rt_l1 ls order least acc i _ (k - ((order.drop i).takeWhile (qL ls least)).length - 1) hl hr (order.length - i) i k rfl (by omega) (by omega) (fun k' hk' => ?_)
      have hdq : ∀ x, ((order.drop i).dropWhile (qL ls least)).head? = some x → qL ls least x = false := fun x hx => by
        have := List.head?_dropWhile_not (qL ls least) (order.drop i)
        rw [hx] at this
        simpa using this
      generalize htw : (order.drop i).takeWhile (qL ls least) = tw at hsp hru htl hk' ⊢
      generalize hdw : (order.drop i).dropWhile (qL ls least) = dw at hsp hru hdq
      have hlen : tw.length + dw.length = order.length - i := by rw [← List.length_append, hsp, List.length_drop]
      have horder : order = order.take i ++ (tw ++ dw) := by rw [hsp, List.take_append_drop]
      have hlt : (order.take i).length = i := by rw [List.length_take]; omega
      have e2 : order.drop (i + tw.length) = dw := by rw [← List.drop_drop, ← hsp, List.drop_left]
      have e1 : (order.take (i + tw.length)).drop i = tw := by
        conv => lhs; rw [horder]
        rw [show i + tw.length = (order.take i).length + tw.length by rw [hlt], List.take_length_add_append, List.take_left]
        rw [List.drop_left' hlt]
      obtain ⟨k', rfl⟩ : ∃ m, k' = m + 1 := ⟨k' - 1, by omega⟩
      simp only [pentaglotref43_turn.j2]
      rw [wrap_id (by omega) (by omega)]
      refine rt_l2 ls order least i (i + tw.length) _ (k' - tw.length - 1) hl (by omega) tw.length (i + tw.length) k' acc (by omega) (by omega) (by omega) (by omega) (by omega) (fun k2 hk2 => ?_)
      rw [e1]
      by_cases c2 : i + tw.length < order.length
      · rw [if_pos (by omega), rd_get c2, ih (order.length - (i + tw.length + 1)) (by omega) (i + tw.length + 1) k2 _ rfl (by omega) (by simp; omega) (by omega), hru]
        have hg := List.drop_eq_getElem_cons c2
        rw [e2] at hg
        rw [hg]
        have hq := hdq order[i + tw.length] (by rw [hg]; rfl)
        simp only [rra]
        rw [if_neg (by rw [hq]; simp)]
        simp [List.append_assoc]
      · rw [if_neg (by omega)]
        obtain ⟨k2, rfl⟩ : ∃ m, k2 = m + 1 := ⟨k2 - 1, by omega⟩
        simp only [pentaglotref43_turn.l0]
        rw [if_neg (by omega), hru]
        obtain rfl : dw = [] := List.length_eq_zero_iff.1 (by omega)
        simp [rra]
    · rw [if_neg (by omega), List.drop_eq_nil_of_le (by omega)]
      simp [rra]
theorem RTurn_at {k : Nat} (ls order : List Int) (least : Int) (hl : order.length ≤ 1000000) (hr : ∀ x ∈ order, 0 ≤ x ∧ x < (ls.length : Int)) (hk : 4 * order.length + 8 < k) : pentaglotref43_turn.f k ls order least = some (rra (qL ls least) [] order) := by
  unfold pentaglotref43_turn.f
  have := rturn_at ls order least hl hr order.length 0 k [] (by omega) (by omega) (by simp; omega) (by omega)
  rw [show ((0 : Nat) : Int) = 0 by rfl] at this
  rw [this]
  simp
theorem iota_get {n j : Nat} (h : j < n) : (iotaL n).getD j 0 = (j : Int) := by simp [iotaL, List.getD, h]
theorem rorder_loop (xs ls : List Int) (hx : xs.length = ls.length) (hl : ls.length ≤ 1000000) : ∀ (d n k : Nat) (zs : List Int), xs.length - n = d → n ≤ xs.length → 4 * xs.length + d + 20 < k → zs.length = xs.length → (∀ j, j < n → zs.getD j 0 = (j : Int)) →
    pentaglotref43_Order.l0 k xs ls zs (n : Int) = some (ord ls)
  | 0, n, k, zs, hd, hn, hk, hz, hv => by
    obtain ⟨k, rfl⟩ : ∃ m, k = m + 1 := ⟨k - 1, by omega⟩
    simp only [pentaglotref43_Order.l0]
    obtain rfl : zs = iotaL ls.length := list_ext (by rw [iota_len]; omega) (fun j hj => by rw [hv j (by omega), iota_get (by omega)])
    rw [if_neg (by omega), RTurn_at ls _ 2 (by rw [iota_len]; omega) (iota_range _) (by rw [iota_len]; omega)]
    simp only [Option.bind_some]
    rw [RTurn_at ls _ 1 (by rw [rra_len, iota_len]; omega) (fun x hx => by
      have h2 := (rra_perm _ _ _).mem_iff.1 hx
      exact iota_range _ x (by simpa using h2)) (by rw [rra_len, iota_len]; omega)]
    rfl
  | d + 1, n, k, zs, hd, hn, hk, hz, hv => by
    obtain ⟨k, rfl⟩ : ∃ m, k = m + 1 := ⟨k - 1, by omega⟩
    simp only [pentaglotref43_Order.l0]
    rw [if_pos (by omega), if_pos (by omega), if_pos (by omega), wrap_id (by omega) (by omega), show (n : Int) + 1 = ((n + 1 : Nat) : Int) by omega, Int.toNat_natCast]
    exact rorder_loop xs ls hx hl d (n + 1) k _ (by omega) (by omega) (by omega) (by simp [hz]) (fun j hj => by
      rw [getD_set _ _ _ _ (by omega)]
      by_cases e : n = j
      · rw [if_pos e, e]
      · rw [if_neg e, hv j (by omega)])
theorem ROrder_at {k : Nat} (b : Int) (xs : List Int) (hl : xs.length ≤ 1000000) (hk : 7 * xs.length + 30 < k) : pentaglotref43_Order.f k b xs = some (ord (lvls b (xs.map cls))) := by
  unfold pentaglotref43_Order.f
  rw [RLevels_at b xs hl hk]
  simp only [Option.bind_some]
  rw [if_pos (by omega), if_pos (by rw [Int.toNat_natCast]; omega), Int.toNat_natCast]
  exact rorder_loop xs _ (by rw [lvls_len, List.length_map]) (by rw [lvls_len, List.length_map]; exact hl) xs.length 0 k _ (by omega) (by omega) (by omega) (by simp) (fun j hj => absurd hj (Nat.not_lt_zero _))
/-! ### the visual string -/
theorem vis_loop (xs o : List Int) (ho : ∀ x ∈ o, 0 ≤ x ∧ x < (xs.length : Int)) (hl : o.length ≤ 1000000) : ∀ (d n k : Nat) (acc : List Int), o.length - n = d → n ≤ o.length → acc.length + d ≤ 1000000 → d < k →
    bidi_Visual.l0 k xs acc o (o.length : Int) (n : Int) = some (strOfRunes (acc ++ (o.drop n).map (rd xs)))
  | 0, n, k, acc, hd, hn, ha, hk => by
    obtain ⟨k, rfl⟩ : ∃ m, k = m + 1 := ⟨k - 1, by omega⟩
    simp only [bidi_Visual.l0]
    rw [if_neg (by omega), List.drop_eq_nil_of_le (by omega)]
    simp
  | d + 1, n, k, acc, hd, hn, ha, hk => by
    obtain ⟨k, rfl⟩ : ∃ m, k = m + 1 := ⟨k - 1, by omega⟩
    have hlt : n < o.length := by omega
    have hx := ho _ (List.getElem_mem hlt)
    simp only [bidi_Visual.l0]
    rw [if_pos (by omega), if_pos (by omega), if_pos (by omega), rd_get hlt, if_pos hx.1, if_pos hx.2, if_pos (by omega), wrap_id (by omega) (by omega), show (n : Int) + 1 = ((n + 1 : Nat) : Int) by omega,
      vis_loop xs o ho hl d (n + 1) k _ (by omega) (by omega) (by simp; omega) (by omega), show o.drop n = o[n] :: o.drop (n + 1) from List.drop_eq_getElem_cons hlt, List.map_cons, List.append_assoc]
    rfl
/-- The levels of a string. -/
def lev (b : Int) (s : ByteArray) : List Int := if validD s.data.toList = true then lvls b ((rns s).map cls) else []
def vis (b : Int) (s : ByteArray) : ByteArray := strOfRunes ((ord (lev b s)).map (rd (rns s)))
theorem lev_len (b : Int) (s : ByteArray) : (lev b s).length ≤ (rns s).length := by
  unfold lev
  split
  · rw [lvls_len, List.length_map]; exact Nat.le_refl _
  · simp
theorem Visual_at {k : Nat} (b : Int) (s : ByteArray) (hs : s.size ≤ 1000000) (hk : 3 * s.size + 10 < k) : bidi_Visual.f k b s = some (vis b s) := by
  have h1 := lev_len b s
  have h2 := rns_len' s
  unfold bidi_Visual.f
  rw [if_pos (by omega), Order_at b s hs hk]
  simp only [Option.bind_some]
  have h3 := vis_loop (rns s) (ord (lev b s)) (fun x hx => by have := ord_range _ x hx; omega) (by rw [ord_len]; omega) _ 0 k [] rfl (by omega) (by rw [ord_len]; simp; omega) (by rw [ord_len]; omega)
  rw [show ((0 : Nat) : Int) = 0 by rfl] at h3
  unfold lev at h3
  rw [h3]
  unfold vis lev
  simp
theorem Logical_at {k : Nat} (b : Int) (s : ByteArray) (hs : s.size ≤ 1000000) (hk : 3 * s.size + 10 < k) : bidi_Logical.f k b s = some (vis b s) := by
  unfold bidi_Logical.f
  rw [Visual_at b s hs hk]
  rfl
theorem ord_nil : ord [] = [] := by simp [ord, iotaL, rra]
theorem vis_bad {b : Int} {s : ByteArray} (h : ¬ validD s.data.toList = true) : vis b s = strOfRunes [] := by
  unfold vis lev
  rw [if_neg h, ord_nil]
  rfl
theorem Runs_bad {k : Nat} (b : Int) (s : ByteArray) (hs : s.size ≤ 1000000) (hk : 3 * s.size + 20 < k) (h : ¬ validD s.data.toList = true) : bidi_Runs.f k b s = some [] := by
  obtain ⟨k, rfl⟩ : ∃ m, k = m + 1 + 1 := ⟨k - 2, by omega⟩
  unfold bidi_Runs.f
  rw [Levels_at b s hs (by omega), if_neg h]
  simp only [Option.bind_some, List.length_nil]
  rw [if_pos (by decide), if_pos (by decide)]
  simp only [bidi_Runs.l0]
  rw [if_neg (by decide), Order_at b s hs (by omega), if_neg h, ord_nil]
  simp only [Option.bind_some, bidi_Runs.l1]
  rw [if_neg (by decide)]
theorem BidiLevels (b : Int) (s : ByteArray) : ∃ k, pentaglotlaw43_BidiLevels.f k b s = some true := by
  obtain ⟨K, hK⟩ : ∃ K : Nat, K = 10000 := ⟨_, rfl⟩
  refine ⟨K, ?_⟩
  unfold pentaglotlaw43_BidiLevels.f
  rw [short_at]
  simp only [Option.bind_some]
  by_cases h : (s.size : Int) ≤ 400
  · have hr := rns_len' s
    rw [decide_eq_true h, if_pos rfl, valid_at s (by omega), awake_at (by omega), Levels_at b s (by omega) (by omega), Order_at b s (by omega) (by omega), Visual_at b s (by omega) (by omega), Logical_at b s (by omega) (by omega), Base_at s (by omega) (by omega)]
    simp only [Option.bind_some, if_true]
    by_cases v : validD s.data.toList = true
    · simp only [if_pos v]
      rw [if_pos (by omega), RLevels_at b _ (by omega) (by omega)]
      simp only [Option.bind_some]
      rw [Ints_at _ (by rw [lvls_len, List.length_map]; omega) (by rw [lvls_len, List.length_map]; omega)]
      rfl
    · simp only [if_neg v]
      rw [Runs_bad b s (by omega) (by omega) v, vis_bad v, ord_nil]
      have e : (strOfRunes []).toList = [] := by rw [toList_data, strOfRunes_E]; rfl
      simp [e]
  · rw [decide_eq_false h, if_neg (by decide), awake_at (by omega)]
    rfl
theorem BidiOrder (b : Int) (s : ByteArray) : ∃ k, pentaglotlaw43_BidiOrder.f k b s = some true := by
  obtain ⟨K, hK⟩ : ∃ K : Nat, K = 10000 := ⟨_, rfl⟩
  refine ⟨K + 1, ?_⟩
  have out : pentaglotlaw43_BidiOrder.j0 (K + 1) b s true = some true := by
    simp only [pentaglotlaw43_BidiOrder.j0, if_true]
    rw [awake_at (by omega)]; rfl
  unfold pentaglotlaw43_BidiOrder.f
  rw [short_at]
  simp only [Option.bind_some]
  by_cases h : (s.size : Int) ≤ 400
  · have hr := rns_len' s
    rw [decide_eq_true h, if_pos rfl, valid_at s (by omega)]
    simp only [Option.bind_some]
    by_cases v : validD s.data.toList = true
    · rw [v]
      simp only [Bool.not_true, pentaglotlaw43_BidiOrder.j0, Bool.false_eq_true, if_false]
      rw [awake_at (by omega), Order_at b s (by omega) (by omega), if_pos v]
      simp only [Option.bind_some, if_true]
      rw [if_pos (by omega), ROrder_at b _ (by omega) (by omega)]
      simp only [Option.bind_some]
      rw [Ints_at _ (by rw [ord_len, lvls_len, List.length_map]; omega) (by rw [ord_len, lvls_len, List.length_map]; omega)]
      rfl
    · rw [Bool.eq_false_iff.mpr v]; exact out
  · rw [decide_eq_false h, if_neg (by decide)]; exact out
end Go.Proofs.YtfecolaljnijbaaDoor.Pure
