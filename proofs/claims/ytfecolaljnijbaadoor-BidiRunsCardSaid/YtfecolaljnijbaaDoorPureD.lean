/- The laws of levels and order. No program and no memory stands here. -/
import Derived.Test.YtfecolaljnijbaaDoorPureC
set_option linter.unusedVariables false
set_option linter.unusedSimpArgs false
namespace Go.Proofs.YtfecolaljnijbaaDoor.Pure
open Go.RowKit Go.Lib Go.Proofs.YtfecolaljnijbaaDoor.C Go.Proofs.YtfecolaljnijbaaDoorW.PrintWords Go.Proofs.YtfecolaljnijbaaDoor.Utf

def pe (b : Int) (c : Int) : Bool := if b = 0 then end0 c else end1 c
def nv (b : Int) : Int := if b = 0 then 1 else 2
theorem barrier_at {k : Nat} (b r : Int) (hk : 5 ≤ k) : pentaglotref43_barrier.f k b r = some (cls r == nv b) := by
  unfold pentaglotref43_barrier.f nv
  rw [RClass_at r hk]
  by_cases c : b = 0
  · rw [if_pos c, if_pos c]; rfl
  · rw [if_neg c, if_neg c]; rfl
theorem border_at {k : Nat} (b r : Int) (hk : 5 ≤ k) : pentaglotref43_border.f k b r = some (pe b (cls r)) := by
  unfold pentaglotref43_border.f pe end0 end1
  rw [RClass_at r hk]
  simp only [Option.bind_some]
  by_cases c : b = 0
  · rw [if_pos c, if_pos c]
  · rw [if_neg c, if_neg c]
    by_cases c1 : cls r = 1
    · rw [if_pos c1, c1]; rfl
    · rw [if_neg c1, beq_eq_false_iff_ne.mpr c1]; rfl
theorem reach_right (b : Int) (xs : List Int) (hl : xs.length ≤ 1000000) : ∀ (d n k : Nat), xs.length - n = d → n ≤ xs.length → 2 * d + 10 < k → pentaglotref43_reaches.l0 k b xs (n : Int) 1 = some (reach (pe b) (nv b) ((xs.map cls).drop n))
  | 0, n, k, hd, hn, hk => by
    obtain ⟨k, rfl⟩ : ∃ m, k = m + 1 + 1 := ⟨k - 2, by omega⟩
    simp only [pentaglotref43_reaches.l0]
    rw [if_pos (by omega), if_neg (by omega), List.drop_eq_nil_of_le (by simp; omega)]
    simp [pentaglotref43_reaches.j1, reach]
  | d + 1, n, k, hd, hn, hk => by
    obtain ⟨k, rfl⟩ : ∃ m, k = m + 1 + 1 := ⟨k - 2, by omega⟩
    have hlt : n < xs.length := by omega
    have hlt2 : n < (xs.map cls).length := by simpa using hlt
    simp only [pentaglotref43_reaches.l0]
    rw [if_pos (by omega), if_pos (by omega), if_pos (by omega), rd_get hlt, barrier_at _ _ (by omega), List.drop_eq_getElem_cons hlt2, List.getElem_map]
    simp only [Option.bind_some, reach]
    by_cases c : cls xs[n] = nv b
    · rw [if_pos c, beq_iff_eq.mpr c]
      simp [pentaglotref43_reaches.j1]
    · rw [if_neg c, beq_eq_false_iff_ne.mpr c]
      simp only [Bool.not_false, pentaglotref43_reaches.j1, if_true]
      rw [if_pos (by omega), if_pos (by omega), rd_get hlt, border_at _ _ (by omega)]
      simp only [Option.bind_some]
      rw [wrap_id (by omega) (by omega), show (n : Int) + 1 = ((n + 1 : Nat) : Int) by omega, reach_right b xs hl d (n + 1) k (by omega) (by omega) (by omega)]
      by_cases q : pe b (cls xs[n]) = true
      · rw [if_pos q, if_pos q]
      · rw [if_neg q, if_neg q]
theorem reach_left (b : Int) (xs : List Int) (hl : xs.length ≤ 1000000) : ∀ (n k : Nat), n ≤ xs.length → 2 * n + 10 < k → pentaglotref43_reaches.l0 k b xs ((n : Int) - 1) (-1) = some (reach (pe b) (nv b) (((xs.map cls).take n).reverse))
  | 0, k, hn, hk => by
    obtain ⟨k, rfl⟩ : ∃ m, k = m + 1 + 1 := ⟨k - 2, by omega⟩
    simp only [pentaglotref43_reaches.l0]
    rw [if_neg (by omega)]
    simp [pentaglotref43_reaches.j1, reach]
  | n + 1, k, hn, hk => by
    obtain ⟨k, rfl⟩ : ∃ m, k = m + 1 + 1 := ⟨k - 2, by omega⟩
    have hlt : n < xs.length := by omega
    have hlt2 : n < (xs.map cls).length := by simpa using hlt
    rw [show ((n + 1 : Nat) : Int) - 1 = (n : Int) by omega]
    simp only [pentaglotref43_reaches.l0]
    rw [if_pos (by omega), if_pos (by omega), if_pos (by omega), rd_get hlt, barrier_at _ _ (by omega), List.take_succ_eq_append_getElem hlt2, List.reverse_append, List.getElem_map]
    simp only [Option.bind_some, List.reverse_cons, List.reverse_nil, List.nil_append, List.cons_append, reach]
    by_cases c : cls xs[n] = nv b
    · rw [if_pos c, beq_iff_eq.mpr c]
      simp [pentaglotref43_reaches.j1]
    · rw [if_neg c, beq_eq_false_iff_ne.mpr c]
      simp only [Bool.not_false, pentaglotref43_reaches.j1, if_true]
      rw [if_pos (by omega), if_pos (by omega), rd_get hlt, border_at _ _ (by omega)]
      simp only [Option.bind_some]
      rw [wrap_id (by omega) (by omega), show (n : Int) + -1 = (n : Int) - 1 by omega, reach_left b xs hl n k (by omega) (by omega)]
      by_cases q : pe b (cls xs[n]) = true
      · rw [if_pos q, if_pos q]
      · rw [if_neg q, if_neg q]
theorem inn_pe (b : Int) (cs : List Int) (i : Nat) : lvl b cs i = if b = 0 then (if inn (pe b) (nv b) cs i = true then (if cs.getD i 0 = 3 then 2 else 1) else 0) else (if inn (pe b) (nv b) cs i = true then 2 else 1) := by
  unfold lvl
  by_cases c : b = 0
  · have e1 : pe b = end0 := by funext x; unfold pe; rw [if_pos c]
    have e2 : nv b = 1 := by unfold nv; rw [if_pos c]
    rw [if_pos c, if_pos c, e1, e2]
  · have e1 : pe b = end1 := by funext x; unfold pe; rw [if_neg c]
    have e2 : nv b = 2 := by unfold nv; rw [if_neg c]
    rw [if_neg c, if_neg c, e1, e2]
theorem rlevels_loop (b : Int) (xs : List Int) (hl : xs.length ≤ 1000000) : ∀ (d n k : Nat) (zs : List Int), xs.length - n = d → n ≤ xs.length → 2 * xs.length + 5 * d + 30 < k → zs.length = xs.length →
    (∀ j, j < xs.length → zs.getD j 0 = if j < n then lvl b (xs.map cls) j else 0) → pentaglotref43_Levels.l0 k b xs zs (n : Int) = some (lvls b (xs.map cls))
  | 0, n, k, zs, hd, hn, hk, hz, hv => by
    obtain ⟨k, rfl⟩ : ∃ m, k = m + 1 := ⟨k - 1, by omega⟩
    simp only [pentaglotref43_Levels.l0]
    rw [if_neg (by omega)]
    congr 1
    apply list_ext (by rw [lvls_len, List.length_map, hz])
    intro j hj
    rw [hz] at hj
    rw [hv j hj, if_pos (by omega), lvls_get _ _ (by simpa using hj)]
  | d + 1, n, k, zs, hd, hn, hk, hz, hv => by
    obtain ⟨k, rfl⟩ : ∃ m, k = m + 1 + 1 + 1 + 1 + 1 := ⟨k - 5, by omega⟩
    have hlt : n < xs.length := by omega
    have hlt2 : n < (xs.map cls).length := by simpa using hlt
    have hrt := fun (k : Nat) (hk : 2 * xs.length + 10 < k) => reach_right b xs hl (xs.length - n) n k rfl hn (by omega)
    have hlf := fun (k : Nat) (hk : 2 * xs.length + 10 < k) => reach_left b xs hl (n + 1) k (by omega) (by omega)
    have hge : (xs.map cls).getD n 0 = cls xs[n] := by simp [List.getD, List.getElem?_eq_getElem hlt]
    have next : ∀ (k : Nat) (z : Int), 2 * xs.length + 5 * d + 30 < k → lvl b (xs.map cls) n = z → pentaglotref43_Levels.l0 k b xs (zs.set n z) ((n + 1 : Nat) : Int) = some (lvls b (xs.map cls)) := fun k z hk hz2 =>
      rlevels_loop b xs hl d (n + 1) k (zs.set n z) (by omega) (by omega) hk (by simp [hz]) (fun j hj => by
        rw [getD_set _ _ _ _ (by omega)]
        by_cases e : n = j
        · subst e; rw [if_pos rfl, if_pos (by omega), hz2]
        · rw [if_neg e, hv j hj]
          by_cases c : j < n
          · rw [if_pos c, if_pos (by omega)]
          · rw [if_neg c, if_neg (by omega)])
    have keep : ∀ (k : Nat), 2 * xs.length + 5 * d + 30 < k → lvl b (xs.map cls) n = 0 → pentaglotref43_Levels.l0 k b xs zs ((n + 1 : Nat) : Int) = some (lvls b (xs.map cls)) := fun k hk hz2 =>
      rlevels_loop b xs hl d (n + 1) k zs (by omega) (by omega) hk hz (fun j hj => by
        rw [hv j hj]
        by_cases e : n = j
        · subst e; rw [if_neg (by omega), if_pos (by omega), hz2]
        · by_cases c : j < n
          · rw [if_pos c, if_pos (by omega)]
          · rw [if_neg c, if_neg (by omega)])
    have hw : wrap64 ((n : Int) + 1) = ((n + 1 : Nat) : Int) := by rw [wrap_id (by omega) (by omega)]; omega
    have step : ∀ x7 : Bool, x7 = inn (pe b) (nv b) (xs.map cls) n → pentaglotref43_Levels.j1 (k + 1 + 1 + 1 + 1) b xs zs (n : Int) x7 = some (lvls b (xs.map cls)) := by
      intro x7 e
      have hlv := inn_pe b (xs.map cls) n
      rw [← e, hge] at hlv
      simp only [pentaglotref43_Levels.j1, pentaglotref43_Levels.j2, pentaglotref43_Levels.j3, pentaglotref43_Levels.j4]
      rw [RClass_at _ (by omega), rd_get hlt, hw]
      have p1 : (0 : Int) ≤ (n : Int) := by omega
      have p2 : (n : Int) < (xs.length : Int) := by omega
      have p3 : (n : Int) < (zs.length : Int) := by omega
      simp only [p1, p2, p3, if_true, Option.bind_some, Int.toNat_natCast]
      by_cases c : b = 0
      · rw [if_pos c] at hlv
        simp only [c, if_true]
        cases x7 with
        | true =>
          simp only [if_true] at hlv
          by_cases c3 : cls xs[n] = 3
          · rw [if_pos c3] at hlv
            rw [beq_iff_eq.mpr c3]
            simp only [if_true]
            rw [← c]
            exact next _ _ (by omega) hlv
          · rw [if_neg c3] at hlv
            rw [beq_eq_false_iff_ne.mpr c3]
            simp only [Bool.false_eq_true, if_false, if_true]
            rw [← c]
            exact next _ _ (by omega) hlv
        | false =>
          simp only [Bool.false_eq_true, if_false] at hlv
          simp only [Bool.false_eq_true, if_false]
          rw [← c]
          exact keep _ (by omega) hlv
      · rw [if_neg c] at hlv
        simp only [if_neg c]
        cases x7 with
        | true =>
          simp only [if_true] at hlv
          simp only [Bool.false_eq_true, if_false, if_true]
          exact next _ _ (by omega) hlv
        | false =>
          simp only [Bool.false_eq_true, if_false] at hlv
          simp only [Bool.false_eq_true, if_false]
          exact next _ _ (by omega) hlv
    simp only [pentaglotref43_Levels.l0]
    rw [if_pos (by omega)]
    unfold pentaglotref43_reaches.f
    have h2 := hlf (k + 1 + 1 + 1 + 1) (by omega)
    rw [show ((n + 1 : Nat) : Int) - 1 = (n : Int) by omega] at h2
    rw [hrt (k + 1 + 1 + 1 + 1) (by omega), h2]
    simp only [Option.bind_some]
    by_cases r : reach (pe b) (nv b) ((xs.map cls).drop n) = true
    · rw [if_pos r]
      exact step _ (by unfold inn; rw [r]; rfl)
    · rw [if_neg r]
      exact step _ (by unfold inn; rw [Bool.eq_false_iff.mpr r]; rfl)
theorem RLevels_at {k : Nat} (b : Int) (xs : List Int) (hl : xs.length ≤ 1000000) (hk : 7 * xs.length + 30 < k) : pentaglotref43_Levels.f k b xs = some (lvls b (xs.map cls)) := by
  unfold pentaglotref43_Levels.f
  rw [if_pos (by omega), if_pos (by rw [Int.toNat_natCast]; omega), Int.toNat_natCast]
  exact rlevels_loop b xs hl xs.length 0 k _ (by omega) (by omega) (by omega) (by simp) (fun j hj => by rw [if_neg (by omega)]; simp [List.getD, hj])
theorem ints_loop (xs : List Int) (hl : xs.length ≤ 1000000) : ∀ (d n k : Nat), xs.length - n = d → n ≤ xs.length → d < k → pentaglotref03_Ints.l0 k xs xs (n : Int) = some true
  | 0, n, k, hd, hn, hk => by
    obtain ⟨k, rfl⟩ : ∃ m, k = m + 1 := ⟨k - 1, by omega⟩
    simp only [pentaglotref03_Ints.l0]
    rw [if_neg (by omega)]
  | d + 1, n, k, hd, hn, hk => by
    obtain ⟨k, rfl⟩ : ∃ m, k = m + 1 := ⟨k - 1, by omega⟩
    simp only [pentaglotref03_Ints.l0]
    rw [if_pos (by omega), if_pos (by omega), if_pos (by omega), if_pos trivial, wrap_id (by omega) (by omega), show (n : Int) + 1 = ((n + 1 : Nat) : Int) by omega, ints_loop xs hl d (n + 1) k (by omega) (by omega) (by omega)]
theorem Ints_at {k : Nat} (xs : List Int) (hl : xs.length ≤ 1000000) (hk : xs.length < k) : pentaglotref03_Ints.f k xs xs = some true := by
  unfold pentaglotref03_Ints.f
  rw [if_pos rfl]
  exact ints_loop xs hl xs.length 0 k (by omega) (by omega) hk
end Go.Proofs.YtfecolaljnijbaaDoor.Pure
