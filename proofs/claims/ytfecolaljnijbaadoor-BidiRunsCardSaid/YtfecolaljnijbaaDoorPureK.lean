/- The law on runs: the line is displayed stretch by stretch. No program and no memory stands here. -/
import Derived.Test.YtfecolaljnijbaaDoorPureJ
set_option linter.unusedVariables false
set_option linter.unusedSimpArgs false
namespace Go.Proofs.YtfecolaljnijbaaDoor.Pure
open Go.RowKit Go.Lib Go.Proofs.YtfecolaljnijbaaDoor.C Go.Proofs.YtfecolaljnijbaaDoorW.PrintWords Go.Proofs.YtfecolaljnijbaaDoor.Utf

theorem cover_one : ∀ {ss : List S38} {a e : Int}, cover a ss e → ∀ s ∈ ss, ∀ t ∈ ss, ∀ i : Int, s.f0 ≤ i → i < s.f1 → t.f0 ≤ i → i < t.f1 → s = t
  | u :: ss, a, e, ⟨h1, h2, h3⟩, s, hs, t, ht, i, i1, i2, i3, i4 => by
    rcases List.mem_cons.1 hs with e1 | k1
    · rcases List.mem_cons.1 ht with e2 | k2
      · rw [e1, e2]
      · have := cover_mem h3 t k2; rw [e1] at i2; omega
    · rcases List.mem_cons.1 ht with e2 | k2
      · have := cover_mem h3 s k1; rw [e2] at i4; omega
      · exact cover_one h3 s k1 t k2 i i1 i2 i3 i4
theorem cover_next : ∀ {ss : List S38} {a e : Int}, cover a ss e → ∀ s ∈ ss, s.f1 < e → ∃ t ∈ ss, t.f0 = s.f1
  | u :: ss, a, e, ⟨h1, h2, h3⟩, s, hs, hlt => by
    rcases List.mem_cons.1 hs with rfl | hs
    · cases ss with
      | nil => have h3 : s.f1 = e := h3; omega
      | cons t ts => exact ⟨t, by simp, h3.1⟩
    · obtain ⟨t, ht, e1⟩ := cover_next h3 s hs hlt
      exact ⟨t, by simp [ht], e1⟩
theorem G_len (L : List Int) (s : S38) : (G L s).length = (s.f1 - s.f0).toNat := by
  unfold G; split <;> simp [rng_len]
theorem rng_get (s : S38) {j : Nat} (hj : j < (s.f1 - s.f0).toNat) : (rng s)[j]? = some (s.f0 + (j : Int)) := by
  simp [rng, hj]
theorem G_get (L : List Int) (s : S38) {j : Nat} (hj : j < (s.f1 - s.f0).toNat) : (G L s)[j]? = some (if rd L s.f0 = 1 then s.f1 - 1 - (j : Int) else s.f0 + (j : Int)) := by
  unfold G
  by_cases c : rd L s.f0 = 1
  · rw [if_pos c, if_pos c, List.getElem?_reverse (by rw [rng_len]; exact hj), rng_len, rng_get s (by omega)]
    congr 1
    omega
  · rw [if_neg c, if_neg c, rng_get s hj]
/-- The stretches in the order of the display. -/
def vstr (L : List Int) (ss : List S38) : List S38 := rra (Qs L 1) [] ss
theorem vstr_mem {L : List Int} {ss : List S38} {s : S38} : s ∈ vstr L ss ↔ s ∈ ss := by
  have := (rra_perm (Qs L 1) ss []).mem_iff (a := s)
  simpa [vstr] using this
theorem Runs_good {k : Nat} (b : Int) (s : ByteArray) (hs : s.size ≤ 400) (hk : 5000 < k) (v : validD s.data.toList = true) :
    ∃ ss, Sts (lev b s) ((lev b s).length : Int) ss ∧ bidi_Runs.f k b s = some (vstr (lev b s) ss) := by
  have hr := rns_len' s
  have hlen := lev_len' (b := b) v
  have hl : (lev b s).length ≤ 400 := by omega
  have hL : ∀ x ∈ lev b s, 0 ≤ x ∧ x ≤ 2 := fun x hx => by
    rw [lev_valid v] at hx
    have := lvls_mem hx
    have : 0 ≤ bas b := by unfold bas; split <;> omega
    omega
  have hlv := Levels_at (k := k) b s (by omega) (by omega)
  have hord := fun k' (h : 3 * s.size + 10 < k') => Order_at (k := k') b s (by omega) h
  rw [if_pos v, ← lev_valid v] at hlv
  simp only [if_pos v, ← lev_valid v] at hord
  unfold bidi_Runs.f
  rw [hlv]
  simp only [Option.bind_some]
  rw [if_pos (by omega), if_pos (by rw [Int.toNat_natCast]; omega), Int.toNat_natCast]
  obtain ⟨ss, xs, k', hk', hS, hsl, hxl, hI, e⟩ := runs_l0 b s (lev b s) (by omega) (lev b s).length 0 k [] (List.replicate (lev b s).length 0) (by omega) (by omega) (by omega)
    ⟨rfl, fun t ht => absurd ht (by simp), fun t ht => absurd ht (by simp)⟩ (by simp) (by simp) (fun i hi => absurd hi (Nat.not_lt_zero _))
  rw [show ((0 : Nat) : Int) = 0 by rfl] at e
  refine ⟨ss, hS, ?_⟩
  rw [e, hord k' (by omega)]
  simp only [Option.bind_some]
  have h1 := runs_l1 ss xs (ord (lev b s)) (fun i hi => by have := ord_range _ i hi; omega) (by rw [hxl]; exact hI) 400 (by rw [ord_len]; omega) (by omega) (ord (lev b s)).length 0 k' [] (by omega) (by omega) (by simp) (by rw [ord_len]; omega)
  rw [show ((0 : Nat) : Int) = 0 by rfl] at h1
  rw [h1, List.drop_zero, ord_groups hS hL]
  have h2 := once_groups (fun i => rd_T38 ss (rd xs i)) (G (lev b s)) (vstr (lev b s) ss) [] (by
      have := (rra_perm (Qs (lev b s) 1) ss []).nodup_iff.2 (by simpa using cover_nodup hS.cov)
      simpa [vstr] using this) (fun t ht => by
    have ht := vstr_mem.1 ht
    have hm := cover_mem hS.cov t ht
    refine ⟨fun h0 => ?_, fun i hi => ?_⟩
    · have := G_len (lev b s) t
      rw [h0] at this
      simp at this
      omega
    · have hi2 : i ∈ rng t := by
        unfold G at hi
        split at hi
        · simpa using hi
        · exact hi
      have hi3 := mem_rng.1 hi2
      obtain ⟨n, rfl⟩ : ∃ n : Nat, i = (n : Int) := ⟨i.toNat, by omega⟩
      obtain ⟨m, m1, m2, m3, m4⟩ := hI n (by omega)
      show rd_T38 ss (rd xs (n : Int)) = t
      rw [m1]
      refine cover_one hS.cov _ ?_ t ht (n : Int) m3 m4 hi3.1 hi3.2
      rw [rdT_get m2]
      exact List.getElem_mem _)
  simp only [List.nil_append] at h2
  unfold vstr at h2 ⊢
  rw [h2]
theorem lawl1 (w L : List Int) (vs : List S38) (pre rest : List Int) (s : S38) (n : Nat) (hL : L.length ≤ 400) (hs0 : 0 ≤ s.f0) (hs1 : s.f0 < s.f1) (hs2 : s.f1 ≤ (L.length : Int))
    (hsame : ∀ j, s.f0 ≤ j → j < s.f1 → rd L j = rd L s.f0) (hlv : 0 ≤ rd L s.f0 ∧ rd L s.f0 ≤ 2) (hol : (pre ++ (G L s ++ rest)).length ≤ 400) (hn : n ≤ 1000000) :
    ∀ (d j k : Nat), (s.f1 - s.f0).toNat - j = d → j ≤ (s.f1 - s.f0).toNat →
      pentaglotlaw43_BidiRuns.l1 (k + d + 1) w L (pre ++ (G L s ++ rest)) vs ((pre.length + j : Nat) : Int) (n : Int) s.f0 s.f1 (s.f0 + (j : Int)) =
      pentaglotlaw43_BidiRuns.l0 k w L (pre ++ (G L s ++ rest)) vs ((pre.length + (G L s).length : Nat) : Int) ((n + 1 : Nat) : Int)
  | 0, j, k, hd, hj => by
    have p1 : ¬ s.f0 + (j : Int) < s.f1 := by omega
    have p2 : j = (s.f1 - s.f0).toNat := by omega
    have p3 : wrap64 ((n : Int) + 1) = ((n + 1 : Nat) : Int) := by rw [wrap_id (by omega) (by omega)]; omega
    simp only [pentaglotlaw43_BidiRuns.l1]
    rw [if_neg p1, p3, G_len, ← p2]
  | d + 1, j, k, hd, hj => by
    have hjl : j < (s.f1 - s.f0).toNat := by omega
    have hgl := G_len L s
    have ho : (pre ++ (G L s ++ rest)).length = pre.length + ((G L s).length + rest.length) := by simp only [List.length_append]
    have p1 : s.f0 + (j : Int) < s.f1 := by omega
    have p2 : s.f0 < (L.length : Int) := by omega
    have p3 : (0 : Int) ≤ s.f0 + (j : Int) := by omega
    have p4 : s.f0 + (j : Int) < (L.length : Int) := by omega
    have p5 : ¬ ((pre.length + j : Nat) : Int) ≥ ((pre ++ (G L s ++ rest)).length : Int) := by omega
    have p6 : (0 : Int) ≤ ((pre.length + j : Nat) : Int) := by omega
    have p7 : ((pre.length + j : Nat) : Int) < ((pre ++ (G L s ++ rest)).length : Int) := by omega
    have p8 : j < (G L s).length := by omega
    have p9 : (s.f1 - s.f0).toNat - (j + 1) = d := by omega
    have pa : j + 1 ≤ (s.f1 - s.f0).toNat := by omega
    have pb : ¬ rd L s.f0 = 1 → rd L s.f0 = 0 ∨ rd L s.f0 = 2 := by omega
    have hget : rd (pre ++ (G L s ++ rest)) ((pre.length + j : Nat) : Int) = if rd L s.f0 = 1 then s.f1 - 1 - (j : Int) else s.f0 + (j : Int) := by
      have := G_get L s hjl
      simp only [rd, List.getD, Int.toNat_natCast]
      rw [List.getElem?_append_right (Nat.le_add_right _ _), Nat.add_sub_cancel_left, List.getElem?_append_left p8, this]
      rfl
    have w1 : wrap64 (s.f0 + (j : Int) + 1) = s.f0 + ((j + 1 : Nat) : Int) := by clear hget; rw [wrap_id (by omega) (by omega)]; omega
    have w2 : wrap64 (((pre.length + j : Nat) : Int) + 1) = ((pre.length + (j + 1) : Nat) : Int) := by clear hget w1; rw [wrap_id (by omega) (by omega)]; omega
    have w3 : wrap64 (wrap64 (s.f1 - 1) - wrap64 (s.f0 + (j : Int) - s.f0)) = s.f1 - 1 - (j : Int) := by
      clear hget w1 w2
      rw [wrap_id (x := s.f1 - 1) (by omega) (by omega), wrap_id (x := s.f0 + (j : Int) - s.f0) (by omega) (by omega), wrap_id (by omega) (by omega)]; omega
    have hsj := hsame (s.f0 + (j : Int)) (Int.le_add_of_nonneg_right (Int.natCast_nonneg j)) p1
    have ih := lawl1 w L vs pre rest s n hL hs0 hs1 hs2 hsame hlv hol hn d (j + 1) k p9 pa
    generalize pre ++ (G L s ++ rest) = o at *
    obtain ⟨K, hK⟩ : ∃ K, K = k + d + 1 := ⟨_, rfl⟩
    rw [show k + (d + 1) + 1 = K + 1 by rw [hK]; rfl]
    rw [← hK] at ih
    simp only [pentaglotlaw43_BidiRuns.l1]
    rw [if_pos p1, if_pos hs0, if_pos p2]
    by_cases c : rd L s.f0 = 1
    · rw [if_pos (show Int.tmod (rd L s.f0) 2 = 1 by rw [c]; rfl), if_pos p3, if_pos p4, if_pos hsj, if_neg p5, if_pos p6, if_pos p7, w3, hget, if_pos c, if_pos rfl, w1, w2, ih]
    · have c2 : ¬ Int.tmod (rd L s.f0) 2 = 1 := by
        rcases pb c with e | e <;> rw [e] <;> decide
      rw [if_neg c2, if_pos p3, if_pos p4, if_pos hsj, if_neg p5, if_pos p6, if_pos p7, hget, if_neg c, if_pos rfl, w1, w2, ih]
theorem lawl0 (w L : List Int) (ss : List S38) (hS : Sts L (L.length : Int) ss) (hw : w.length = L.length) (hL : L.length ≤ 400) (hlv : ∀ x ∈ L, 0 ≤ x ∧ x ≤ 2) :
    ∀ (rest pre : List S38) (k : Nat), (∀ s ∈ rest, s ∈ ss) → ((pre ++ rest).map (G L)).flatten.length = L.length → pre.length + rest.length ≤ 400 → 5 * (rest.map (G L)).flatten.length + 1000 < k →
      pentaglotlaw43_BidiRuns.l0 k w L (((pre ++ rest).map (G L)).flatten) (pre ++ rest) (((pre.map (G L)).flatten.length : Nat) : Int) (pre.length : Int) = some true
  | [], pre, k, hm, hl, hp, hk => by
    obtain ⟨k, rfl⟩ : ∃ m, k = m + 1 := ⟨k - 1, by omega⟩
    simp only [pentaglotlaw43_BidiRuns.l0]
    rw [if_neg (by simp), awake_at (by omega)]
    rw [List.append_nil] at hl
    simp [hw, hl]
  | s :: rest, pre, k, hm, hl, hp, hk => by
    have hs := hm s (by simp)
    have hc := cover_mem hS.cov s hs
    have hgl := G_len L s
    have hfl : (((s :: rest).map (G L)).flatten).length = (G L s).length + ((rest.map (G L)).flatten).length := by simp
    rw [hfl] at hk
    obtain ⟨n0, hn0⟩ : ∃ n : Nat, s.f0 = (n : Int) := ⟨s.f0.toNat, by omega⟩
    have hv : 0 ≤ rd L s.f0 ∧ rd L s.f0 ≤ 2 := by rw [hn0, rd_get (by omega)]; exact hlv _ (List.getElem_mem _)
    have ho : ((pre ++ s :: rest).map (G L)).flatten = (pre.map (G L)).flatten ++ (G L s ++ (rest.map (G L)).flatten) := by simp
    have hrd : rd_T38 (pre ++ s :: rest) (pre.length : Int) = s := by
      rw [rdT_get (by simp)]; simp
    have hlo : ((pre.map (G L)).flatten ++ (G L s ++ (rest.map (G L)).flatten)).length ≤ 400 := by rw [← ho, hl]; exact hL
    -- fuel: one for the round, one for the middle, one a place and one for the end
    obtain ⟨k2, hk2⟩ : ∃ m, k = ((m + (s.f1 - s.f0).toNat + 1) + 1) + 1 := ⟨k - (s.f1 - s.f0).toNat - 3, by omega⟩
    have l1 := lawl1 w L (pre ++ s :: rest) ((pre.map (G L)).flatten) ((rest.map (G L)).flatten) s pre.length hL (by omega) hc.2.1 hc.2.2 (hS.same s hs) hv hlo (by omega) (s.f1 - s.f0).toNat 0 k2 (by omega) (by omega)
    have ih := lawl0 w L ss hS hw hL hlv rest (pre ++ [s]) k2 (fun t ht => hm t (by simp [ht])) (by simpa using hl) (by simp at hp ⊢; omega) (by omega)
    have j3 : pentaglotlaw43_BidiRuns.j3 (k2 + (s.f1 - s.f0).toNat + 1 + 1) w L (((pre ++ s :: rest).map (G L)).flatten) (pre ++ s :: rest) (((pre.map (G L)).flatten.length : Nat) : Int) (pre.length : Int) s.f0 s.f1 false = some true := by
      simp only [pentaglotlaw43_BidiRuns.j3, Bool.false_eq_true, if_false]
      rw [ho]
      simp only [Nat.add_zero, Int.natCast_zero, Int.add_zero] at l1
      rw [l1]
      have e1 : (pre ++ [s]) ++ rest = pre ++ s :: rest := by simp
      rw [e1, ho] at ih
      have e2 : ((pre ++ [s]).map (G L)).flatten.length = (pre.map (G L)).flatten.length + (G L s).length := by simp
      have e3 : (pre ++ [s]).length = pre.length + 1 := by simp
      rw [e2, e3] at ih
      exact ih
    have hd := hS.diff s hs
    have p1 : (pre.length : Int) < ((pre ++ s :: rest).length : Int) := by simp; omega
    have p2 : (0 : Int) ≤ (pre.length : Int) := Int.natCast_nonneg _
    have p3 : ¬ s.f0 < 0 := by omega
    have p4 : ¬ s.f0 ≥ s.f1 := by omega
    have p5 : ¬ s.f1 > (w.length : Int) := by omega
    have p6 : s.f0 > 0 → (0 : Int) ≤ s.f0 - 1 := by omega
    have p7 : s.f0 > 0 → s.f0 - 1 < (L.length : Int) := by omega
    have p8 : (0 : Int) ≤ s.f0 := by omega
    have p9 : s.f0 < (L.length : Int) := by omega
    have pa : (0 : Int) ≤ s.f1 := by omega
    have pw : (w.length : Int) = (L.length : Int) := by omega
    have pb : s.f0 ≤ s.f1 - 1 := by omega
    have pc : s.f1 - 1 < s.f1 := by omega
    have pd : 0 < s.f1 := by omega
    have hnx : s.f1 < (L.length : Int) → (rd L s.f1 == rd L s.f0) = false := fun hlt => by
      obtain ⟨t, ht, e⟩ := cover_next hS.cov s hs hlt
      have h1 := hS.diff t ht (by rw [e]; exact pd)
      rw [e, hS.same s hs (s.f1 - 1) pb pc] at h1
      exact beq_eq_false_iff_ne.mpr (fun h => h1 h.symm)
    have hwm : 0 < s.f0 → wrap64 (s.f0 - 1) = s.f0 - 1 := fun h => by clear j3 hnx ih l1; exact wrap_id (by omega) (by omega)
    generalize ((pre ++ s :: rest).map (G L)).flatten = o at *
    rw [hk2]
    simp only [pentaglotlaw43_BidiRuns.l0]
    rw [hrd, if_pos p1, if_pos p2, if_neg p3, if_neg p4, if_neg p5]
    by_cases c1 : s.f0 > 0
    · rw [if_pos c1, hwm c1, if_pos (p6 c1), if_pos (p7 c1), if_pos p8, if_pos p9, if_neg (hd c1), pw]
      by_cases c2 : s.f1 < (L.length : Int)
      · rw [if_pos c2, if_pos pa, if_pos c2, hnx c2]; exact j3
      · rw [if_neg c2]; exact j3
    · rw [if_neg c1, pw]
      by_cases c2 : s.f1 < (L.length : Int)
      · rw [if_pos c2, if_pos pa, if_pos c2, if_pos p8, if_pos p9, hnx c2]; exact j3
      · rw [if_neg c2]; exact j3
theorem BidiRuns (b : Int) (s : ByteArray) : ∃ k, pentaglotlaw43_BidiRuns.f k b s = some true := by
  obtain ⟨K, hK⟩ : ∃ K : Nat, K = 10000 := ⟨_, rfl⟩
  refine ⟨K + 2, ?_⟩
  have out : pentaglotlaw43_BidiRuns.j0 (K + 2) b s true = some true := by
    simp only [pentaglotlaw43_BidiRuns.j0, if_true]
    rw [awake_at (by omega)]; rfl
  unfold pentaglotlaw43_BidiRuns.f
  rw [short_at]
  simp only [Option.bind_some]
  by_cases h : (s.size : Int) ≤ 400
  · have hr := rns_len' s
    rw [decide_eq_true h, if_pos rfl, valid_at s (by omega)]
    simp only [Option.bind_some]
    by_cases v : validD s.data.toList = true
    · rw [v]
      obtain ⟨ss, hS, hR⟩ := Runs_good (k := K + 1) b s (by omega) (by omega) v
      have hlen := lev_len' (b := b) v
      have hlv := Levels_at (k := K + 1) b s (by omega) (by omega)
      have hord := Order_at (k := K + 1) b s (by omega) (by omega)
      rw [if_pos v, ← lev_valid v] at hlv hord
      have hL : ∀ x ∈ lev b s, 0 ≤ x ∧ x ≤ 2 := fun x hx => by
        rw [lev_valid v] at hx
        have := lvls_mem hx
        have : 0 ≤ bas b := by unfold bas; split <;> omega
        omega
      have hg := ord_groups hS hL
      have hol := ord_len (lev b s)
      have hvl : (vstr (lev b s) ss).length ≤ 400 := by
        have h1 : (vstr (lev b s) ss).length = ss.length := by
          have := (rra_perm (Qs (lev b s) 1) ss []).length_eq
          simpa [vstr] using this
        have h2 : ∀ (ts : List S38) (a e : Int), cover a ts e → (ts.length : Int) ≤ e - a := by
          intro ts
          induction ts with
          | nil => intro a e (h : a = e); simp [h]
          | cons t ts ih => intro a e ⟨h1, h2, h3⟩; have := ih _ _ h3; simp; omega
        have h3 := h2 ss 0 _ hS.cov
        omega
      simp only [Bool.not_true, pentaglotlaw43_BidiRuns.j0, Bool.false_eq_true, if_false]
      rw [if_pos (by omega), hlv, hord, hR]
      simp only [Option.bind_some]
      rw [if_pos (by omega), show (((ord (lev b s)).length : Int) != ((rns s).length : Int)) = false by rw [hol, hlen]; simp]
      simp only [pentaglotlaw43_BidiRuns.j1, Bool.false_eq_true, if_false]
      have := lawl0 (rns s) (lev b s) ss hS hlen.symm (by omega) hL (vstr (lev b s) ss) [] K (fun t ht => vstr_mem.1 ht) (by
        rw [List.nil_append]
        unfold vstr
        rw [← hg, hol]) (by simp; exact hvl) (by
        unfold vstr
        rw [← hg, hol]; omega)
      simp only [List.nil_append, List.map_nil, List.flatten_nil, List.length_nil] at this
      unfold vstr at this ⊢
      rw [← hg] at this
      exact this
    · rw [Bool.eq_false_iff.mpr v]; exact out
  · rw [decide_eq_false h, if_neg (by decide)]; exact out
end Go.Proofs.YtfecolaljnijbaaDoor.Pure
