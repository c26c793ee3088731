/- What Runs computes. No program and no memory stands here. -/
import Derived.Test.YtfecolaljnijbaaDoorPureI
set_option linter.unusedVariables false
set_option linter.unusedSimpArgs false
namespace Go.Proofs.YtfecolaljnijbaaDoor.Pure
open Go.RowKit Go.Lib Go.Proofs.YtfecolaljnijbaaDoor.C Go.Proofs.YtfecolaljnijbaaDoorW.PrintWords Go.Proofs.YtfecolaljnijbaaDoor.Utf

theorem rdT_get {l : List S38} {n : Nat} (h : n < l.length) : rd_T38 l (n : Int) = l[n] := by simp [rd_T38, List.getD, List.getElem?_eq_getElem h]
theorem rdT_left {l m : List S38} {n : Nat} (h : n < l.length) : rd_T38 (l ++ m) (n : Int) = rd_T38 l (n : Int) := by
  rw [rdT_get h, rdT_get (by rw [List.length_append]; omega), List.getElem_append_left h]
theorem rdT_last {l : List S38} {t : S38} : rd_T38 (l ++ [t]) (l.length : Int) = t := by
  rw [rdT_get (by simp)]; simp
theorem rd_set (xs : List Int) (i j : Nat) (v : Int) (h : i < xs.length) : rd (xs.set i v) (j : Int) = if i = j then v else rd xs (j : Int) := by
  have := getD_set xs i j v h
  simpa [rd] using this
/-- Each place knows its stretch. -/
def Idx (ss : List S38) (xs : List Int) (n : Nat) : Prop := ∀ i : Nat, i < n → ∃ m : Nat, rd xs (i : Int) = (m : Int) ∧ m < ss.length ∧ (rd_T38 ss (m : Int)).f0 ≤ (i : Int) ∧ (i : Int) < (rd_T38 ss (m : Int)).f1
theorem Idx.put {ys tl : List S38} {xs : List Int} {n : Nat} {f : Int} (h : Idx (ys ++ tl) xs n) (ht : tl = [] ∨ ∃ t, tl = [t] ∧ t.f0 = f) (hf : f ≤ (n : Int)) (hn : n < xs.length) : Idx (ys ++ [⟨f, ((n + 1 : Nat) : Int)⟩]) (xs.set n (ys.length : Int)) (n + 1) := by
  intro i hi
  rw [rd_set _ _ _ _ hn]
  by_cases e : n = i
  · subst e
    rw [if_pos rfl]
    exact ⟨ys.length, rfl, by simp, by rw [rdT_last]; exact hf, by rw [rdT_last]; simp only; omega⟩
  · rw [if_neg e]
    obtain ⟨m, h1, h2, h3, h4⟩ := h i (by omega)
    by_cases c : m < ys.length
    · rw [rdT_left c] at h3 h4
      exact ⟨m, h1, by simp; omega, by rw [rdT_left c]; exact h3, by rw [rdT_left c]; exact h4⟩
    · rcases ht with rfl | ⟨t, rfl, e0⟩
      · simp at h2; omega
      · have em : m = ys.length := by simp at h2; omega
        subst em
        rw [rdT_last] at h3 h4
        exact ⟨ys.length, h1, by simp, by rw [rdT_last]; simp only; omega, by rw [rdT_last]; simp only; omega⟩
theorem runs_l0 (b : Int) (s : ByteArray) (L : List Int) (hN : L.length ≤ 1000000) : ∀ (d n k : Nat) (x6 : List S38) (x7 : List Int), L.length - n = d → n ≤ L.length → d < k → Sts L (n : Int) x6 → x7.length = L.length → x6.length ≤ n → Idx x6 x7 n →
    ∃ ss xs k', k ≤ k' + d + 1 ∧ Sts L (L.length : Int) ss ∧ ss.length ≤ L.length ∧ xs.length = L.length ∧ Idx ss xs L.length ∧ bidi_Runs.l0 k b s L x6 x7 (L.length : Int) (n : Int) = (bidi_Order.f k' b s).bind fun o => bidi_Runs.l1 k' ss xs [] o (o.length : Int) 0
  | 0, n, k, x6, x7, hd, hn, hk, hS, h7, h6, hI => by
    obtain ⟨k, rfl⟩ : ∃ m, k = m + 1 := ⟨k - 1, by omega⟩
    obtain rfl : n = L.length := by omega
    refine ⟨x6, x7, k, by omega, hS, h6, h7, hI, ?_⟩
    simp only [bidi_Runs.l0]
    rw [if_neg (by omega)]
  | d + 1, n, k, x6, x7, hd, hn, hk, hS, h7, h6, hI => by
    obtain ⟨k, rfl⟩ : ∃ m, k = m + 1 := ⟨k - 1, by omega⟩
    have hw : wrap64 ((n : Int) + 1) = ((n + 1 : Nat) : Int) := by rw [wrap_id (by omega) (by omega)]; omega
    have q1 : L.length - (n + 1) = d := by omega
    have q2 : n + 1 ≤ L.length := by omega
    have q3 : d < k := by omega
    have q4 : n < x7.length := by omega
    have new : (0 < n → rd L ((n : Int) - 1) ≠ rd L (n : Int)) → ∃ ss xs k', k + 1 ≤ k' + (d + 1) + 1 ∧ Sts L (L.length : Int) ss ∧ ss.length ≤ L.length ∧ xs.length = L.length ∧ Idx ss xs L.length ∧
        bidi_Runs.l0 k b s L (x6 ++ [⟨(n : Int), ((n + 1 : Nat) : Int)⟩]) (x7.set n (x6.length : Int)) (L.length : Int) ((n + 1 : Nat) : Int) = (bidi_Order.f k' b s).bind fun o => bidi_Runs.l1 k' ss xs [] o (o.length : Int) 0 := by
      intro hdiff
      obtain ⟨ss, xs, k', a1, a2⟩ := runs_l0 b s L hN d (n + 1) k (x6 ++ [⟨(n : Int), ((n + 1 : Nat) : Int)⟩]) (x7.set n (x6.length : Int)) (by omega) (by omega) (by omega)
        ⟨cover_snoc.2 ⟨hS.cov, by simp only; omega, rfl⟩, fun t ht j j1 j2 => by
          rcases List.mem_append.1 ht with ht | ht
          · exact hS.same t ht j j1 j2
          · obtain rfl := List.mem_singleton.1 ht
            simp only at j1 j2 ⊢
            rw [show j = (n : Int) by omega], fun t ht h0 => by
          rcases List.mem_append.1 ht with ht | ht
          · exact hS.diff t ht h0
          · obtain rfl := List.mem_singleton.1 ht
            exact hdiff (by simp only at h0; omega)⟩ (by simp [h7]) (by simp; omega) (Idx.put (tl := []) (by simpa using hI) (.inl rfl) (Int.le_refl _) (by omega))
      exact ⟨ss, xs, k', by omega, a2⟩
    have ysz : ∀ t : S38, (x6 ++ [t]).length = x6.length + 1 := fun t => by simp
    have yset : ∀ t u : S38, (x6 ++ [t]).set x6.length u = x6 ++ [u] := fun t u => by simp
    have hwl : wrap64 (((x6.length + 1 : Nat) : Int) - 1) = (x6.length : Int) := by rw [wrap_id (by omega) (by omega)]; omega
    simp only [bidi_Runs.l0]
    rw [if_pos (by omega)]
    by_cases c0 : (n : Int) = 0
    · rw [if_pos c0, if_pos (by omega)]
      simp only [Option.bind_some, ysz, hwl]
      rw [if_pos (by omega), if_pos (by omega), if_pos (by omega), if_pos (by omega), Int.toNat_natCast, Int.toNat_natCast, yset, rdT_last, hw]
      exact new (fun h => absurd h (by omega))
    · have hwm : wrap64 ((n : Int) - 1) = (n : Int) - 1 := wrap_id (by omega) (by omega)
      rw [if_neg c0, if_pos (by omega), if_pos (by omega), hwm, if_pos (by omega), if_pos (by omega)]
      by_cases c1 : rd L (n : Int) = rd L ((n : Int) - 1)
      · rw [if_pos c1]
        rcases List.eq_nil_or_concat x6 with e | ⟨ys, t, e⟩
        · subst e
          exact absurd hS.cov (by simp [cover]; omega)
        · rw [List.concat_eq_append] at e
          subst e
          have hwy : wrap64 (((ys ++ [t]).length : Int) - 1) = (ys.length : Int) := by simp only [List.length_append, List.length_singleton] at h6 ⊢; rw [wrap_id (by omega) (by omega)]; omega
          have hyl : (ys.length : Int) < ((ys ++ [t]).length : Int) := by simp only [List.length_append, List.length_singleton]; omega
          obtain ⟨v1, v2, v3⟩ := cover_snoc.1 hS.cov
          rw [hwy, if_pos (show (0 : Int) ≤ (ys.length : Int) by omega), if_pos hyl, if_pos (show (n : Int) < (x7.length : Int) by omega), Int.toNat_natCast, Int.toNat_natCast, rdT_last, hw, show (ys ++ [t]).set ys.length ⟨t.f0, ((n + 1 : Nat) : Int)⟩ = ys ++ [⟨t.f0, ((n + 1 : Nat) : Int)⟩] by simp]
          obtain ⟨ss, xs, k', a1, a2⟩ := runs_l0 b s L hN d (n + 1) k (ys ++ [⟨t.f0, ((n + 1 : Nat) : Int)⟩]) (x7.set n (ys.length : Int)) q1 q2 q3
            ⟨cover_snoc.2 ⟨v1, by simp only; omega, rfl⟩, fun u hu j j1 j2 => by
              rcases List.mem_append.1 hu with hu | hu
              · exact hS.same u (by simp [hu]) j j1 j2
              · obtain rfl := List.mem_singleton.1 hu
                simp only at j1 j2 ⊢
                by_cases ej : j = (n : Int)
                · rw [ej, c1]; exact hS.same t (by simp) _ (by omega) (by omega)
                · exact hS.same t (by simp) j j1 (by omega), fun u hu h0 => by
              rcases List.mem_append.1 hu with hu | hu
              · exact hS.diff u (by simp [hu]) h0
              · obtain rfl := List.mem_singleton.1 hu
                exact hS.diff t (by simp) h0⟩ (by simp [h7]) (by simp at h6 ⊢; omega) (Idx.put (tl := [t]) hI (.inr ⟨t, rfl, rfl⟩) (by omega) (by omega))
          exact ⟨ss, xs, k', by omega, a2⟩
      · rw [if_neg c1, if_pos (show x6.length < 8796093022208 by omega)]
        simp only [Option.bind_some, ysz, hwl]
        rw [if_pos (show (0 : Int) ≤ (x6.length : Int) by omega), if_pos (show (x6.length : Int) < ((x6.length + 1 : Nat) : Int) by omega), if_pos (show (n : Int) < (x7.length : Int) by omega), Int.toNat_natCast, Int.toNat_natCast, yset, rdT_last, hw]
        exact new (fun h e => c1 e.symm)
theorem index_at (l : List S38) (hl : l.length ≤ 1000000) (a b : Int) : ∀ (d n k : Nat), l.length - n = d → n ≤ l.length → d < k → ∃ r, slices_Index_2_int_2_int.l0 k l (l.length : Int) (n : Int) a b = some r ∧ decide (r ≥ 0) = (l.drop n).any (fun t => a == t.f0 && b == t.f1)
  | 0, n, k, hd, hn, hk => by
    obtain ⟨k, rfl⟩ : ∃ m, k = m + 1 := ⟨k - 1, by omega⟩
    refine ⟨-1, ?_, ?_⟩
    · simp only [slices_Index_2_int_2_int.l0]
      rw [if_neg (by omega)]
    · rw [List.drop_eq_nil_of_le (by omega)]; rfl
  | d + 1, n, k, hd, hn, hk => by
    obtain ⟨k, rfl⟩ : ∃ m, k = m + 1 := ⟨k - 1, by omega⟩
    have hlt : n < l.length := by omega
    obtain ⟨r, h1, h2⟩ := index_at l hl a b d (n + 1) k (by omega) (by omega) (by omega)
    simp only [slices_Index_2_int_2_int.l0]
    rw [if_pos (by omega), if_pos (by omega), if_pos (by omega), rdT_get hlt, List.drop_eq_getElem_cons hlt, List.any_cons]
    by_cases c : (a == l[n].f0 && b == l[n].f1) = true
    · rw [if_pos c, c]
      exact ⟨(n : Int), rfl, by simp⟩
    · rw [if_neg c, wrap_id (by omega) (by omega), show (n : Int) + 1 = ((n + 1 : Nat) : Int) by omega, Bool.eq_false_iff.mpr c]
      exact ⟨r, h1, by simpa using h2⟩
def hasS (s : S38) (l : List S38) : Bool := l.any (fun t => s.f0 == t.f0 && s.f1 == t.f1)
theorem hasS_iff {s : S38} {l : List S38} : hasS s l = true ↔ s ∈ l := by
  unfold hasS
  rw [List.any_eq_true]
  constructor
  · rintro ⟨t, ht, e⟩
    simp only [Bool.and_eq_true, beq_iff_eq] at e
    have : s = t := by cases s; cases t; simp_all
    rw [this]; exact ht
  · intro h
    exact ⟨s, h, by simp⟩
theorem contains_at {k : Nat} (l : List S38) (hl : l.length ≤ 1000000) (s : S38) (hk : l.length < k) : slices_Contains_2_int_2_int.f k l s.f0 s.f1 = some (hasS s l) := by
  obtain ⟨r, h1, h2⟩ := index_at l hl s.f0 s.f1 _ 0 k rfl (by omega) (by omega)
  unfold slices_Contains_2_int_2_int.f slices_Index_2_int_2_int.f
  rw [show ((0 : Nat) : Int) = 0 by rfl] at h1
  rw [h1]
  simp only [Option.bind_some]
  rw [h2, List.drop_zero]
  rfl
/-- Each stretch once, in the order of the places. -/
def once (f : Int → S38) : List S38 → List Int → List S38
  | x9, [] => x9
  | x9, i :: o => once f (if hasS (f i) x9 = true then x9 else x9 ++ [f i]) o
theorem runs_l1 (ss : List S38) (xs o : List Int) (ho : ∀ i ∈ o, 0 ≤ i ∧ i < (xs.length : Int)) (hI : Idx ss xs xs.length) (K0 : Nat) (hl : o.length ≤ K0) (hK : K0 ≤ 1000000) : ∀ (d n k : Nat) (x9 : List S38), o.length - n = d → n ≤ o.length → x9.length ≤ n → K0 + d < k →
    bidi_Runs.l1 k ss xs x9 o (o.length : Int) (n : Int) = some (once (fun i => rd_T38 ss (rd xs i)) x9 (o.drop n))
  | 0, n, k, x9, hd, hn, h9, hk => by
    obtain ⟨k, rfl⟩ : ∃ m, k = m + 1 := ⟨k - 1, by omega⟩
    simp only [bidi_Runs.l1]
    rw [if_neg (by omega), List.drop_eq_nil_of_le (by omega)]
    rfl
  | d + 1, n, k, x9, hd, hn, h9, hk => by
    obtain ⟨k, rfl⟩ : ∃ m, k = m + 1 := ⟨k - 1, by omega⟩
    have hlt : n < o.length := by omega
    have p1 : (n : Int) < (o.length : Int) := by omega
    have p2 : (0 : Int) ≤ (n : Int) := by omega
    have p3 : x9.length ≤ 1000000 := by omega
    have p4 : x9.length < k := by omega
    have p5 : x9.length < 8796093022208 := by omega
    have q1 : o.length - (n + 1) = d := by omega
    have q2 : n + 1 ≤ o.length := by omega
    have q3 : x9.length ≤ n + 1 := by omega
    have q4 : ∀ t : S38, (x9 ++ [t]).length ≤ n + 1 := fun t => by simp; omega
    have q5 : K0 + d < k := by omega
    have hw : wrap64 ((n : Int) + 1) = ((n + 1 : Nat) : Int) := by rw [wrap_id (by omega) (by omega)]; omega
    have hx := ho _ (List.getElem_mem hlt)
    obtain ⟨i, hi⟩ : ∃ i : Nat, o[n] = (i : Int) := ⟨o[n].toNat, by clear hw; omega⟩
    rw [hi] at hx
    obtain ⟨m, m1, m2, m3, m4⟩ := hI i (by clear hw hI; omega)
    have p6 : (0 : Int) ≤ (m : Int) := Int.natCast_nonneg m
    have p7 : (m : Int) < (ss.length : Int) := Int.ofNat_lt.2 m2
    have ih1 := runs_l1 ss xs o ho hI K0 hl hK d (n + 1) k x9 q1 q2 q3 q5
    have ih2 := runs_l1 ss xs o ho hI K0 hl hK d (n + 1) k (x9 ++ [rd_T38 ss (m : Int)]) q1 q2 (q4 _) q5
    rw [List.drop_eq_getElem_cons hlt, hi]
    simp only [bidi_Runs.l1]
    rw [if_pos p1, if_pos p2, if_pos p1, rd_get hlt, hi, if_pos hx.1, if_pos hx.2, m1, if_pos p6, if_pos p7, contains_at x9 p3 (rd_T38 ss (m : Int)) p4, hw]
    simp only [Option.bind_some, once, m1]
    by_cases c : hasS (rd_T38 ss (m : Int)) x9 = true
    · rw [if_pos c, if_pos c, ih1]
    · rw [if_neg c, if_neg c, if_pos p5]
      exact ih2
theorem once_same (f : Int → S38) (s : S38) : ∀ (g rest : List Int) (x9 : List S38), (∀ i ∈ g, f i = s) → hasS s x9 = true → once f x9 (g ++ rest) = once f x9 rest
  | [], rest, x9, h1, h2 => rfl
  | i :: g, rest, x9, h1, h2 => by
    rw [List.cons_append, once, h1 i (by simp), if_pos h2]
    exact once_same f s g rest x9 (fun j hj => h1 j (by simp [hj])) h2
theorem once_groups (f : Int → S38) (H : S38 → List Int) : ∀ (vs x9 : List S38), (x9 ++ vs).Nodup → (∀ s ∈ vs, H s ≠ [] ∧ ∀ i ∈ H s, f i = s) → once f x9 ((vs.map H).flatten) = x9 ++ vs
  | [], x9, h1, h2 => by simp [once]
  | s :: vs, x9, h1, h2 => by
    obtain ⟨hne, hf⟩ := h2 s (by simp)
    obtain ⟨i, g, e⟩ := List.exists_cons_of_ne_nil hne
    rw [List.map_cons, List.flatten_cons, e, List.cons_append, once, hf i (by rw [e]; simp)]
    have hn : ¬ hasS s x9 = true := by
      rw [hasS_iff]
      intro hm
      exact (List.nodup_append.1 h1).2.2 s hm s (by simp) rfl
    rw [if_neg hn, once_same f s g _ _ (fun j hj => hf j (by rw [e]; simp [hj])) (hasS_iff.2 (by simp)), once_groups f H vs (x9 ++ [s]) (by simpa using h1) (fun t ht => h2 t (by simp [ht]))]
    simp
end Go.Proofs.YtfecolaljnijbaaDoor.Pure
