/- The measure functions in plain numbers, second part: sums of parts, normal parts, splitting. No program and no memory stands here. -/
import Derived.Test.YtpfmcifiocpfbaaPure
set_option linter.unusedVariables false
set_option linter.unusedSimpArgs false
namespace Go.Proofs.Ytpfmcifiocpfbaa.Pure
open Go.RowKit Go.Proofs.Ytpfmcifiocpfbaa.C Go.Proofs.YtpfmcifiocpfbaaW.PrintWords

/-- The amount of the first m parts. -/
def psum (l : List S41) (ps : List Int) : Nat → Int
  | 0 => 0
  | m + 1 => psum l ps m + rd ps m * sz l m
/-- Every part is no less than nothing. -/
def Non (ps : List Int) : Prop := ∀ i : Nat, i < ps.length → 0 ≤ rd ps i
/-- Each part but the last is less than the next unit holds. -/
def Low (l : List S41) (ps : List Int) : Prop := ∀ i : Nat, i + 1 < l.length → rd ps i < Int.tdiv (sz l (i + 1)) (sz l i)
theorem psum_nonneg {l : List S41} (v : Val l) {ps : List Int} (h : Non ps) : ∀ m : Nat, m ≤ l.length → m ≤ ps.length → 0 ≤ psum l ps m
  | 0, _, _ => Int.le_refl _
  | m + 1, a, b => by
    have := psum_nonneg v h m (by omega) (by omega)
    have p := v.pos (i := m) (by omega) (by omega)
    have := Int.mul_nonneg (h m (by omega)) (show 0 ≤ sz l m by omega)
    show 0 ≤ psum l ps m + rd ps m * sz l m
    omega
theorem psum_mono {l : List S41} (v : Val l) {ps : List Int} (h : Non ps) {m : Nat} : ∀ n : Nat, m ≤ n → n ≤ l.length → n ≤ ps.length → psum l ps m ≤ psum l ps n
  | 0, a, _, _ => by obtain rfl : m = 0 := by omega
                     exact Int.le_refl _
  | n + 1, a, b, c => by
    by_cases e : m = n + 1
    · rw [e]; exact Int.le_refl _
    · have := psum_mono v h (m := m) n (by omega) (by omega) (by omega)
      have p := v.pos (i := n) (by omega) (by omega)
      have := Int.mul_nonneg (h n (by omega)) (show 0 ≤ sz l n by omega)
      show psum l ps m ≤ psum l ps n + rd ps n * sz l n
      omega
theorem part_le {p s : Int} (hp : 0 ≤ p) (hs : 1 ≤ s) : p ≤ p * s := by
  have := Int.mul_le_mul_of_nonneg_left hs hp
  rwa [Int.mul_one] at this
/-- What normal parts below one unit hold is less than that unit. -/
theorem psum_lt {l : List S41} (v : Val l) {ps : List Int} (h : Non ps) (w : Low l ps) (hl : ps.length = l.length) : ∀ m : Nat, m < l.length → psum l ps m < sz l m
  | 0, _ => by
    have := v.one
    show (0 : Int) < sz l 0
    omega
  | m + 1, a => by
    have I := psum_lt v h w hl m (by omega)
    have M := v.mul (i := m) (by omega) (by omega)
    have p := v.pos (i := m) (by omega) (by omega)
    have q := w m a
    have : rd ps m * sz l m + sz l m ≤ Int.tdiv (sz l (m + 1)) (sz l m) * sz l m := by
      have := Int.mul_le_mul_of_nonneg_right (show rd ps m + 1 ≤ Int.tdiv (sz l (m + 1)) (sz l m) by omega) (show 0 ≤ sz l m by omega)
      rwa [Int.add_mul, Int.one_mul] at this
    have e : Int.tdiv (sz l (m + 1)) (sz l m) * sz l m = sz l (m + 1) := by rw [Int.mul_comm]; exact M.1.symm
    rw [e] at this
    show psum l ps m + rd ps m * sz l m < sz l ((m + 1 : Nat) : Int)
    rw [show (((m + 1 : Nat)) : Int) = (m : Int) + 1 by omega]
    omega
theorem divide {a b p q s : Int} (ha : 0 ≤ a) (hb : 0 ≤ b) (ha' : a < s) (hb' : b < s) (h : a + p * s = b + q * s) : a = b ∧ p = q := by
  have h1 : (a + p * s) / s = p := by rw [Int.add_mul_ediv_right _ _ (by omega), Int.ediv_eq_zero_of_lt ha ha']; omega
  have h2 : (b + q * s) / s = q := by rw [Int.add_mul_ediv_right _ _ (by omega), Int.ediv_eq_zero_of_lt hb hb']; omega
  have e : p = q := by rw [← h1, ← h2, h]
  subst e
  exact ⟨by omega, rfl⟩
theorem same_parts {l : List S41} (v : Val l) {ps qs : List Int} (h : Non ps) (w : Low l ps) (hl : ps.length = l.length) (h' : Non qs) (w' : Low l qs) (hl' : qs.length = l.length) : ∀ m : Nat, m ≤ l.length → psum l ps m = psum l qs m → ∀ i : Nat, i < m → rd ps i = rd qs i
  | 0, _, _ => fun i x => by omega
  | m + 1, a, e => by
    obtain ⟨e1, e2⟩ := divide (psum_nonneg v h m (by omega) (by omega)) (psum_nonneg v h' m (by omega) (by omega)) (psum_lt v h w hl m (by omega)) (psum_lt v h' w' hl' m (by omega)) e
    intro i x
    by_cases y : i = m
    · rw [y]; exact e2
    · exact same_parts v h w hl h' w' hl' m (by omega) e1 i (by omega)
theorem rd_ext {ps qs : List Int} (hl : ps.length = qs.length) (h : ∀ i : Nat, i < ps.length → rd ps i = rd qs i) : ps = qs := by
  refine List.ext_getElem hl fun i a b => ?_
  have := h i a
  unfold rd at this
  rwa [Int.toNat_natCast, List.getD, List.getD, List.getElem?_eq_getElem a, List.getElem?_eq_getElem b] at this
/-- Normal parts of the same amount are the same. -/
theorem normal_inj {l : List S41} (v : Val l) {ps qs : List Int} (h : Non ps) (w : Low l ps) (hl : ps.length = l.length) (h' : Non qs) (w' : Low l qs) (hl' : qs.length = l.length) (e : psum l ps l.length = psum l qs l.length) : ps = qs :=
  rd_ext (hl.trans hl'.symm) fun i x => same_parts v h w hl h' w' hl' l.length (Nat.le_refl _) e i (by omega)

/-! ### splitting -/
theorem rd_set {ps : List Int} {i : Nat} {x : Int} (j : Nat) (h : i < ps.length) : rd (ps.set i x) j = if j = i then x else rd ps j := by
  unfold rd
  rw [Int.toNat_natCast, List.getD, List.getD, List.getElem?_set]
  by_cases e : i = j
  · subst e
    simp [h]
  · simp [e, Ne.symm e]
theorem psum_congr {l : List S41} {ps qs : List Int} : ∀ m : Nat, (∀ i : Nat, i < m → rd ps i = rd qs i) → psum l ps m = psum l qs m
  | 0, _ => rfl
  | m + 1, h => by
    show psum l ps m + rd ps m * sz l m = psum l qs m + rd qs m * sz l m
    rw [psum_congr m (fun i x => h i (by omega)), h m (by omega)]
theorem split_loop (l : List S41) (v : Val l) : ∀ (m k : Nat) (n : Int) (ps : List Int), m < k → m ≤ l.length → ps.length = l.length → 0 ≤ n → n ≤ 1099511627776 → (m < l.length → n < sz l m) →
    ∃ r, measure_system_split.l0 k l ((m : Int) - 1) n ps = some r ∧ r.length = l.length ∧ (∀ j : Nat, m ≤ j → j < l.length → rd r j = rd ps j) ∧ (∀ j : Nat, j < m → 0 ≤ rd r j) ∧ (∀ j : Nat, j < m → j + 1 < l.length → rd r j < Int.tdiv (sz l (j + 1)) (sz l j)) ∧ psum l r m = n
  | 0, k, n, ps, a, b, c, d, d', e => by
    obtain ⟨k, rfl⟩ : ∃ q, k = q + 1 := ⟨k - 1, by omega⟩
    simp only [measure_system_split.l0]
    rw [if_neg (by omega)]
    have := e (by have := v.l1; omega)
    have o := v.one
    rw [show ((0 : Nat) : Int) = 0 from rfl, o] at this
    exact ⟨ps, rfl, c, fun j _ _ => rfl, fun j x => by omega, fun j x => by omega, by show (0 : Int) = n; omega⟩
  | m + 1, k, n, ps, a, b, c, d, d', e => by
    obtain ⟨k, rfl⟩ : ∃ q, k = q + 1 := ⟨k - 1, by omega⟩
    simp only [measure_system_split.l0]
    rw [show (((m + 1 : Nat)) : Int) - 1 = (m : Int) by omega, if_pos (by omega)]
    have p := v.pos (i := m) (by omega) (by omega)
    have t := v.top (i := m) (by omega) (by omega)
    have hz : (rd_T41 l m).f1 = sz l m := rfl
    rw [hz, if_neg (by omega), if_pos (by omega), if_pos (by omega), Int.tmod_eq_emod_of_nonneg d, Int.tdiv_eq_ediv_of_nonneg d]
    have q0 : 0 ≤ n / sz l m := Int.ediv_nonneg d (by omega)
    have q1 : n / sz l m ≤ n := Int.ediv_le_self _ d
    have r0 := Int.emod_nonneg n (show sz l m ≠ 0 by omega)
    have r1 := Int.emod_lt_of_pos n (show 0 < sz l m by omega)
    have r2 : n % sz l m ≤ n := by have := Int.emod_add_mul_ediv n (sz l m); have := Int.mul_nonneg (show 0 ≤ sz l m by omega) q0; omega
    rw [wrap_id (by omega) (by omega), Int.toNat_natCast]
    obtain ⟨r, R, h1, h2, h3, h4, h5⟩ := split_loop l v m k (n % sz l m) (ps.set m (n / sz l m)) (by omega) (by omega) (by rw [List.length_set]; exact c) r0 (by omega) (fun _ => r1)
    have hm : rd r m = n / sz l m := by rw [h2 m (Nat.le_refl _) (by omega), rd_set m (by omega), if_pos rfl]
    refine ⟨r, R, h1, fun j x y => ?_, fun j x => ?_, fun j x y => ?_, ?_⟩
    · rw [h2 j (by omega) y, rd_set j (by omega), if_neg (by omega)]
    · by_cases y : j = m
      · rw [y, hm]; exact q0
      · exact h3 j (by omega)
    · by_cases z : j = m
      · subst z
        rw [hm]
        have M := v.mul (i := j) (by omega) (by omega)
        have f := e y
        rw [show (((j + 1 : Nat)) : Int) = (j : Int) + 1 by omega] at f
        rw [M.1] at f
        exact Int.ediv_lt_of_lt_mul (by omega) (by rw [Int.mul_comm]; exact f)
      · exact h4 j (by omega) y
    · show psum l r m + rd r m * sz l m = n
      rw [h5, hm]
      have := Int.emod_add_mul_ediv n (sz l m)
      rw [Int.mul_comm] at this
      exact this
/-- The normal parts of an amount. -/
def sp (l : List S41) (n : Int) : List Int := (measure_system_split.f 20 l n).getD []
theorem mono_le {α : Type} {f : Nat → Option α} (h : ∀ k, LeO (f k) (f (k + 1))) {r : α} {a : Nat} : ∀ b, a ≤ b → f a = some r → f b = some r
  | 0, x, e => by obtain rfl : a = 0 := by omega
                  exact e
  | b + 1, x, e => by
    by_cases y : a = b + 1
    · rw [← y]; exact e
    · exact h b _ (mono_le h b (by omega) e)
structure Nrm (l : List S41) (ps : List Int) : Prop where
  len : ps.length = l.length
  non : Non ps
  low : Low l ps
theorem split_at {k : Nat} (hk : 20 ≤ k) {l : List S41} (v : Val l) {n : Int} (h0 : 0 ≤ n) (h1 : n ≤ 1099511627776) : measure_system_split.f k l n = some (sp l n) ∧ Nrm l (sp l n) ∧ psum l (sp l n) l.length = n := by
  have E : ∃ r, measure_system_split.f 20 l n = some r ∧ Nrm l r ∧ psum l r l.length = n := by
    unfold measure_system_split.f
    rw [if_pos ⟨v.l1, by have := v.l8; omega⟩]
    obtain ⟨r, R, a1, a2, a3, a4, a5⟩ := split_loop l v l.length 20 n (List.replicate l.length 0) (by have := v.l8; omega) (Nat.le_refl _) (List.length_replicate ..) h0 h1 (fun x => by omega)
    exact ⟨r, R, ⟨a1, fun i x => a3 i (by omega), fun i x => a4 i (by omega) x⟩, a5⟩
  obtain ⟨r, R, N, S⟩ := E
  have : sp l n = r := by unfold sp; rw [R]; rfl
  rw [this]
  exact ⟨mono_le (fun k => measure_system_split.mono l n k) k hk R, N, S⟩
theorem refSplit_eq (l : List S41) (hl : (l.length : Int) ≤ 1000) : ∀ (k : Nat) (n i : Int) (ps : List Int), -1 ≤ i → i < (l.length : Int) → pentaglotref16_Split.l0 k l n ps i = (measure_system_split.l0 k l i n ps).map fun r => (r, 0)
  | 0, _, _, _, _, _ => rfl
  | k + 1, n, i, ps, a, b => by
    simp only [pentaglotref16_Split.l0, measure_system_split.l0]
    by_cases c : i ≥ 0
    · rw [if_pos c, if_pos c, if_pos c, if_pos b]
      by_cases d : (rd_T41 l i).f1 = 0
      · rw [if_pos d, if_pos d]; rfl
      · rw [if_neg d, if_neg d]
        by_cases e : i < (ps.length : Int)
        · rw [if_pos e, if_pos e, if_pos b, wrap_id (x := i - 1) (by omega) (by omega)]
          exact refSplit_eq l hl k _ _ _ (by omega) (by omega)
        · rw [if_neg e, if_neg e]; rfl
    · rw [if_neg c, if_neg c]; rfl
/-- What Split gives. -/
noncomputable def Sp (l : List S41) (n : Int) : List Int × Int := if vb l = true ∧ 0 ≤ n then (if n > 1099511627776 then ([], 2) else (sp l n, 0)) else ([], 1)
theorem Sp_no {l : List S41} {n : Int} (h : ¬ (vb l = true ∧ 0 ≤ n)) : Sp l n = ([], 1) := if_neg h
theorem Sp_big {l : List S41} {n : Int} (h : vb l = true) (h1 : n > 1099511627776) : Sp l n = ([], 2) := (if_pos ⟨h, by omega⟩).trans (if_pos h1)
theorem Sp_ok {l : List S41} {n : Int} (h : vb l = true) (h0 : 0 ≤ n) (h1 : ¬ n > 1099511627776) : Sp l n = (sp l n, 0) := (if_pos ⟨h, h0⟩).trans (if_neg h1)
theorem Split_at {k : Nat} (hk : 100 ≤ k) (l : List S41) (n : Int) (hn : ∀ i, 0 ≤ i → i < (l.length : Int) → (rd_T41 l i).f0.size ≤ 1000) : measure_Split.f k l n = some (Sp l n) := by
  obtain ⟨k, rfl⟩ : ∃ m, k = m + 1 := ⟨k - 1, by omega⟩
  unfold measure_Split.f
  rw [Check_at (by omega) l hn]
  simp only [Option.bind_some, measure_Split.j0]
  by_cases e : vb l = true
  · rw [if_pos e]
    by_cases d : n < 0
    · rw [Sp_no (by omega), if_pos (decide_eq_true d)]
    · rw [decide_eq_false d, if_neg (by decide)]
      by_cases c : n > 1099511627776
      · rw [if_pos c, Sp_big e c]
      · rw [if_neg c, Sp_ok e (by omega) c, (split_at (k := k) (by omega) ((vb_iff l).1 e) (by omega) (by omega)).1]
        rfl
  · rw [if_neg e, if_pos trivial, Sp_no (fun x => e x.1)]
theorem refSplit_at {k : Nat} (hk : 300 ≤ k) (l : List S41) (n : Int) : pentaglotref16_Split.f k l n = some (Sp l n) := by
  obtain ⟨k, rfl⟩ : ∃ m, k = m + 1 := ⟨k - 1, by omega⟩
  unfold pentaglotref16_Split.f
  rw [refCheck_at (by omega) l]
  simp only [Option.bind_some, pentaglotref16_Split.j0]
  by_cases e : vb l = true
  · rw [if_pos e]
    by_cases d : n < 0
    · rw [Sp_no (by omega), if_pos (decide_eq_true d)]
    · rw [decide_eq_false d, if_neg (by decide)]
      by_cases c : n > 1099511627776
      · rw [if_pos c, Sp_big e c]
      · have v := (vb_iff l).1 e
        have l1 := v.l1
        have l8 := v.l8
        rw [if_neg c, Sp_ok e (by omega) c, if_pos (by omega), if_pos (by omega), wrap_id (by omega) (by omega), refSplit_eq l (by omega) _ _ _ _ (by omega) (by omega)]
        have S := (split_at (k := k) (by omega) v (by omega) (show n ≤ 1099511627776 by omega)).1
        unfold measure_system_split.f at S
        rw [if_pos ⟨l1, by omega⟩] at S
        rw [Int.toNat_natCast, S]
        rfl
  · rw [if_neg e, if_pos trivial, Sp_no (fun x => e x.1)]
/-! ### joining -/
/-- Whether parts are numbers for the units. -/
structure Acc (l : List S41) (ps : List Int) : Prop where
  val : Val l
  len : ps.length = l.length
  non : Non ps
noncomputable def ab (l : List S41) (ps : List Int) : Bool := @decide (Acc l ps) (Classical.propDecidable _)
theorem ab_iff (l : List S41) (ps : List Int) : ab l ps = true ↔ Acc l ps := by unfold ab; exact @decide_eq_true_iff _ (Classical.propDecidable _)
theorem non_loop (ps : List Int) (hl : (ps.length : Int) ≤ 1000) : ∀ (k : Nat) (i : Int), 0 ≤ i → i ≤ (ps.length : Int) → (ps.length : Int) - i + 1 ≤ k → ∃ b, measure_system_accepts.l0 k ps (ps.length : Int) i = some b ∧ (b = true ↔ ∀ j, i ≤ j → j < (ps.length : Int) → 0 ≤ rd ps j)
  | 0, i, a, b, c => by omega
  | k + 1, i, a, b, c => by
    simp only [measure_system_accepts.l0]
    by_cases e : i < (ps.length : Int)
    · rw [if_pos e, if_pos a, if_pos e]
      by_cases d : rd ps i < 0
      · rw [if_pos d]
        exact ⟨_, rfl, fun x => (by cases x), fun H => by have := H i (Int.le_refl _) e; omega⟩
      · rw [if_neg d, wrap_id (by omega) (by omega)]
        obtain ⟨r, R, I⟩ := non_loop ps hl k (i + 1) (by omega) (by omega) (by omega)
        refine ⟨r, R, I.trans ?_⟩
        rw [from_step (p := fun j => 0 ≤ rd ps j) e]
        exact ⟨fun H => ⟨by omega, H⟩, fun H => H.2⟩
    · rw [if_neg e]
      exact ⟨_, rfl, fun _ j x y => by omega, fun _ => rfl⟩
theorem refnon_eq (ps : List Int) : ∀ (k : Nat) (n i : Int), pentaglotref16_valid.l0 k ps n i = measure_system_accepts.l0 k ps n i
  | 0, _, _ => rfl
  | k + 1, n, i => by
    simp only [pentaglotref16_valid.l0, measure_system_accepts.l0, refnon_eq ps k]
theorem acc_end (l : List S41) (ps : List Int) {k : Nat} (hk : 100 ≤ k) : (measure_system_accepts.j0 (k + 1) ps (if vb l = true then ((ps.length : Int) != (l.length : Int)) else true)) = some (ab l ps) := by
  have fin : ∀ {b : Bool} {o : Option Bool}, o = some b → (b = true ↔ Acc l ps) → o = some (ab l ps) := fun h i => by
    rw [h]; congr 1; rw [Bool.eq_iff_iff, i, ab_iff]
  simp only [measure_system_accepts.j0]
  by_cases e : vb l = true
  · rw [if_pos e]
    have v := (vb_iff l).1 e
    by_cases d : (ps.length : Int) = (l.length : Int)
    · rw [if_neg (by rw [d]; simp)]
      have := v.l8
      obtain ⟨b, R, I⟩ := non_loop ps (by omega) k 0 (by omega) (by omega) (by omega)
      exact fin R (I.trans ⟨fun H => ⟨v, by omega, fun i x => H i (by omega) (by omega)⟩, fun A j x y => by
        have := A.non j.toNat (by omega)
        rwa [Int.toNat_of_nonneg x] at this⟩)
    · rw [if_pos (bne_iff_ne.mpr d)]
      exact fin rfl ⟨fun x => (by cases x), fun A => absurd A.len (by omega)⟩
  · rw [if_neg e, if_pos rfl]
    exact fin rfl ⟨fun x => (by cases x), fun A => absurd ((vb_iff l).2 A.val) e⟩
theorem accepts_at {k : Nat} (hk : 110 ≤ k) (l : List S41) (ps : List Int) (hn : ∀ i, 0 ≤ i → i < (l.length : Int) → (rd_T41 l i).f0.size ≤ 1000) : measure_system_accepts.f k l ps = some (ab l ps) := by
  obtain ⟨k, rfl⟩ : ∃ m, k = m + 1 := ⟨k - 1, by omega⟩
  have E := acc_end l ps (k := k) (by omega)
  unfold measure_system_accepts.f
  rw [valid_at (by omega) l hn]
  simp only [Option.bind_some]
  by_cases e : vb l = true
  · rw [if_pos e] at E ⊢; exact E
  · rw [if_neg e] at E ⊢; exact E
theorem refvalid_at {k : Nat} (hk : 300 ≤ k) (l : List S41) (ps : List Int) : pentaglotref16_valid.f k l ps = some (ab l ps) := by
  obtain ⟨k, rfl⟩ : ∃ m, k = m + 1 := ⟨k - 1, by omega⟩
  have E := acc_end l ps (k := k) (by omega)
  unfold pentaglotref16_valid.f
  rw [refCheck_at (by omega) l]
  have j : ∀ b, pentaglotref16_valid.j0 (k + 1) ps b = measure_system_accepts.j0 (k + 1) ps b := fun b => by simp only [pentaglotref16_valid.j0, measure_system_accepts.j0, refnon_eq]
  simp only [Option.bind_some, j]
  by_cases e : vb l = true
  · rw [if_pos e] at E ⊢; exact E
  · rw [if_neg e] at E ⊢; exact E
theorem mul_small {p s : Int} (hp : 0 ≤ p) (hp' : p ≤ 1099511627776) (hs : 0 ≤ s) (hs' : s ≤ 1000000) : 0 ≤ p * s ∧ p * s ≤ 1099511627776000000 := by
  refine ⟨Int.mul_nonneg hp hs, ?_⟩
  have h1 := Int.mul_le_mul_of_nonneg_right hp' hs
  have h2 := Int.mul_le_mul_of_nonneg_left hs' (show (0 : Int) ≤ 1099511627776 by omega)
  omega
theorem amount_loop (l : List S41) (ps : List Int) (A : Acc l ps) : ∀ (m k : Nat) (acc : Int) (ok : Bool), m < k → m ≤ l.length → (ok = true → 0 ≤ acc ∧ acc ≤ 1099511627776) →
    ∃ r b, measure_system_amount.l0 k l ps ((m : Int) - 1) acc ok = some (r, b) ∧ (b = true ↔ (ok = true ∧ acc + psum l ps m ≤ 1099511627776)) ∧ (b = true → r = acc + psum l ps m)
  | 0, k, acc, ok, a, b, c => by
    obtain ⟨k, rfl⟩ : ∃ q, k = q + 1 := ⟨k - 1, by omega⟩
    simp only [measure_system_amount.l0]
    rw [if_neg (by omega)]
    refine ⟨_, _, rfl, ⟨fun h => ⟨h, by have := c h; show acc + 0 ≤ _; omega⟩, fun h => h.1⟩, fun _ => by show acc = acc + 0; omega⟩
  | m + 1, k, acc, ok, a, b, c => by
    obtain ⟨k, rfl⟩ : ∃ q, k = q + 1 := ⟨k - 1, by omega⟩
    have hl := A.len
    have p := A.val.pos (i := m) (by omega) (by omega)
    have t := A.val.top (i := m) (by omega) (by omega)
    have n := A.non m (by omega)
    have M := psum_nonneg A.val A.non m (by omega) (by omega)
    have hz : (rd_T41 l m).f1 = sz l m := rfl
    have le := part_le n p
    simp only [measure_system_amount.l0]
    rw [show (((m + 1 : Nat)) : Int) - 1 = (m : Int) by omega, if_pos (by omega), if_pos (by omega), if_pos (by omega), hz]
    have hs : psum l ps (m + 1) = psum l ps m + rd ps m * sz l m := rfl
    by_cases e : rd ps m > 1099511627776
    · have E : amt (rd ps m) (sz l m) acc ok = (acc, false) := by unfold amt; rw [if_pos e]
      rw [E]
      obtain ⟨r, b', R, I, J⟩ := amount_loop l ps A m k acc false (by omega) (by omega) (fun x => by cases x)
      refine ⟨r, b', R, I.trans ⟨fun x => (by cases x.1), fun x => ?_⟩, fun x => by cases (I.1 x).1⟩
      have := c x.1
      have := x.2
      omega
    · cases ok with
      | false =>
        have E : amt (rd ps m) (sz l m) acc false = (acc, false) := by unfold amt; rw [if_neg e, if_pos rfl]
        rw [E]
        obtain ⟨r, b', R, I, J⟩ := amount_loop l ps A m k acc false (by omega) (by omega) (fun x => by cases x)
        exact ⟨r, b', R, I.trans ⟨fun x => (by cases x.1), fun x => (by cases x.1)⟩, fun x => by cases (I.1 x).1⟩
      | true =>
        have Q := mul_small n (by omega) (show 0 ≤ sz l m by omega) t
        have C := c rfl
        have w1 : wrap64 (rd ps m * sz l m) = rd ps m * sz l m := wrap_id (by omega) (by omega)
        have w2 : wrap64 (acc + rd ps m * sz l m) = acc + rd ps m * sz l m := wrap_id (by omega) (by omega)
        have E : amt (rd ps m) (sz l m) acc true = (acc + rd ps m * sz l m, decide (acc + rd ps m * sz l m ≤ 1099511627776)) := by
          unfold amt
          rw [if_neg e, if_neg (by decide), w1, w2]
        rw [E]
        by_cases f : acc + rd ps m * sz l m ≤ 1099511627776
        · rw [decide_eq_true f]
          obtain ⟨r, b', R, I, J⟩ := amount_loop l ps A m k (acc + rd ps m * sz l m) true (by omega) (by omega) (fun _ => by omega)
          exact ⟨r, b', R, I.trans ⟨fun x => ⟨rfl, by have := x.2; omega⟩, fun x => ⟨rfl, by have := x.2; omega⟩⟩, fun x => by have := J x; omega⟩
        · rw [decide_eq_false f]
          obtain ⟨r, b', R, I, J⟩ := amount_loop l ps A m k (acc + rd ps m * sz l m) false (by omega) (by omega) (fun x => by cases x)
          exact ⟨r, b', R, I.trans ⟨fun x => (by cases x.1), fun x => by have := x.2; omega⟩, fun x => by cases (I.1 x).1⟩
/-- What Join gives. -/
noncomputable def Jn (l : List S41) (ps : List Int) : Int × Int := if ab l ps = true then (if psum l ps l.length ≤ 1099511627776 then (psum l ps l.length, 0) else (0, 2)) else (0, 1)
theorem Jn_no {l : List S41} {ps : List Int} (h : ¬ ab l ps = true) : Jn l ps = (0, 1) := if_neg h
theorem Jn_big {l : List S41} {ps : List Int} (h : ab l ps = true) (h1 : ¬ psum l ps l.length ≤ 1099511627776) : Jn l ps = (0, 2) := (if_pos h).trans (if_neg h1)
theorem Jn_ok {l : List S41} {ps : List Int} (h : ab l ps = true) (h1 : psum l ps l.length ≤ 1099511627776) : Jn l ps = (psum l ps l.length, 0) := (if_pos h).trans (if_pos h1)
theorem Join_at {k : Nat} (hk : 120 ≤ k) (l : List S41) (ps : List Int) (hn : ∀ i, 0 ≤ i → i < (l.length : Int) → (rd_T41 l i).f0.size ≤ 1000) : measure_Join.f k l ps = some (Jn l ps) := by
  unfold measure_Join.f
  rw [accepts_at (by omega) l ps hn]
  simp only [Option.bind_some]
  by_cases e : ab l ps = true
  · have A := (ab_iff l ps).1 e
    have h8 := A.val.l8
    rw [if_pos e]
    unfold measure_system_amount.f
    rw [if_pos (by omega)]
    obtain ⟨r, b, R, I, J⟩ := amount_loop l ps A l.length k 0 true (by omega) (by omega) (fun _ => by omega)
    rw [R]
    simp only [Option.bind_some]
    rw [Int.zero_add] at I J
    by_cases f : psum l ps l.length ≤ 1099511627776
    · have g := I.2 ⟨rfl, f⟩
      rw [if_pos g, J g, Jn_ok e f]
    · rw [if_neg (fun x => f (I.1 x).2), Jn_big e f]
  · rw [if_neg e, Jn_no e]
theorem refJoin_loop (l : List S41) (ps : List Int) (A : Acc l ps) (h8 : (l.length : Int) ≤ 8) : ∀ (k m : Nat), m ≤ l.length → l.length - m < k → psum l ps m ≤ 1099511627776 →
    pentaglotref16_Join.l0 k l (psum l ps m) ps (ps.length : Int) (m : Int) = some (if psum l ps l.length ≤ 1099511627776 then (psum l ps l.length, 0) else (0, 2))
  | 0, m, a, b, c => by omega
  | k + 1, m, a, b, c => by
    have hl := A.len
    simp only [pentaglotref16_Join.l0]
    by_cases e : (m : Int) < (ps.length : Int)
    · have p := A.val.pos (i := m) (by omega) (by omega)
      have t := A.val.top (i := m) (by omega) (by omega)
      have n := A.non m (by omega)
      have le := part_le n p
      have M := psum_nonneg A.val A.non m (by omega) (by omega)
      have hs : psum l ps (m + 1) = psum l ps m + rd ps m * sz l m := rfl
      have mono := psum_mono A.val A.non (m := m + 1) l.length (by omega) (by omega) (by omega)
      have hz : (rd_T41 l m).f1 = sz l m := rfl
      rw [if_pos e, if_pos (by omega), if_pos e, hz]
      by_cases f : rd ps m > 1099511627776
      · rw [if_pos f, if_neg (by omega)]
      · rw [if_neg f, if_pos (by omega)]
        have Q := mul_small n (by omega) (show 0 ≤ sz l m by omega) t
        rw [wrap_id (x := rd ps m * sz l m) (by omega) (by omega), wrap_id (x := psum l ps m + rd ps m * sz l m) (by omega) (by omega), wrap_id (x := (m : Int) + 1) (by omega) (by omega)]
        by_cases g : psum l ps m + rd ps m * sz l m > 1099511627776
        · rw [if_pos g, if_neg (by omega)]
        · rw [if_neg g]
          have R := refJoin_loop l ps A h8 k (m + 1) (by omega) (by omega) (by omega)
          rw [hs, show (((m + 1 : Nat)) : Int) = (m : Int) + 1 by omega] at R
          exact R
    · obtain rfl : m = l.length := by omega
      rw [if_neg e, if_pos c]
theorem refJoin_at {k : Nat} (hk : 310 ≤ k) (l : List S41) (ps : List Int) : pentaglotref16_Join.f k l ps = some (Jn l ps) := by
  unfold pentaglotref16_Join.f
  rw [refvalid_at (by omega) l ps]
  simp only [Option.bind_some]
  by_cases e : ab l ps = true
  · have A := (ab_iff l ps).1 e
    have h8 := A.val.l8
    rw [if_pos e]
    have R := refJoin_loop l ps A h8 k 0 (by omega) (by omega) (show (0 : Int) ≤ _ by omega)
    rw [show psum l ps 0 = 0 from rfl, show (((0 : Nat)) : Int) = 0 from rfl] at R
    rw [R]
    unfold Jn
    rw [if_pos e]
  · rw [if_neg e, Jn_no e]

/-! ### normal parts -/
/-- Whether parts are those that Split returns. -/
structure Nor (l : List S41) (ps : List Int) : Prop where
  acc : Acc l ps
  sum : psum l ps l.length ≤ 1099511627776
  low : Low l ps
noncomputable def nb (l : List S41) (ps : List Int) : Bool := @decide (Nor l ps) (Classical.propDecidable _)
theorem nb_iff (l : List S41) (ps : List Int) : nb l ps = true ↔ Nor l ps := by unfold nb; exact @decide_eq_true_iff _ (Classical.propDecidable _)
theorem some_nb {l : List S41} {ps : List Int} {b : Bool} {o : Option Bool} (h : o = some b) (i : b = true ↔ Nor l ps) : o = some (nb l ps) := by
  rw [h]; congr 1; rw [Bool.eq_iff_iff, i, nb_iff]
theorem low_loop (l : List S41) (ps : List Int) (A : Acc l ps) (h8 : (l.length : Int) ≤ 8) : ∀ (k : Nat) (i : Int), 0 ≤ i → i < (l.length : Int) → (l.length : Int) - i ≤ k →
    ∃ b, measure_Normal.l0 k l ps i = some b ∧ (b = true ↔ ∀ j, i ≤ j → j < (l.length : Int) - 1 → rd ps j < Int.tdiv (sz l (j + 1)) (sz l j))
  | 0, i, a, b, c => by omega
  | k + 1, i, a, b, c => by
    have hl := A.len
    simp only [measure_Normal.l0]
    rw [wrap_id (x := i + 1) (by omega) (by omega)]
    by_cases e : i + 1 < (ps.length : Int)
    · have p := A.val.pos (i := i) (by omega) (by omega)
      have M := A.val.mul (i := i) (by omega) (by omega)
      have hz : (rd_T41 l i).f1 = sz l i := rfl
      have hz' : (rd_T41 l (i + 1)).f1 = sz l (i + 1) := rfl
      rw [if_pos e, if_pos a, if_pos (by omega), if_pos (by omega), if_pos (by omega), if_pos (by omega), hz, hz', if_neg (by omega), wrap_id (by omega) (by omega)]
      by_cases d : rd ps i ≥ Int.tdiv (sz l (i + 1)) (sz l i)
      · rw [if_pos d]
        exact ⟨_, rfl, fun x => (by cases x), fun H => by have := H i (Int.le_refl _) (by omega); omega⟩
      · rw [if_neg d]
        obtain ⟨r, R, I⟩ := low_loop l ps A h8 k (i + 1) (by omega) (by omega) (by omega)
        refine ⟨r, R, I.trans ?_⟩
        rw [from_step (p := fun j => rd ps j < Int.tdiv (sz l (j + 1)) (sz l j)) (show i < (l.length : Int) - 1 by omega)]
        exact ⟨fun H => ⟨by omega, H⟩, fun H => H.2⟩
    · rw [if_neg e]
      exact ⟨_, rfl, fun _ j x y => by omega, fun _ => rfl⟩
theorem Normal_at {k : Nat} (hk : 130 ≤ k) (l : List S41) (ps : List Int) (hn : ∀ i, 0 ≤ i → i < (l.length : Int) → (rd_T41 l i).f0.size ≤ 1000) : measure_Normal.f k l ps = some (nb l ps) := by
  unfold measure_Normal.f
  rw [Join_at (by omega) l ps hn]
  simp only [Option.bind_some]
  by_cases e : ab l ps = true
  · have A := (ab_iff l ps).1 e
    by_cases f : psum l ps l.length ≤ 1099511627776
    · rw [Jn_ok e f, if_pos rfl]
      have l1 := A.val.l1
      obtain ⟨b, R, I⟩ := low_loop l ps A A.val.l8 k 0 (by omega) (by omega) (by have := A.val.l8; omega)
      exact some_nb R (I.trans ⟨fun H => ⟨A, f, fun i x => H i (by omega) (by omega)⟩, fun N j x y => by
        have := N.low j.toNat (by omega)
        rwa [Int.toNat_of_nonneg x] at this⟩)
    · rw [Jn_big e f, if_neg (by decide)]
      exact some_nb rfl ⟨fun x => (by cases x), fun N => absurd N.sum f⟩
  · rw [Jn_no e, if_neg (by decide)]
    exact some_nb rfl ⟨fun x => (by cases x), fun N => absurd ((ab_iff l ps).2 N.acc) e⟩
theorem sp_acc {l : List S41} (v : Val l) {n : Int} (h0 : 0 ≤ n) (h1 : n ≤ 1099511627776) : Nor l (sp l n) ∧ psum l (sp l n) l.length = n := by
  obtain ⟨-, N, S⟩ := split_at (k := 20) (Nat.le_refl _) v h0 h1
  exact ⟨⟨⟨v, N.len, N.non⟩, by omega, N.low⟩, S⟩
/-- Parts are normal where they are those that Split returns. -/
theorem nor_iff {l : List S41} {ps : List Int} (A : Acc l ps) (h : psum l ps l.length ≤ 1099511627776) : Nor l ps ↔ sp l (psum l ps l.length) = ps := by
  have P := psum_nonneg A.val A.non l.length (Nat.le_refl _) (by rw [A.len]; exact Nat.le_refl _)
  obtain ⟨N, S⟩ := sp_acc A.val P h
  constructor
  · intro M
    exact normal_inj A.val N.acc.non N.low N.acc.len M.acc.non M.low M.acc.len S
  · intro e
    rw [e] at N
    exact N
end Go.Proofs.Ytpfmcifiocpfbaa.Pure
