/- What the clock's functions compute, in plain numbers: the time of day of a minute, the minute of a time of day, and that the laws' functions answer true. No program and no memory stands here. -/
import Derived.Test.YtknbgpgoljfkjaaDoorCx2

namespace Go.Proofs.YtknbgpgoljfkjaaDoor.Pure
open Go.RowKit Go.Proofs.YtknbgpgoljfkjaaDoor.C

/-- The time of day of a minute: period, hour, minute. -/
def P (c m : Int) : Int := if c = 2 then m / 60 / 12 else if c = 3 then m / 60 / 4 else 0
def Hr (c m : Int) : Int := if c = 2 then (if m / 60 % 12 = 0 then 12 else m / 60 % 12) else if c = 3 then m / 60 % 4 else m / 60
def Mi (m : Int) : Int := m % 60
def Known (c : Int) : Prop := c = 1 ∨ c = 2 ∨ c = 3
instance (c : Int) : Decidable (Known c) := by unfold Known; infer_instance

theorem known_yes {c : Int} (h : Known c) : clock_known.f c = some true := by
  unfold clock_known.f
  rcases h with rfl | rfl | rfl <;> rfl
theorem known_no {c : Int} (h : ¬ Known c) : clock_known.f c = some false := by
  unfold clock_known.f
  unfold Known at h
  rw [if_neg (by omega), if_neg (by omega), if_neg (by omega)]
theorem ref_known_yes {c : Int} (h : Known c) : pentaglotref19_Known.f c = some true := by
  unfold pentaglotref19_Known.f
  rcases h with rfl | rfl | rfl <;> rfl
theorem ref_known_no {c : Int} (h : ¬ Known c) : pentaglotref19_Known.f c = some false := by
  unfold pentaglotref19_Known.f
  unfold Known at h
  rw [if_neg (by omega), if_neg (by omega)]
  simp; omega

theorem wrap_id {x : Int} (h0 : -9223372036854775808 ≤ x) (h1 : x ≤ 9223372036854775807) : wrap64 x = x := by unfold wrap64; omega
theorem div60 {m : Int} (h0 : 0 ≤ m) (h1 : m < 1440) : wrap64 (Int.tdiv m 60) = m / 60 := by
  rw [Int.tdiv_eq_ediv_of_nonneg h0]; exact wrap_id (by omega) (by omega)
theorem tdiv_small {m d : Int} (h0 : 0 ≤ m) (h1 : m < 1440) (hd : 0 < d) : wrap64 (Int.tdiv m d) = m / d := by
  rw [Int.tdiv_eq_ediv_of_nonneg h0]
  have a : 0 ≤ m / d := Int.ediv_nonneg h0 (by omega)
  have b : m / d ≤ m := Int.ediv_le_self d h0
  exact wrap_id (by omega) (by omega)
theorem tmod_small {m d : Int} (h0 : 0 ≤ m) : Int.tmod m d = m % d := Int.tmod_eq_emod_of_nonneg h0

theorem Time_yes {k : Nat} (hk : 4 ≤ k) {c m : Int} (hc : Known c) (h0 : 0 ≤ m) (h1 : m < 1440) : clock_Time.f k c m = some (c, P c m, Hr c m, Mi m, 0) := by
  obtain ⟨k, rfl⟩ : ∃ n, k = n + 4 := ⟨k - 4, by omega⟩
  unfold clock_Time.f
  rw [known_yes hc]
  simp only [Option.bind_some, if_true]
  rw [if_neg (by omega), decide_eq_false (by omega)]
  simp only [clock_Time.j0]
  rw [if_neg (by decide), div60 h0 h1, tdiv_small (d := 12) (by omega) (by omega) (by omega), tdiv_small (d := 4) (by omega) (by omega) (by omega),
    tmod_small (d := 12) (by omega), tmod_small (d := 4) (by omega), tmod_small (d := 60) h0]
  unfold P Hr Mi
  rcases hc with rfl | rfl | rfl
  · simp
  · simp only [if_true]
    split <;> simp
  · simp
theorem Time_no {k : Nat} (hk : 4 ≤ k) {c m : Int} (h : ¬ (Known c ∧ 0 ≤ m ∧ m < 1440)) : clock_Time.f k c m = some (0, 0, 0, 0, 1) := by
  obtain ⟨k, rfl⟩ : ∃ n, k = n + 4 := ⟨k - 4, by omega⟩
  unfold clock_Time.f
  by_cases hc : Known c
  · have h' : ¬ (0 ≤ m ∧ m < 1440) := fun x => h ⟨hc, x⟩
    rw [known_yes hc]
    simp only [Option.bind_some, if_true]
    by_cases h0 : m < 0
    · rw [if_pos h0]; simp [clock_Time.j0]
    · rw [if_neg h0, decide_eq_true (by omega)]; simp [clock_Time.j0]
  · rw [known_no hc]
    simp [clock_Time.j0]

/-- 'p, h, i' is the time of day of the minute m on the clock c. -/
def V (c p h i m : Int) : Prop := Known c ∧ 0 ≤ m ∧ m < 1440 ∧ p = P c m ∧ h = Hr c m ∧ i = Mi m
/-- The minute that the code tries. -/
def guess (c p h i : Int) : Int := wrap64 (wrap64 (60 * (if c = 2 then wrap64 (wrap64 (p * 12) + Int.tmod h 12) else if c = 3 then wrap64 (wrap64 (p * 4) + h) else h)) + i)
theorem guess_V {c p h i m : Int} (v : V c p h i m) : guess c p h i = m := by
  obtain ⟨hc, h0, h1, rfl, rfl, rfl⟩ := v
  unfold guess P Hr Mi
  rcases hc with rfl | rfl | rfl
  · simp only [if_neg (show ¬ (1 : Int) = 2 by decide), if_neg (show ¬ (1 : Int) = 3 by decide)]
    unfold wrap64; omega
  · simp only [if_true]
    by_cases hz : m / 60 % 12 = 0
    · rw [if_pos hz]
      have : Int.tmod 12 12 = 0 := by decide
      rw [this]
      unfold wrap64; omega
    · rw [if_neg hz, tmod_small (by omega)]
      have a1 : m / 60 % 12 % 12 = m / 60 % 12 := by omega
      rw [a1, wrap_id (x := m / 60 / 12 * 12) (by omega) (by omega), wrap_id (x := m / 60 / 12 * 12 + m / 60 % 12) (by omega) (by omega)]
      have a2 : m / 60 / 12 * 12 + m / 60 % 12 = m / 60 := by omega
      rw [a2, wrap_id (x := 60 * (m / 60)) (by omega) (by omega), wrap_id (by omega) (by omega)]
      omega
  · simp only [if_neg (show ¬ (3 : Int) = 2 by decide), if_true]
    unfold wrap64; omega
theorem V_unique {c p h i m n : Int} (v : V c p h i m) (u : V c p h i n) : m = n := (guess_V v).symm.trans (guess_V u)

theorem Minute_form (k : Nat) (c p h i : Int) : clock_Minute.f k c p h i = (clock_Time.f k c (guess c p h i)).bind fun b =>
    if b.2.2.2.2 = 0 then (if (!(b.1 == c) || (!(b.2.1 == p) || (!(b.2.2.1 == h) || (!(b.2.2.2.1 == i))))) = true then some (0, 1) else some (guess c p h i, 0)) else some (0, 1) := by
  unfold clock_Minute.f guess
  by_cases h2 : c = 2
  · simp only [if_pos h2]
  · simp only [if_neg h2]
    by_cases h3 : c = 3
    · simp only [if_pos h3]
    · simp only [if_neg h3]
theorem Minute_yes {k : Nat} (hk : 4 ≤ k) {c p h i m : Int} (v : V c p h i m) : clock_Minute.f k c p h i = some (m, 0) := by
  rw [Minute_form, guess_V v]
  obtain ⟨hc, h0, h1, rfl, rfl, rfl⟩ := v
  rw [Time_yes (by omega) hc h0 h1]
  simp
theorem Minute_no {k : Nat} (hk : 4 ≤ k) {c p h i : Int} (v : ∀ m, ¬ V c p h i m) : clock_Minute.f k c p h i = some (0, 1) := by
  rw [Minute_form]
  by_cases hg : Known c ∧ 0 ≤ guess c p h i ∧ guess c p h i < 1440
  · rw [Time_yes (by omega) hg.1 hg.2.1 hg.2.2]
    simp only [Option.bind_some, if_true]
    rw [if_pos]
    have := v (guess c p h i)
    simp only [Bool.or_eq_true, Bool.not_eq_true', beq_eq_false_iff_ne, ne_eq]
    refine Classical.byContradiction fun hn => this ⟨hg.1, hg.2.1, hg.2.2, ?_⟩
    simp only [not_or, Classical.not_not] at hn
    exact ⟨hn.2.1.symm, hn.2.2.1.symm, hn.2.2.2.symm⟩
  · rw [Time_no (by omega) hg]
    simp

theorem Valid_yes {k : Nat} (hk : 4 ≤ k) {c p h i m : Int} (v : V c p h i m) : clock_Valid.f k c p h i = some true := by
  unfold clock_Valid.f; rw [Minute_yes (by omega) v]; rfl
theorem Valid_no {k : Nat} (hk : 4 ≤ k) {c p h i : Int} (v : ∀ m, ¬ V c p h i m) : clock_Valid.f k c p h i = some false := by
  unfold clock_Valid.f; rw [Minute_no (by omega) v]; rfl
theorem V_or (c p h i : Int) : (∃ m, V c p h i m) ∨ ∀ m, ¬ V c p h i m := by
  by_cases e : ∃ m, V c p h i m
  · exact .inl e
  · exact .inr fun m v => e ⟨m, v⟩
theorem V_of (c m : Int) (hc : Known c) (h0 : 0 ≤ m) (h1 : m < 1440) : V c (P c m) (Hr c m) (Mi m) m := ⟨hc, h0, h1, rfl, rfl, rfl⟩

/-! ### The reference -/
theorem next_at {c m : Int} (hc : Known c) (h0 : 0 ≤ m) (h1 : m < 1440) : pentaglotref19_next.f c (P c m) (Hr c m) (Mi m) = some (c, P c (m + 1), Hr c (m + 1), Mi (m + 1)) := by
  have hm : wrap64 (Mi m + 1) = Mi m + 1 := by unfold Mi; exact wrap_id (by omega) (by omega)
  unfold pentaglotref19_next.f
  rw [hm]
  by_cases hl : m % 60 = 59
  · have e1 : ¬ Mi m + 1 < 60 := by unfold Mi; omega
    have e2 : Mi (m + 1) = 0 := by unfold Mi; omega
    have e3 : (m + 1) / 60 = m / 60 + 1 := by omega
    rw [if_neg e1, e2]
    rcases hc with rfl | rfl | rfl
    · rw [if_pos rfl]
      have : wrap64 (Hr 1 m + 1) = Hr 1 (m + 1) := by
        unfold Hr; simp only [if_neg (show ¬ (1 : Int) = 2 by decide), if_neg (show ¬ (1 : Int) = 3 by decide)]; rw [wrap_id (by omega) (by omega)]; omega
      rw [this]; rfl
    · rw [if_neg (by decide), if_pos rfl]
      have p1 : P 2 (m + 1) = (m / 60 + 1) / 12 := by unfold P; rw [if_pos rfl, e3]
      have p0 : P 2 m = m / 60 / 12 := by unfold P; rw [if_pos rfl]
      have r1 : Hr 2 (m + 1) = if (m / 60 + 1) % 12 = 0 then 12 else (m / 60 + 1) % 12 := by unfold Hr; rw [if_pos rfl, e3]
      have r0 : Hr 2 m = if m / 60 % 12 = 0 then 12 else m / 60 % 12 := by unfold Hr; rw [if_pos rfl]
      rw [p0, p1, r0, r1]
      by_cases hz : m / 60 % 12 = 0
      · rw [if_pos hz, if_neg (by decide), if_neg (by omega)]
        have a : m / 60 / 12 = (m / 60 + 1) / 12 := by omega
        have b : wrap64 (Int.tmod 12 12 + 1) = (m / 60 + 1) % 12 := by
          have : wrap64 (Int.tmod 12 12 + 1) = 1 := by
            rw [show Int.tmod 12 12 = 0 by decide]
            exact wrap_id (by omega) (by omega)
          omega
        rw [b, ← a]
      · rw [if_neg hz]
        have t : Int.tmod (m / 60 % 12) 12 = m / 60 % 12 := by rw [tmod_small (by omega)]; omega
        rw [t, wrap_id (x := m / 60 % 12 + 1) (by omega) (by omega), wrap_id (x := m / 60 / 12 + 1) (by omega) (by omega)]
        by_cases h11 : m / 60 % 12 = 11
        · rw [if_pos h11, if_pos (by omega), h11]
          have a : m / 60 / 12 + 1 = (m / 60 + 1) / 12 := by omega
          rw [a]; rfl
        · rw [if_neg h11, if_neg (by omega)]
          have a : m / 60 / 12 = (m / 60 + 1) / 12 := by omega
          have b : m / 60 % 12 + 1 = (m / 60 + 1) % 12 := by omega
          rw [b, ← a]
    · rw [if_neg (by decide), if_neg (by decide), if_pos rfl]
      have p1 : P 3 (m + 1) = (m / 60 + 1) / 4 := by unfold P; rw [if_neg (by decide), if_pos rfl, e3]
      have p0 : P 3 m = m / 60 / 4 := by unfold P; rw [if_neg (by decide), if_pos rfl]
      have r1 : Hr 3 (m + 1) = (m / 60 + 1) % 4 := by unfold Hr; rw [if_neg (by decide), if_pos rfl, e3]
      have r0 : Hr 3 m = m / 60 % 4 := by unfold Hr; rw [if_neg (by decide), if_pos rfl]
      rw [p0, p1, r0, r1, wrap_id (x := m / 60 % 4 + 1) (by omega) (by omega), wrap_id (x := m / 60 / 4 + 1) (by omega) (by omega)]
      by_cases h3 : m / 60 % 4 + 1 = 4
      · rw [if_pos h3]
        have a : m / 60 / 4 + 1 = (m / 60 + 1) / 4 := by omega
        have b : (m / 60 + 1) % 4 = 0 := by omega
        rw [a, b]
      · rw [if_neg h3]
        have a : m / 60 / 4 = (m / 60 + 1) / 4 := by omega
        have b : m / 60 % 4 + 1 = (m / 60 + 1) % 4 := by omega
        rw [b, ← a]
  · have e1 : Mi m + 1 < 60 := by unfold Mi; omega
    have e3 : (m + 1) / 60 = m / 60 := by omega
    have e2 : Mi m + 1 = Mi (m + 1) := by unfold Mi; omega
    rw [if_pos e1, e2]
    unfold P Hr
    rw [e3]

theorem ref_Time_loop (d : Nat) : ∀ (k : Nat) (c i m : Int), Known c → 0 ≤ i → m ≤ 1440 → m - i = d → d + 8 < k →
    pentaglotref19_Time.l0 k m i c (P c i) (Hr c i) (Mi i) = some (c, P c m, Hr c m, Mi m) := by
  induction d with
  | zero =>
    intro k c i m hc h0 h1 hd hk
    obtain ⟨k, rfl⟩ : ∃ n, k = n + 1 := ⟨k - 1, by omega⟩
    obtain rfl : m = i := by omega
    simp only [pentaglotref19_Time.l0]
    rw [if_neg (by omega)]
  | succ d ih =>
    intro k c i m hc h0 h1 hd hk
    obtain ⟨k, rfl⟩ : ∃ n, k = n + 1 := ⟨k - 1, by omega⟩
    simp only [pentaglotref19_Time.l0]
    rw [if_pos (by omega), next_at hc h0 (by omega)]
    simp only [Option.bind_some]
    rw [wrap_id (by omega) (by omega)]
    exact ih k c (i + 1) m hc (by omega) h1 (by omega) (by omega)
theorem start_at {c : Int} : (P c 0 = 0 ∧ Mi 0 = 0) ∧ (c = 2 → Hr c 0 = 12) ∧ (¬ c = 2 → Hr c 0 = 0) := by
  refine ⟨⟨?_, rfl⟩, fun h => ?_, fun h => ?_⟩
  · unfold P; split
    · rfl
    · split <;> rfl
  · unfold Hr; rw [if_pos h]; rfl
  · unfold Hr; rw [if_neg h]; split <;> rfl
theorem ref_Time {k : Nat} (hk : 1450 ≤ k) {c m : Int} (hc : Known c) (h0 : 0 ≤ m) (h1 : m < 1440) : pentaglotref19_Time.f k c m = some (c, P c m, Hr c m, Mi m) := by
  obtain ⟨k, rfl⟩ : ∃ n, k = n + 1 := ⟨k - 1, by omega⟩
  have L := ref_Time_loop m.toNat k c 0 m hc (by omega) (by omega) (by omega) (by omega)
  obtain ⟨⟨e1, e2⟩, e3, e4⟩ := start_at (c := c)
  unfold pentaglotref19_Time.f
  by_cases h2 : c = 2
  · rw [if_pos h2]
    simp only [pentaglotref19_Time.j0]
    rw [e1, e2, e3 h2] at L; exact L
  · rw [if_neg h2]
    simp only [pentaglotref19_Time.j0]
    rw [e1, e2, e4 h2] at L; exact L

/-- The reference's search: from minute i on. -/
theorem ref_Minute_loop (d : Nat) : ∀ (k : Nat) (c i p h n : Int), Known c → 0 ≤ i → i ≤ 1440 → 1440 - i = d → d + 8 < k →
    (∃ m, i ≤ m ∧ V c p h n m ∧ pentaglotref19_Minute.l0 k i c p h n c (P c i) (Hr c i) (Mi i) = some m) ∨
    ((∀ m, i ≤ m → ¬ V c p h n m) ∧ pentaglotref19_Minute.l0 k i c p h n c (P c i) (Hr c i) (Mi i) = some (-1)) := by
  induction d with
  | zero =>
    intro k c i p h n hc h0 h1 hd hk
    obtain ⟨k, rfl⟩ : ∃ n, k = n + 1 := ⟨k - 1, by omega⟩
    refine .inr ⟨fun m hm v => ?_, ?_⟩
    · have := v.2.2.1; omega
    · simp only [pentaglotref19_Minute.l0]
      rw [if_neg (by omega)]
  | succ d ih =>
    intro k c i p h n hc h0 h1 hd hk
    obtain ⟨k, rfl⟩ : ∃ n, k = n + 1 := ⟨k - 1, by omega⟩
    simp only [pentaglotref19_Minute.l0]
    rw [if_pos (by omega)]
    by_cases e : P c i = p ∧ Hr c i = h ∧ Mi i = n
    · refine .inl ⟨i, by omega, ⟨hc, h0, by omega, e.1.symm, e.2.1.symm, e.2.2.symm⟩, ?_⟩
      rw [if_pos]
      simp [e.1, e.2.1, e.2.2]
    · rw [if_neg (by simp only [beq_self_eq_true, Bool.true_and, Bool.and_eq_true, beq_iff_eq]; exact e), next_at hc h0 (by omega)]
      simp only [Option.bind_some]
      rw [wrap_id (by omega) (by omega)]
      rcases ih k c (i + 1) p h n hc (by omega) (by omega) (by omega) (by omega) with ⟨m, hm, v, E⟩ | ⟨hn, E⟩
      · exact .inl ⟨m, by omega, v, E⟩
      · refine .inr ⟨fun m hm v => ?_, E⟩
        by_cases hi : m = i
        · subst hi
          exact e ⟨v.2.2.2.1.symm, v.2.2.2.2.1.symm, v.2.2.2.2.2.symm⟩
        · exact hn m (by omega) v
theorem ref_Minute_yes {k : Nat} (hk : 1450 ≤ k) {c p h i m : Int} (v : V c p h i m) : pentaglotref19_Minute.f k c p h i = some m := by
  unfold pentaglotref19_Minute.f
  rw [ref_known_yes v.1]
  simp only [Option.bind_some, if_true]
  rw [ref_Time (by omega) v.1 (by omega) (by omega)]
  simp only [Option.bind_some]
  rcases ref_Minute_loop 1440 k c 0 p h i v.1 (by omega) (by omega) (by omega) (by omega) with ⟨n, _, u, E⟩ | ⟨hn, _⟩
  · rw [E, V_unique u v]
  · exact absurd v (hn m v.2.1)
theorem ref_Minute_no {k : Nat} (hk : 1450 ≤ k) {c p h i : Int} (v : ∀ m, ¬ V c p h i m) : pentaglotref19_Minute.f k c p h i = some (-1) := by
  unfold pentaglotref19_Minute.f
  by_cases hc : Known c
  · rw [ref_known_yes hc]
    simp only [Option.bind_some, if_true]
    rw [ref_Time (by omega) hc (by omega) (by omega)]
    simp only [Option.bind_some]
    rcases ref_Minute_loop 1440 k c 0 p h i hc (by omega) (by omega) (by omega) (by omega) with ⟨n, _, u, E⟩ | ⟨_, E⟩
    · exact absurd u (v n)
    · exact E
  · rw [ref_known_no hc]
    simp

theorem awake_at {k : Nat} (hk : 4 ≤ k) : pentaglotlaw19_awake.f k = some true := by
  have v1 := V_of 2 725 (.inr (.inl rfl)) (by omega) (by omega)
  have v2 := V_of 3 725 (.inr (.inr rfl)) (by omega) (by omega)
  unfold pentaglotlaw19_awake.f clock_Convert.f
  rw [Time_yes (by omega) (.inr (.inl rfl)) (by omega) (by omega)]
  simp only [Option.bind_some]
  rw [Minute_yes (by omega) v1]
  simp only [Option.bind_some, if_true]
  rw [Time_yes (by omega) (.inr (.inr rfl)) (by omega) (by omega)]
  simp only [Option.bind_some]
  rw [Minute_yes (by omega) v2]
  have s : clock_Split.f 1441 = some (1, 1, 0) := by unfold clock_Split.f wrap64; rfl
  rw [s]
  simp only [Option.bind_some, if_true]
  rfl

/-! ### The laws -/
theorem Periods_at (c : Int) : clock_Periods.f c = some (if c = 1 then 1 else if c = 2 then 2 else if c = 3 then 6 else 0) := by
  unfold clock_Periods.f
  by_cases h1 : c = 1
  · simp [h1]
  · by_cases h2 : c = 2
    · simp [h2]
    · by_cases h3 : c = 3 <;> simp [h1, h2, h3]

theorem ClockTimes (c m : Int) : ∃ k, pentaglotlaw19_ClockTimes.f k c m = some true := by
  refine ⟨2000, ?_⟩
  unfold pentaglotlaw19_ClockTimes.f
  by_cases hg : Known c ∧ 0 ≤ m ∧ m < 1440
  · rw [Time_yes (by omega) hg.1 hg.2.1 hg.2.2, ref_known_yes hg.1]
    simp only [Option.bind_some, if_true]
    rw [if_neg (by omega), decide_eq_false (by omega)]
    simp only [pentaglotlaw19_ClockTimes.j0]
    rw [if_neg (by decide), awake_at (by omega), ref_Time (by omega) hg.1 hg.2.1 hg.2.2]
    simp
  · rw [Time_no (by omega) hg]
    by_cases hc : Known c
    · have h' : ¬ (0 ≤ m ∧ m < 1440) := fun x => hg ⟨hc, x⟩
      rw [ref_known_yes hc]
      simp only [Option.bind_some, if_true]
      by_cases h0 : m < 0
      · rw [if_pos h0]
        simp only [pentaglotlaw19_ClockTimes.j0]
        rw [awake_at (by omega)]; rfl
      · rw [if_neg h0, decide_eq_true (by omega)]
        simp only [pentaglotlaw19_ClockTimes.j0]
        rw [awake_at (by omega)]; rfl
    · rw [ref_known_no hc]
      simp only [Option.bind_some]
      rw [if_neg (by decide)]
      simp only [pentaglotlaw19_ClockTimes.j0]
      rw [awake_at (by omega)]; rfl

theorem ClockPeriods (c : Int) : ∃ k, pentaglotlaw19_ClockPeriods.f k c = some true := by
  refine ⟨2000, ?_⟩
  unfold pentaglotlaw19_ClockPeriods.f
  rw [awake_at (by omega), Periods_at]
  by_cases h1 : c = 1
  · simp [h1]
  · by_cases h2 : c = 2
    · simp [h2]
    · by_cases h3 : c = 3 <;> simp [h1, h2, h3]

theorem ClockSplits (t : Int) : ∃ k, pentaglotlaw19_ClockSplits.f k t = some true := by
  refine ⟨2000, ?_⟩
  unfold pentaglotlaw19_ClockSplits.f clock_Split.f
  rw [awake_at (by omega)]
  by_cases h0 : t < 0
  · simp [h0]
  · by_cases h1 : t > 1439999999
    · simp [h0, h1]
    · rw [Int.tdiv_eq_ediv_of_nonneg (by omega), Int.tmod_eq_emod_of_nonneg (by omega)]
      simp only [if_neg h0, if_neg h1, Option.bind_some, if_true]
      have e1 : wrap64 (t / 1440) = t / 1440 := wrap_id (by omega) (by omega)
      have e2 : wrap64 (wrap64 (t / 1440 * 1440) + t % 1440) = t := by unfold wrap64; omega
      rw [e1, e2, if_pos rfl, if_pos (by omega), if_pos (by omega), if_pos (by omega), decide_eq_true (by omega)]

theorem ClockMinutes (c p h i : Int) : ∃ k, pentaglotlaw19_ClockMinutes.f k c p h i = some true := by
  refine ⟨2000, ?_⟩
  unfold pentaglotlaw19_ClockMinutes.f
  rcases V_or c p h i with ⟨m, v⟩ | v
  · rw [Minute_yes (by omega) v, ref_Minute_yes (by omega) v, awake_at (by omega), Valid_yes (by omega) v]
    have := v.2.1
    simp only [Option.bind_some, if_true]
    rw [if_neg (by omega)]
    simp
  · rw [Minute_no (by omega) v, ref_Minute_no (by omega) v, awake_at (by omega), Valid_no (by omega) v]
    rfl

theorem P_range {c m : Int} (hc : Known c) (h0 : 0 ≤ m) (h1 : m < 1440) : 0 ≤ P c m ∧ P c m < (if c = 1 then 1 else if c = 2 then 2 else if c = 3 then 6 else 0) := by
  unfold P
  rcases hc with rfl | rfl | rfl <;> simp <;> omega
theorem ReadsBack_tail (c p h i : Int) : pentaglotlaw19_ClockReadsBack.j0 2000 (if Known c then 0 else 1) c p h i = some true := by
  simp only [pentaglotlaw19_ClockReadsBack.j0]
  rcases V_or c p h i with ⟨m, v⟩ | v
  · have hk := v.1
    rw [Valid_yes (by omega) v, Minute_yes (by omega) v]
    simp only [Option.bind_some, if_true]
    rw [Time_yes (by omega) hk v.2.1 v.2.2.1, awake_at (by omega), if_pos hk]
    obtain ⟨_, _, _, rfl, rfl, rfl⟩ := v
    simp
  · rw [Valid_no (by omega) v, awake_at (by omega), Periods_at]
    simp only [Option.bind_some, Bool.false_eq_true, if_false, if_true]
    by_cases hk : Known c
    · rw [if_pos hk]
      rcases hk with rfl | rfl | rfl <;> rfl
    · rw [if_neg hk]
      unfold Known at hk
      rw [if_neg (by omega), if_neg (by omega), if_neg (by omega)]
      rfl
theorem ClockReadsBack (c p h i : Int) (n : Int) (h0 : 0 ≤ n) (h1 : n ≤ 65535) : ∃ k, pentaglotlaw19_ClockReadsBack.f k c p h i n = some true := by
  refine ⟨2000, ?_⟩
  unfold pentaglotlaw19_ClockReadsBack.f
  rw [wrap_id (by omega) (by omega), Int.tmod_eq_emod_of_nonneg h0]
  have R := ReadsBack_tail c p h i
  by_cases hk : Known c
  · rw [Time_yes (by omega) hk (by omega) (by omega)]
    simp only [Option.bind_some, if_true]
    have v := V_of c (n % 1440) hk (by omega) (by omega)
    rw [Minute_yes (by omega) v, Valid_yes (by omega) v, Periods_at]
    simp only [Option.bind_some, if_true]
    have hp := P_range (c := c) (m := n % 1440) hk (by omega) (by omega)
    rw [if_neg (by omega), if_neg (by omega)]
    rw [if_pos hk] at R; exact R
  · rw [Time_no (by omega) (fun x => hk x.1)]
    simp only [Option.bind_some]
    rw [if_neg (by decide)]
    rw [if_neg hk] at R; exact R

theorem Convert_yes {k : Nat} (hk : 4 ≤ k) {c p h i m z : Int} (v : V c p h i m) (ht : Known z) : clock_Convert.f k c p h i z = some (z, P z m, Hr z m, Mi m, 0) := by
  unfold clock_Convert.f
  rw [Minute_yes (by omega) v]
  simp only [Option.bind_some, if_true]
  rw [Time_yes (by omega) ht v.2.1 v.2.2.1]
  rfl
theorem Convert_no {k : Nat} (hk : 4 ≤ k) {c p h i z : Int} (v : (∀ m, ¬ V c p h i m) ∨ ¬ Known z) : clock_Convert.f k c p h i z = some (0, 0, 0, 0, 1) := by
  unfold clock_Convert.f
  rcases V_or c p h i with ⟨m, u⟩ | u
  · rw [Minute_yes (by omega) u]
    simp only [Option.bind_some, if_true]
    rcases v with v | v
    · exact absurd u (v m)
    · rw [Time_no (by omega) (fun x => v x.1)]; rfl
  · rw [Minute_no (by omega) u]
    rfl
theorem ClockConverts (c p h i z : Int) : ∃ k, pentaglotlaw19_ClockConverts.f k c p h i z = some true := by
  refine ⟨2000, ?_⟩
  unfold pentaglotlaw19_ClockConverts.f
  rcases V_or c p h i with ⟨m, v⟩ | v
  · by_cases ht : Known z
    · have v2 := V_of z m ht v.2.1 v.2.2.1
      rw [Convert_yes (by omega) v ht, Valid_yes (by omega) v, ref_known_yes ht]
      simp only [Option.bind_some, if_true, Bool.not_true]
      simp only [pentaglotlaw19_ClockConverts.j0]
      rw [if_neg (by decide), Minute_yes (by omega) v, Minute_yes (by omega) v2, Convert_yes (by omega) v2 v.1, awake_at (by omega)]
      obtain ⟨_, _, _, rfl, rfl, rfl⟩ := v
      simp
    · rw [Convert_no (by omega) (.inr ht), Valid_yes (by omega) v, ref_known_no ht]
      simp only [Option.bind_some, if_true, Bool.not_false]
      simp only [pentaglotlaw19_ClockConverts.j0]
      rw [awake_at (by omega)]; rfl
  · rw [Convert_no (by omega) (.inl v), Valid_no (by omega) v]
    simp only [Option.bind_some]
    rw [if_neg (by decide)]
    simp only [pentaglotlaw19_ClockConverts.j0]
    rw [awake_at (by omega)]; rfl

theorem both_yes {k : Nat} (hk : 4 ≤ k) {c p h i m c' p' h' i' m' : Int} (v : V c p h i m) (v' : V c' p' h' i' m') : clock_both.f k c p h i c' p' h' i' = some (m, m', 0) := by
  unfold clock_both.f
  rw [Minute_yes (by omega) v]
  simp only [Option.bind_some, if_true]
  rw [Minute_yes (by omega) v']
  rfl
theorem both_no {k : Nat} (hk : 4 ≤ k) {c p h i c' p' h' i' : Int} (v : (∀ m, ¬ V c p h i m) ∨ (∀ m, ¬ V c' p' h' i' m)) : clock_both.f k c p h i c' p' h' i' = some (0, 0, 1) := by
  unfold clock_both.f
  rcases V_or c p h i with ⟨m, u⟩ | u
  · rw [Minute_yes (by omega) u]
    simp only [Option.bind_some, if_true]
    rcases v with v | v
    · exact absurd u (v m)
    · rw [Minute_no (by omega) v]; rfl
  · rw [Minute_no (by omega) u]
    rfl
/-- The minutes from m to the next n. -/
def gap (m n : Int) : Int := (n - m + 1440) % 1440
theorem Until_yes {k : Nat} (hk : 4 ≤ k) {c p h i m c' p' h' i' m' : Int} (v : V c p h i m) (v' : V c' p' h' i' m') : clock_Until.f k c p h i c' p' h' i' = some (gap m m', 0) := by
  unfold clock_Until.f
  rw [both_yes (by omega) v v']
  simp only [Option.bind_some]
  have := v.2.1; have := v.2.2.1; have := v'.2.1; have := v'.2.2.1
  rw [wrap_id (x := m' - m) (by omega) (by omega), wrap_id (by omega) (by omega), Int.tmod_eq_emod_of_nonneg (by omega)]
  rfl
theorem Until_no {k : Nat} (hk : 4 ≤ k) {c p h i c' p' h' i' : Int} (v : (∀ m, ¬ V c p h i m) ∨ (∀ m, ¬ V c' p' h' i' m)) : clock_Until.f k c p h i c' p' h' i' = some (0, 1) := by
  unfold clock_Until.f
  rw [both_no (by omega) v]
  simp only [Option.bind_some]
  rw [show wrap64 ((0 : Int) - 0) = 0 from wrap_id (by omega) (by omega), wrap_id (by omega) (by omega)]
  rfl
theorem cmp_at (a b : Int) : cmp_Compare_int.f a b = some (if a < b then -1 else if a > b then 1 else 0) := by
  unfold cmp_Compare_int.f cmp_isNaN_int.f
  simp only [bne_self_eq_false, Option.bind_some]
  rw [if_neg (by decide), if_neg (by decide)]
  split
  · rfl
  · split <;> rfl
theorem Compare_yes {k : Nat} (hk : 4 ≤ k) {c p h i m c' p' h' i' m' : Int} (v : V c p h i m) (v' : V c' p' h' i' m') : clock_Compare.f k c p h i c' p' h' i' = some (if m < m' then -1 else if m > m' then 1 else 0, 0) := by
  unfold clock_Compare.f
  rw [both_yes (by omega) v v']
  simp only [Option.bind_some]
  rw [cmp_at]
  rfl
theorem Compare_no {k : Nat} (hk : 4 ≤ k) {c p h i c' p' h' i' : Int} (v : (∀ m, ¬ V c p h i m) ∨ (∀ m, ¬ V c' p' h' i' m)) : clock_Compare.f k c p h i c' p' h' i' = some (0, 1) := by
  unfold clock_Compare.f
  rw [both_no (by omega) v]
  rfl

theorem ClockUntil (c p h i c' p' h' i' : Int) : ∃ k, pentaglotlaw19_ClockUntil.f k c p h i c' p' h' i' = some true := by
  refine ⟨2000, ?_⟩
  unfold pentaglotlaw19_ClockUntil.f
  rcases V_or c p h i with ⟨m, v⟩ | v
  · rcases V_or c' p' h' i' with ⟨n, u⟩ | u
    · have a0 := v.2.1; have a1 := v.2.2.1; have b0 := u.2.1; have b1 := u.2.2.1
      rw [Until_yes (by omega) v u, ref_Minute_yes (by omega) v, ref_Minute_yes (by omega) u]
      simp only [Option.bind_some]
      rw [if_neg (by omega), decide_eq_false (by omega)]
      simp only [pentaglotlaw19_ClockUntil.j0]
      rw [if_neg (by decide), awake_at (by omega)]
      simp only [Option.bind_some, if_true]
      have g0 : 0 ≤ gap m n ∧ gap m n < 1440 := by unfold gap; omega
      rw [if_pos (by omega), if_pos (by omega), wrap_id (by omega) (by omega), Int.tmod_eq_emod_of_nonneg (by omega)]
      have : (m + gap m n) % 1440 = n := by unfold gap; omega
      rw [this]; simp
    · rw [Until_no (by omega) (.inr u), ref_Minute_yes (by omega) v, ref_Minute_no (by omega) u]
      have a0 := v.2.1
      simp only [Option.bind_some]
      rw [if_neg (by omega), decide_eq_true (by omega)]
      simp only [pentaglotlaw19_ClockUntil.j0]
      rw [awake_at (by omega)]; rfl
  · rw [Until_no (by omega) (.inl v), ref_Minute_no (by omega) v]
    rcases V_or c' p' h' i' with ⟨n, u⟩ | u
    · rw [ref_Minute_yes (by omega) u]
      simp only [Option.bind_some]
      rw [if_pos (by omega)]
      simp only [pentaglotlaw19_ClockUntil.j0]
      rw [awake_at (by omega)]; rfl
    · rw [ref_Minute_no (by omega) u]
      simp only [Option.bind_some]
      rw [if_pos (by omega)]
      simp only [pentaglotlaw19_ClockUntil.j0]
      rw [awake_at (by omega)]; rfl

theorem ClockCompares (c p h i c' p' h' i' : Int) : ∃ k, pentaglotlaw19_ClockCompares.f k c p h i c' p' h' i' = some true := by
  refine ⟨2000, ?_⟩
  unfold pentaglotlaw19_ClockCompares.f
  rcases V_or c p h i with ⟨m, v⟩ | v
  · rcases V_or c' p' h' i' with ⟨n, u⟩ | u
    · have a0 := v.2.1; have a1 := v.2.2.1; have b0 := u.2.1; have b1 := u.2.2.1
      rw [Compare_yes (by omega) v u, ref_Minute_yes (by omega) v, ref_Minute_yes (by omega) u]
      simp only [Option.bind_some]
      rw [if_neg (by omega), decide_eq_false (by omega)]
      simp only [pentaglotlaw19_ClockCompares.j0]
      rw [if_neg (by decide), awake_at (by omega)]
      by_cases h1 : m < n
      · simp only [if_pos h1]
        rw [if_neg (by omega)]; rfl
      · simp only [if_neg h1]
        by_cases h2 : m > n
        · simp only [if_pos h2]; rfl
        · simp only [if_neg h2]; rfl
    · rw [Compare_no (by omega) (.inr u), ref_Minute_yes (by omega) v, ref_Minute_no (by omega) u]
      have a0 := v.2.1
      simp only [Option.bind_some]
      rw [if_neg (by omega), decide_eq_true (by omega)]
      simp only [pentaglotlaw19_ClockCompares.j0]
      rw [awake_at (by omega)]; rfl
  · rw [Compare_no (by omega) (.inl v), ref_Minute_no (by omega) v]
    rcases V_or c' p' h' i' with ⟨n, u⟩ | u
    · rw [ref_Minute_yes (by omega) u]
      simp only [Option.bind_some]
      rw [if_pos (by omega)]
      simp only [pentaglotlaw19_ClockCompares.j0]
      rw [awake_at (by omega)]; rfl
    · rw [ref_Minute_no (by omega) u]
      simp only [Option.bind_some]
      rw [if_pos (by omega)]
      simp only [pentaglotlaw19_ClockCompares.j0]
      rw [awake_at (by omega)]; rfl

theorem There_out (a b c d e f g h i j l m : Int) : pentaglotlaw19_ClockThere.j0 2000 true a b c d e f g h i j l m = some true := by
  simp only [pentaglotlaw19_ClockThere.j0, if_true]
  rw [awake_at (by omega)]; rfl
theorem ClockThere (c p h i c' p' h' i' c2 p2 h2 i2 : Int) : ∃ k, pentaglotlaw19_ClockThere.f k c p h i c' p' h' i' c2 p2 h2 i2 = some true := by
  refine ⟨2000, ?_⟩
  unfold pentaglotlaw19_ClockThere.f
  rcases V_or c p h i with ⟨m, v⟩ | v
  · rcases V_or c' p' h' i' with ⟨n, u⟩ | u
    · rcases V_or c2 p2 h2 i2 with ⟨q, t⟩ | t
      · rw [Valid_yes (by omega) v, Valid_yes (by omega) u, Valid_yes (by omega) t]
        have a0 := v.2.1; have a1 := v.2.2.1; have b0 := u.2.1; have b1 := u.2.2.1; have d0 := t.2.1; have d1 := t.2.2.1
        simp only [Option.bind_some, if_true, Bool.not_true]
        simp only [pentaglotlaw19_ClockThere.j0]
        rw [if_neg (by decide), Until_yes (by omega) v u, Until_yes (by omega) u v, Until_yes (by omega) v t, Until_yes (by omega) t u, Compare_yes (by omega) v u, awake_at (by omega)]
        simp only [Option.bind_some, if_true]
        have g1 : (gap m n = 0 ↔ m = n) ∧ 0 ≤ gap m n ∧ gap m n < 1440 := by unfold gap; omega
        have g2 : 0 ≤ gap n m ∧ gap n m < 1440 := by unfold gap; omega
        have g3 : 0 ≤ gap m q ∧ gap m q < 1440 := by unfold gap; omega
        have g4 : 0 ≤ gap q n ∧ gap q n < 1440 := by unfold gap; omega
        have g5 : gap m n + gap n m = 1440 ∨ gap m n + gap n m = 0 := by unfold gap; omega
        have g6 : gap m q + gap q n = gap m n ↔ gap m q ≤ gap m n := by unfold gap; omega
        have e1 : (((if m < n then (-1 : Int) else if m > n then 1 else 0) == 0) != (gap m n == 0)) = false := by
          by_cases e : m = n
          · have := g1.1.2 e
            rw [this]; subst e; simp
          · have : ¬ gap m n = 0 := fun x => e (g1.1.1 x)
            have h1 : ((if m < n then (-1 : Int) else if m > n then 1 else 0) == 0) = false := by
              split
              · rfl
              · rw [if_pos (by omega)]; rfl
            rw [h1]; simp [this]
        rw [e1, if_neg (by decide), wrap_id (x := gap m n + gap n m) (by omega) (by omega), wrap_id (x := gap m q + gap q n) (by omega) (by omega)]
        have e2 : ((gap m q + gap q n == gap m n) == decide (gap m q ≤ gap m n)) = true := by
          by_cases e : gap m q ≤ gap m n
          · rw [decide_eq_true e, g6.2 e]; simp
          · have : ¬ gap m q + gap q n = gap m n := fun x => e (g6.1 x)
            rw [decide_eq_false e]; simp [this]
        rw [e2]
        rcases g5 with g | g
        · rw [if_pos g]
        · rw [if_neg (by omega), if_pos g]
      · rw [Valid_yes (by omega) v, Valid_yes (by omega) u, Valid_no (by omega) t]
        simp only [Option.bind_some, if_true, Bool.not_false]
        exact There_out ..
    · rw [Valid_yes (by omega) v, Valid_no (by omega) u]
      simp only [Option.bind_some, if_true]
      rw [if_neg (by decide)]
      exact There_out ..
  · rw [Valid_no (by omega) v]
    simp only [Option.bind_some]
    rw [if_neg (by decide)]
    exact There_out ..
end Go.Proofs.YtknbgpgoljfkjaaDoor.Pure
