/- The measure functions in plain numbers, third part: the laws. No program and no memory stands here. -/
import Derived.Test.YtpfmcifiocpfbaaPureB
import Derived.KernelRfl
set_option linter.unusedVariables false
set_option linter.unusedSimpArgs false
namespace Go.Proofs.Ytpfmcifiocpfbaa.Pure
open Go.RowKit Go.Proofs.Ytpfmcifiocpfbaa.C Go.Proofs.YtpfmcifiocpfbaaW.PrintWords

/-- Names of the size that the laws consider. -/
def Sml (l : List S41) : Prop := ∀ i, 0 ≤ i → i < (l.length : Int) → (rd_T41 l i).f0.size ≤ 1000
theorem great_loop (l : List S41) (hl : (l.length : Int) ≤ 12) : ∀ (k : Nat) (i : Int), 0 ≤ i → i ≤ (l.length : Int) → (l.length : Int) - i + 1 ≤ k → ∃ b, pentaglotlaw16_great.l0 k l (l.length : Int) i = some b ∧ (b = false → ∀ j, i ≤ j → j < (l.length : Int) → (rd_T41 l j).f0.size ≤ 1000)
  | 0, i, a, b, c => by omega
  | k + 1, i, a, b, c => by
    simp only [pentaglotlaw16_great.l0]
    by_cases e : i < (l.length : Int)
    · rw [if_pos e, if_pos a, if_pos e]
      by_cases d : (((rd_T41 l i).f0).size : Int) > 100
      · rw [if_pos d]
        exact ⟨_, rfl, fun x => by cases x⟩
      · rw [if_neg d, wrap_id (by omega) (by omega)]
        obtain ⟨r, R, I⟩ := great_loop l hl k (i + 1) (by omega) (by omega) (by omega)
        refine ⟨r, R, fun x => ?_⟩
        rw [from_step (p := fun j => (rd_T41 l j).f0.size ≤ 1000) e]
        exact ⟨by omega, I x⟩
    · rw [if_neg e]
      exact ⟨_, rfl, fun _ j x y => by omega⟩
theorem great_at {k : Nat} (hk : 30 ≤ k) (l : List S41) (ps : List Int) : ∃ b, pentaglotlaw16_great.f k l ps = some b ∧ (b = false → Sml l ∧ (l.length : Int) ≤ 12 ∧ (ps.length : Int) ≤ 12) := by
  obtain ⟨k, rfl⟩ : ∃ m, k = m + 1 := ⟨k - 1, by omega⟩
  unfold pentaglotlaw16_great.f
  simp only [pentaglotlaw16_great.j0]
  by_cases e : (l.length : Int) > 12
  · rw [if_pos e, if_pos trivial]
    exact ⟨_, rfl, fun x => by cases x⟩
  · rw [if_neg e]
    by_cases d : (ps.length : Int) > 12
    · rw [if_pos (decide_eq_true d)]
      exact ⟨_, rfl, fun x => by cases x⟩
    · rw [decide_eq_false d, if_neg (by decide)]
      obtain ⟨b, R, I⟩ := great_loop l (by omega) k 0 (by omega) (by omega) (by omega)
      exact ⟨b, R, fun x => ⟨I x, by omega, by omega⟩⟩
theorem same_loop (a b : List Int) (ha : (a.length : Int) ≤ 1000) (hb : a.length = b.length) : ∀ (k : Nat) (i : Int), 0 ≤ i → i ≤ (a.length : Int) → (a.length : Int) - i + 1 ≤ k → ∃ r, pentaglotlaw16_same.l0 k a b i = some r ∧ (r = true ↔ ∀ j, i ≤ j → j < (a.length : Int) → rd a j = rd b j)
  | 0, i, x, y, z => by omega
  | k + 1, i, x, y, z => by
    simp only [pentaglotlaw16_same.l0]
    by_cases e : i < (a.length : Int)
    · rw [if_pos e, if_pos x, if_pos (by omega)]
      by_cases d : rd a i = rd b i
      · rw [if_pos d, wrap_id (by omega) (by omega)]
        obtain ⟨r, R, I⟩ := same_loop a b ha hb k (i + 1) (by omega) (by omega) (by omega)
        refine ⟨r, R, I.trans ?_⟩
        rw [from_step (p := fun j => rd a j = rd b j) e]
        exact ⟨fun H => ⟨d, H⟩, fun H => H.2⟩
      · rw [if_neg d]
        exact ⟨_, rfl, fun x => (by cases x), fun H => absurd (H i (Int.le_refl _) e) d⟩
    · rw [if_neg e]
      exact ⟨_, rfl, fun _ j x y => by omega, fun _ => rfl⟩
theorem same_at {k : Nat} (a b : List Int) (ha : (a.length : Int) ≤ 30) (hk : 40 ≤ k) : pentaglotlaw16_same.f k a b = some (decide (a = b)) := by
  unfold pentaglotlaw16_same.f
  by_cases e : (a.length : Int) = (b.length : Int)
  · rw [if_pos e]
    obtain ⟨r, R, I⟩ := same_loop a b (by omega) (by omega) k 0 (by omega) (by omega) (by omega)
    rw [R]
    congr 1
    rw [Bool.eq_iff_iff, I, decide_eq_true_iff]
    exact ⟨fun H => rd_ext (by omega) fun i x => H i (by omega) (by omega), fun H j _ _ => by rw [H]⟩
  · rw [if_neg e, decide_eq_false (fun x => e (by rw [x]))]
theorem refsame_eq (a b : List Int) : ∀ (k : Nat) (i : Int), pentaglotref16_Same.l0 k a b (a.length : Int) i = pentaglotlaw16_same.l0 k a b i
  | 0, _ => rfl
  | k + 1, i => by
    simp only [pentaglotref16_Same.l0, pentaglotlaw16_same.l0, refsame_eq a b k]
    by_cases e : i < (a.length : Int)
    · rw [if_pos e, if_pos e, if_pos e]
    · rw [if_neg e, if_neg e]
theorem refsame_at {k : Nat} (a b : List Int) (ha : (a.length : Int) ≤ 30) (hk : 40 ≤ k) : pentaglotref16_Same.f k a b = some (decide (a = b)) := by
  rw [← same_at a b ha hk]
  unfold pentaglotref16_Same.f pentaglotlaw16_same.f
  rw [refsame_eq]

/-! ### two amounts -/
/-- Both amounts are there, or an error. -/
inductive Two (l : List S41) (p q : List Int) : Int → Int → Int → Prop
  | ok (x y : Int) (a : Acc l p) (b : Acc l q) (hx : x = psum l p l.length) (hy : y = psum l q l.length) (x0 : 0 ≤ x) (x1 : x ≤ 1099511627776) (y0 : 0 ≤ y) (y1 : y ≤ 1099511627776) : Two l p q x y 0
  | no (e : Int) (h : e = 1 ∨ e = 2) (n : ¬ ((Jn l p).2 = 0 ∧ (Jn l q).2 = 0)) (i : e = 1 ↔ ¬ (ab l p = true ∧ ab l q = true)) : Two l p q 0 0 e
theorem two (l : List S41) (p q : List Int) (h8 : Sml l) : ∃ x y e, Two l p q x y e ∧ (∀ k : Nat, 400 ≤ k → pentaglotref16_Both.f k l p q = some (x, y, e)) ∧ ∀ k : Nat, 200 ≤ k → ∃ x' y', measure_both.f k l p q = some (x', y', e) ∧ (e = 0 → x' = x ∧ y' = y) := by
  have B : ∀ k : Nat, 200 ≤ k → measure_both.f k l p q = (if (Jn l p).2 = 1 then some (0, 0, 1) else (if (Jn l q).2 = 1 then some (0, 0, 1) else some ((Jn l p).1, (Jn l q).1, mx (Jn l p).2 (Jn l q).2))) := fun k hk => by
    unfold measure_both.f
    rw [Join_at (by omega) l p h8, Join_at (by omega) l q h8]
    rfl
  have R : ∀ k : Nat, 400 ≤ k → pentaglotref16_Both.f k l p q = (if ab l p = true ∧ ab l q = true then (if (Jn l p).2 = 0 ∧ (Jn l q).2 = 0 then some ((Jn l p).1, (Jn l q).1, 0) else some (0, 0, 2)) else some (0, 0, 1)) := fun k hk => by
    obtain ⟨k, rfl⟩ : ∃ m, k = m + 1 := ⟨k - 1, by omega⟩
    unfold pentaglotref16_Both.f
    rw [refvalid_at (by omega) l p]
    simp only [Option.bind_some, pentaglotref16_Both.j0]
    by_cases e : ab l p = true
    · rw [if_pos e, refvalid_at (by omega) l q]
      simp only [Option.bind_some]
      by_cases f : ab l q = true
      · rw [if_pos (show ab l p = true ∧ ab l q = true from ⟨e, f⟩), f]
        simp only [Bool.not_true, Bool.false_eq_true, if_false]
        rw [refJoin_at (by omega) l p, refJoin_at (by omega) l q]
        simp only [Option.bind_some]
        by_cases g : (Jn l p).2 = 0
        · rw [if_pos g]
          by_cases g' : (Jn l q).2 = 0
          · rw [if_pos g', if_pos ⟨g, g'⟩]
          · rw [if_neg g', if_neg (fun x => g' x.2)]
        · rw [if_neg g, if_neg (fun x => g x.1)]
      · rw [if_neg (show ¬ (ab l p = true ∧ ab l q = true) from fun x => f x.2), Bool.eq_false_iff.mpr f]
        rfl
    · rw [if_neg e, if_pos trivial, if_neg (fun x => e x.1)]
  have no1 : ∀ ps, ¬ ab l ps = true → (Jn l ps).2 = 1 := fun ps h => by rw [Jn_no h]
  have no2 : ∀ ps, ab l ps = true → ¬ psum l ps l.length ≤ 1099511627776 → (Jn l ps).2 = 2 := fun ps h h' => by rw [Jn_big h h']
  have no0 : ∀ ps, ab l ps = true → psum l ps l.length ≤ 1099511627776 → Jn l ps = (psum l ps l.length, 0) := fun ps h h' => Jn_ok h h'
  by_cases e : ab l p = true
  · by_cases f : ab l q = true
    · have A := (ab_iff l p).1 e
      have A' := (ab_iff l q).1 f
      have P := psum_nonneg A.val A.non l.length (Nat.le_refl _) (by rw [A.len]; exact Nat.le_refl _)
      have P' := psum_nonneg A'.val A'.non l.length (Nat.le_refl _) (by rw [A'.len]; exact Nat.le_refl _)
      by_cases g : psum l p l.length ≤ 1099511627776
      · by_cases g' : psum l q l.length ≤ 1099511627776
        · refine ⟨_, _, _, .ok _ _ A A' rfl rfl P g P' g', fun k hk => ?_, fun k hk => ⟨_, _, ?_, fun _ => ⟨rfl, rfl⟩⟩⟩
          · rw [R k hk, if_pos ⟨e, f⟩, no0 p e g, no0 q f g', if_pos ⟨rfl, rfl⟩]
          · rw [B k hk, no0 p e g, no0 q f g']
            rfl
        · refine ⟨_, _, 2, .no _ (.inr rfl) (fun x => by rw [no2 q f g'] at x; omega) ⟨fun x => by omega, fun x => absurd ⟨e, f⟩ x⟩, fun k hk => ?_, fun k hk => ⟨psum l p l.length, (Jn l q).1, ?_, fun x => by cases x⟩⟩
          · rw [R k hk, if_pos ⟨e, f⟩, if_neg (fun x => by rw [no2 q f g'] at x; omega)]
          · rw [B k hk, no0 p e g, if_neg (by simp), if_neg (by rw [no2 q f g']; decide), no2 q f g']
            rfl
      · refine ⟨_, _, 2, .no _ (.inr rfl) (fun x => by rw [no2 p e g] at x; omega) ⟨fun x => by omega, fun x => absurd ⟨e, f⟩ x⟩, fun k hk => ?_, fun k hk => ?_⟩
        · rw [R k hk, if_pos ⟨e, f⟩, if_neg (fun x => by rw [no2 p e g] at x; omega)]
        · refine ⟨(Jn l p).1, (Jn l q).1, ?_, fun x => by cases x⟩
          rw [B k hk, if_neg (by rw [no2 p e g]; decide)]
          have h2 : (Jn l q).2 = 0 ∨ (Jn l q).2 = 2 := by
            by_cases g' : psum l q l.length ≤ 1099511627776
            · rw [no0 q f g']; exact .inl rfl
            · exact .inr (no2 q f g')
          rw [if_neg (by omega), no2 p e g]
          obtain h | h := h2 <;> rw [h] <;> rfl
    · refine ⟨_, _, 1, .no _ (.inl rfl) (fun x => by rw [no1 q f] at x; omega) ⟨fun _ x => f x.2, fun _ => rfl⟩, fun k hk => ?_, fun k hk => ⟨0, 0, ?_, fun x => by cases x⟩⟩
      · rw [R k hk, if_neg (fun x => f x.2)]
      · rw [B k hk, if_pos (no1 q f)]
        split <;> rfl
  · refine ⟨_, _, 1, .no _ (.inl rfl) (fun x => by rw [no1 p e] at x; omega) ⟨fun _ x => e x.1, fun _ => rfl⟩, fun k hk => ?_, fun k hk => ⟨0, 0, ?_, fun x => by cases x⟩⟩
    · rw [R k hk, if_neg (fun x => e x.1)]
    · rw [B k hk, if_pos (no1 p e)]
/-- What Compare gives of two numbers. -/
def cm (x y : Int) : Int := if x < y then -1 else (if x > y then 1 else 0)
theorem cmp_at (x y : Int) : cmp_Compare_int.f x y = some (cm x y) := by
  unfold cmp_Compare_int.f cmp_isNaN_int.f cm
  simp only [Option.bind_some, bne_self_eq_false, Bool.false_eq_true, if_false]
  repeat' split
  all_goals rfl
theorem Compare_at (l : List S41) (p q : List Int) {x y e : Int} (T : Two l p q x y e) (B : ∀ k : Nat, 200 ≤ k → ∃ x' y', measure_both.f k l p q = some (x', y', e) ∧ (e = 0 → x' = x ∧ y' = y)) {k : Nat} (hk : 200 ≤ k) : measure_Compare.f k l p q = some (cm x y, e) := by
  obtain ⟨x', y', E, H⟩ := B k hk
  unfold measure_Compare.f
  rw [E]
  simp only [Option.bind_some]
  cases T with
  | ok =>
    obtain ⟨rfl, rfl⟩ := H rfl
    rw [if_pos rfl, cmp_at]
    rfl
  | no h =>
    rw [if_neg (by omega)]
    rfl
theorem Add_at (l : List S41) (h8 : Sml l) (p q : List Int) {x y e : Int} (T : Two l p q x y e) (B : ∀ k : Nat, 200 ≤ k → ∃ x' y', measure_both.f k l p q = some (x', y', e) ∧ (e = 0 → x' = x ∧ y' = y)) {k : Nat} (hk : 200 ≤ k) : measure_Add.f k l p q = some (if e = 0 then Sp l (x + y) else ([], e)) := by
  obtain ⟨x', y', E, H⟩ := B k hk
  unfold measure_Add.f
  rw [E]
  simp only [Option.bind_some]
  cases T with
  | ok x0 x1 y0 y1 _ _ a b c d =>
    obtain ⟨rfl, rfl⟩ := H rfl
    rw [if_pos rfl, wrap_id (by omega) (by omega), Split_at (by omega) l _ h8, if_pos rfl]
    rfl
  | no h =>
    rw [if_neg (by omega), if_neg (by omega)]

/-! ### the example of the document -/
def u3 : List S41 := [(⟨(⟨#[109, 105, 110, 117, 116, 101]⟩ : ByteArray), 1⟩ : S41), (⟨(⟨#[104, 111, 117, 114]⟩ : ByteArray), 60⟩ : S41), (⟨(⟨#[100, 97, 121]⟩ : ByteArray), 1440⟩ : S41)]
theorem u3_small : Sml u3 := fun i a b => by
  have : i < 3 := b
  obtain rfl | rfl | rfl : i = 0 ∨ i = 1 ∨ i = 2 := by omega
  all_goals decide
theorem n0 : nm u3 0 = [109, 105, 110, 117, 116, 101] := by unfold nm; rw [ByteArray.toList_eq]; rfl
theorem n1 : nm u3 1 = [104, 111, 117, 114] := by unfold nm; rw [ByteArray.toList_eq]; rfl
theorem n2 : nm u3 2 = [100, 97, 121] := by unfold nm; rw [ByteArray.toList_eq]; rfl
theorem u3_val : Val u3 := by
  refine ⟨by decide, by decide, rfl, fun i a b => ?_⟩
  have : i < 3 := b
  obtain rfl | rfl | rfl : i = 0 ∨ i = 1 ∨ i = 2 := by omega
  · exact ⟨by rw [n0]; decide, fun j x y => by omega, by decide, fun x => by omega⟩
  · refine ⟨by rw [n1]; decide, fun j x y => ?_, by decide, fun _ => by decide⟩
    obtain rfl : j = 0 := by omega
    rw [n0, n1]; decide
  · refine ⟨by rw [n2]; decide, fun j x y => ?_, by decide, fun _ => by decide⟩
    obtain rfl | rfl : j = 0 ∨ j = 1 := by omega
    · rw [n0, n2]; decide
    · rw [n1, n2]; decide
theorem u3_acc {a b c : Int} (ha : 0 ≤ a) (hb : 0 ≤ b) (hc : 0 ≤ c) : Acc u3 [a, b, c] := ⟨u3_val, rfl, fun i h => by
  have : i < 3 := h
  obtain rfl | rfl | rfl : i = 0 ∨ i = 1 ∨ i = 2 := by omega
  · exact ha
  · exact hb
  · exact hc⟩
theorem u3_sum (a b c : Int) : psum u3 [a, b, c] u3.length = a + b * 60 + c * 1440 := by
  show 0 + a * 1 + b * 60 + c * 1440 = _
  omega
theorem u3_join {a b c : Int} (ha : 0 ≤ a) (hb : 0 ≤ b) (hc : 0 ≤ c) (h : a + b * 60 + c * 1440 ≤ 1099511627776) : Jn u3 [a, b, c] = (a + b * 60 + c * 1440, 0) := by
  have := Jn_ok ((ab_iff u3 [a, b, c]).2 (u3_acc ha hb hc)) (by rw [u3_sum]; exact h)
  rw [u3_sum] at this
  exact this
theorem u3_two {a b c d e f : Int} (ha : 0 ≤ a) (hb : 0 ≤ b) (hc : 0 ≤ c) (hd : 0 ≤ d) (he : 0 ≤ e) (hf : 0 ≤ f) (h : a + b * 60 + c * 1440 ≤ 1099511627776) (h' : d + e * 60 + f * 1440 ≤ 1099511627776) :
    Two u3 [a, b, c] [d, e, f] (a + b * 60 + c * 1440) (d + e * 60 + f * 1440) 0 ∧ ∀ k : Nat, 200 ≤ k → ∃ x' y', measure_both.f k u3 [a, b, c] [d, e, f] = some (x', y', 0) ∧ ((0 : Int) = 0 → x' = (a + b * 60 + c * 1440) ∧ y' = (d + e * 60 + f * 1440)) := by
  refine ⟨.ok _ _ (u3_acc ha hb hc) (u3_acc hd he hf) (u3_sum _ _ _).symm (u3_sum _ _ _).symm (by omega) h (by omega) h', fun k hk => ⟨_, _, ?_, fun _ => ⟨rfl, rfl⟩⟩⟩
  unfold measure_both.f
  rw [Join_at (by omega) u3 _ u3_small, Join_at (by omega) u3 _ u3_small, u3_join ha hb hc h, u3_join hd he hf h']
  rfl
theorem sp1 : sp u3 1505 = [5, 1, 1] := by kernel_rfl
theorem sp2 : sp u3 1440 = [0, 0, 1] := by kernel_rfl
theorem awake_at {k : Nat} (hk : 500 ≤ k) : pentaglotlaw16_awake.f k = some true := by
  obtain ⟨k, rfl⟩ : ∃ m, k = m + 1 := ⟨k - 1, by omega⟩
  have V := (vb_iff u3).2 u3_val
  obtain ⟨T1, B1⟩ := u3_two (a := 59) (b := 23) (c := 0) (d := 1) (e := 0) (f := 0) (by omega) (by omega) (by omega) (by omega) (by omega) (by omega) (by omega) (by omega)
  obtain ⟨T2, B2⟩ := u3_two (a := 59) (b := 0) (c := 0) (d := 0) (e := 1) (f := 0) (by omega) (by omega) (by omega) (by omega) (by omega) (by omega) (by omega) (by omega)
  have A1 := Add_at u3 u3_small _ _ T1 B1 (k := k + 1) (by omega)
  have A2 := Compare_at u3 _ _ T2 B2 (k := k + 1) (by omega)
  have J1 := u3_join (a := 65) (b := 0) (c := 1) (by omega) (by omega) (by omega) (by omega)
  unfold pentaglotlaw16_awake.f
  simp only [Option.bind_some]
  show ((measure_Split.f (k + 1) u3 1505).bind fun bt138 => _) = _
  rw [Split_at (by omega) u3 _ u3_small, Sp_ok V (by decide) (by decide)]
  simp only [Option.bind_some]
  show ((measure_Join.f (k + 1) u3 [65, 0, 1]).bind fun bt138 => _) = _
  rw [Join_at (by omega) u3 _ u3_small, J1]
  simp only [Option.bind_some]
  show ((measure_Add.f (k + 1) u3 [59, 23, 0] [1, 0, 0]).bind fun bt138 => _) = _
  rw [A1, if_pos rfl, show (59 + 23 * 60 + 0 * 1440 : Int) + (1 + 0 * 60 + 0 * 1440) = 1440 by omega, Sp_ok V (by decide) (by decide)]
  simp only [Option.bind_some]
  show ((measure_Compare.f (k + 1) u3 [59, 0, 0] [0, 1, 0]).bind fun bt138 => _) = _
  rw [A2]
  simp only [Option.bind_some]
  show ((measure_Split.f (k + 1) u3 (-1)).bind fun bt138 => _) = _
  rw [Split_at (by omega) u3 _ u3_small, Sp_no (fun x => absurd x.2 (by decide))]
  simp only [Option.bind_some]
  simp only [if_true]
  rw [if_pos (by decide), sp1, sp2]
  simp only [pentaglotlaw16_awake.j0]
  rw [if_neg (by decide), same_at _ _ (by decide) (by omega)]
  simp only [Option.bind_some]
  rw [if_pos (by decide), same_at _ _ (by decide) (by omega)]
  simp only [Option.bind_some]
  rw [if_pos (by decide)]
  show ((measure_Check.f k u3).bind fun bt138 => _) = _
  rw [Check_at (by omega) u3 u3_small, V]
  simp only [Option.bind_some]
  rw [if_pos trivial]
  show ((measure_Normal.f k u3 [65, 0, 1]).bind fun bt138 => _) = _
  rw [Normal_at (by omega) u3 _ u3_small]
  have N1 : nb u3 [65, 0, 1] = false := Bool.eq_false_iff.mpr fun h => by
    have := ((nb_iff _ _).1 h).low 0 (by decide)
    revert this
    decide
  have N2 : nb u3 [5, 1, 1] = true := (nb_iff _ _).2 (by
    have := (sp_acc u3_val (n := 1505) (by decide) (by decide)).1
    rwa [sp1] at this)
  rw [N1]
  simp only [Option.bind_some, Bool.false_eq_true, if_false]
  show ((measure_Normal.f k u3 [5, 1, 1]).bind fun bt138 => _) = _
  rw [Normal_at (by omega) u3 _ u3_small, N2]
  rfl
end Go.Proofs.Ytpfmcifiocpfbaa.Pure
