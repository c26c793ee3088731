/- The measure functions in plain numbers, fourth part: the laws' functions answer true. No program and no memory stands here. -/
import Derived.Test.YtpfmcifiocpfbaaPureC
set_option linter.unusedVariables false
set_option linter.unusedSimpArgs false
namespace Go.Proofs.Ytpfmcifiocpfbaa.Pure
open Go.RowKit Go.Proofs.Ytpfmcifiocpfbaa.C Go.Proofs.YtpfmcifiocpfbaaW.PrintWords

theorem sp_len {l : List S41} (v : Val l) {n : Int} (h0 : 0 ≤ n) (h1 : n ≤ 1099511627776) : ((sp l n).length : Int) ≤ 30 := by
  have := (sp_acc v h0 h1).1.acc.len
  have := v.l8
  omega
theorem Sp_len (l : List S41) (n : Int) : ((Sp l n).1.length : Int) ≤ 30 := by
  by_cases e : vb l = true ∧ 0 ≤ n
  · by_cases d : n > 1099511627776
    · rw [Sp_big e.1 d]; decide
    · rw [Sp_ok e.1 e.2 d]
      exact sp_len ((vb_iff l).1 e.1) e.2 (by omega)
  · rw [Sp_no e]; decide
inductive JnIs (l : List S41) (ps : List Int) : Int × Int → Prop
  | ok (a : Acc l ps) (h0 : 0 ≤ psum l ps l.length) (h1 : psum l ps l.length ≤ 1099511627776) (v : vb l = true) (b : ab l ps = true) : JnIs l ps (psum l ps l.length, 0)
  | big (a : Acc l ps) (h : ¬ psum l ps l.length ≤ 1099511627776) (v : vb l = true) (b : ab l ps = true) : JnIs l ps (0, 2)
  | no (a : ¬ Acc l ps) (b : ab l ps = false) : JnIs l ps (0, 1)
theorem Jn_is (l : List S41) (ps : List Int) : JnIs l ps (Jn l ps) := by
  by_cases e : ab l ps = true
  · have A := (ab_iff l ps).1 e
    by_cases f : psum l ps l.length ≤ 1099511627776
    · rw [Jn_ok e f]
      exact .ok A (psum_nonneg A.val A.non l.length (Nat.le_refl _) (by rw [A.len]; exact Nat.le_refl _)) f ((vb_iff l).2 A.val) e
    · rw [Jn_big e f]
      exact .big A f ((vb_iff l).2 A.val) e
  · rw [Jn_no e]
    exact .no (fun A => e ((ab_iff l ps).2 A)) (Bool.eq_false_iff.mpr e)
theorem nb_false {l : List S41} {ps : List Int} (h : ¬ Nor l ps) : nb l ps = false := Bool.eq_false_iff.mpr fun x => h ((nb_iff l ps).1 x)
theorem nb_same {l : List S41} {ps : List Int} (A : Acc l ps) (h : psum l ps l.length ≤ 1099511627776) : nb l ps = decide (sp l (psum l ps l.length) = ps) := by
  rw [Bool.eq_iff_iff, nb_iff, decide_eq_true_iff]
  exact nor_iff A h
theorem MeasureSplit (l : List S41) (n : Int) : ∃ k, pentaglotlaw16_MeasureSplit.f k l n = some true := by
  obtain ⟨K, hK⟩ : ∃ K : Nat, K = 1000 := ⟨_, rfl⟩
  refine ⟨K, ?_⟩
  unfold pentaglotlaw16_MeasureSplit.f
  rw [awake_at (by omega)]
  simp only [Option.bind_some, if_true]
  obtain ⟨b, G, H⟩ := great_at (k := K) (by omega) l []
  rw [G]
  simp only [Option.bind_some]
  cases b with
  | true => rfl
  | false =>
    obtain ⟨h8, _, _⟩ := H rfl
    rw [if_neg (by decide), Split_at (by omega) l n h8, refSplit_at (by omega)]
    simp only [Option.bind_some]
    rw [Check_at (by omega) l h8, refCheck_at (by omega)]
    simp only [Option.bind_some, beq_self_eq_true, if_true]
    rw [same_at _ _ (Sp_len l n) (by omega)]
    simp
/-- What Convert gives. -/
noncomputable def Cv (l l' : List S41) (ps : List Int) : List Int × Int := if vb l' = true then (if (Jn l ps).2 = 0 then (sp l' (Jn l ps).1, 0) else ([], (Jn l ps).2)) else ([], 1)
theorem Convert_at {k : Nat} (hk : 200 ≤ k) (l l' : List S41) (ps : List Int) (h8 : Sml l) (h8' : Sml l') : measure_Convert.f k l l' ps = some (Cv l l' ps) := by
  unfold measure_Convert.f Cv
  rw [Check_at (by omega) l' h8']
  simp only [Option.bind_some]
  by_cases e : vb l' = true
  · rw [if_pos e, if_pos e, Join_at (by omega) l ps h8]
    simp only [Option.bind_some]
    have J := Jn_is l ps
    revert J
    generalize Jn l ps = j
    intro J
    cases J with
    | ok a h0 h1 v b =>
      rw [if_pos rfl, if_pos rfl, (split_at (k := k) (by omega) ((vb_iff l').1 e) h0 h1).1]
      rfl
    | big => rfl
    | no => rfl
  · rw [if_neg e, if_neg e]
theorem Cv_ok {l l' : List S41} {ps : List Int} (v : vb l' = true) (h : (Jn l ps).2 = 0) : Cv l l' ps = (sp l' (Jn l ps).1, 0) := (if_pos v).trans (if_pos h)
theorem Cv_e {l l' : List S41} {ps : List Int} (v : vb l' = true) (h : ¬ (Jn l ps).2 = 0) : Cv l l' ps = ([], (Jn l ps).2) := (if_pos v).trans (if_neg h)
theorem Cv_no {l l' : List S41} {ps : List Int} (v : ¬ vb l' = true) : Cv l l' ps = ([], 1) := if_neg v
theorem refConvert_at {k : Nat} (hk : 400 ≤ k) (l l' : List S41) (ps : List Int) : pentaglotref16_Convert.f k l l' ps = some (Cv l l' ps) := by
  obtain ⟨k, rfl⟩ : ∃ m, k = m + 1 := ⟨k - 1, by omega⟩
  unfold pentaglotref16_Convert.f
  rw [refvalid_at (by omega)]
  simp only [Option.bind_some, pentaglotref16_Convert.j0]
  by_cases e : ab l ps = true
  · rw [if_pos e, refCheck_at (by omega)]
    simp only [Option.bind_some]
    by_cases f : vb l' = true
    · rw [f, if_neg (by decide), refJoin_at (by omega)]
      simp only [Option.bind_some]
      have J := Jn_is l ps
      generalize hj : Jn l ps = j at J
      cases J with
      | ok a h0 h1 v b =>
        rw [Cv_ok f (by rw [hj]), hj, if_pos rfl, refSplit_at (by omega), Sp_ok f h0 (by omega)]
        rfl
      | big =>
        rw [Cv_e f (by rw [hj]; decide), hj]
        rfl
      | no a b => rw [e] at b; cases b
    · rw [Bool.eq_false_iff.mpr f, Cv_no f]
      rfl
  · rw [if_neg e, if_pos trivial]
    by_cases f : vb l' = true
    · rw [Cv_e f (by rw [Jn_no e]; decide), Jn_no e]
    · rw [Cv_no f]
theorem Cv_len (l l' : List S41) (ps : List Int) : ((Cv l l' ps).1.length : Int) ≤ 30 := by
  by_cases f : vb l' = true
  · have J := Jn_is l ps
    generalize hj : Jn l ps = j at J
    cases J with
    | ok a h0 h1 v b =>
      rw [Cv_ok f (by rw [hj]), hj]
      exact sp_len ((vb_iff l').1 f) h0 h1
    | big => rw [Cv_e f (by rw [hj]; simp)]; simp
    | no => rw [Cv_e f (by rw [hj]; simp)]; simp
  · rw [Cv_no f]; decide
theorem Cv_e1 {l l' : List S41} {ps : List Int} (h : ¬ (Cv l l' ps).2 = 0) : (Cv l l' ps).1 = [] := by
  by_cases f : vb l' = true
  · by_cases g : (Jn l ps).2 = 0
    · rw [Cv_ok f g] at h; exact absurd rfl h
    · rw [Cv_e f g]
  · rw [Cv_no f]
theorem Cv_self (l : List S41) (ps : List Int) : (Cv l l ps).2 = (Jn l ps).2 := by
  by_cases f : vb l = true
  · by_cases g : (Jn l ps).2 = 0
    · rw [Cv_ok f g, g]
    · rw [Cv_e f g]
  · have : ¬ ab l ps = true := fun x => f ((vb_iff l).2 ((ab_iff l ps).1 x).val)
    rw [Cv_no f, Jn_no this]
theorem MeasureConvert (l l' : List S41) (ps : List Int) : ∃ k, pentaglotlaw16_MeasureConvert.f k l l' ps = some true := by
  obtain ⟨K, hK⟩ : ∃ K : Nat, K = 1000 := ⟨_, rfl⟩
  refine ⟨K + 1, ?_⟩
  unfold pentaglotlaw16_MeasureConvert.f
  rw [awake_at (by omega)]
  simp only [Option.bind_some, if_true]
  obtain ⟨b, G, H⟩ := great_at (k := K + 1) (by omega) l ps
  obtain ⟨b', G', H'⟩ := great_at (k := K + 1) (by omega) l' []
  rw [G]
  simp only [Option.bind_some]
  cases b with
  | true => simp [pentaglotlaw16_MeasureConvert.j0]
  | false =>
    rw [if_neg (by decide), G']
    simp only [Option.bind_some, pentaglotlaw16_MeasureConvert.j0]
    cases b' with
    | true => rfl
    | false =>
      obtain ⟨h8, _, _⟩ := H rfl
      obtain ⟨h8', _, _⟩ := H' rfl
      rw [if_neg (by decide), Convert_at (by omega) l l' ps h8 h8', refConvert_at (by omega)]
      simp only [Option.bind_some, if_true]
      rw [same_at _ _ (Cv_len l l' ps) (by omega)]
      simp
theorem refNormal_at {k : Nat} (hk : 400 ≤ k) (l : List S41) (ps : List Int) : pentaglotref16_Normal.f k l ps = some (nb l ps) := by
  unfold pentaglotref16_Normal.f
  rw [refJoin_at (by omega)]
  simp only [Option.bind_some]
  have J := Jn_is l ps
  generalize hj : Jn l ps = j at J
  cases J with
  | ok a h0 h1 v b =>
    rw [if_pos rfl, refSplit_at (by omega), Sp_ok v h0 (by omega)]
    simp only [Option.bind_some]
    rw [refsame_at _ _ (sp_len a.val h0 h1) (by omega), nb_same a h1]
    rfl
  | big a h => rw [nb_false (fun N => h N.sum)]; rfl
  | no a => rw [nb_false (fun N => a N.acc)]; rfl
theorem Normalize_at {k : Nat} (hk : 200 ≤ k) (l : List S41) (ps : List Int) (h8 : Sml l) : measure_Normalize.f k l ps = some (Cv l l ps) := by
  unfold measure_Normalize.f
  rw [Convert_at hk l l ps h8 h8]
  rfl
theorem MeasureJoin (l : List S41) (ps : List Int) : ∃ k, pentaglotlaw16_MeasureJoin.f k l ps = some true := by
  obtain ⟨K, hK⟩ : ∃ K : Nat, K = 1000 := ⟨_, rfl⟩
  refine ⟨K + 1, ?_⟩
  unfold pentaglotlaw16_MeasureJoin.f
  rw [awake_at (by omega)]
  simp only [Option.bind_some, if_true]
  obtain ⟨b, G, H⟩ := great_at (k := K + 1) (by omega) l ps
  rw [G]
  simp only [Option.bind_some]
  cases b with
  | true => rfl
  | false =>
    obtain ⟨h8, _, _⟩ := H rfl
    rw [if_neg (by decide), Join_at (by omega) l ps h8, refJoin_at (by omega)]
    simp only [Option.bind_some, if_true]
    rw [Normal_at (by omega) l ps h8, refNormal_at (by omega)]
    simp only [Option.bind_some, bne_self_eq_false, pentaglotlaw16_MeasureJoin.j0, Bool.false_eq_true, if_false]
    rw [Normalize_at (by omega) l ps h8, refSplit_at (by omega)]
    simp only [Option.bind_some]
    have S := Cv_self l ps
    by_cases e : (Jn l ps).2 = 0
    · rw [if_pos e, if_pos (by rw [S, e]), same_at _ _ (Cv_len l l ps) (by omega)]
      have J := Jn_is l ps
      generalize hj : Jn l ps = j at J
      cases J with
      | ok a h0 h1 v b =>
        rw [Cv_ok v (by rw [hj]), hj, Sp_ok v h0 (by omega)]
        simp
      | big => rw [hj] at e; cases e
      | no => rw [hj] at e; cases e
    · rw [if_neg e, if_pos S, Cv_e1 (by rw [S]; exact e)]
      rfl
theorem MeasureBack (l : List S41) (n : Int) (ps : List Int) : ∃ k, pentaglotlaw16_MeasureBack.f k l n ps = some true := by
  obtain ⟨K, hK⟩ : ∃ K : Nat, K = 1000 := ⟨_, rfl⟩
  refine ⟨K + 1, ?_⟩
  unfold pentaglotlaw16_MeasureBack.f
  rw [awake_at (by omega)]
  simp only [Option.bind_some, if_true]
  obtain ⟨b, G, H⟩ := great_at (k := K + 1) (by omega) l ps
  rw [G]
  simp only [Option.bind_some]
  cases b with
  | true => rfl
  | false =>
    obtain ⟨h8, _, h12⟩ := H rfl
    have fin : pentaglotlaw16_MeasureBack.j0 (K + 1) l ps = some true := by
      simp only [pentaglotlaw16_MeasureBack.j0]
      rw [Join_at (by omega) l ps h8]
      simp only [Option.bind_some]
      have J := Jn_is l ps
      generalize hj : Jn l ps = j at J
      cases J with
      | ok a h0 h1 v b =>
        rw [if_pos rfl, Split_at (by omega) l _ h8, Sp_ok v h0 (by omega)]
        simp only [Option.bind_some, if_true]
        rw [Normal_at (by omega) l ps h8, same_at _ _ (sp_len a.val h0 h1) (by omega), nb_same a h1]
        simp
      | big a h =>
        rw [if_neg (by decide), Normal_at (by omega) l ps h8, nb_false (fun N => h N.sum)]
        rfl
      | no a =>
        rw [if_neg (by decide), Normal_at (by omega) l ps h8, nb_false (fun N => a N.acc)]
        rfl
    rw [if_neg (by decide), Split_at (by omega) l n h8]
    simp only [Option.bind_some]
    by_cases e : (Sp l n).2 = 0
    · rw [if_pos e]
      have vn : vb l = true ∧ 0 ≤ n := by
        by_cases x : vb l = true ∧ 0 ≤ n
        · exact x
        · rw [Sp_no x] at e; cases e
      have nm : ¬ n > 1099511627776 := fun x => by rw [Sp_big vn.1 x] at e; cases e
      have v := (vb_iff l).1 vn.1
      obtain ⟨N, S⟩ := sp_acc v vn.2 (show n ≤ 1099511627776 by omega)
      rw [Sp_ok vn.1 vn.2 nm, Join_at (by omega) l _ h8, Jn_ok ((ab_iff _ _).2 N.acc) N.sum, S]
      simp only [Option.bind_some, if_true]
      rw [Normal_at (by omega) l _ h8, (nb_iff _ _).2 N]
      simp only [Option.bind_some, if_true]
      exact fin
    · rw [if_neg e]
      exact fin
theorem large_loop (l : List S41) (n : Int) (ps : List Int) (N : Nor l ps) (h8 : (l.length : Int) ≤ 8) : ∀ (k m : Nat), m ≤ l.length → l.length - m < k → pentaglotlaw16_MeasureLarge.l0 k l n ps (psum l ps m) (m : Int) = some (psum l ps l.length == n)
  | 0, m, a, b => by omega
  | k + 1, m, a, b => by
    have hl := N.acc.len
    simp only [pentaglotlaw16_MeasureLarge.l0]
    by_cases e : (m : Int) < (ps.length : Int)
    · have p := N.acc.val.pos (i := m) (by omega) (by omega)
      have t := N.acc.val.top (i := m) (by omega) (by omega)
      have n0 := N.acc.non m (by omega)
      have M := psum_nonneg N.acc.val N.acc.non m (by omega) (by omega)
      have M1 := psum_mono N.acc.val N.acc.non (m := m) l.length (by omega) (by omega) (by omega)
      have M2 := psum_mono N.acc.val N.acc.non (m := m + 1) l.length (by omega) (by omega) (by omega)
      have hs : psum l ps (m + 1) = psum l ps m + rd ps m * sz l m := rfl
      have lt := psum_lt N.acc.val N.acc.non N.low hl m (by omega)
      have sm := N.sum
      have le := part_le n0 p
      have Q := mul_small n0 (by omega) (show 0 ≤ sz l m by omega) t
      have hz : (rd_T41 l m).f1 = sz l m := rfl
      have go : pentaglotlaw16_MeasureLarge.l0 k l n ps (wrap64 (psum l ps m + wrap64 (rd ps m * sz l m))) (wrap64 ((m : Int) + 1)) = some (psum l ps l.length == n) := by
        rw [wrap_id (x := rd ps m * sz l m) (by omega) (by omega), wrap_id (x := psum l ps m + rd ps m * sz l m) (by omega) (by omega), wrap_id (x := (m : Int) + 1) (by omega) (by omega)]
        have R := large_loop l n ps N h8 k (m + 1) (by omega) (by omega)
        rw [hs, show (((m + 1 : Nat)) : Int) = (m : Int) + 1 by omega] at R
        exact R
      rw [if_pos e, if_pos (by omega), if_pos (by omega), hz, if_neg (by omega), if_neg (by omega)]
      exact go
    · obtain rfl : m = l.length := by omega
      rw [if_neg e]
theorem MeasureLarge (l : List S41) (n : Int) : ∃ k, pentaglotlaw16_MeasureLarge.f k l n = some true := by
  obtain ⟨K, hK⟩ : ∃ K : Nat, K = 1000 := ⟨_, rfl⟩
  refine ⟨K + 1, ?_⟩
  unfold pentaglotlaw16_MeasureLarge.f
  rw [awake_at (by omega)]
  simp only [Option.bind_some, if_true]
  obtain ⟨b, G, H⟩ := great_at (k := K + 1) (by omega) l []
  rw [G]
  simp only [Option.bind_some]
  cases b with
  | true => rfl
  | false =>
    obtain ⟨h8, _, _⟩ := H rfl
    rw [if_neg (by decide), Split_at (by omega) l n h8]
    simp only [Option.bind_some]
    by_cases x : vb l = true ∧ 0 ≤ n
    · have v := (vb_iff l).1 x.1
      by_cases y : n > 1099511627776
      · rw [Sp_big x.1 y, if_neg (by decide), Check_at (by omega) l h8, x.1]
        simp only [Option.bind_some, if_true]
        rw [if_neg (by omega), decide_eq_true y]
      · obtain ⟨N, S⟩ := sp_acc v x.2 (show n ≤ 1099511627776 by omega)
        have := v.l8
        rw [Sp_ok x.1 x.2 y, if_pos rfl, if_pos (by rw [N.acc.len])]
        have R := large_loop l n _ N v.l8 (K + 1) 0 (by omega) (by omega)
        rw [show psum l (sp l n) 0 = 0 from rfl, show (((0 : Nat)) : Int) = 0 from rfl, S] at R
        rw [R]
        simp
    · rw [Sp_no x, if_neg (by decide), Check_at (by omega) l h8]
      simp only [Option.bind_some]
      by_cases y : vb l = true
      · have : ¬ 0 ≤ n := fun z => x ⟨y, z⟩
        rw [if_pos y, if_pos (by omega)]
      · rw [if_neg y]
theorem MeasureSums (l : List S41) (p q : List Int) : ∃ k, pentaglotlaw16_MeasureSums.f k l p q = some true := by
  obtain ⟨K, hK⟩ : ∃ K : Nat, K = 1000 := ⟨_, rfl⟩
  refine ⟨K + 4, ?_⟩
  unfold pentaglotlaw16_MeasureSums.f
  rw [awake_at (by omega)]
  simp only [Option.bind_some, if_true]
  obtain ⟨b, G, H⟩ := great_at (k := K + 4) (by omega) l p
  obtain ⟨b', G', H'⟩ := great_at (k := K + 4) (by omega) [] q
  rw [G]
  simp only [Option.bind_some]
  cases b with
  | true => simp [pentaglotlaw16_MeasureSums.j0]
  | false =>
    rw [if_neg (by decide), G']
    simp only [Option.bind_some, pentaglotlaw16_MeasureSums.j0]
    cases b' with
    | true => rfl
    | false =>
      obtain ⟨h8, _, _⟩ := H rfl
      obtain ⟨x, y, e, T, R, B⟩ := two l p q h8
      have fin : pentaglotlaw16_MeasureSums.j2 (K + 2) l p q x y e (cm x y) = some true := by
        simp only [pentaglotlaw16_MeasureSums.j2]
        rw [Compare_at l p q T B (by omega)]
        simp only [Option.bind_some, if_true, bne_self_eq_false, pentaglotlaw16_MeasureSums.j3, Bool.false_eq_true, if_false]
        rw [Add_at l h8 p q T B (by omega)]
        simp only [Option.bind_some]
        by_cases z : e = 0
        · rw [if_pos z, if_pos z]
          have w : wrap64 (x + y) = x + y := by
            cases T with
            | ok _ _ _ _ _ _ a b c d => exact wrap_id (by omega) (by omega)
            | no => exact wrap_id (by omega) (by omega)
          rw [w, refSplit_at (by omega)]
          simp only [Option.bind_some, if_true]
          rw [same_at _ _ (Sp_len l _) (by omega)]
          simp
        · rw [if_neg z, if_neg z, if_pos rfl]
          rfl
      rw [if_neg (by decide), R _ (by omega)]
      simp only [Option.bind_some, pentaglotlaw16_MeasureSums.j1]
      have c : cm x y = (if x < y then -1 else (if x > y then 1 else 0)) := rfl
      by_cases f : x < y
      · rw [if_pos f] at c ⊢
        rw [if_neg (by omega), ← c]
        exact fin
      · rw [if_neg f] at c ⊢
        by_cases g : x > y
        · rw [if_pos g] at c ⊢
          rw [← c]
          exact fin
        · rw [if_neg g] at c ⊢
          rw [← c]
          exact fin
theorem MeasureAdds (l : List S41) (p q : List Int) : ∃ k, pentaglotlaw16_MeasureAdds.f k l p q = some true := by
  obtain ⟨K, hK⟩ : ∃ K : Nat, K = 1000 := ⟨_, rfl⟩
  refine ⟨K + 4, ?_⟩
  unfold pentaglotlaw16_MeasureAdds.f
  rw [awake_at (by omega)]
  simp only [Option.bind_some, if_true]
  obtain ⟨b, G, H⟩ := great_at (k := K + 4) (by omega) l p
  obtain ⟨b', G', H'⟩ := great_at (k := K + 4) (by omega) [] q
  rw [G]
  simp only [Option.bind_some]
  cases b with
  | true => simp [pentaglotlaw16_MeasureAdds.j0]
  | false =>
    rw [if_neg (by decide), G']
    simp only [Option.bind_some, pentaglotlaw16_MeasureAdds.j0]
    cases b' with
    | true => rfl
    | false =>
      obtain ⟨h8, _, _⟩ := H rfl
      obtain ⟨x, y, e, T, R, B⟩ := two l p q h8
      obtain ⟨x', y', e', T', R', B'⟩ := two l q p h8
      have A1 := Add_at l h8 p q T B (k := K + 3) (by omega)
      have A2 := Add_at l h8 q p T' B' (k := K + 3) (by omega)
      have E : (if e = 0 then Sp l (x + y) else ([], e)) = (if e' = 0 then Sp l (x' + y') else ([], e')) := by
        cases T with
        | ok _ _ a b hx hy x0 x1 y0 y1 =>
          cases T' with
          | ok _ _ a' b' hx' hy' => rw [hx, hy, hx', hy', Int.add_comm]
          | no _ h n i => exact absurd ⟨by rw [Jn_ok ((ab_iff _ _).2 b) (by omega)], by rw [Jn_ok ((ab_iff _ _).2 a) (by omega)]⟩ n
        | no _ h n i =>
          cases T' with
          | ok _ _ a' b' hx' hy' x0 x1 y0 y1 => exact absurd ⟨by rw [Jn_ok ((ab_iff _ _).2 b') (by omega)], by rw [Jn_ok ((ab_iff _ _).2 a') (by omega)]⟩ n
          | no _ h' n' i' =>
            have : e = e' := by
              by_cases z : e = 1
              · have := i'.2 (fun w => (i.1 z) ⟨w.2, w.1⟩); omega
              · have : ¬ e' = 1 := fun z' => z (i.2 (fun w => (i'.1 z') ⟨w.2, w.1⟩))
                omega
            rw [this]
      rw [if_neg (by decide), A1, A2, ← E]
      simp only [Option.bind_some, if_true]
      have len : (((if e = 0 then Sp l (x + y) else ([], e)) : List Int × Int).1.length : Int) ≤ 30 := by
        by_cases z : e = 0
        · rw [if_pos z]; exact Sp_len l _
        · rw [if_neg z]; simp
      rw [same_at _ _ len (by omega)]
      simp only [Option.bind_some, decide_true, Bool.not_true, pentaglotlaw16_MeasureAdds.j1, Bool.false_eq_true, if_false]
      rw [Join_at (by omega) l p h8, Join_at (by omega) l q h8]
      simp only [Option.bind_some, pentaglotlaw16_MeasureAdds.j2]
      cases T with
      | ok _ _ a b hx hy x0 x1 y0 y1 =>
        have v := (vb_iff l).2 a.val
        rw [Jn_ok ((ab_iff _ _).2 a) (by omega), Jn_ok ((ab_iff _ _).2 b) (by omega)]
        simp only [if_true, bne_self_eq_false, Bool.false_eq_true, if_false]
        rw [← hx, ← hy, wrap_id (by omega) (by omega)]
        by_cases z : x + y > 1099511627776
        · rw [Sp_big v z, if_neg (by decide), if_pos rfl, decide_eq_true z]
        · obtain ⟨N, S⟩ := sp_acc a.val (n := x + y) (by omega) (by omega)
          rw [Sp_ok v (by omega) z, if_pos rfl, Join_at (by omega) l _ h8, Jn_ok ((ab_iff _ _).2 N.acc) N.sum, S]
          simp only [Option.bind_some, if_true]
          rw [Normal_at (by omega) l _ h8, (nb_iff _ _).2 N]
          rfl
      | no _ h n i =>
        have ne : ¬ e = 0 := by omega
        have nb0 : (e != 0) = true := bne_iff_ne.mpr ne
        rw [if_neg ne]
        by_cases z : (Jn l p).2 = 0
        · rw [if_pos z, if_pos (bne_iff_ne.mpr (fun w => n ⟨z, w⟩))]
          exact congrArg some nb0
        · rw [if_neg z]
          exact congrArg some nb0
theorem order_loop (l : List S41) (p q : List Int) (P : Nor l p) (Q : Nor l q) (h8 : (l.length : Int) ≤ 8) (c : Int) : ∀ (m k : Nat), m ≤ l.length → m < k → psum l p l.length - psum l p m = psum l q l.length - psum l q m → c = cm (psum l p l.length) (psum l q l.length) →
    pentaglotlaw16_MeasureOrder.l0 k p q c 0 ((m : Int) - 1) = some true
  | 0, k, a, b, d, e => by
    obtain ⟨k, rfl⟩ : ∃ q, k = q + 1 := ⟨k - 1, by omega⟩
    simp only [pentaglotlaw16_MeasureOrder.l0]
    have : psum l p 0 = 0 := rfl
    have : psum l q 0 = 0 := rfl
    have : c = 0 := by rw [e]; unfold cm; rw [if_neg (by omega), if_neg (by omega)]
    rw [if_neg (by omega), if_pos this]
    rfl
  | m + 1, k, a, b, d, e => by
    obtain ⟨k, rfl⟩ : ∃ q, k = q + 1 := ⟨k - 1, by omega⟩
    have hp := P.acc.len
    have hq := Q.acc.len
    simp only [pentaglotlaw16_MeasureOrder.l0]
    rw [show (((m + 1 : Nat)) : Int) - 1 = (m : Int) by omega, if_pos (by omega), if_pos (by omega), if_pos (by omega), if_pos (by omega)]
    have v := P.acc.val
    have s0 := v.pos (i := m) (by omega) (by omega)
    have lp := psum_lt v P.acc.non P.low hp m (by omega)
    have lq := psum_lt v Q.acc.non Q.low hq m (by omega)
    have np := psum_nonneg v P.acc.non m (by omega) (by omega)
    have nq := psum_nonneg v Q.acc.non m (by omega) (by omega)
    have ep : psum l p (m + 1) = psum l p m + rd p m * sz l m := rfl
    have eq : psum l q (m + 1) = psum l q m + rd q m * sz l m := rfl
    have less : ∀ {x y : Int}, x < y → x * sz l m + sz l m ≤ y * sz l m := fun {x y} h => by
      have := Int.mul_le_mul_of_nonneg_right (show x + 1 ≤ y by omega) (show 0 ≤ sz l m by omega)
      rwa [Int.add_mul, Int.one_mul] at this
    by_cases f : rd p m < rd q m
    · have := less f
      have : c = -1 := by rw [e]; unfold cm; rw [if_pos (by omega)]
      rw [if_pos f, this]
      rfl
    · rw [if_neg f]
      by_cases g : rd p m > rd q m
      · have := less g
        have : c = 1 := by rw [e]; unfold cm; rw [if_neg (by omega), if_pos (by omega)]
        rw [if_pos g, this]
        rfl
      · have : rd p m = rd q m := by omega
        rw [if_neg g, wrap_id (by omega) (by omega)]
        exact order_loop l p q P Q h8 c m k (by omega) (by omega) (by rw [ep, eq, this] at d; omega) e
theorem MeasureOrder (l : List S41) (p q : List Int) : ∃ k, pentaglotlaw16_MeasureOrder.f k l p q = some true := by
  obtain ⟨K, hK⟩ : ∃ K : Nat, K = 1000 := ⟨_, rfl⟩
  refine ⟨K + 4, ?_⟩
  unfold pentaglotlaw16_MeasureOrder.f
  rw [awake_at (by omega)]
  simp only [Option.bind_some, if_true]
  obtain ⟨b, G, H⟩ := great_at (k := K + 4) (by omega) l p
  obtain ⟨b', G', H'⟩ := great_at (k := K + 4) (by omega) [] q
  rw [G]
  simp only [Option.bind_some]
  cases b with
  | true => simp [pentaglotlaw16_MeasureOrder.j0]
  | false =>
    rw [if_neg (by decide), G']
    simp only [Option.bind_some, pentaglotlaw16_MeasureOrder.j0]
    cases b' with
    | true => rfl
    | false =>
      obtain ⟨h8, _, _⟩ := H rfl
      obtain ⟨x, y, e, T, R, B⟩ := two l p q h8
      obtain ⟨x', y', e', T', R', B'⟩ := two l q p h8
      rw [if_neg (by decide), Compare_at l p q T B (k := K + 3) (by omega), Compare_at l q p T' B' (k := K + 3) (by omega)]
      simp only [Option.bind_some]
      have E : e = e' ∧ x = y' ∧ y = x' := by
        cases T with
        | ok _ _ a b hx hy x0 x1 y0 y1 =>
          cases T' with
          | ok _ _ a' b' hx' hy' => exact ⟨rfl, hx.trans hy'.symm, hy.trans hx'.symm⟩
          | no _ h n i => exact absurd ⟨by rw [Jn_ok ((ab_iff _ _).2 b) (by omega)], by rw [Jn_ok ((ab_iff _ _).2 a) (by omega)]⟩ n
        | no _ h n i =>
          cases T' with
          | ok _ _ a' b' hx' hy' x0 x1 y0 y1 => exact absurd ⟨by rw [Jn_ok ((ab_iff _ _).2 b') (by omega)], by rw [Jn_ok ((ab_iff _ _).2 a') (by omega)]⟩ n
          | no _ h' n' i' =>
            refine ⟨?_, rfl, rfl⟩
            by_cases z : e = 1
            · have := i'.2 (fun w => (i.1 z) ⟨w.2, w.1⟩); omega
            · have : ¬ e' = 1 := fun z' => z (i.2 (fun w => (i'.1 z') ⟨w.2, w.1⟩))
              omega
      obtain ⟨rfl, rfl, rfl⟩ := E
      have C : cm x y = wrap64 (-(cm y x)) := by
        unfold cm
        by_cases f : x < y
        · rw [if_pos f, if_neg (by omega), if_pos (by omega)]; unfold wrap64; omega
        · by_cases g : x > y
          · rw [if_neg f, if_pos g, if_pos (by omega)]; unfold wrap64; omega
          · rw [if_neg f, if_neg g, if_neg (by omega), if_neg (by omega)]; unfold wrap64; omega
      rw [if_pos rfl, ← C]
      simp only [bne_self_eq_false, pentaglotlaw16_MeasureOrder.j1, Bool.false_eq_true, if_false]
      rw [Normal_at (by omega) l p h8]
      simp only [Option.bind_some, pentaglotlaw16_MeasureOrder.j2]
      by_cases N : nb l p = true
      · rw [if_pos N, Normal_at (by omega) l q h8]
        simp only [Option.bind_some]
        by_cases N' : nb l q = true
        · rw [N']
          simp only [Bool.not_true, Bool.false_eq_true, if_false]
          have P := (nb_iff _ _).1 N
          have Q := (nb_iff _ _).1 N'
          have h8' := P.acc.val.l8
          have hp := P.acc.len
          cases T with
          | ok _ _ a b hx hy =>
            rw [wrap_id (by omega) (by omega), hp]
            exact order_loop l p q P Q h8' _ l.length _ (Nat.le_refl _) (by omega) (by omega) (by rw [hx, hy])
          | no _ h n i => exact absurd ⟨by rw [Jn_ok ((ab_iff _ _).2 P.acc) P.sum], by rw [Jn_ok ((ab_iff _ _).2 Q.acc) Q.sum]⟩ n
        · rw [Bool.eq_false_iff.mpr N']
          rfl
      · rw [if_neg N, if_pos trivial]
theorem MeasureRound (l l' : List S41) (ps : List Int) : ∃ k, pentaglotlaw16_MeasureRound.f k l l' ps = some true := by
  obtain ⟨K, hK⟩ : ∃ K : Nat, K = 1000 := ⟨_, rfl⟩
  refine ⟨K + 1, ?_⟩
  unfold pentaglotlaw16_MeasureRound.f
  rw [awake_at (by omega)]
  simp only [Option.bind_some, if_true]
  obtain ⟨b, G, H⟩ := great_at (k := K + 1) (by omega) l ps
  obtain ⟨b', G', H'⟩ := great_at (k := K + 1) (by omega) l' []
  rw [G]
  simp only [Option.bind_some]
  cases b with
  | true => simp [pentaglotlaw16_MeasureRound.j0]
  | false =>
    rw [if_neg (by decide), G']
    simp only [Option.bind_some, pentaglotlaw16_MeasureRound.j0]
    cases b' with
    | true => rfl
    | false =>
      obtain ⟨h8, _, _⟩ := H rfl
      obtain ⟨h8', _, _⟩ := H' rfl
      rw [if_neg (by decide), Convert_at (by omega) l l' ps h8 h8']
      simp only [Option.bind_some]
      by_cases e : (Cv l l' ps).2 = 0
      · rw [if_pos e]
        have v' : vb l' = true := by
          by_cases x : vb l' = true
          · exact x
          · rw [Cv_no x] at e; cases e
        have J := Jn_is l ps
        generalize hj : Jn l ps = j at J
        cases J with
        | ok a h0 h1 v b =>
          obtain ⟨N, S⟩ := sp_acc ((vb_iff l').1 v') h0 h1
          have J' : Jn l' (sp l' (psum l ps l.length)) = (psum l ps l.length, 0) := by rw [Jn_ok ((ab_iff _ _).2 N.acc) N.sum, S]
          rw [Cv_ok v' (by rw [hj]), hj]
          simp only []
          rw [Convert_at (by omega) l' l _ h8' h8, Cv_ok v (by rw [J']), J']
          simp only [Option.bind_some]
          rw [Normalize_at (by omega) l ps h8, Cv_ok v (by rw [hj]), hj]
          simp only [Option.bind_some]
          rw [Join_at (by omega) l' _ h8', J', Join_at (by omega) l ps h8, hj]
          simp only [Option.bind_some, if_true]
          rw [same_at _ _ (sp_len a.val h0 h1) (by omega)]
          simp only [Option.bind_some, decide_true, if_true]
          rw [Normal_at (by omega) l' _ h8', (nb_iff _ _).2 N]
          rfl
        | big => rw [Cv_e v' (by rw [hj]; decide), hj] at e; cases e
        | no => rw [Cv_e v' (by rw [hj]; decide), hj] at e; cases e
      · rw [if_neg e]
end Go.Proofs.Ytpfmcifiocpfbaa.Pure
