-- WRITTEN BY mkprint.py, a program of this session, over the kit's print of the given program. Not trusted: Lean checks it.
import Derived.Test.YtknbgpgoljfkjaaDoorCx0
namespace Go.Proofs.YtknbgpgoljfkjaaDoor.C
open Go.RowKit Go.Proofs.YtknbgpgoljfkjaaDoorW.PrintWords Go.Proofs.YtknbgpgoljfkjaaDoorW.PrintLast Go.Proofs.YtknbgpgoljfkjaaDoorW.PrintMore
attribute [local go_sem] max2_int min2_int max_two min_two max_three min_three max_four min_four   -- for this text's walks alone
set_option linter.unusedVariables false
set_option linter.unusedSimpArgs false

/-! DEFS clock_known -/
def clock_known.f (a0 : Int) : Option (Bool) := if a0 = 1 then (some true) else (if a0 = 2 then (some true) else (if a0 = 3 then (some true) else (some false)))

/-! DEFS clock_Time -/
def clock_Time.j0 : Nat → Int → Int → Bool → Option (Int × Int × Int × Int × Int)
  | 0, _, _, _ => none
  | k + 1, x0, x1, x18 => if x18 = true then (some (0, 0, 0, 0, 1)) else (if x0 = 2 then (if (Int.tmod (wrap64 (Int.tdiv x1 60)) 12) = 0 then (some (x0, wrap64 (Int.tdiv (wrap64 (Int.tdiv x1 60)) 12), 12, Int.tmod x1 60, 0)) else (some (x0, wrap64 (Int.tdiv (wrap64 (Int.tdiv x1 60)) 12), Int.tmod (wrap64 (Int.tdiv x1 60)) 12, Int.tmod x1 60, 0))) else (if x0 = 3 then (some (x0, wrap64 (Int.tdiv (wrap64 (Int.tdiv x1 60)) 4), Int.tmod (wrap64 (Int.tdiv x1 60)) 4, Int.tmod x1 60, 0)) else (some (x0, 0, wrap64 (Int.tdiv x1 60), Int.tmod x1 60, 0))))
def clock_Time.f (k : Nat) (a0 : Int) (a1 : Int) : Option (Int × Int × Int × Int × Int) := (clock_known.f a0).bind fun t102 => (if t102 = true then (if a1 < 0 then (clock_Time.j0 k a0 a1 true) else (clock_Time.j0 k a0 a1 (decide (a1 ≥ 1440)))) else (clock_Time.j0 k a0 a1 true))
theorem clock_Time.mono_l : ∀ k, (∀ y0 y1 y2, LeO (clock_Time.j0 k y0 y1 y2) (clock_Time.j0 (k + 1) y0 y1 y2))
  | 0 => fun _ _ _ r h => by simp [clock_Time.j0] at h
  | k + 1 => by
    have ih0 := clock_Time.mono_l k
    · intro y0 y1 y2
      unfold clock_Time.j0
      repeat' first
      | (with_reducible exact ih0 _ _ _)
      | (with_reducible exact LeO.refl _)
      | (with_reducible exact LeO.none _)
      | (with_reducible refine LeO.ite ?_ ?_)
      | (with_reducible refine LeO.bind ?_ (fun _ => ?_))
      | exact ih0 _ _ _
      | exact LeO.none _
      | refine LeO.ite ?_ ?_
      | refine LeO.bind ?_ (fun _ => ?_)
theorem clock_Time.mono : ∀ a0 a1 k, LeO (clock_Time.f k a0 a1) (clock_Time.f (k + 1) a0 a1) := by
  intro a0 a1 k
  have ih0 := clock_Time.mono_l k
  unfold clock_Time.f
  repeat' first
      | (with_reducible exact ih0 _ _ _)
      | (with_reducible exact LeO.refl _)
      | (with_reducible exact LeO.none _)
      | (with_reducible refine LeO.ite ?_ ?_)
      | (with_reducible refine LeO.bind ?_ (fun _ => ?_))
      | exact ih0 _ _ _
      | exact LeO.none _
      | refine LeO.ite ?_ ?_
      | refine LeO.bind ?_ (fun _ => ?_)

/-! DEFS pentaglotref19_Known -/
def pentaglotref19_Known.f (a0 : Int) : Option (Bool) := if a0 = 1 then (some true) else (if a0 = 2 then (some true) else (some (a0 == 3)))

/-! DEFS clock_Periods -/
def clock_Periods.f (a0 : Int) : Option (Int) := if a0 = 1 then some 1 else if a0 = 2 then some 2 else if a0 = 3 then some 6 else some 0

/-! DEFS clock_Split -/
def clock_Split.f (a0 : Int) : Option (Int × Int × Int) := if a0 < 0 then (some (0, 0, 1)) else (if a0 > 1439999999 then (some (0, 0, 2)) else (some (wrap64 (Int.tdiv a0 1440), Int.tmod a0 1440, 0)))

/-! DEFS clock_Minute -/
def clock_Minute.f (k : Nat) (a0_0 : Int) (a0_1 : Int) (a0_2 : Int) (a0_3 : Int) : Option (Int × Int) := if a0_0 = 2 then ((clock_Time.f k a0_0 (wrap64 ((wrap64 (60 * (wrap64 ((wrap64 (a0_1 * 12)) + (Int.tmod a0_2 12))))) + a0_3))).bind fun bt105 => (if bt105.2.2.2.2 = 0 then (if (!(bt105.1 == a0_0) || (!(bt105.2.1 == a0_1) || (!(bt105.2.2.1 == a0_2) || (!(bt105.2.2.2.1 == a0_3))))) = true then (some (0, 1)) else (some (wrap64 ((wrap64 (60 * (wrap64 ((wrap64 (a0_1 * 12)) + (Int.tmod a0_2 12))))) + a0_3), 0))) else (some (0, 1)))) else (if a0_0 = 3 then ((clock_Time.f k a0_0 (wrap64 ((wrap64 (60 * (wrap64 ((wrap64 (a0_1 * 4)) + a0_2)))) + a0_3))).bind fun bt111 => (if bt111.2.2.2.2 = 0 then (if (!(bt111.1 == a0_0) || (!(bt111.2.1 == a0_1) || (!(bt111.2.2.1 == a0_2) || (!(bt111.2.2.2.1 == a0_3))))) = true then (some (0, 1)) else (some (wrap64 ((wrap64 (60 * (wrap64 ((wrap64 (a0_1 * 4)) + a0_2)))) + a0_3), 0))) else (some (0, 1)))) else ((clock_Time.f k a0_0 (wrap64 ((wrap64 (60 * a0_2)) + a0_3))).bind fun bt117 => (if bt117.2.2.2.2 = 0 then (if (!(bt117.1 == a0_0) || (!(bt117.2.1 == a0_1) || (!(bt117.2.2.1 == a0_2) || (!(bt117.2.2.2.1 == a0_3))))) = true then (some (0, 1)) else (some (wrap64 ((wrap64 (60 * a0_2)) + a0_3), 0))) else (some (0, 1)))))
theorem clock_Minute.mono : ∀ a0 a1 a2 a3 k, LeO (clock_Minute.f k a0 a1 a2 a3) (clock_Minute.f (k + 1) a0 a1 a2 a3) := by
  intro a0 a1 a2 a3 k
  unfold clock_Minute.f
  repeat' first
      | (with_reducible exact clock_Time.mono _ _ _)
      | (with_reducible exact LeO.refl _)
      | (with_reducible exact LeO.none _)
      | (with_reducible refine LeO.ite ?_ ?_)
      | (with_reducible refine LeO.bind ?_ (fun _ => ?_))
      | exact clock_Time.mono _ _ _
      | exact LeO.none _
      | refine LeO.ite ?_ ?_
      | refine LeO.bind ?_ (fun _ => ?_)

/-! DEFS clock_Convert -/
def clock_Convert.f (k : Nat) (a0_0 : Int) (a0_1 : Int) (a0_2 : Int) (a0_3 : Int) (a1 : Int) : Option (Int × Int × Int × Int × Int) := (clock_Minute.f k a0_0 a0_1 a0_2 a0_3).bind fun bt125 => (if bt125.2 = 0 then ((clock_Time.f k a1 bt125.1).bind fun bt127 => (some (bt127.1, bt127.2.1, bt127.2.2.1, bt127.2.2.2.1, bt127.2.2.2.2))) else (some (0, 0, 0, 0, bt125.2)))
theorem clock_Convert.mono : ∀ a0 a1 a2 a3 a4 k, LeO (clock_Convert.f k a0 a1 a2 a3 a4) (clock_Convert.f (k + 1) a0 a1 a2 a3 a4) := by
  intro a0 a1 a2 a3 a4 k
  unfold clock_Convert.f
  repeat' first
      | (with_reducible exact clock_Minute.mono _ _ _ _ _)
      | (with_reducible exact clock_Time.mono _ _ _)
      | (with_reducible exact LeO.refl _)
      | (with_reducible exact LeO.none _)
      | (with_reducible refine LeO.ite ?_ ?_)
      | (with_reducible refine LeO.bind ?_ (fun _ => ?_))
      | exact clock_Minute.mono _ _ _ _ _
      | exact clock_Time.mono _ _ _
      | exact LeO.none _
      | refine LeO.ite ?_ ?_
      | refine LeO.bind ?_ (fun _ => ?_)

/-! DEFS pentaglotlaw19_awake -/
def pentaglotlaw19_awake.f (k : Nat)  : Option (Bool) := (clock_Time.f k 2 725).bind fun bt132 => ((clock_Convert.f k bt132.1 bt132.2.1 bt132.2.2.1 bt132.2.2.2.1 3).bind fun bt138 => ((clock_Minute.f k bt138.1 bt138.2.1 bt138.2.2.1 bt138.2.2.2.1).bind fun bt144 => ((clock_Split.f 1441).bind fun bt146 => (if bt132.2.2.2.2 = 0 then (if bt138.2.2.2.2 = 0 then (if bt144.2 = 0 then (if bt146.2.2 = 0 then (if (bt132.1 == 2 && (bt132.2.1 == 1 && (bt132.2.2.1 == 12 && (bt132.2.2.2.1 == 5)))) = true then (if (bt138.1 == 3 && (bt138.2.1 == 3 && (bt138.2.2.1 == 0 && (bt138.2.2.2.1 == 5)))) = true then (if bt144.1 = 725 then (if bt146.1 = 1 then (if bt146.2.1 = 1 then ((clock_Periods.f 3).bind fun t149 => (some (t149 == 6))) else (some false)) else (some false)) else (some false)) else (some false)) else (some false)) else (some false)) else (some false)) else (some false)) else (some false)))))
theorem pentaglotlaw19_awake.mono : ∀ k, LeO (pentaglotlaw19_awake.f k ) (pentaglotlaw19_awake.f (k + 1) ) := by
  intro  k
  unfold pentaglotlaw19_awake.f
  repeat' first
      | (with_reducible exact clock_Convert.mono _ _ _ _ _ _)
      | (with_reducible exact clock_Minute.mono _ _ _ _ _)
      | (with_reducible exact clock_Time.mono _ _ _)
      | (with_reducible exact LeO.refl _)
      | (with_reducible exact LeO.none _)
      | (with_reducible refine LeO.ite ?_ ?_)
      | (with_reducible refine LeO.bind ?_ (fun _ => ?_))
      | exact clock_Convert.mono _ _ _ _ _ _
      | exact clock_Minute.mono _ _ _ _ _
      | exact clock_Time.mono _ _ _
      | exact LeO.none _
      | refine LeO.ite ?_ ?_
      | refine LeO.bind ?_ (fun _ => ?_)

/-! DEFS pentaglotref19_next -/
def pentaglotref19_next.f (a0_0 : Int) (a0_1 : Int) (a0_2 : Int) (a0_3 : Int) : Option (Int × Int × Int × Int) := if (wrap64 (a0_3 + 1)) < 60 then (some (a0_0, a0_1, a0_2, wrap64 (a0_3 + 1))) else (if a0_0 = 1 then (some (a0_0, a0_1, wrap64 (a0_2 + 1), 0)) else (if a0_0 = 2 then (if a0_2 = 11 then (some (a0_0, wrap64 (a0_1 + 1), wrap64 ((Int.tmod a0_2 12) + 1), 0)) else (some (a0_0, a0_1, wrap64 ((Int.tmod a0_2 12) + 1), 0))) else (if a0_0 = 3 then (if (wrap64 (a0_2 + 1)) = 4 then (some (a0_0, wrap64 (a0_1 + 1), 0, 0)) else (some (a0_0, a0_1, wrap64 (a0_2 + 1), 0))) else (some (a0_0, a0_1, a0_2, 0)))))

/-! DEFS pentaglotref19_Time -/
mutual
def pentaglotref19_Time.j0 : Nat → Int → Int → Int → Int → Int → Option (Int × Int × Int × Int)
  | 0, _, _, _, _, _ => none
  | k + 1, x1, x154000, x154001, x154002, x154003 => pentaglotref19_Time.l0 k x1 0 x154000 x154001 x154002 x154003
def pentaglotref19_Time.l0 : Nat → Int → Int → Int → Int → Int → Int → Option (Int × Int × Int × Int)
  | 0, _, _, _, _, _, _ => none
  | k + 1, x1, x6, x154000, x154001, x154002, x154003 => if x6 < x1 then ((pentaglotref19_next.f x154000 x154001 x154002 x154003).bind fun bt154 => (pentaglotref19_Time.l0 k x1 (wrap64 (x6 + 1)) bt154.1 bt154.2.1 bt154.2.2.1 bt154.2.2.2)) else (some (x154000, x154001, x154002, x154003))
end
def pentaglotref19_Time.f (k : Nat) (a0 : Int) (a1 : Int) : Option (Int × Int × Int × Int) := if a0 = 2 then (pentaglotref19_Time.j0 k a1 a0 0 12 0) else (pentaglotref19_Time.j0 k a1 a0 0 0 0)
theorem pentaglotref19_Time.mono_l : ∀ k, (∀ y0 y1 y2 y3 y4, LeO (pentaglotref19_Time.j0 k y0 y1 y2 y3 y4) (pentaglotref19_Time.j0 (k + 1) y0 y1 y2 y3 y4)) ∧ (∀ y0 y1 y2 y3 y4 y5, LeO (pentaglotref19_Time.l0 k y0 y1 y2 y3 y4 y5) (pentaglotref19_Time.l0 (k + 1) y0 y1 y2 y3 y4 y5))
  | 0 => ⟨fun _ _ _ _ _ r h => by simp [pentaglotref19_Time.j0] at h, fun _ _ _ _ _ _ r h => by simp [pentaglotref19_Time.l0] at h⟩
  | k + 1 => by
    obtain ⟨ih0, ih1⟩ := pentaglotref19_Time.mono_l k
    refine ⟨?_, ?_⟩
    · intro y0 y1 y2 y3 y4
      unfold pentaglotref19_Time.j0
      repeat' first
      | (with_reducible exact ih0 _ _ _ _ _)
      | (with_reducible exact ih1 _ _ _ _ _ _)
      | (with_reducible exact LeO.refl _)
      | (with_reducible exact LeO.none _)
      | (with_reducible refine LeO.ite ?_ ?_)
      | (with_reducible refine LeO.bind ?_ (fun _ => ?_))
      | exact ih0 _ _ _ _ _
      | exact ih1 _ _ _ _ _ _
      | exact LeO.none _
      | refine LeO.ite ?_ ?_
      | refine LeO.bind ?_ (fun _ => ?_)
    · intro y0 y1 y2 y3 y4 y5
      unfold pentaglotref19_Time.l0
      repeat' first
      | (with_reducible exact ih0 _ _ _ _ _)
      | (with_reducible exact ih1 _ _ _ _ _ _)
      | (with_reducible exact LeO.refl _)
      | (with_reducible exact LeO.none _)
      | (with_reducible refine LeO.ite ?_ ?_)
      | (with_reducible refine LeO.bind ?_ (fun _ => ?_))
      | exact ih0 _ _ _ _ _
      | exact ih1 _ _ _ _ _ _
      | exact LeO.none _
      | refine LeO.ite ?_ ?_
      | refine LeO.bind ?_ (fun _ => ?_)
theorem pentaglotref19_Time.mono : ∀ a0 a1 k, LeO (pentaglotref19_Time.f k a0 a1) (pentaglotref19_Time.f (k + 1) a0 a1) := by
  intro a0 a1 k
  obtain ⟨ih0, ih1⟩ := pentaglotref19_Time.mono_l k
  unfold pentaglotref19_Time.f
  repeat' first
      | (with_reducible exact ih0 _ _ _ _ _)
      | (with_reducible exact ih1 _ _ _ _ _ _)
      | (with_reducible exact LeO.refl _)
      | (with_reducible exact LeO.none _)
      | (with_reducible refine LeO.ite ?_ ?_)
      | (with_reducible refine LeO.bind ?_ (fun _ => ?_))
      | exact ih0 _ _ _ _ _
      | exact ih1 _ _ _ _ _ _
      | exact LeO.none _
      | refine LeO.ite ?_ ?_
      | refine LeO.bind ?_ (fun _ => ?_)

/-! DEFS pentaglotlaw19_ClockTimes -/
def pentaglotlaw19_ClockTimes.j0 : Nat → Int → Int → Int → Bool → Int → Int → Int → Int → Option (Bool)
  | 0, _, _, _, _, _, _, _, _ => none
  | k + 1, x0, x1, x6, x23, x164000, x164001, x164002, x164003 => if x23 = true then ((pentaglotlaw19_awake.f k).bind fun t165 => (if t165 = true then (if x6 = 1 then (some (x164000 == 0 && (x164001 == 0 && (x164002 == 0 && (x164003 == 0))))) else (some false)) else (some false))) else ((pentaglotlaw19_awake.f k).bind fun t166 => (if t166 = true then (if x6 = 0 then ((pentaglotref19_Time.f k x0 x1).bind fun bt167 => (some (x164000 == bt167.1 && (x164001 == bt167.2.1 && (x164002 == bt167.2.2.1 && (x164003 == bt167.2.2.2)))))) else (some false)) else (some false)))
def pentaglotlaw19_ClockTimes.f (k : Nat) (a0 : Int) (a1 : Int) : Option (Bool) := (clock_Time.f k a0 a1).bind fun bt158 => ((pentaglotref19_Known.f a0).bind fun t164 => (if t164 = true then (if a1 < 0 then (pentaglotlaw19_ClockTimes.j0 k a0 a1 bt158.2.2.2.2 true bt158.1 bt158.2.1 bt158.2.2.1 bt158.2.2.2.1) else (pentaglotlaw19_ClockTimes.j0 k a0 a1 bt158.2.2.2.2 (decide (a1 > 1439)) bt158.1 bt158.2.1 bt158.2.2.1 bt158.2.2.2.1)) else (pentaglotlaw19_ClockTimes.j0 k a0 a1 bt158.2.2.2.2 true bt158.1 bt158.2.1 bt158.2.2.1 bt158.2.2.2.1)))
theorem pentaglotlaw19_ClockTimes.mono_l : ∀ k, (∀ y0 y1 y2 y3 y4 y5 y6 y7, LeO (pentaglotlaw19_ClockTimes.j0 k y0 y1 y2 y3 y4 y5 y6 y7) (pentaglotlaw19_ClockTimes.j0 (k + 1) y0 y1 y2 y3 y4 y5 y6 y7))
  | 0 => fun _ _ _ _ _ _ _ _ r h => by simp [pentaglotlaw19_ClockTimes.j0] at h
  | k + 1 => by
    have ih0 := pentaglotlaw19_ClockTimes.mono_l k
    · intro y0 y1 y2 y3 y4 y5 y6 y7
      unfold pentaglotlaw19_ClockTimes.j0
      repeat' first
      | (with_reducible exact ih0 _ _ _ _ _ _ _ _)
      | (with_reducible exact clock_Time.mono _ _ _)
      | (with_reducible exact pentaglotlaw19_awake.mono _)
      | (with_reducible exact pentaglotref19_Time.mono _ _ _)
      | (with_reducible exact LeO.refl _)
      | (with_reducible exact LeO.none _)
      | (with_reducible refine LeO.ite ?_ ?_)
      | (with_reducible refine LeO.bind ?_ (fun _ => ?_))
      | exact ih0 _ _ _ _ _ _ _ _
      | exact clock_Time.mono _ _ _
      | exact pentaglotlaw19_awake.mono _
      | exact pentaglotref19_Time.mono _ _ _
      | exact LeO.none _
      | refine LeO.ite ?_ ?_
      | refine LeO.bind ?_ (fun _ => ?_)
theorem pentaglotlaw19_ClockTimes.mono : ∀ a0 a1 k, LeO (pentaglotlaw19_ClockTimes.f k a0 a1) (pentaglotlaw19_ClockTimes.f (k + 1) a0 a1) := by
  intro a0 a1 k
  have ih0 := pentaglotlaw19_ClockTimes.mono_l k
  unfold pentaglotlaw19_ClockTimes.f
  repeat' first
      | (with_reducible exact ih0 _ _ _ _ _ _ _ _)
      | (with_reducible exact clock_Time.mono _ _ _)
      | (with_reducible exact pentaglotlaw19_awake.mono _)
      | (with_reducible exact pentaglotref19_Time.mono _ _ _)
      | (with_reducible exact LeO.refl _)
      | (with_reducible exact LeO.none _)
      | (with_reducible refine LeO.ite ?_ ?_)
      | (with_reducible refine LeO.bind ?_ (fun _ => ?_))
      | exact ih0 _ _ _ _ _ _ _ _
      | exact clock_Time.mono _ _ _
      | exact pentaglotlaw19_awake.mono _
      | exact pentaglotref19_Time.mono _ _ _
      | exact LeO.none _
      | refine LeO.ite ?_ ?_
      | refine LeO.bind ?_ (fun _ => ?_)

/-! DEFS pentaglotlaw19_ClockPeriods -/
def pentaglotlaw19_ClockPeriods.f (k : Nat) (a0 : Int) : Option (Bool) := if a0 = 1 then ((pentaglotlaw19_awake.f k).bind fun t171 => (if t171 = true then ((clock_Periods.f a0).bind fun t172 => (some (t172 == 1))) else (some false))) else (if a0 = 2 then ((pentaglotlaw19_awake.f k).bind fun t173 => (if t173 = true then ((clock_Periods.f a0).bind fun t174 => (some (t174 == 2))) else (some false))) else (if a0 = 3 then ((pentaglotlaw19_awake.f k).bind fun t175 => (if t175 = true then ((clock_Periods.f a0).bind fun t176 => (some (t176 == 6))) else (some false))) else ((pentaglotlaw19_awake.f k).bind fun t177 => (if t177 = true then ((clock_Periods.f a0).bind fun t178 => (some (t178 == 0))) else (some false)))))
theorem pentaglotlaw19_ClockPeriods.mono : ∀ a0 k, LeO (pentaglotlaw19_ClockPeriods.f k a0) (pentaglotlaw19_ClockPeriods.f (k + 1) a0) := by
  intro a0 k
  unfold pentaglotlaw19_ClockPeriods.f
  repeat' first
      | (with_reducible exact pentaglotlaw19_awake.mono _)
      | (with_reducible exact LeO.refl _)
      | (with_reducible exact LeO.none _)
      | (with_reducible refine LeO.ite ?_ ?_)
      | (with_reducible refine LeO.bind ?_ (fun _ => ?_))
      | exact pentaglotlaw19_awake.mono _
      | exact LeO.none _
      | refine LeO.ite ?_ ?_
      | refine LeO.bind ?_ (fun _ => ?_)

/-! DEFS pentaglotlaw19_ClockSplits -/
def pentaglotlaw19_ClockSplits.f (k : Nat) (a0 : Int) : Option (Bool) := (clock_Split.f a0).bind fun bt179 => (if a0 < 0 then ((pentaglotlaw19_awake.f k).bind fun t182 => (if t182 = true then (if bt179.2.2 = 1 then (if bt179.1 = 0 then (some (bt179.2.1 == 0)) else (some false)) else (some false)) else (some false))) else (if a0 > 1439999999 then ((pentaglotlaw19_awake.f k).bind fun t183 => (if t183 = true then (if bt179.2.2 = 2 then (if bt179.1 = 0 then (some (bt179.2.1 == 0)) else (some false)) else (some false)) else (some false))) else ((pentaglotlaw19_awake.f k).bind fun t184 => (if t184 = true then (if bt179.2.2 = 0 then (if (wrap64 ((wrap64 (bt179.1 * 1440)) + bt179.2.1)) = a0 then (if bt179.2.1 ≥ 0 then (if bt179.2.1 < 1440 then (if bt179.1 ≥ 0 then (some (decide (bt179.1 ≤ 999999))) else (some false)) else (some false)) else (some false)) else (some false)) else (some false)) else (some false)))))
theorem pentaglotlaw19_ClockSplits.mono : ∀ a0 k, LeO (pentaglotlaw19_ClockSplits.f k a0) (pentaglotlaw19_ClockSplits.f (k + 1) a0) := by
  intro a0 k
  unfold pentaglotlaw19_ClockSplits.f
  repeat' first
      | (with_reducible exact pentaglotlaw19_awake.mono _)
      | (with_reducible exact LeO.refl _)
      | (with_reducible exact LeO.none _)
      | (with_reducible refine LeO.ite ?_ ?_)
      | (with_reducible refine LeO.bind ?_ (fun _ => ?_))
      | exact pentaglotlaw19_awake.mono _
      | exact LeO.none _
      | refine LeO.ite ?_ ?_
      | refine LeO.bind ?_ (fun _ => ?_)

/-! DEFS pentaglotref19_Minute -/
def pentaglotref19_Minute.l0 : Nat → Int → Int → Int → Int → Int → Int → Int → Int → Int → Option (Int)
  | 0, _, _, _, _, _, _, _, _, _ => none
  | k + 1, x4, x186000, x186001, x186002, x186003, x192000, x192001, x192002, x192003 => if x4 < 1440 then (if (x192000 == x186000 && (x192001 == x186001 && (x192002 == x186002 && (x192003 == x186003)))) = true then (some x4) else ((pentaglotref19_next.f x192000 x192001 x192002 x192003).bind fun bt192 => (pentaglotref19_Minute.l0 k (wrap64 (x4 + 1)) x186000 x186001 x186002 x186003 bt192.1 bt192.2.1 bt192.2.2.1 bt192.2.2.2))) else (some (-1))
def pentaglotref19_Minute.f (k : Nat) (a0_0 : Int) (a0_1 : Int) (a0_2 : Int) (a0_3 : Int) : Option (Int) := (pentaglotref19_Known.f a0_0).bind fun t186 => (if t186 = true then ((pentaglotref19_Time.f k a0_0 0).bind fun bt187 => (pentaglotref19_Minute.l0 k 0 a0_0 a0_1 a0_2 a0_3 bt187.1 bt187.2.1 bt187.2.2.1 bt187.2.2.2)) else (some (-1)))
theorem pentaglotref19_Minute.mono_l : ∀ k, (∀ y0 y1 y2 y3 y4 y5 y6 y7 y8, LeO (pentaglotref19_Minute.l0 k y0 y1 y2 y3 y4 y5 y6 y7 y8) (pentaglotref19_Minute.l0 (k + 1) y0 y1 y2 y3 y4 y5 y6 y7 y8))
  | 0 => fun _ _ _ _ _ _ _ _ _ r h => by simp [pentaglotref19_Minute.l0] at h
  | k + 1 => by
    have ih0 := pentaglotref19_Minute.mono_l k
    · intro y0 y1 y2 y3 y4 y5 y6 y7 y8
      unfold pentaglotref19_Minute.l0
      repeat' first
      | (with_reducible exact ih0 _ _ _ _ _ _ _ _ _)
      | (with_reducible exact pentaglotref19_Time.mono _ _ _)
      | (with_reducible exact LeO.refl _)
      | (with_reducible exact LeO.none _)
      | (with_reducible refine LeO.ite ?_ ?_)
      | (with_reducible refine LeO.bind ?_ (fun _ => ?_))
      | exact ih0 _ _ _ _ _ _ _ _ _
      | exact pentaglotref19_Time.mono _ _ _
      | exact LeO.none _
      | refine LeO.ite ?_ ?_
      | refine LeO.bind ?_ (fun _ => ?_)
theorem pentaglotref19_Minute.mono : ∀ a0 a1 a2 a3 k, LeO (pentaglotref19_Minute.f k a0 a1 a2 a3) (pentaglotref19_Minute.f (k + 1) a0 a1 a2 a3) := by
  intro a0 a1 a2 a3 k
  have ih0 := pentaglotref19_Minute.mono_l k
  unfold pentaglotref19_Minute.f
  repeat' first
      | (with_reducible exact ih0 _ _ _ _ _ _ _ _ _)
      | (with_reducible exact pentaglotref19_Time.mono _ _ _)
      | (with_reducible exact LeO.refl _)
      | (with_reducible exact LeO.none _)
      | (with_reducible refine LeO.ite ?_ ?_)
      | (with_reducible refine LeO.bind ?_ (fun _ => ?_))
      | exact ih0 _ _ _ _ _ _ _ _ _
      | exact pentaglotref19_Time.mono _ _ _
      | exact LeO.none _
      | refine LeO.ite ?_ ?_
      | refine LeO.bind ?_ (fun _ => ?_)

/-! DEFS clock_Valid -/
def clock_Valid.f (k : Nat) (a0_0 : Int) (a0_1 : Int) (a0_2 : Int) (a0_3 : Int) : Option (Bool) := (clock_Minute.f k a0_0 a0_1 a0_2 a0_3).bind fun bt197 => (some (bt197.2 == 0))
theorem clock_Valid.mono : ∀ a0 a1 a2 a3 k, LeO (clock_Valid.f k a0 a1 a2 a3) (clock_Valid.f (k + 1) a0 a1 a2 a3) := by
  intro a0 a1 a2 a3 k
  unfold clock_Valid.f
  repeat' first
      | (with_reducible exact clock_Minute.mono _ _ _ _ _)
      | (with_reducible exact LeO.refl _)
      | (with_reducible exact LeO.none _)
      | (with_reducible refine LeO.ite ?_ ?_)
      | (with_reducible refine LeO.bind ?_ (fun _ => ?_))
      | exact clock_Minute.mono _ _ _ _ _
      | exact LeO.none _
      | refine LeO.ite ?_ ?_
      | refine LeO.bind ?_ (fun _ => ?_)

/-! DEFS pentaglotlaw19_ClockMinutes -/
def pentaglotlaw19_ClockMinutes.f (k : Nat) (a0_0 : Int) (a0_1 : Int) (a0_2 : Int) (a0_3 : Int) : Option (Bool) := (clock_Minute.f k a0_0 a0_1 a0_2 a0_3).bind fun bt200 => ((pentaglotref19_Minute.f k a0_0 a0_1 a0_2 a0_3).bind fun t202 => (if t202 < 0 then ((pentaglotlaw19_awake.f k).bind fun t203 => (if t203 = true then ((clock_Valid.f k a0_0 a0_1 a0_2 a0_3).bind fun t204 => (if t204 = true then (some false) else (if bt200.2 = 1 then (some (bt200.1 == 0)) else (some false)))) else (some false))) else ((pentaglotlaw19_awake.f k).bind fun t205 => (if t205 = true then ((clock_Valid.f k a0_0 a0_1 a0_2 a0_3).bind fun t206 => (if t206 = true then (if bt200.2 = 0 then (some (bt200.1 == t202)) else (some false)) else (some false))) else (some false)))))
theorem pentaglotlaw19_ClockMinutes.mono : ∀ a0 a1 a2 a3 k, LeO (pentaglotlaw19_ClockMinutes.f k a0 a1 a2 a3) (pentaglotlaw19_ClockMinutes.f (k + 1) a0 a1 a2 a3) := by
  intro a0 a1 a2 a3 k
  unfold pentaglotlaw19_ClockMinutes.f
  repeat' first
      | (with_reducible exact clock_Minute.mono _ _ _ _ _)
      | (with_reducible exact clock_Valid.mono _ _ _ _ _)
      | (with_reducible exact pentaglotlaw19_awake.mono _)
      | (with_reducible exact pentaglotref19_Minute.mono _ _ _ _ _)
      | (with_reducible exact LeO.refl _)
      | (with_reducible exact LeO.none _)
      | (with_reducible refine LeO.ite ?_ ?_)
      | (with_reducible refine LeO.bind ?_ (fun _ => ?_))
      | exact clock_Minute.mono _ _ _ _ _
      | exact clock_Valid.mono _ _ _ _ _
      | exact pentaglotlaw19_awake.mono _
      | exact pentaglotref19_Minute.mono _ _ _ _ _
      | exact LeO.none _
      | refine LeO.ite ?_ ?_
      | refine LeO.bind ?_ (fun _ => ?_)

/-! DEFS pentaglotlaw19_ClockReadsBack -/
def pentaglotlaw19_ClockReadsBack.j0 : Nat → Int → Int → Int → Int → Int → Option (Bool)
  | 0, _, _, _, _, _ => none
  | k + 1, x7, x208000, x208001, x208002, x208003 => (clock_Valid.f k x208000 x208001 x208002 x208003).bind fun t218 => (if t218 = true then ((clock_Minute.f k x208000 x208001 x208002 x208003).bind fun bt219 => ((clock_Time.f k x208000 bt219.1).bind fun bt221 => ((pentaglotlaw19_awake.f k).bind fun t227 => (if t227 = true then (if x7 = 0 then (if bt219.2 = 0 then (if bt221.2.2.2.2 = 0 then (some (bt221.1 == x208000 && (bt221.2.1 == x208001 && (bt221.2.2.1 == x208002 && (bt221.2.2.2.1 == x208003))))) else (some false)) else (some false)) else (some false)) else (some false))))) else ((pentaglotlaw19_awake.f k).bind fun t228 => (if t228 = true then ((clock_Periods.f x208000).bind fun t229 => (some ((x7 == 0) == (decide (t229 > 0))))) else (some false))))
def pentaglotlaw19_ClockReadsBack.f (k : Nat) (a0_0 : Int) (a0_1 : Int) (a0_2 : Int) (a0_3 : Int) (a1 : Int) : Option (Bool) := (clock_Time.f k a0_0 (Int.tmod (wrap64 (a1)) 1440)).bind fun bt208 => (if bt208.2.2.2.2 = 0 then ((clock_Minute.f k bt208.1 bt208.2.1 bt208.2.2.1 bt208.2.2.2.1).bind fun bt214 => (if bt214.2 = 0 then (if bt214.1 = (Int.tmod (wrap64 (a1)) 1440) then ((clock_Valid.f k bt208.1 bt208.2.1 bt208.2.2.1 bt208.2.2.2.1).bind fun t216 => (if t216 = true then (if bt208.2.1 < 0 then (some false) else ((clock_Periods.f a0_0).bind fun t217 => (if bt208.2.1 ≥ t217 then (some false) else (pentaglotlaw19_ClockReadsBack.j0 k bt208.2.2.2.2 a0_0 a0_1 a0_2 a0_3)))) else (some false))) else (some false)) else (some false))) else (pentaglotlaw19_ClockReadsBack.j0 k bt208.2.2.2.2 a0_0 a0_1 a0_2 a0_3))
theorem pentaglotlaw19_ClockReadsBack.mono_l : ∀ k, (∀ y0 y1 y2 y3 y4, LeO (pentaglotlaw19_ClockReadsBack.j0 k y0 y1 y2 y3 y4) (pentaglotlaw19_ClockReadsBack.j0 (k + 1) y0 y1 y2 y3 y4))
  | 0 => fun _ _ _ _ _ r h => by simp [pentaglotlaw19_ClockReadsBack.j0] at h
  | k + 1 => by
    have ih0 := pentaglotlaw19_ClockReadsBack.mono_l k
    · intro y0 y1 y2 y3 y4
      unfold pentaglotlaw19_ClockReadsBack.j0
      repeat' first
      | (with_reducible exact ih0 _ _ _ _ _)
      | (with_reducible exact clock_Minute.mono _ _ _ _ _)
      | (with_reducible exact clock_Time.mono _ _ _)
      | (with_reducible exact clock_Valid.mono _ _ _ _ _)
      | (with_reducible exact pentaglotlaw19_awake.mono _)
      | (with_reducible exact LeO.refl _)
      | (with_reducible exact LeO.none _)
      | (with_reducible refine LeO.ite ?_ ?_)
      | (with_reducible refine LeO.bind ?_ (fun _ => ?_))
      | exact ih0 _ _ _ _ _
      | exact clock_Minute.mono _ _ _ _ _
      | exact clock_Time.mono _ _ _
      | exact clock_Valid.mono _ _ _ _ _
      | exact pentaglotlaw19_awake.mono _
      | exact LeO.none _
      | refine LeO.ite ?_ ?_
      | refine LeO.bind ?_ (fun _ => ?_)
theorem pentaglotlaw19_ClockReadsBack.mono : ∀ a0 a1 a2 a3 a4 k, LeO (pentaglotlaw19_ClockReadsBack.f k a0 a1 a2 a3 a4) (pentaglotlaw19_ClockReadsBack.f (k + 1) a0 a1 a2 a3 a4) := by
  intro a0 a1 a2 a3 a4 k
  have ih0 := pentaglotlaw19_ClockReadsBack.mono_l k
  unfold pentaglotlaw19_ClockReadsBack.f
  repeat' first
      | (with_reducible exact ih0 _ _ _ _ _)
      | (with_reducible exact clock_Minute.mono _ _ _ _ _)
      | (with_reducible exact clock_Time.mono _ _ _)
      | (with_reducible exact clock_Valid.mono _ _ _ _ _)
      | (with_reducible exact pentaglotlaw19_awake.mono _)
      | (with_reducible exact LeO.refl _)
      | (with_reducible exact LeO.none _)
      | (with_reducible refine LeO.ite ?_ ?_)
      | (with_reducible refine LeO.bind ?_ (fun _ => ?_))
      | exact ih0 _ _ _ _ _
      | exact clock_Minute.mono _ _ _ _ _
      | exact clock_Time.mono _ _ _
      | exact clock_Valid.mono _ _ _ _ _
      | exact pentaglotlaw19_awake.mono _
      | exact LeO.none _
      | refine LeO.ite ?_ ?_
      | refine LeO.bind ?_ (fun _ => ?_)

/-! DEFS pentaglotlaw19_ClockConverts -/
def pentaglotlaw19_ClockConverts.j0 : Nat → Int → Int → Bool → Int → Int → Int → Int → Int → Int → Int → Int → Option (Bool)
  | 0, _, _, _, _, _, _, _, _, _, _, _ => none
  | k + 1, x1, x6, x26, x231000, x231001, x231002, x231003, x237000, x237001, x237002, x237003 => if x26 = true then ((pentaglotlaw19_awake.f k).bind fun t239 => (if t239 = true then (if x6 = 1 then (some (x237000 == 0 && (x237001 == 0 && (x237002 == 0 && (x237003 == 0))))) else (some false)) else (some false))) else ((clock_Minute.f k x231000 x231001 x231002 x231003).bind fun bt240 => ((clock_Minute.f k x237000 x237001 x237002 x237003).bind fun bt242 => ((clock_Convert.f k x237000 x237001 x237002 x237003 x231000).bind fun bt244 => ((pentaglotlaw19_awake.f k).bind fun t250 => (if t250 = true then (if x6 = 0 then (if bt240.2 = 0 then (if bt242.2 = 0 then (if bt244.2.2.2.2 = 0 then (if bt240.1 = bt242.1 then (if x237000 = x1 then (some (bt244.1 == x231000 && (bt244.2.1 == x231001 && (bt244.2.2.1 == x231002 && (bt244.2.2.2.1 == x231003))))) else (some false)) else (some false)) else (some false)) else (some false)) else (some false)) else (some false)) else (some false))))))
def pentaglotlaw19_ClockConverts.f (k : Nat) (a0_0 : Int) (a0_1 : Int) (a0_2 : Int) (a0_3 : Int) (a1 : Int) : Option (Bool) := (clock_Convert.f k a0_0 a0_1 a0_2 a0_3 a1).bind fun bt231 => ((clock_Valid.f k a0_0 a0_1 a0_2 a0_3).bind fun t237 => (if t237 = true then ((pentaglotref19_Known.f a1).bind fun t238 => (pentaglotlaw19_ClockConverts.j0 k a1 bt231.2.2.2.2 (!t238) a0_0 a0_1 a0_2 a0_3 bt231.1 bt231.2.1 bt231.2.2.1 bt231.2.2.2.1)) else (pentaglotlaw19_ClockConverts.j0 k a1 bt231.2.2.2.2 true a0_0 a0_1 a0_2 a0_3 bt231.1 bt231.2.1 bt231.2.2.1 bt231.2.2.2.1)))
theorem pentaglotlaw19_ClockConverts.mono_l : ∀ k, (∀ y0 y1 y2 y3 y4 y5 y6 y7 y8 y9 y10, LeO (pentaglotlaw19_ClockConverts.j0 k y0 y1 y2 y3 y4 y5 y6 y7 y8 y9 y10) (pentaglotlaw19_ClockConverts.j0 (k + 1) y0 y1 y2 y3 y4 y5 y6 y7 y8 y9 y10))
  | 0 => fun _ _ _ _ _ _ _ _ _ _ _ r h => by simp [pentaglotlaw19_ClockConverts.j0] at h
  | k + 1 => by
    have ih0 := pentaglotlaw19_ClockConverts.mono_l k
    · intro y0 y1 y2 y3 y4 y5 y6 y7 y8 y9 y10
      unfold pentaglotlaw19_ClockConverts.j0
      repeat' first
      | (with_reducible exact ih0 _ _ _ _ _ _ _ _ _ _ _)
      | (with_reducible exact clock_Convert.mono _ _ _ _ _ _)
      | (with_reducible exact clock_Minute.mono _ _ _ _ _)
      | (with_reducible exact clock_Valid.mono _ _ _ _ _)
      | (with_reducible exact pentaglotlaw19_awake.mono _)
      | (with_reducible exact LeO.refl _)
      | (with_reducible exact LeO.none _)
      | (with_reducible refine LeO.ite ?_ ?_)
      | (with_reducible refine LeO.bind ?_ (fun _ => ?_))
      | exact ih0 _ _ _ _ _ _ _ _ _ _ _
      | exact clock_Convert.mono _ _ _ _ _ _
      | exact clock_Minute.mono _ _ _ _ _
      | exact clock_Valid.mono _ _ _ _ _
      | exact pentaglotlaw19_awake.mono _
      | exact LeO.none _
      | refine LeO.ite ?_ ?_
      | refine LeO.bind ?_ (fun _ => ?_)
theorem pentaglotlaw19_ClockConverts.mono : ∀ a0 a1 a2 a3 a4 k, LeO (pentaglotlaw19_ClockConverts.f k a0 a1 a2 a3 a4) (pentaglotlaw19_ClockConverts.f (k + 1) a0 a1 a2 a3 a4) := by
  intro a0 a1 a2 a3 a4 k
  have ih0 := pentaglotlaw19_ClockConverts.mono_l k
  unfold pentaglotlaw19_ClockConverts.f
  repeat' first
      | (with_reducible exact ih0 _ _ _ _ _ _ _ _ _ _ _)
      | (with_reducible exact clock_Convert.mono _ _ _ _ _ _)
      | (with_reducible exact clock_Minute.mono _ _ _ _ _)
      | (with_reducible exact clock_Valid.mono _ _ _ _ _)
      | (with_reducible exact pentaglotlaw19_awake.mono _)
      | (with_reducible exact LeO.refl _)
      | (with_reducible exact LeO.none _)
      | (with_reducible refine LeO.ite ?_ ?_)
      | (with_reducible refine LeO.bind ?_ (fun _ => ?_))
      | exact ih0 _ _ _ _ _ _ _ _ _ _ _
      | exact clock_Convert.mono _ _ _ _ _ _
      | exact clock_Minute.mono _ _ _ _ _
      | exact clock_Valid.mono _ _ _ _ _
      | exact pentaglotlaw19_awake.mono _
      | exact LeO.none _
      | refine LeO.ite ?_ ?_
      | refine LeO.bind ?_ (fun _ => ?_)

/-! DEFS clock_both -/
def clock_both.f (k : Nat) (a0_0 : Int) (a0_1 : Int) (a0_2 : Int) (a0_3 : Int) (a1_0 : Int) (a1_1 : Int) (a1_2 : Int) (a1_3 : Int) : Option (Int × Int × Int) := (clock_Minute.f k a0_0 a0_1 a0_2 a0_3).bind fun bt253 => (if bt253.2 = 0 then ((clock_Minute.f k a1_0 a1_1 a1_2 a1_3).bind fun bt255 => (if bt255.2 = 0 then (some (bt253.1, bt255.1, 0)) else (some (0, 0, bt255.2)))) else (some (0, 0, bt253.2)))
theorem clock_both.mono : ∀ a0 a1 a2 a3 a4 a5 a6 a7 k, LeO (clock_both.f k a0 a1 a2 a3 a4 a5 a6 a7) (clock_both.f (k + 1) a0 a1 a2 a3 a4 a5 a6 a7) := by
  intro a0 a1 a2 a3 a4 a5 a6 a7 k
  unfold clock_both.f
  repeat' first
      | (with_reducible exact clock_Minute.mono _ _ _ _ _)
      | (with_reducible exact LeO.refl _)
      | (with_reducible exact LeO.none _)
      | (with_reducible refine LeO.ite ?_ ?_)
      | (with_reducible refine LeO.bind ?_ (fun _ => ?_))
      | exact clock_Minute.mono _ _ _ _ _
      | exact LeO.none _
      | refine LeO.ite ?_ ?_
      | refine LeO.bind ?_ (fun _ => ?_)

/-! DEFS clock_Until -/
def clock_Until.f (k : Nat) (a0_0 : Int) (a0_1 : Int) (a0_2 : Int) (a0_3 : Int) (a1_0 : Int) (a1_1 : Int) (a1_2 : Int) (a1_3 : Int) : Option (Int × Int) := (clock_both.f k a0_0 a0_1 a0_2 a0_3 a1_0 a1_1 a1_2 a1_3).bind fun bt259 => (some (Int.tmod (wrap64 ((wrap64 (bt259.2.1 - bt259.1)) + 1440)) 1440, bt259.2.2))
theorem clock_Until.mono : ∀ a0 a1 a2 a3 a4 a5 a6 a7 k, LeO (clock_Until.f k a0 a1 a2 a3 a4 a5 a6 a7) (clock_Until.f (k + 1) a0 a1 a2 a3 a4 a5 a6 a7) := by
  intro a0 a1 a2 a3 a4 a5 a6 a7 k
  unfold clock_Until.f
  repeat' first
      | (with_reducible exact clock_both.mono _ _ _ _ _ _ _ _ _)
      | (with_reducible exact LeO.refl _)
      | (with_reducible exact LeO.none _)
      | (with_reducible refine LeO.ite ?_ ?_)
      | (with_reducible refine LeO.bind ?_ (fun _ => ?_))
      | exact clock_both.mono _ _ _ _ _ _ _ _ _
      | exact LeO.none _
      | refine LeO.ite ?_ ?_
      | refine LeO.bind ?_ (fun _ => ?_)

/-! DEFS pentaglotlaw19_ClockUntil -/
def pentaglotlaw19_ClockUntil.j0 : Nat → Int → Int → Int → Int → Bool → Option (Bool)
  | 0, _, _, _, _, _ => none
  | k + 1, x5, x6, x7, x8, x24 => if x24 = true then ((pentaglotlaw19_awake.f k).bind fun t268 => (if t268 = true then (if x6 = 1 then (some (x5 == 0)) else (some false)) else (some false))) else ((pentaglotlaw19_awake.f k).bind fun t269 => (if t269 = true then (if x6 = 0 then (if x5 ≥ 0 then (if x5 < 1440 then (some ((Int.tmod (wrap64 (x7 + x5)) 1440) == x8)) else (some false)) else (some false)) else (some false)) else (some false)))
def pentaglotlaw19_ClockUntil.f (k : Nat) (a0_0 : Int) (a0_1 : Int) (a0_2 : Int) (a0_3 : Int) (a1_0 : Int) (a1_1 : Int) (a1_2 : Int) (a1_3 : Int) : Option (Bool) := (clock_Until.f k a0_0 a0_1 a0_2 a0_3 a1_0 a1_1 a1_2 a1_3).bind fun bt264 => ((pentaglotref19_Minute.f k a0_0 a0_1 a0_2 a0_3).bind fun t266 => ((pentaglotref19_Minute.f k a1_0 a1_1 a1_2 a1_3).bind fun t267 => (if t266 < 0 then (pentaglotlaw19_ClockUntil.j0 k bt264.1 bt264.2 t266 t267 true) else (pentaglotlaw19_ClockUntil.j0 k bt264.1 bt264.2 t266 t267 (decide (t267 < 0))))))
theorem pentaglotlaw19_ClockUntil.mono_l : ∀ k, (∀ y0 y1 y2 y3 y4, LeO (pentaglotlaw19_ClockUntil.j0 k y0 y1 y2 y3 y4) (pentaglotlaw19_ClockUntil.j0 (k + 1) y0 y1 y2 y3 y4))
  | 0 => fun _ _ _ _ _ r h => by simp [pentaglotlaw19_ClockUntil.j0] at h
  | k + 1 => by
    have ih0 := pentaglotlaw19_ClockUntil.mono_l k
    · intro y0 y1 y2 y3 y4
      unfold pentaglotlaw19_ClockUntil.j0
      repeat' first
      | (with_reducible exact ih0 _ _ _ _ _)
      | (with_reducible exact clock_Until.mono _ _ _ _ _ _ _ _ _)
      | (with_reducible exact pentaglotlaw19_awake.mono _)
      | (with_reducible exact pentaglotref19_Minute.mono _ _ _ _ _)
      | (with_reducible exact LeO.refl _)
      | (with_reducible exact LeO.none _)
      | (with_reducible refine LeO.ite ?_ ?_)
      | (with_reducible refine LeO.bind ?_ (fun _ => ?_))
      | exact ih0 _ _ _ _ _
      | exact clock_Until.mono _ _ _ _ _ _ _ _ _
      | exact pentaglotlaw19_awake.mono _
      | exact pentaglotref19_Minute.mono _ _ _ _ _
      | exact LeO.none _
      | refine LeO.ite ?_ ?_
      | refine LeO.bind ?_ (fun _ => ?_)
theorem pentaglotlaw19_ClockUntil.mono : ∀ a0 a1 a2 a3 a4 a5 a6 a7 k, LeO (pentaglotlaw19_ClockUntil.f k a0 a1 a2 a3 a4 a5 a6 a7) (pentaglotlaw19_ClockUntil.f (k + 1) a0 a1 a2 a3 a4 a5 a6 a7) := by
  intro a0 a1 a2 a3 a4 a5 a6 a7 k
  have ih0 := pentaglotlaw19_ClockUntil.mono_l k
  unfold pentaglotlaw19_ClockUntil.f
  repeat' first
      | (with_reducible exact ih0 _ _ _ _ _)
      | (with_reducible exact clock_Until.mono _ _ _ _ _ _ _ _ _)
      | (with_reducible exact pentaglotlaw19_awake.mono _)
      | (with_reducible exact pentaglotref19_Minute.mono _ _ _ _ _)
      | (with_reducible exact LeO.refl _)
      | (with_reducible exact LeO.none _)
      | (with_reducible refine LeO.ite ?_ ?_)
      | (with_reducible refine LeO.bind ?_ (fun _ => ?_))
      | exact ih0 _ _ _ _ _
      | exact clock_Until.mono _ _ _ _ _ _ _ _ _
      | exact pentaglotlaw19_awake.mono _
      | exact pentaglotref19_Minute.mono _ _ _ _ _
      | exact LeO.none _
      | refine LeO.ite ?_ ?_
      | refine LeO.bind ?_ (fun _ => ?_)

/-! DEFS cmp_isNaN_int -/
def cmp_isNaN_int.f (a0 : Int) : Option (Bool) := some (a0 != a0)

/-! DEFS cmp_Compare_int -/
def cmp_Compare_int.f (a0 : Int) (a1 : Int) : Option (Int) := (cmp_isNaN_int.f a0).bind fun t270 => ((cmp_isNaN_int.f a1).bind fun t271 => (if t270 = true then (if t271 = true then (some 0) else (some (-1))) else (if t271 = true then (some 1) else (if a0 < a1 then (some (-1)) else (if a0 > a1 then (some 1) else (some 0))))))

/-! DEFS clock_Compare -/
def clock_Compare.f (k : Nat) (a0_0 : Int) (a0_1 : Int) (a0_2 : Int) (a0_3 : Int) (a1_0 : Int) (a1_1 : Int) (a1_2 : Int) (a1_3 : Int) : Option (Int × Int) := (clock_both.f k a0_0 a0_1 a0_2 a0_3 a1_0 a1_1 a1_2 a1_3).bind fun bt274 => ((cmp_Compare_int.f bt274.1 bt274.2.1).bind fun t277 => (some (t277, bt274.2.2)))
theorem clock_Compare.mono : ∀ a0 a1 a2 a3 a4 a5 a6 a7 k, LeO (clock_Compare.f k a0 a1 a2 a3 a4 a5 a6 a7) (clock_Compare.f (k + 1) a0 a1 a2 a3 a4 a5 a6 a7) := by
  intro a0 a1 a2 a3 a4 a5 a6 a7 k
  unfold clock_Compare.f
  repeat' first
      | (with_reducible exact clock_both.mono _ _ _ _ _ _ _ _ _)
      | (with_reducible exact LeO.refl _)
      | (with_reducible exact LeO.none _)
      | (with_reducible refine LeO.ite ?_ ?_)
      | (with_reducible refine LeO.bind ?_ (fun _ => ?_))
      | exact clock_both.mono _ _ _ _ _ _ _ _ _
      | exact LeO.none _
      | refine LeO.ite ?_ ?_
      | refine LeO.bind ?_ (fun _ => ?_)

/-! DEFS pentaglotlaw19_ClockCompares -/
def pentaglotlaw19_ClockCompares.j0 : Nat → Int → Int → Int → Int → Bool → Option (Bool)
  | 0, _, _, _, _, _ => none
  | k + 1, x5, x6, x7, x8, x25 => if x25 = true then ((pentaglotlaw19_awake.f k).bind fun t284 => (if t284 = true then (if x6 = 1 then (some (x5 == 0)) else (some false)) else (some false))) else (if x7 < x8 then (if x7 > x8 then ((pentaglotlaw19_awake.f k).bind fun t285 => (if t285 = true then (if x6 = 0 then (some (x5 == 1)) else (some false)) else (some false))) else ((pentaglotlaw19_awake.f k).bind fun t286 => (if t286 = true then (if x6 = 0 then (some (x5 == (-1))) else (some false)) else (some false)))) else (if x7 > x8 then ((pentaglotlaw19_awake.f k).bind fun t287 => (if t287 = true then (if x6 = 0 then (some (x5 == 1)) else (some false)) else (some false))) else ((pentaglotlaw19_awake.f k).bind fun t288 => (if t288 = true then (if x6 = 0 then (some (x5 == 0)) else (some false)) else (some false)))))
def pentaglotlaw19_ClockCompares.f (k : Nat) (a0_0 : Int) (a0_1 : Int) (a0_2 : Int) (a0_3 : Int) (a1_0 : Int) (a1_1 : Int) (a1_2 : Int) (a1_3 : Int) : Option (Bool) := (clock_Compare.f k a0_0 a0_1 a0_2 a0_3 a1_0 a1_1 a1_2 a1_3).bind fun bt280 => ((pentaglotref19_Minute.f k a0_0 a0_1 a0_2 a0_3).bind fun t282 => ((pentaglotref19_Minute.f k a1_0 a1_1 a1_2 a1_3).bind fun t283 => (if t282 < 0 then (pentaglotlaw19_ClockCompares.j0 k bt280.1 bt280.2 t282 t283 true) else (pentaglotlaw19_ClockCompares.j0 k bt280.1 bt280.2 t282 t283 (decide (t283 < 0))))))
theorem pentaglotlaw19_ClockCompares.mono_l : ∀ k, (∀ y0 y1 y2 y3 y4, LeO (pentaglotlaw19_ClockCompares.j0 k y0 y1 y2 y3 y4) (pentaglotlaw19_ClockCompares.j0 (k + 1) y0 y1 y2 y3 y4))
  | 0 => fun _ _ _ _ _ r h => by simp [pentaglotlaw19_ClockCompares.j0] at h
  | k + 1 => by
    have ih0 := pentaglotlaw19_ClockCompares.mono_l k
    · intro y0 y1 y2 y3 y4
      unfold pentaglotlaw19_ClockCompares.j0
      repeat' first
      | (with_reducible exact ih0 _ _ _ _ _)
      | (with_reducible exact clock_Compare.mono _ _ _ _ _ _ _ _ _)
      | (with_reducible exact pentaglotlaw19_awake.mono _)
      | (with_reducible exact pentaglotref19_Minute.mono _ _ _ _ _)
      | (with_reducible exact LeO.refl _)
      | (with_reducible exact LeO.none _)
      | (with_reducible refine LeO.ite ?_ ?_)
      | (with_reducible refine LeO.bind ?_ (fun _ => ?_))
      | exact ih0 _ _ _ _ _
      | exact clock_Compare.mono _ _ _ _ _ _ _ _ _
      | exact pentaglotlaw19_awake.mono _
      | exact pentaglotref19_Minute.mono _ _ _ _ _
      | exact LeO.none _
      | refine LeO.ite ?_ ?_
      | refine LeO.bind ?_ (fun _ => ?_)
theorem pentaglotlaw19_ClockCompares.mono : ∀ a0 a1 a2 a3 a4 a5 a6 a7 k, LeO (pentaglotlaw19_ClockCompares.f k a0 a1 a2 a3 a4 a5 a6 a7) (pentaglotlaw19_ClockCompares.f (k + 1) a0 a1 a2 a3 a4 a5 a6 a7) := by
  intro a0 a1 a2 a3 a4 a5 a6 a7 k
  have ih0 := pentaglotlaw19_ClockCompares.mono_l k
  unfold pentaglotlaw19_ClockCompares.f
  repeat' first
      | (with_reducible exact ih0 _ _ _ _ _)
      | (with_reducible exact clock_Compare.mono _ _ _ _ _ _ _ _ _)
      | (with_reducible exact pentaglotlaw19_awake.mono _)
      | (with_reducible exact pentaglotref19_Minute.mono _ _ _ _ _)
      | (with_reducible exact LeO.refl _)
      | (with_reducible exact LeO.none _)
      | (with_reducible refine LeO.ite ?_ ?_)
      | (with_reducible refine LeO.bind ?_ (fun _ => ?_))
      | exact ih0 _ _ _ _ _
      | exact clock_Compare.mono _ _ _ _ _ _ _ _ _
      | exact pentaglotlaw19_awake.mono _
      | exact pentaglotref19_Minute.mono _ _ _ _ _
      | exact LeO.none _
      | refine LeO.ite ?_ ?_
      | refine LeO.bind ?_ (fun _ => ?_)

/-! DEFS pentaglotlaw19_ClockThere -/
def pentaglotlaw19_ClockThere.j0 : Nat → Bool → Int → Int → Int → Int → Int → Int → Int → Int → Int → Int → Int → Int → Option (Bool)
  | 0, _, _, _, _, _, _, _, _, _, _, _, _, _ => none
  | k + 1, x29, x290000, x290001, x290002, x290003, x291000, x291001, x291002, x291003, x292000, x292001, x292002, x292003 => if x29 = true then ((pentaglotlaw19_awake.f k).bind fun t295 => (some t295)) else ((clock_Until.f k x290000 x290001 x290002 x290003 x291000 x291001 x291002 x291003).bind fun bt296 => ((clock_Until.f k x291000 x291001 x291002 x291003 x290000 x290001 x290002 x290003).bind fun bt298 => ((clock_Until.f k x290000 x290001 x290002 x290003 x292000 x292001 x292002 x292003).bind fun bt300 => ((clock_Until.f k x292000 x292001 x292002 x292003 x291000 x291001 x291002 x291003).bind fun bt302 => ((clock_Compare.f k x290000 x290001 x290002 x290003 x291000 x291001 x291002 x291003).bind fun bt304 => (if bt296.2 = 0 then (if bt298.2 = 0 then (if bt300.2 = 0 then (if bt302.2 = 0 then (if bt304.2 = 0 then (if ((bt304.1 == 0) != (bt296.1 == 0)) = true then (some false) else ((pentaglotlaw19_awake.f k).bind fun t306 => (if t306 = true then (if (wrap64 (bt296.1 + bt298.1)) = 1440 then (some (((wrap64 (bt300.1 + bt302.1)) == bt296.1) == (decide (bt300.1 ≤ bt296.1)))) else (if (wrap64 (bt296.1 + bt298.1)) = 0 then (some (((wrap64 (bt300.1 + bt302.1)) == bt296.1) == (decide (bt300.1 ≤ bt296.1)))) else (some false))) else (some false)))) else (some false)) else (some false)) else (some false)) else (some false)) else (some false)))))))
def pentaglotlaw19_ClockThere.f (k : Nat) (a0_0 : Int) (a0_1 : Int) (a0_2 : Int) (a0_3 : Int) (a1_0 : Int) (a1_1 : Int) (a1_2 : Int) (a1_3 : Int) (a2_0 : Int) (a2_1 : Int) (a2_2 : Int) (a2_3 : Int) : Option (Bool) := (clock_Valid.f k a0_0 a0_1 a0_2 a0_3).bind fun t292 => (if t292 = true then ((clock_Valid.f k a1_0 a1_1 a1_2 a1_3).bind fun t293 => (if t293 = true then ((clock_Valid.f k a2_0 a2_1 a2_2 a2_3).bind fun t294 => (pentaglotlaw19_ClockThere.j0 k (!t294) a0_0 a0_1 a0_2 a0_3 a1_0 a1_1 a1_2 a1_3 a2_0 a2_1 a2_2 a2_3)) else (pentaglotlaw19_ClockThere.j0 k true a0_0 a0_1 a0_2 a0_3 a1_0 a1_1 a1_2 a1_3 a2_0 a2_1 a2_2 a2_3))) else (pentaglotlaw19_ClockThere.j0 k true a0_0 a0_1 a0_2 a0_3 a1_0 a1_1 a1_2 a1_3 a2_0 a2_1 a2_2 a2_3))
theorem pentaglotlaw19_ClockThere.mono_l : ∀ k, (∀ y0 y1 y2 y3 y4 y5 y6 y7 y8 y9 y10 y11 y12, LeO (pentaglotlaw19_ClockThere.j0 k y0 y1 y2 y3 y4 y5 y6 y7 y8 y9 y10 y11 y12) (pentaglotlaw19_ClockThere.j0 (k + 1) y0 y1 y2 y3 y4 y5 y6 y7 y8 y9 y10 y11 y12))
  | 0 => fun _ _ _ _ _ _ _ _ _ _ _ _ _ r h => by simp [pentaglotlaw19_ClockThere.j0] at h
  | k + 1 => by
    have ih0 := pentaglotlaw19_ClockThere.mono_l k
    · intro y0 y1 y2 y3 y4 y5 y6 y7 y8 y9 y10 y11 y12
      unfold pentaglotlaw19_ClockThere.j0
      repeat' first
      | (with_reducible exact ih0 _ _ _ _ _ _ _ _ _ _ _ _ _)
      | (with_reducible exact clock_Compare.mono _ _ _ _ _ _ _ _ _)
      | (with_reducible exact clock_Until.mono _ _ _ _ _ _ _ _ _)
      | (with_reducible exact clock_Valid.mono _ _ _ _ _)
      | (with_reducible exact pentaglotlaw19_awake.mono _)
      | (with_reducible exact LeO.refl _)
      | (with_reducible exact LeO.none _)
      | (with_reducible refine LeO.ite ?_ ?_)
      | (with_reducible refine LeO.bind ?_ (fun _ => ?_))
      | exact ih0 _ _ _ _ _ _ _ _ _ _ _ _ _
      | exact clock_Compare.mono _ _ _ _ _ _ _ _ _
      | exact clock_Until.mono _ _ _ _ _ _ _ _ _
      | exact clock_Valid.mono _ _ _ _ _
      | exact pentaglotlaw19_awake.mono _
      | exact LeO.none _
      | refine LeO.ite ?_ ?_
      | refine LeO.bind ?_ (fun _ => ?_)
theorem pentaglotlaw19_ClockThere.mono : ∀ a0 a1 a2 a3 a4 a5 a6 a7 a8 a9 a10 a11 k, LeO (pentaglotlaw19_ClockThere.f k a0 a1 a2 a3 a4 a5 a6 a7 a8 a9 a10 a11) (pentaglotlaw19_ClockThere.f (k + 1) a0 a1 a2 a3 a4 a5 a6 a7 a8 a9 a10 a11) := by
  intro a0 a1 a2 a3 a4 a5 a6 a7 a8 a9 a10 a11 k
  have ih0 := pentaglotlaw19_ClockThere.mono_l k
  unfold pentaglotlaw19_ClockThere.f
  repeat' first
      | (with_reducible exact ih0 _ _ _ _ _ _ _ _ _ _ _ _ _)
      | (with_reducible exact clock_Compare.mono _ _ _ _ _ _ _ _ _)
      | (with_reducible exact clock_Until.mono _ _ _ _ _ _ _ _ _)
      | (with_reducible exact clock_Valid.mono _ _ _ _ _)
      | (with_reducible exact pentaglotlaw19_awake.mono _)
      | (with_reducible exact LeO.refl _)
      | (with_reducible exact LeO.none _)
      | (with_reducible refine LeO.ite ?_ ?_)
      | (with_reducible refine LeO.bind ?_ (fun _ => ?_))
      | exact ih0 _ _ _ _ _ _ _ _ _ _ _ _ _
      | exact clock_Compare.mono _ _ _ _ _ _ _ _ _
      | exact clock_Until.mono _ _ _ _ _ _ _ _ _
      | exact clock_Valid.mono _ _ _ _ _
      | exact pentaglotlaw19_awake.mono _
      | exact LeO.none _
      | refine LeO.ite ?_ ?_
      | refine LeO.bind ?_ (fun _ => ?_)

end Go.Proofs.YtknbgpgoljfkjaaDoor.C
