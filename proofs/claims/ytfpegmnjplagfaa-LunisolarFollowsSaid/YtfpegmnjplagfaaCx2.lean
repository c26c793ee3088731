-- WRITTEN BY mkprint.py, a program of this session, over the kit's print of the given program. Not trusted: Lean checks it.
import Derived.Test.YtfpegmnjplagfaaCx0
namespace Go.Proofs.Ytfpegmnjplagfaa.C
open Go.RowKit Go.Proofs.YtfpegmnjplagfaaW.PrintWords Go.Proofs.YtfpegmnjplagfaaW.PrintLast Go.Proofs.YtfpegmnjplagfaaW.PrintMore
attribute [local go_sem] max2_int min2_int max_two min_two max_three min_three max_four min_four   -- for this text's walks alone
set_option linter.unusedVariables false
set_option linter.unusedSimpArgs false

/-! DEFS lunisolar_Leap -/
def lunisolar_Leap.f (a0 : Int) : Option (Bool) := if a0 < 0 then (some false) else (if (Int.tmod a0 19) = 2 then (some true) else (if (Int.tmod a0 19) = 5 then (some true) else (if (Int.tmod a0 19) = 7 then (some true) else (if (Int.tmod a0 19) = 10 then (some true) else (if (Int.tmod a0 19) = 13 then (some true) else (if (Int.tmod a0 19) = 15 then (some true) else (if (Int.tmod a0 19) = 18 then (some true) else (some false))))))))

/-! DEFS lunisolar_YearDays -/
def lunisolar_YearDays.f (a0 : Int) : Option (Int) := if a0 < 0 then (some 0) else ((lunisolar_Leap.f a0).bind fun t101 => (if t101 = true then (some 384) else (some 354)))

/-! DEFS lunisolar_Months -/
def lunisolar_Months.l0 : Nat → Int → List (S34) → Int → Option ((List (S34)))
  | 0, _, _, _ => none
  | k + 1, x0, x3, x4 => if x4 ≤ 12 then (if x3.length < 3518437208883 then ((some (x3 ++ [(⟨2, x0, x4, 1, false⟩ : S34)] : List (S34))).bind fun y102 => (if x4 = 6 then ((lunisolar_Leap.f x0).bind fun t105 => (if t105 = true then (if y102.length < 3518437208883 then (lunisolar_Months.l0 k x0 (y102 ++ [(⟨2, x0, x4, 1, true⟩ : S34)]) (wrap64 (x4 + 1))) else (none)) else (lunisolar_Months.l0 k x0 y102 (wrap64 (x4 + 1))))) else (lunisolar_Months.l0 k x0 y102 (wrap64 (x4 + 1))))) else (none)) else (some x3)
def lunisolar_Months.f (k : Nat) (a0 : Int) : Option ((List (S34))) := if a0 < 0 then (some ([] : List (S34))) else (lunisolar_Months.l0 k a0 ([] : List (S34)) 1)
theorem lunisolar_Months.mono_l : ∀ k, (∀ y0 y1 y2, LeO (lunisolar_Months.l0 k y0 y1 y2) (lunisolar_Months.l0 (k + 1) y0 y1 y2))
  | 0 => fun _ _ _ r h => by simp [lunisolar_Months.l0] at h
  | k + 1 => by
    have ih0 := lunisolar_Months.mono_l k
    · intro y0 y1 y2
      unfold lunisolar_Months.l0
      repeat' first
      | (with_reducible exact ih0 _ _ _)
      | (with_reducible exact LeO.refl _)
      | (with_reducible exact LeO.none _)
      | (with_reducible refine LeO.ite ?_ ?_)
      | (with_reducible refine LeO.bind ?_ (fun _ => ?_))
      | exact ih0 _ _ _
      | exact LeO.none _
      | refine LeO.ite ?_ ?_
      | refine LeO.bind ?_ (fun _ => ?_)
theorem lunisolar_Months.mono : ∀ a0 k, LeO (lunisolar_Months.f k a0) (lunisolar_Months.f (k + 1) a0) := by
  intro a0 k
  have ih0 := lunisolar_Months.mono_l k
  unfold lunisolar_Months.f
  repeat' first
      | (with_reducible exact ih0 _ _ _)
      | (with_reducible exact LeO.refl _)
      | (with_reducible exact LeO.none _)
      | (with_reducible refine LeO.ite ?_ ?_)
      | (with_reducible refine LeO.bind ?_ (fun _ => ?_))
      | exact ih0 _ _ _
      | exact LeO.none _
      | refine LeO.ite ?_ ?_
      | refine LeO.bind ?_ (fun _ => ?_)

/-! DEFS lunisolar_MonthDays -/
def lunisolar_MonthDays.f (a0_0 a0_1 a0_2 a0_3 : Int) (a0_4 : Bool) : Option (Int) :=
  if a0_0 = 2 ∧ 0 ≤ a0_1 ∧ 1 ≤ a0_2 ∧ a0_2 ≤ 12 then
    (if a0_4 = false then (some (if a0_2 % 2 = 1 then 30 else 29))
    else if a0_2 = 6 then (lunisolar_Leap.f a0_1).bind fun t => (if t = true then (some 30) else (some 0)) else (some 0))
  else (some 0)

/-! DEFS lunisolar_Date -/
def lunisolar_Date_1.l0 : Nat → List S34 → Int → Int → Option (Int × Int × Int × Int × Bool)
  | 0, _, _, _ => none
  | k + 1, ms, r, i => if i < (ms.length : Int) then ((lunisolar_MonthDays.f (rd_T34 ms i).f0 (rd_T34 ms i).f1 (rd_T34 ms i).f2 (rd_T34 ms i).f3 (rd_T34 ms i).f4).bind fun n => (if r < n then (some ((rd_T34 ms i).f0, (rd_T34 ms i).f1, (rd_T34 ms i).f2, wrap64 (r + 1), (rd_T34 ms i).f4)) else (lunisolar_Date_1.l0 k ms (wrap64 (r - n)) (wrap64 (i + 1))))) else (some (0, 0, 0, 0, false))
def lunisolar_Date.l0 : Nat → Int → Int → Option (Int × Int × Int × Int × Bool × Int)
  | 0, _, _ => none
  | k + 1, y, r => (lunisolar_YearDays.f y).bind fun n => (if r ≥ n then (lunisolar_Date.l0 k (wrap64 (y + 1)) (wrap64 (r - n))) else ((lunisolar_Months.f k y).bind fun ms => ((lunisolar_Date_1.l0 k ms r 0).bind fun d => (some (d.1, d.2.1, d.2.2.1, d.2.2.2.1, d.2.2.2.2, 0)))))
def lunisolar_Date.f (k : Nat) (a0 : Int) : Option (Int × Int × Int × Int × Bool × Int) := if a0 < 0 then (some (0, 0, 0, 0, false, 1)) else (if a0 > 999999 then (some (0, 0, 0, 0, false, 1)) else (lunisolar_Date.l0 k (wrap64 (wrap64 (Int.tdiv a0 6936) * 19)) (Int.tmod a0 6936)))
theorem lunisolar_Date_1.mono_l : ∀ k ms r i, LeO (lunisolar_Date_1.l0 k ms r i) (lunisolar_Date_1.l0 (k + 1) ms r i)
  | 0, _, _, _ => fun r h => by simp [lunisolar_Date_1.l0] at h
  | k + 1, ms, r, i => by
    have ih := lunisolar_Date_1.mono_l k
    unfold lunisolar_Date_1.l0
    refine LeO.ite ?_ (LeO.refl _)
    refine LeO.bind (LeO.refl _) (fun _ => ?_)
    exact LeO.ite (LeO.refl _) (ih _ _ _)
theorem lunisolar_Date.mono_l : ∀ k y r, LeO (lunisolar_Date.l0 k y r) (lunisolar_Date.l0 (k + 1) y r)
  | 0, _, _ => fun r h => by simp [lunisolar_Date.l0] at h
  | k + 1, y, r => by
    have ih := lunisolar_Date.mono_l k
    unfold lunisolar_Date.l0
    refine LeO.bind (LeO.refl _) (fun _ => ?_)
    refine LeO.ite (ih _ _) ?_
    refine LeO.bind (lunisolar_Months.mono _ _) (fun _ => ?_)
    exact LeO.bind (lunisolar_Date_1.mono_l _ _ _ _) (fun _ => LeO.refl _)
theorem lunisolar_Date.mono : ∀ a0 k, LeO (lunisolar_Date.f k a0) (lunisolar_Date.f (k + 1) a0) := by
  intro a0 k
  unfold lunisolar_Date.f
  refine LeO.ite (LeO.refl _) ?_
  exact LeO.ite (LeO.refl _) (lunisolar_Date.mono_l _ _ _)
/-- Of what stood when the call began only the block g may have changed. -/
def KP (w : World) (g : Nat) (W : World) : Prop := w.heap.size ≤ W.heap.size ∧ ∀ i, i < w.heap.size → i ≠ g → W.heap[i]? = w.heap[i]?
theorem KP.refl (w : World) (g : Nat) : KP w g w := ⟨Nat.le_refl _, fun _ _ _ => rfl⟩
theorem KP.step {w W W1 : World} {g : Nat} (h : KP w g W) (hb : Below W.heap.size W W1) : KP w g W1 :=
  ⟨Nat.le_trans h.1 hb.size, fun i hi hg => (hb.block i (Nat.lt_of_lt_of_le hi h.1)).trans (h.2 i hi hg)⟩
theorem KP.alloc {w W : World} {g : Nat} (h : KP w g W) (o : Obj) : KP w g (W.alloc o) := h.step (below_alloc (Below.refl _ _) o)
theorem KP.set {w W : World} {g b j : Nat} (h : KP w g W) (hp : w.heap.size ≤ b ∨ b = g) (u : Value) : KP w g (W.setCell ⟨b, j, none⟩ u) :=
  ⟨by simpa [World.setCell] using h.1, fun i hi hg => (Below.heap_setCell W ⟨b, j, none⟩ u i (by
    show i ≠ b
    rcases hp with hp | hp
    · omega
    · rw [hp]; exact hg)).trans (h.2 i hi hg)⟩
theorem KP.blk {w W : World} {g b : Nat} {o : Obj} (h : KP w g W) (hne : b ≠ g) (hb : w.heap[b]? = some o) : W.heap[b]? = some o := (h.2 b (blk_lt hb) hne).trans hb

/-! DEFS lunisolar_YearStart -/
def lunisolar_YearStart.l0 : Nat → Int → Int → Int → Option (Int × Int)
  | 0, _, _, _ => none
  | k + 1, x0, x4, x5 => if x5 < (Int.tmod x0 19) then ((lunisolar_YearDays.f x5).bind fun t109 => (lunisolar_YearStart.l0 k x0 (wrap64 (x4 + t109)) (wrap64 (x5 + 1)))) else (if x4 > 999999 then (some (0, 2)) else (some (x4, 0)))
def lunisolar_YearStart.f (k : Nat) (a0 : Int) : Option (Int × Int) := if a0 < 0 then (some (0, 1)) else (if a0 > 2825 then (some (0, 2)) else (lunisolar_YearStart.l0 k a0 (wrap64 ((wrap64 (Int.tdiv a0 19)) * 6936)) 0))
theorem lunisolar_YearStart.mono_l : ∀ k, (∀ y0 y1 y2, LeO (lunisolar_YearStart.l0 k y0 y1 y2) (lunisolar_YearStart.l0 (k + 1) y0 y1 y2))
  | 0 => fun _ _ _ r h => by simp [lunisolar_YearStart.l0] at h
  | k + 1 => by
    have ih0 := lunisolar_YearStart.mono_l k
    · intro y0 y1 y2
      unfold lunisolar_YearStart.l0
      repeat' first
      | (with_reducible exact ih0 _ _ _)
      | (with_reducible exact LeO.refl _)
      | (with_reducible exact LeO.none _)
      | (with_reducible refine LeO.ite ?_ ?_)
      | (with_reducible refine LeO.bind ?_ (fun _ => ?_))
      | exact ih0 _ _ _
      | exact LeO.none _
      | refine LeO.ite ?_ ?_
      | refine LeO.bind ?_ (fun _ => ?_)
theorem lunisolar_YearStart.mono : ∀ a0 k, LeO (lunisolar_YearStart.f k a0) (lunisolar_YearStart.f (k + 1) a0) := by
  intro a0 k
  have ih0 := lunisolar_YearStart.mono_l k
  unfold lunisolar_YearStart.f
  repeat' first
      | (with_reducible exact ih0 _ _ _)
      | (with_reducible exact LeO.refl _)
      | (with_reducible exact LeO.none _)
      | (with_reducible refine LeO.ite ?_ ?_)
      | (with_reducible refine LeO.bind ?_ (fun _ => ?_))
      | exact ih0 _ _ _
      | exact LeO.none _
      | refine LeO.ite ?_ ?_
      | refine LeO.bind ?_ (fun _ => ?_)

/-! DEFS lunisolar_Day -/
mutual
def lunisolar_Day.j0 : Nat → Bool → Int → Int → Int → Int → Bool → Option (Int × Int)
  | 0, _, _, _, _, _, _ => none
  | k + 1, x17, x111000, x111001, x111002, x111003, x111004 => if x17 = true then (some (0, 1)) else ((lunisolar_YearStart.f k x111001).bind fun bt112 => (if bt112.2 = 0 then ((lunisolar_Months.f k x111001).bind fun t114 => (lunisolar_Day.l0 k bt112.1 t114 (t114.length : Int) 0 x111000 x111001 x111002 x111003 x111004)) else (some (0, bt112.2))))
def lunisolar_Day.l0 : Nat → Int → List (S34) → Int → Int → Int → Int → Int → Int → Bool → Option (Int × Int)
  | 0, _, _, _, _, _, _, _, _, _ => none
  | k + 1, x4, x29, x30, x31, x111000, x111001, x111002, x111003, x111004 => if x31 < x30 then (if 0 ≤ x31 then (if x31 < (x29.length : Int) then (if ((rd_T34 x29 x31).f2) = x111002 then (if (((rd_T34 x29 x31).f4) == x111004) = true then (if (wrap64 (x4 + (wrap64 (x111003 - 1)))) > 999999 then (some (0, 2)) else (some (wrap64 (x4 + (wrap64 (x111003 - 1))), 0))) else ((lunisolar_MonthDays.f ((rd_T34 x29 x31).f0) ((rd_T34 x29 x31).f1) ((rd_T34 x29 x31).f2) ((rd_T34 x29 x31).f3) ((rd_T34 x29 x31).f4)).bind fun t119 => (lunisolar_Day.l0 k (wrap64 (x4 + t119)) x29 x30 (wrap64 (x31 + 1)) x111000 x111001 x111002 x111003 x111004))) else ((lunisolar_MonthDays.f ((rd_T34 x29 x31).f0) ((rd_T34 x29 x31).f1) ((rd_T34 x29 x31).f2) ((rd_T34 x29 x31).f3) ((rd_T34 x29 x31).f4)).bind fun t120 => (lunisolar_Day.l0 k (wrap64 (x4 + t120)) x29 x30 (wrap64 (x31 + 1)) x111000 x111001 x111002 x111003 x111004))) else (none)) else (none)) else (if (wrap64 (x4 + (wrap64 (x111003 - 1)))) > 999999 then (some (0, 2)) else (some (wrap64 (x4 + (wrap64 (x111003 - 1))), 0)))
end
def lunisolar_Day.f (k : Nat) (a0_0 : Int) (a0_1 : Int) (a0_2 : Int) (a0_3 : Int) (a0_4 : Bool) : Option (Int × Int) := if a0_3 < 1 then (lunisolar_Day.j0 k true a0_0 a0_1 a0_2 a0_3 a0_4) else ((lunisolar_MonthDays.f a0_0 a0_1 a0_2 a0_3 a0_4).bind fun t111 => (lunisolar_Day.j0 k (decide (a0_3 > t111)) a0_0 a0_1 a0_2 a0_3 a0_4))
theorem lunisolar_Day.mono_l : ∀ k, (∀ y0 y1 y2 y3 y4 y5, LeO (lunisolar_Day.j0 k y0 y1 y2 y3 y4 y5) (lunisolar_Day.j0 (k + 1) y0 y1 y2 y3 y4 y5)) ∧ (∀ y0 y1 y2 y3 y4 y5 y6 y7 y8, LeO (lunisolar_Day.l0 k y0 y1 y2 y3 y4 y5 y6 y7 y8) (lunisolar_Day.l0 (k + 1) y0 y1 y2 y3 y4 y5 y6 y7 y8))
  | 0 => ⟨fun _ _ _ _ _ _ r h => by simp [lunisolar_Day.j0] at h, fun _ _ _ _ _ _ _ _ _ r h => by simp [lunisolar_Day.l0] at h⟩
  | k + 1 => by
    obtain ⟨ih0, ih1⟩ := lunisolar_Day.mono_l k
    refine ⟨?_, ?_⟩
    · intro y0 y1 y2 y3 y4 y5
      unfold lunisolar_Day.j0
      repeat' first
      | (with_reducible exact ih0 _ _ _ _ _ _)
      | (with_reducible exact ih1 _ _ _ _ _ _ _ _ _)
      | (with_reducible exact lunisolar_Months.mono _ _)
      | (with_reducible exact lunisolar_YearStart.mono _ _)
      | (with_reducible exact LeO.refl _)
      | (with_reducible exact LeO.none _)
      | (with_reducible refine LeO.ite ?_ ?_)
      | (with_reducible refine LeO.bind ?_ (fun _ => ?_))
      | exact ih0 _ _ _ _ _ _
      | exact ih1 _ _ _ _ _ _ _ _ _
      | exact lunisolar_Months.mono _ _
      | exact lunisolar_YearStart.mono _ _
      | exact LeO.none _
      | refine LeO.ite ?_ ?_
      | refine LeO.bind ?_ (fun _ => ?_)
    · intro y0 y1 y2 y3 y4 y5 y6 y7 y8
      unfold lunisolar_Day.l0
      repeat' first
      | (with_reducible exact ih0 _ _ _ _ _ _)
      | (with_reducible exact ih1 _ _ _ _ _ _ _ _ _)
      | (with_reducible exact lunisolar_Months.mono _ _)
      | (with_reducible exact lunisolar_YearStart.mono _ _)
      | (with_reducible exact LeO.refl _)
      | (with_reducible exact LeO.none _)
      | (with_reducible refine LeO.ite ?_ ?_)
      | (with_reducible refine LeO.bind ?_ (fun _ => ?_))
      | exact ih0 _ _ _ _ _ _
      | exact ih1 _ _ _ _ _ _ _ _ _
      | exact lunisolar_Months.mono _ _
      | exact lunisolar_YearStart.mono _ _
      | exact LeO.none _
      | refine LeO.ite ?_ ?_
      | refine LeO.bind ?_ (fun _ => ?_)
theorem lunisolar_Day.mono : ∀ a0 a1 a2 a3 a4 k, LeO (lunisolar_Day.f k a0 a1 a2 a3 a4) (lunisolar_Day.f (k + 1) a0 a1 a2 a3 a4) := by
  intro a0 a1 a2 a3 a4 k
  obtain ⟨ih0, ih1⟩ := lunisolar_Day.mono_l k
  unfold lunisolar_Day.f
  repeat' first
      | (with_reducible exact ih0 _ _ _ _ _ _)
      | (with_reducible exact ih1 _ _ _ _ _ _ _ _ _)
      | (with_reducible exact lunisolar_Months.mono _ _)
      | (with_reducible exact lunisolar_YearStart.mono _ _)
      | (with_reducible exact LeO.refl _)
      | (with_reducible exact LeO.none _)
      | (with_reducible refine LeO.ite ?_ ?_)
      | (with_reducible refine LeO.bind ?_ (fun _ => ?_))
      | exact ih0 _ _ _ _ _ _
      | exact ih1 _ _ _ _ _ _ _ _ _
      | exact lunisolar_Months.mono _ _
      | exact lunisolar_YearStart.mono _ _
      | exact LeO.none _
      | refine LeO.ite ?_ ?_
      | refine LeO.bind ?_ (fun _ => ?_)

/-! DEFS pentaglotlaw18_awake -/
def pentaglotlaw18_awake.f (k : Nat)  : Option (Bool) := (lunisolar_Date.f k 885).bind fun bt121 => ((lunisolar_Day.f k bt121.1 bt121.2.1 bt121.2.2.1 bt121.2.2.2.1 bt121.2.2.2.2.1).bind fun bt128 => ((lunisolar_Leap.f 2).bind fun t130 => (if t130 = true then ((lunisolar_Leap.f 1).bind fun t131 => (if t131 = true then (some false) else ((lunisolar_YearDays.f 2).bind fun t132 => (if t132 = 384 then (if bt121.2.2.2.2.2 = 0 then (if (bt121.1 == 2 && (bt121.2.1 == 2 && (bt121.2.2.1 == 6 && (bt121.2.2.2.1 == 1 && (bt121.2.2.2.2.1))))) = true then (if bt128.2 = 0 then (if bt128.1 = 885 then ((lunisolar_Months.f k 2).bind fun t133 => (some ((t133.length : Int) == 13))) else (some false)) else (some false)) else (some false)) else (some false)) else (some false))))) else (some false))))
theorem pentaglotlaw18_awake.mono : ∀ k, LeO (pentaglotlaw18_awake.f k ) (pentaglotlaw18_awake.f (k + 1) ) := by
  intro  k
  unfold pentaglotlaw18_awake.f
  repeat' first
      | (with_reducible exact lunisolar_Date.mono _ _)
      | (with_reducible exact lunisolar_Day.mono _ _ _ _ _ _)
      | (with_reducible exact lunisolar_Months.mono _ _)
      | (with_reducible exact LeO.refl _)
      | (with_reducible exact LeO.none _)
      | (with_reducible refine LeO.ite ?_ ?_)
      | (with_reducible refine LeO.bind ?_ (fun _ => ?_))
      | exact lunisolar_Date.mono _ _
      | exact lunisolar_Day.mono _ _ _ _ _ _
      | exact lunisolar_Months.mono _ _
      | exact LeO.none _
      | refine LeO.ite ?_ ?_
      | refine LeO.bind ?_ (fun _ => ?_)

/-! DEFS pentaglotref18_Leap -/
def pentaglotref18_Leap.f (a0 : Int) : Option (Bool) := if a0 < 0 then (some false) else (if (Int.tmod a0 19) = 2 then (some true) else (if (Int.tmod a0 19) = 5 then (some true) else (if (Int.tmod a0 19) = 7 then (some true) else (if (Int.tmod a0 19) = 10 then (some true) else (if (Int.tmod a0 19) = 13 then (some true) else (if (Int.tmod a0 19) = 15 then (some true) else (if (Int.tmod a0 19) = 18 then (some true) else (some false))))))))

/-! DEFS pentaglotref18_YearDays -/
def pentaglotref18_YearDays.f (a0 : Int) : Option (Int) := if a0 < 0 then (some 0) else ((pentaglotref18_Leap.f a0).bind fun t136 => (if t136 = true then (some 384) else (some 354)))

/-! DEFS pentaglotlaw18_LunisolarLeaps -/
mutual
def pentaglotlaw18_LunisolarLeaps.j0 : Nat → Int → Bool → Option (Bool)
  | 0, _, _ => none
  | k + 1, x0, x21 => if x21 = true then (some false) else (if x0 < 0 then (pentaglotlaw18_LunisolarLeaps.j1 k x0 true) else (pentaglotlaw18_LunisolarLeaps.j1 k x0 (decide (x0 > 1152921504606846976))))
def pentaglotlaw18_LunisolarLeaps.j1 : Nat → Int → Bool → Option (Bool)
  | 0, _, _ => none
  | k + 1, x0, x27 => if x27 = true then (some true) else (pentaglotlaw18_LunisolarLeaps.l0 k x0 0 0 0)
def pentaglotlaw18_LunisolarLeaps.l0 : Nat → Int → Int → Int → Int → Option (Bool)
  | 0, _, _, _, _ => none
  | k + 1, x0, x3, x4, x5 => if x5 < 19 then ((lunisolar_YearDays.f (wrap64 (x0 + x5))).bind fun t142 => ((lunisolar_Leap.f (wrap64 (x0 + x5))).bind fun t143 => (if t143 = true then (pentaglotlaw18_LunisolarLeaps.l0 k x0 (wrap64 (x3 + 1)) (wrap64 (x4 + t142)) (wrap64 (x5 + 1))) else (pentaglotlaw18_LunisolarLeaps.l0 k x0 x3 (wrap64 (x4 + t142)) (wrap64 (x5 + 1)))))) else (if x3 = 7 then (some (x4 == 6936)) else (some false))
end
def pentaglotlaw18_LunisolarLeaps.f (k : Nat) (a0 : Int) : Option (Bool) := (pentaglotlaw18_awake.f k).bind fun t137 => (if t137 = true then ((lunisolar_Leap.f a0).bind fun t138 => ((pentaglotref18_Leap.f a0).bind fun t139 => (if (t138 != t139) = true then (pentaglotlaw18_LunisolarLeaps.j0 k a0 true) else ((lunisolar_YearDays.f a0).bind fun t140 => ((pentaglotref18_YearDays.f a0).bind fun t141 => (pentaglotlaw18_LunisolarLeaps.j0 k a0 (t140 != t141))))))) else (pentaglotlaw18_LunisolarLeaps.j0 k a0 true))
theorem pentaglotlaw18_LunisolarLeaps.mono_l : ∀ k, (∀ y0 y1, LeO (pentaglotlaw18_LunisolarLeaps.j0 k y0 y1) (pentaglotlaw18_LunisolarLeaps.j0 (k + 1) y0 y1)) ∧ (∀ y0 y1, LeO (pentaglotlaw18_LunisolarLeaps.j1 k y0 y1) (pentaglotlaw18_LunisolarLeaps.j1 (k + 1) y0 y1)) ∧ (∀ y0 y1 y2 y3, LeO (pentaglotlaw18_LunisolarLeaps.l0 k y0 y1 y2 y3) (pentaglotlaw18_LunisolarLeaps.l0 (k + 1) y0 y1 y2 y3))
  | 0 => ⟨fun _ _ r h => by simp [pentaglotlaw18_LunisolarLeaps.j0] at h, fun _ _ r h => by simp [pentaglotlaw18_LunisolarLeaps.j1] at h, fun _ _ _ _ r h => by simp [pentaglotlaw18_LunisolarLeaps.l0] at h⟩
  | k + 1 => by
    obtain ⟨ih0, ih1, ih2⟩ := pentaglotlaw18_LunisolarLeaps.mono_l k
    refine ⟨?_, ?_, ?_⟩
    · intro y0 y1
      unfold pentaglotlaw18_LunisolarLeaps.j0
      repeat' first
      | (with_reducible exact ih0 _ _)
      | (with_reducible exact ih1 _ _)
      | (with_reducible exact ih2 _ _ _ _)
      | (with_reducible exact pentaglotlaw18_awake.mono _)
      | (with_reducible exact LeO.refl _)
      | (with_reducible exact LeO.none _)
      | (with_reducible refine LeO.ite ?_ ?_)
      | (with_reducible refine LeO.bind ?_ (fun _ => ?_))
      | exact ih0 _ _
      | exact ih1 _ _
      | exact ih2 _ _ _ _
      | exact pentaglotlaw18_awake.mono _
      | exact LeO.none _
      | refine LeO.ite ?_ ?_
      | refine LeO.bind ?_ (fun _ => ?_)
    · intro y0 y1
      unfold pentaglotlaw18_LunisolarLeaps.j1
      repeat' first
      | (with_reducible exact ih0 _ _)
      | (with_reducible exact ih1 _ _)
      | (with_reducible exact ih2 _ _ _ _)
      | (with_reducible exact pentaglotlaw18_awake.mono _)
      | (with_reducible exact LeO.refl _)
      | (with_reducible exact LeO.none _)
      | (with_reducible refine LeO.ite ?_ ?_)
      | (with_reducible refine LeO.bind ?_ (fun _ => ?_))
      | exact ih0 _ _
      | exact ih1 _ _
      | exact ih2 _ _ _ _
      | exact pentaglotlaw18_awake.mono _
      | exact LeO.none _
      | refine LeO.ite ?_ ?_
      | refine LeO.bind ?_ (fun _ => ?_)
    · intro y0 y1 y2 y3
      unfold pentaglotlaw18_LunisolarLeaps.l0
      repeat' first
      | (with_reducible exact ih0 _ _)
      | (with_reducible exact ih1 _ _)
      | (with_reducible exact ih2 _ _ _ _)
      | (with_reducible exact pentaglotlaw18_awake.mono _)
      | (with_reducible exact LeO.refl _)
      | (with_reducible exact LeO.none _)
      | (with_reducible refine LeO.ite ?_ ?_)
      | (with_reducible refine LeO.bind ?_ (fun _ => ?_))
      | exact ih0 _ _
      | exact ih1 _ _
      | exact ih2 _ _ _ _
      | exact pentaglotlaw18_awake.mono _
      | exact LeO.none _
      | refine LeO.ite ?_ ?_
      | refine LeO.bind ?_ (fun _ => ?_)
theorem pentaglotlaw18_LunisolarLeaps.mono : ∀ a0 k, LeO (pentaglotlaw18_LunisolarLeaps.f k a0) (pentaglotlaw18_LunisolarLeaps.f (k + 1) a0) := by
  intro a0 k
  obtain ⟨ih0, ih1, ih2⟩ := pentaglotlaw18_LunisolarLeaps.mono_l k
  unfold pentaglotlaw18_LunisolarLeaps.f
  repeat' first
      | (with_reducible exact ih0 _ _)
      | (with_reducible exact ih1 _ _)
      | (with_reducible exact ih2 _ _ _ _)
      | (with_reducible exact pentaglotlaw18_awake.mono _)
      | (with_reducible exact LeO.refl _)
      | (with_reducible exact LeO.none _)
      | (with_reducible refine LeO.ite ?_ ?_)
      | (with_reducible refine LeO.bind ?_ (fun _ => ?_))
      | exact ih0 _ _
      | exact ih1 _ _
      | exact ih2 _ _ _ _
      | exact pentaglotlaw18_awake.mono _
      | exact LeO.none _
      | refine LeO.ite ?_ ?_
      | refine LeO.bind ?_ (fun _ => ?_)

/-! DEFS pentaglotref18_YearStart -/
def pentaglotref18_YearStart.l0 : Nat → Int → Int → Int → Option (Int × Bool)
  | 0, _, _, _ => none
  | k + 1, x0, x4, x5 => if x5 < x0 then ((pentaglotref18_YearDays.f x5).bind fun t144 => (if (wrap64 (x4 + t144)) > 999999 then (some (0, false)) else (pentaglotref18_YearStart.l0 k x0 (wrap64 (x4 + t144)) (wrap64 (x5 + 1))))) else (some (x4, true))
def pentaglotref18_YearStart.f (k : Nat) (a0 : Int) : Option (Int × Bool) := pentaglotref18_YearStart.l0 k a0 0 0
theorem pentaglotref18_YearStart.mono_l : ∀ k, (∀ y0 y1 y2, LeO (pentaglotref18_YearStart.l0 k y0 y1 y2) (pentaglotref18_YearStart.l0 (k + 1) y0 y1 y2))
  | 0 => fun _ _ _ r h => by simp [pentaglotref18_YearStart.l0] at h
  | k + 1 => by
    have ih0 := pentaglotref18_YearStart.mono_l k
    · intro y0 y1 y2
      unfold pentaglotref18_YearStart.l0
      repeat' first
      | (with_reducible exact ih0 _ _ _)
      | (with_reducible exact LeO.refl _)
      | (with_reducible exact LeO.none _)
      | (with_reducible refine LeO.ite ?_ ?_)
      | (with_reducible refine LeO.bind ?_ (fun _ => ?_))
      | exact ih0 _ _ _
      | exact LeO.none _
      | refine LeO.ite ?_ ?_
      | refine LeO.bind ?_ (fun _ => ?_)
theorem pentaglotref18_YearStart.mono : ∀ a0 k, LeO (pentaglotref18_YearStart.f k a0) (pentaglotref18_YearStart.f (k + 1) a0) := by
  intro a0 k
  have ih0 := pentaglotref18_YearStart.mono_l k
  unfold pentaglotref18_YearStart.f
  repeat' first
      | (with_reducible exact ih0 _ _ _)
      | (with_reducible exact LeO.refl _)
      | (with_reducible exact LeO.none _)
      | (with_reducible refine LeO.ite ?_ ?_)
      | (with_reducible refine LeO.bind ?_ (fun _ => ?_))
      | exact ih0 _ _ _
      | exact LeO.none _
      | refine LeO.ite ?_ ?_
      | refine LeO.bind ?_ (fun _ => ?_)

/-! DEFS pentaglotlaw18_LunisolarYears -/
def pentaglotlaw18_LunisolarYears.f (k : Nat) (a0 : Int) : Option (Bool) := (pentaglotlaw18_awake.f k).bind fun t145 => (if t145 = true then ((lunisolar_YearStart.f k a0).bind fun bt146 => (if a0 < 0 then (if bt146.1 = 0 then (some (bt146.2 == 1)) else (some false)) else ((pentaglotref18_YearStart.f k a0).bind fun bt148 => (if bt148.2 = true then ((lunisolar_YearStart.f k (wrap64 (a0 + 1))).bind fun bt150 => (if bt146.1 = bt148.1 then (if bt146.2 = 0 then (if bt150.2 = 2 then (if bt150.1 = 0 then ((lunisolar_YearDays.f a0).bind fun t152 => (if (wrap64 (bt146.1 + t152)) > 999999 then (some true) else (if bt150.2 = 0 then ((lunisolar_YearDays.f a0).bind fun t153 => (some (bt150.1 == (wrap64 (bt146.1 + t153))))) else (some false)))) else (if bt150.2 = 0 then ((lunisolar_YearDays.f a0).bind fun t154 => (some (bt150.1 == (wrap64 (bt146.1 + t154))))) else (some false))) else (if bt150.2 = 0 then ((lunisolar_YearDays.f a0).bind fun t155 => (some (bt150.1 == (wrap64 (bt146.1 + t155))))) else (some false))) else (some false)) else (some false))) else (if bt146.1 = 0 then (some (bt146.2 == 2)) else (some false)))))) else (some false))
theorem pentaglotlaw18_LunisolarYears.mono : ∀ a0 k, LeO (pentaglotlaw18_LunisolarYears.f k a0) (pentaglotlaw18_LunisolarYears.f (k + 1) a0) := by
  intro a0 k
  unfold pentaglotlaw18_LunisolarYears.f
  repeat' first
      | (with_reducible exact lunisolar_YearStart.mono _ _)
      | (with_reducible exact pentaglotlaw18_awake.mono _)
      | (with_reducible exact pentaglotref18_YearStart.mono _ _)
      | (with_reducible exact LeO.refl _)
      | (with_reducible exact LeO.none _)
      | (with_reducible refine LeO.ite ?_ ?_)
      | (with_reducible refine LeO.bind ?_ (fun _ => ?_))
      | exact lunisolar_YearStart.mono _ _
      | exact pentaglotlaw18_awake.mono _
      | exact pentaglotref18_YearStart.mono _ _
      | exact LeO.none _
      | refine LeO.ite ?_ ?_
      | refine LeO.bind ?_ (fun _ => ?_)

/-! DEFS pentaglotref18_Same -/
def pentaglotref18_Same.l0 : Nat → List (S34) → List (S34) → Int → Option (Bool)
  | 0, _, _, _ => none
  | k + 1, x0, x1, x5 => if x5 < (x0.length : Int) then (if 0 ≤ x5 then (if x5 < (x1.length : Int) then (if (!(((rd_T34 x0 x5).f0) == ((rd_T34 x1 x5).f0)) || (!(((rd_T34 x0 x5).f1) == ((rd_T34 x1 x5).f1)) || (!(((rd_T34 x0 x5).f2) == ((rd_T34 x1 x5).f2)) || (!(((rd_T34 x0 x5).f3) == ((rd_T34 x1 x5).f3)) || (!(((rd_T34 x0 x5).f4) == ((rd_T34 x1 x5).f4))))))) = true then (some false) else (pentaglotref18_Same.l0 k x0 x1 (wrap64 (x5 + 1)))) else (none)) else (none)) else (some true)
def pentaglotref18_Same.f (k : Nat) (l0 : List (S34)) (l1 : List (S34)) : Option (Bool) := if (l0.length : Int) = (l1.length : Int) then (pentaglotref18_Same.l0 k l0 l1 0) else (some false)
theorem pentaglotref18_Same.mono_l : ∀ k, (∀ y0 y1 y2, LeO (pentaglotref18_Same.l0 k y0 y1 y2) (pentaglotref18_Same.l0 (k + 1) y0 y1 y2))
  | 0 => fun _ _ _ r h => by simp [pentaglotref18_Same.l0] at h
  | k + 1 => by
    have ih0 := pentaglotref18_Same.mono_l k
    · intro y0 y1 y2
      unfold pentaglotref18_Same.l0
      repeat' first
      | (with_reducible exact ih0 _ _ _)
      | (with_reducible exact LeO.refl _)
      | (with_reducible exact LeO.none _)
      | (with_reducible refine LeO.ite ?_ ?_)
      | (with_reducible refine LeO.bind ?_ (fun _ => ?_))
      | exact ih0 _ _ _
      | exact LeO.none _
      | refine LeO.ite ?_ ?_
      | refine LeO.bind ?_ (fun _ => ?_)
theorem pentaglotref18_Same.mono : ∀ a0 a1 k, LeO (pentaglotref18_Same.f k a0 a1) (pentaglotref18_Same.f (k + 1) a0 a1) := by
  intro a0 a1 k
  have ih0 := pentaglotref18_Same.mono_l k
  unfold pentaglotref18_Same.f
  repeat' first
      | (with_reducible exact ih0 _ _ _)
      | (with_reducible exact LeO.refl _)
      | (with_reducible exact LeO.none _)
      | (with_reducible refine LeO.ite ?_ ?_)
      | (with_reducible refine LeO.bind ?_ (fun _ => ?_))
      | exact ih0 _ _ _
      | exact LeO.none _
      | refine LeO.ite ?_ ?_
      | refine LeO.bind ?_ (fun _ => ?_)

/-! DEFS pentaglotref18_Months -/
mutual
def pentaglotref18_Months.l0 : Nat → Int → List (S34) → Int → Option ((List (S34)))
  | 0, _, _, _ => none
  | k + 1, x0, x3, x4 => if x4 ≤ 12 then (pentaglotref18_Months.j1 k x0 x3 x4 (decide (x0 ≥ 0))) else (pentaglotref18_Months.j1 k x0 x3 x4 false)
def pentaglotref18_Months.j1 : Nat → Int → List (S34) → Int → Bool → Option ((List (S34)))
  | 0, _, _, _, _ => none
  | k + 1, x0, x3, x4, x11 => if x11 = true then (if x3.length < 3518437208883 then ((some (x3 ++ [(⟨2, x0, x4, 1, false⟩ : S34)] : List (S34))).bind fun y161 => (if x4 = 6 then ((pentaglotref18_Leap.f x0).bind fun t164 => (if t164 = true then (if y161.length < 3518437208883 then (pentaglotref18_Months.l0 k x0 (y161 ++ [(⟨2, x0, x4, 1, true⟩ : S34)]) (wrap64 (x4 + 1))) else (none)) else (pentaglotref18_Months.l0 k x0 y161 (wrap64 (x4 + 1))))) else (pentaglotref18_Months.l0 k x0 y161 (wrap64 (x4 + 1))))) else (none)) else (some x3)
end
def pentaglotref18_Months.f (k : Nat) (a0 : Int) : Option ((List (S34))) := pentaglotref18_Months.l0 k a0 (([] : List (S34))) 1
theorem pentaglotref18_Months.mono_l : ∀ k, (∀ y0 y1 y2, LeO (pentaglotref18_Months.l0 k y0 y1 y2) (pentaglotref18_Months.l0 (k + 1) y0 y1 y2)) ∧ (∀ y0 y1 y2 y3, LeO (pentaglotref18_Months.j1 k y0 y1 y2 y3) (pentaglotref18_Months.j1 (k + 1) y0 y1 y2 y3))
  | 0 => ⟨fun _ _ _ r h => by simp [pentaglotref18_Months.l0] at h, fun _ _ _ _ r h => by simp [pentaglotref18_Months.j1] at h⟩
  | k + 1 => by
    obtain ⟨ih0, ih1⟩ := pentaglotref18_Months.mono_l k
    refine ⟨?_, ?_⟩
    · intro y0 y1 y2
      unfold pentaglotref18_Months.l0
      repeat' first
      | (with_reducible exact ih0 _ _ _)
      | (with_reducible exact ih1 _ _ _ _)
      | (with_reducible exact LeO.refl _)
      | (with_reducible exact LeO.none _)
      | (with_reducible refine LeO.ite ?_ ?_)
      | (with_reducible refine LeO.bind ?_ (fun _ => ?_))
      | exact ih0 _ _ _
      | exact ih1 _ _ _ _
      | exact LeO.none _
      | refine LeO.ite ?_ ?_
      | refine LeO.bind ?_ (fun _ => ?_)
    · intro y0 y1 y2 y3
      unfold pentaglotref18_Months.j1
      repeat' first
      | (with_reducible exact ih0 _ _ _)
      | (with_reducible exact ih1 _ _ _ _)
      | (with_reducible exact LeO.refl _)
      | (with_reducible exact LeO.none _)
      | (with_reducible refine LeO.ite ?_ ?_)
      | (with_reducible refine LeO.bind ?_ (fun _ => ?_))
      | exact ih0 _ _ _
      | exact ih1 _ _ _ _
      | exact LeO.none _
      | refine LeO.ite ?_ ?_
      | refine LeO.bind ?_ (fun _ => ?_)
theorem pentaglotref18_Months.mono : ∀ a0 k, LeO (pentaglotref18_Months.f k a0) (pentaglotref18_Months.f (k + 1) a0) := by
  intro a0 k
  obtain ⟨ih0, ih1⟩ := pentaglotref18_Months.mono_l k
  unfold pentaglotref18_Months.f
  repeat' first
      | (with_reducible exact ih0 _ _ _)
      | (with_reducible exact ih1 _ _ _ _)
      | (with_reducible exact LeO.refl _)
      | (with_reducible exact LeO.none _)
      | (with_reducible refine LeO.ite ?_ ?_)
      | (with_reducible refine LeO.bind ?_ (fun _ => ?_))
      | exact ih0 _ _ _
      | exact ih1 _ _ _ _
      | exact LeO.none _
      | refine LeO.ite ?_ ?_
      | refine LeO.bind ?_ (fun _ => ?_)

/-! DEFS pentaglotlaw18_LunisolarMonths -/
def pentaglotlaw18_LunisolarMonths.l0 : Nat → Int → List (S34) → Int → Int → Option (Bool)
  | 0, _, _, _, _ => none
  | k + 1, x0, x3, x4, x5 => if x5 < (x3.length : Int) then (if 0 ≤ x5 then ((lunisolar_MonthDays.f ((rd_T34 x3 x5).f0) ((rd_T34 x3 x5).f1) ((rd_T34 x3 x5).f2) ((rd_T34 x3 x5).f3) ((rd_T34 x3 x5).f4)).bind fun t173 => (pentaglotlaw18_LunisolarMonths.l0 k x0 x3 (wrap64 (x4 + t173)) (wrap64 (x5 + 1)))) else (none)) else ((pentaglotref18_Months.f k x0).bind fun t174 => ((pentaglotref18_Same.f k x3 t174).bind fun t177 => (if t177 = true then ((lunisolar_YearDays.f x0).bind fun t178 => (some (x4 == t178))) else (some false))))
def pentaglotlaw18_LunisolarMonths.f (k : Nat) (a0 : Int) : Option (Bool) := (pentaglotlaw18_awake.f k).bind fun t168 => (if t168 = true then ((lunisolar_Months.f k a0).bind fun t169 => (pentaglotlaw18_LunisolarMonths.l0 k a0 t169 0 0)) else (some false))
theorem pentaglotlaw18_LunisolarMonths.mono_l : ∀ k, (∀ y0 y1 y2 y3, LeO (pentaglotlaw18_LunisolarMonths.l0 k y0 y1 y2 y3) (pentaglotlaw18_LunisolarMonths.l0 (k + 1) y0 y1 y2 y3))
  | 0 => fun _ _ _ _ r h => by simp [pentaglotlaw18_LunisolarMonths.l0] at h
  | k + 1 => by
    have ih0 := pentaglotlaw18_LunisolarMonths.mono_l k
    · intro y0 y1 y2 y3
      unfold pentaglotlaw18_LunisolarMonths.l0
      repeat' first
      | (with_reducible exact ih0 _ _ _ _)
      | (with_reducible exact lunisolar_Months.mono _ _)
      | (with_reducible exact pentaglotlaw18_awake.mono _)
      | (with_reducible exact pentaglotref18_Months.mono _ _)
      | (with_reducible exact pentaglotref18_Same.mono _ _ _)
      | (with_reducible exact LeO.refl _)
      | (with_reducible exact LeO.none _)
      | (with_reducible refine LeO.ite ?_ ?_)
      | (with_reducible refine LeO.bind ?_ (fun _ => ?_))
      | exact ih0 _ _ _ _
      | exact lunisolar_Months.mono _ _
      | exact pentaglotlaw18_awake.mono _
      | exact pentaglotref18_Months.mono _ _
      | exact pentaglotref18_Same.mono _ _ _
      | exact LeO.none _
      | refine LeO.ite ?_ ?_
      | refine LeO.bind ?_ (fun _ => ?_)
theorem pentaglotlaw18_LunisolarMonths.mono : ∀ a0 k, LeO (pentaglotlaw18_LunisolarMonths.f k a0) (pentaglotlaw18_LunisolarMonths.f (k + 1) a0) := by
  intro a0 k
  have ih0 := pentaglotlaw18_LunisolarMonths.mono_l k
  unfold pentaglotlaw18_LunisolarMonths.f
  repeat' first
      | (with_reducible exact ih0 _ _ _ _)
      | (with_reducible exact lunisolar_Months.mono _ _)
      | (with_reducible exact pentaglotlaw18_awake.mono _)
      | (with_reducible exact pentaglotref18_Months.mono _ _)
      | (with_reducible exact pentaglotref18_Same.mono _ _ _)
      | (with_reducible exact LeO.refl _)
      | (with_reducible exact LeO.none _)
      | (with_reducible refine LeO.ite ?_ ?_)
      | (with_reducible refine LeO.bind ?_ (fun _ => ?_))
      | exact ih0 _ _ _ _
      | exact lunisolar_Months.mono _ _
      | exact pentaglotlaw18_awake.mono _
      | exact pentaglotref18_Months.mono _ _
      | exact pentaglotref18_Same.mono _ _ _
      | exact LeO.none _
      | refine LeO.ite ?_ ?_
      | refine LeO.bind ?_ (fun _ => ?_)

/-! DEFS pentaglotref18_MonthDays -/
mutual
def pentaglotref18_MonthDays.j0 : Nat → Bool → Int → Int → Int → Int → Bool → Option (Int)
  | 0, _, _, _, _, _, _ => none
  | k + 1, x20, x180000, x180001, x180002, x180003, x180004 => if x20 = true then (some 0) else (if x180004 = true then (if x180002 = 6 then ((pentaglotref18_Leap.f x180001).bind fun t180 => (pentaglotref18_MonthDays.j1 k (!t180))) else (pentaglotref18_MonthDays.j1 k true)) else (if (Int.tmod x180002 2) = 1 then (some 30) else (some 29)))
def pentaglotref18_MonthDays.j1 : Nat → Bool → Option (Int)
  | 0, _ => none
  | k + 1, x31 => if x31 = true then (some 0) else (some 30)
end
def pentaglotref18_MonthDays.f (k : Nat) (a0_0 : Int) (a0_1 : Int) (a0_2 : Int) (a0_3 : Int) (a0_4 : Bool) : Option (Int) := if a0_0 = 2 then (if a0_1 < 0 then (pentaglotref18_MonthDays.j0 k true a0_0 a0_1 a0_2 a0_3 a0_4) else (if a0_2 < 1 then (pentaglotref18_MonthDays.j0 k true a0_0 a0_1 a0_2 a0_3 a0_4) else (pentaglotref18_MonthDays.j0 k (decide (a0_2 > 12)) a0_0 a0_1 a0_2 a0_3 a0_4))) else (pentaglotref18_MonthDays.j0 k true a0_0 a0_1 a0_2 a0_3 a0_4)
theorem pentaglotref18_MonthDays.mono_l : ∀ k, (∀ y0 y1 y2 y3 y4 y5, LeO (pentaglotref18_MonthDays.j0 k y0 y1 y2 y3 y4 y5) (pentaglotref18_MonthDays.j0 (k + 1) y0 y1 y2 y3 y4 y5)) ∧ (∀ y0, LeO (pentaglotref18_MonthDays.j1 k y0) (pentaglotref18_MonthDays.j1 (k + 1) y0))
  | 0 => ⟨fun _ _ _ _ _ _ r h => by simp [pentaglotref18_MonthDays.j0] at h, fun _ r h => by simp [pentaglotref18_MonthDays.j1] at h⟩
  | k + 1 => by
    obtain ⟨ih0, ih1⟩ := pentaglotref18_MonthDays.mono_l k
    refine ⟨?_, ?_⟩
    · intro y0 y1 y2 y3 y4 y5
      unfold pentaglotref18_MonthDays.j0
      repeat' first
      | (with_reducible exact ih0 _ _ _ _ _ _)
      | (with_reducible exact ih1 _)
      | (with_reducible exact LeO.refl _)
      | (with_reducible exact LeO.none _)
      | (with_reducible refine LeO.ite ?_ ?_)
      | (with_reducible refine LeO.bind ?_ (fun _ => ?_))
      | exact ih0 _ _ _ _ _ _
      | exact ih1 _
      | exact LeO.none _
      | refine LeO.ite ?_ ?_
      | refine LeO.bind ?_ (fun _ => ?_)
    · intro y0
      unfold pentaglotref18_MonthDays.j1
      repeat' first
      | (with_reducible exact ih0 _ _ _ _ _ _)
      | (with_reducible exact ih1 _)
      | (with_reducible exact LeO.refl _)
      | (with_reducible exact LeO.none _)
      | (with_reducible refine LeO.ite ?_ ?_)
      | (with_reducible refine LeO.bind ?_ (fun _ => ?_))
      | exact ih0 _ _ _ _ _ _
      | exact ih1 _
      | exact LeO.none _
      | refine LeO.ite ?_ ?_
      | refine LeO.bind ?_ (fun _ => ?_)
theorem pentaglotref18_MonthDays.mono : ∀ a0 a1 a2 a3 a4 k, LeO (pentaglotref18_MonthDays.f k a0 a1 a2 a3 a4) (pentaglotref18_MonthDays.f (k + 1) a0 a1 a2 a3 a4) := by
  intro a0 a1 a2 a3 a4 k
  obtain ⟨ih0, ih1⟩ := pentaglotref18_MonthDays.mono_l k
  unfold pentaglotref18_MonthDays.f
  repeat' first
      | (with_reducible exact ih0 _ _ _ _ _ _)
      | (with_reducible exact ih1 _)
      | (with_reducible exact LeO.refl _)
      | (with_reducible exact LeO.none _)
      | (with_reducible refine LeO.ite ?_ ?_)
      | (with_reducible refine LeO.bind ?_ (fun _ => ?_))
      | exact ih0 _ _ _ _ _ _
      | exact ih1 _
      | exact LeO.none _
      | refine LeO.ite ?_ ?_
      | refine LeO.bind ?_ (fun _ => ?_)

/-! DEFS pentaglotlaw18_LunisolarMonthDays -/
def pentaglotlaw18_LunisolarMonthDays.f (k : Nat) (a0_0 : Int) (a0_1 : Int) (a0_2 : Int) (a0_3 : Int) (a0_4 : Bool) (a1 : Int) : Option (Bool) := (pentaglotlaw18_awake.f k).bind fun t182 => (if t182 = true then ((lunisolar_MonthDays.f a0_0 a0_1 a0_2 a0_3 a0_4).bind fun t184 => ((pentaglotref18_MonthDays.f k a0_0 a0_1 a0_2 a0_3 a0_4).bind fun t185 => (if t184 = t185 then ((lunisolar_MonthDays.f a0_0 a0_1 a0_2 a1 a0_4).bind fun t186 => ((pentaglotref18_MonthDays.f k a0_0 a0_1 a0_2 a0_3 a0_4).bind fun t187 => (some (t186 == t187)))) else (some false)))) else (some false))
theorem pentaglotlaw18_LunisolarMonthDays.mono : ∀ a0 a1 a2 a3 a4 a5 k, LeO (pentaglotlaw18_LunisolarMonthDays.f k a0 a1 a2 a3 a4 a5) (pentaglotlaw18_LunisolarMonthDays.f (k + 1) a0 a1 a2 a3 a4 a5) := by
  intro a0 a1 a2 a3 a4 a5 k
  unfold pentaglotlaw18_LunisolarMonthDays.f
  repeat' first
      | (with_reducible exact pentaglotlaw18_awake.mono _)
      | (with_reducible exact pentaglotref18_MonthDays.mono _ _ _ _ _ _)
      | (with_reducible exact LeO.refl _)
      | (with_reducible exact LeO.none _)
      | (with_reducible refine LeO.ite ?_ ?_)
      | (with_reducible refine LeO.bind ?_ (fun _ => ?_))
      | exact pentaglotlaw18_awake.mono _
      | exact pentaglotref18_MonthDays.mono _ _ _ _ _ _
      | exact LeO.none _
      | refine LeO.ite ?_ ?_
      | refine LeO.bind ?_ (fun _ => ?_)

/-! DEFS pentaglotlaw18_day -/
def pentaglotlaw18_day.f (a0 : Int) : Option (Bool) := if a0 ≥ 0 then (some (decide (a0 ≤ 999999))) else (some false)

/-! DEFS pentaglotref18_Date -/
mutual
def pentaglotref18_Date.l0 : Nat → Int → Int → Option (Int × Int × Int × Int × Bool)
  | 0, _, _ => none
  | k + 1, x0, x3 => (pentaglotref18_YearDays.f x3).bind fun t189 => (if x0 ≥ t189 then ((pentaglotref18_YearDays.f x3).bind fun t190 => (pentaglotref18_Date.l0 k (wrap64 (x0 - t190)) (wrap64 (x3 + 1)))) else ((pentaglotref18_Months.f k x3).bind fun t191 => (pentaglotref18_Date.l1 k x0 t191 0)))
def pentaglotref18_Date.l1 : Nat → Int → List (S34) → Int → Option (Int × Int × Int × Int × Bool)
  | 0, _, _, _ => none
  | k + 1, x0, x4, x5 => if 0 ≤ x5 then (if x5 < (x4.length : Int) then ((pentaglotref18_MonthDays.f k ((rd_T34 x4 x5).f0) ((rd_T34 x4 x5).f1) ((rd_T34 x4 x5).f2) ((rd_T34 x4 x5).f3) ((rd_T34 x4 x5).f4)).bind fun t195 => (if x0 ≥ t195 then ((pentaglotref18_MonthDays.f k ((rd_T34 x4 x5).f0) ((rd_T34 x4 x5).f1) ((rd_T34 x4 x5).f2) ((rd_T34 x4 x5).f3) ((rd_T34 x4 x5).f4)).bind fun t197 => (pentaglotref18_Date.l1 k (wrap64 (x0 - t197)) x4 (wrap64 (x5 + 1)))) else (some ((rd_T34 x4 x5).f0, (rd_T34 x4 x5).f1, (rd_T34 x4 x5).f2, wrap64 (x0 + 1), (rd_T34 x4 x5).f4)))) else (none)) else (none)
end
def pentaglotref18_Date.f (k : Nat) (a0 : Int) : Option (Int × Int × Int × Int × Bool) := pentaglotref18_Date.l0 k a0 0
theorem pentaglotref18_Date.mono_l : ∀ k, (∀ y0 y1, LeO (pentaglotref18_Date.l0 k y0 y1) (pentaglotref18_Date.l0 (k + 1) y0 y1)) ∧ (∀ y0 y1 y2, LeO (pentaglotref18_Date.l1 k y0 y1 y2) (pentaglotref18_Date.l1 (k + 1) y0 y1 y2))
  | 0 => ⟨fun _ _ r h => by simp [pentaglotref18_Date.l0] at h, fun _ _ _ r h => by simp [pentaglotref18_Date.l1] at h⟩
  | k + 1 => by
    obtain ⟨ih0, ih1⟩ := pentaglotref18_Date.mono_l k
    refine ⟨?_, ?_⟩
    · intro y0 y1
      unfold pentaglotref18_Date.l0
      repeat' first
      | (with_reducible exact ih0 _ _)
      | (with_reducible exact ih1 _ _ _)
      | (with_reducible exact pentaglotref18_MonthDays.mono _ _ _ _ _ _)
      | (with_reducible exact pentaglotref18_Months.mono _ _)
      | (with_reducible exact LeO.refl _)
      | (with_reducible exact LeO.none _)
      | (with_reducible refine LeO.ite ?_ ?_)
      | (with_reducible refine LeO.bind ?_ (fun _ => ?_))
      | exact ih0 _ _
      | exact ih1 _ _ _
      | exact pentaglotref18_MonthDays.mono _ _ _ _ _ _
      | exact pentaglotref18_Months.mono _ _
      | exact LeO.none _
      | refine LeO.ite ?_ ?_
      | refine LeO.bind ?_ (fun _ => ?_)
    · intro y0 y1 y2
      unfold pentaglotref18_Date.l1
      repeat' first
      | (with_reducible exact ih0 _ _)
      | (with_reducible exact ih1 _ _ _)
      | (with_reducible exact pentaglotref18_MonthDays.mono _ _ _ _ _ _)
      | (with_reducible exact pentaglotref18_Months.mono _ _)
      | (with_reducible exact LeO.refl _)
      | (with_reducible exact LeO.none _)
      | (with_reducible refine LeO.ite ?_ ?_)
      | (with_reducible refine LeO.bind ?_ (fun _ => ?_))
      | exact ih0 _ _
      | exact ih1 _ _ _
      | exact pentaglotref18_MonthDays.mono _ _ _ _ _ _
      | exact pentaglotref18_Months.mono _ _
      | exact LeO.none _
      | refine LeO.ite ?_ ?_
      | refine LeO.bind ?_ (fun _ => ?_)
theorem pentaglotref18_Date.mono : ∀ a0 k, LeO (pentaglotref18_Date.f k a0) (pentaglotref18_Date.f (k + 1) a0) := by
  intro a0 k
  obtain ⟨ih0, ih1⟩ := pentaglotref18_Date.mono_l k
  unfold pentaglotref18_Date.f
  repeat' first
      | (with_reducible exact ih0 _ _)
      | (with_reducible exact ih1 _ _ _)
      | (with_reducible exact pentaglotref18_MonthDays.mono _ _ _ _ _ _)
      | (with_reducible exact pentaglotref18_Months.mono _ _)
      | (with_reducible exact LeO.refl _)
      | (with_reducible exact LeO.none _)
      | (with_reducible refine LeO.ite ?_ ?_)
      | (with_reducible refine LeO.bind ?_ (fun _ => ?_))
      | exact ih0 _ _
      | exact ih1 _ _ _
      | exact pentaglotref18_MonthDays.mono _ _ _ _ _ _
      | exact pentaglotref18_Months.mono _ _
      | exact LeO.none _
      | refine LeO.ite ?_ ?_
      | refine LeO.bind ?_ (fun _ => ?_)

/-! DEFS pentaglotlaw18_LunisolarDates -/
def pentaglotlaw18_LunisolarDates.f (k : Nat) (a0 : Int) : Option (Bool) := (pentaglotlaw18_awake.f k).bind fun t200 => (if t200 = true then ((lunisolar_Date.f k a0).bind fun bt201 => ((pentaglotlaw18_day.f a0).bind fun t208 => (if t208 = true then ((pentaglotref18_Date.f k a0).bind fun bt209 => (if (bt201.1 == bt209.1 && (bt201.2.1 == bt209.2.1 && (bt201.2.2.1 == bt209.2.2.1 && (bt201.2.2.2.1 == bt209.2.2.2.1 && (bt201.2.2.2.2.1 == bt209.2.2.2.2))))) = true then (some (bt201.2.2.2.2.2 == 0)) else (some false))) else (if (bt201.1 == 0 && (bt201.2.1 == 0 && (bt201.2.2.1 == 0 && (bt201.2.2.2.1 == 0 && (!bt201.2.2.2.2.1))))) = true then (some (bt201.2.2.2.2.2 == 1)) else (some false))))) else (some false))
theorem pentaglotlaw18_LunisolarDates.mono : ∀ a0 k, LeO (pentaglotlaw18_LunisolarDates.f k a0) (pentaglotlaw18_LunisolarDates.f (k + 1) a0) := by
  intro a0 k
  unfold pentaglotlaw18_LunisolarDates.f
  repeat' first
      | (with_reducible exact lunisolar_Date.mono _ _)
      | (with_reducible exact pentaglotlaw18_awake.mono _)
      | (with_reducible exact pentaglotref18_Date.mono _ _)
      | (with_reducible exact LeO.refl _)
      | (with_reducible exact LeO.none _)
      | (with_reducible refine LeO.ite ?_ ?_)
      | (with_reducible refine LeO.bind ?_ (fun _ => ?_))
      | exact lunisolar_Date.mono _ _
      | exact pentaglotlaw18_awake.mono _
      | exact pentaglotref18_Date.mono _ _
      | exact LeO.none _
      | refine LeO.ite ?_ ?_
      | refine LeO.bind ?_ (fun _ => ?_)

/-! DEFS pentaglotref18_Valid -/
def pentaglotref18_Valid.f (k : Nat) (a0_0 : Int) (a0_1 : Int) (a0_2 : Int) (a0_3 : Int) (a0_4 : Bool) : Option (Bool) := if a0_3 ≥ 1 then ((pentaglotref18_MonthDays.f k a0_0 a0_1 a0_2 a0_3 a0_4).bind fun t215 => (some (decide (a0_3 ≤ t215)))) else (some false)
theorem pentaglotref18_Valid.mono : ∀ a0 a1 a2 a3 a4 k, LeO (pentaglotref18_Valid.f k a0 a1 a2 a3 a4) (pentaglotref18_Valid.f (k + 1) a0 a1 a2 a3 a4) := by
  intro a0 a1 a2 a3 a4 k
  unfold pentaglotref18_Valid.f
  repeat' first
      | (with_reducible exact pentaglotref18_MonthDays.mono _ _ _ _ _ _)
      | (with_reducible exact LeO.refl _)
      | (with_reducible exact LeO.none _)
      | (with_reducible refine LeO.ite ?_ ?_)
      | (with_reducible refine LeO.bind ?_ (fun _ => ?_))
      | exact pentaglotref18_MonthDays.mono _ _ _ _ _ _
      | exact LeO.none _
      | refine LeO.ite ?_ ?_
      | refine LeO.bind ?_ (fun _ => ?_)

/-! DEFS pentaglotref18_Day -/
def pentaglotref18_Day.l0 : Nat → Int → List (S34) → Int → Int → Int → Int → Int → Bool → Option (Int × Int)
  | 0, _, _, _, _, _, _, _, _ => none
  | k + 1, x4, x6, x7, x217000, x217001, x217002, x217003, x217004 => if 0 ≤ x7 then (if x7 < (x6.length : Int) then (if ((rd_T34 x6 x7).f2) = x217002 then (if (((rd_T34 x6 x7).f4) != x217004) = true then ((pentaglotref18_MonthDays.f k ((rd_T34 x6 x7).f0) ((rd_T34 x6 x7).f1) ((rd_T34 x6 x7).f2) ((rd_T34 x6 x7).f3) ((rd_T34 x6 x7).f4)).bind fun t226 => (pentaglotref18_Day.l0 k (wrap64 (x4 + t226)) x6 (wrap64 (x7 + 1)) x217000 x217001 x217002 x217003 x217004)) else (if (wrap64 ((wrap64 (x4 + x217003)) - 1)) > 999999 then (some (0, 2)) else (some (wrap64 ((wrap64 (x4 + x217003)) - 1), 0)))) else ((pentaglotref18_MonthDays.f k ((rd_T34 x6 x7).f0) ((rd_T34 x6 x7).f1) ((rd_T34 x6 x7).f2) ((rd_T34 x6 x7).f3) ((rd_T34 x6 x7).f4)).bind fun t228 => (pentaglotref18_Day.l0 k (wrap64 (x4 + t228)) x6 (wrap64 (x7 + 1)) x217000 x217001 x217002 x217003 x217004))) else (none)) else (none)
def pentaglotref18_Day.f (k : Nat) (a0_0 : Int) (a0_1 : Int) (a0_2 : Int) (a0_3 : Int) (a0_4 : Bool) : Option (Int × Int) := (pentaglotref18_Valid.f k a0_0 a0_1 a0_2 a0_3 a0_4).bind fun t217 => (if t217 = true then ((pentaglotref18_YearStart.f k a0_1).bind fun bt218 => (if bt218.2 = true then ((pentaglotref18_Months.f k a0_1).bind fun t220 => (pentaglotref18_Day.l0 k bt218.1 t220 0 a0_0 a0_1 a0_2 a0_3 a0_4)) else (some (0, 2)))) else (some (0, 1)))
theorem pentaglotref18_Day.mono_l : ∀ k, (∀ y0 y1 y2 y3 y4 y5 y6 y7, LeO (pentaglotref18_Day.l0 k y0 y1 y2 y3 y4 y5 y6 y7) (pentaglotref18_Day.l0 (k + 1) y0 y1 y2 y3 y4 y5 y6 y7))
  | 0 => fun _ _ _ _ _ _ _ _ r h => by simp [pentaglotref18_Day.l0] at h
  | k + 1 => by
    have ih0 := pentaglotref18_Day.mono_l k
    · intro y0 y1 y2 y3 y4 y5 y6 y7
      unfold pentaglotref18_Day.l0
      repeat' first
      | (with_reducible exact ih0 _ _ _ _ _ _ _ _)
      | (with_reducible exact pentaglotref18_MonthDays.mono _ _ _ _ _ _)
      | (with_reducible exact pentaglotref18_Months.mono _ _)
      | (with_reducible exact pentaglotref18_Valid.mono _ _ _ _ _ _)
      | (with_reducible exact pentaglotref18_YearStart.mono _ _)
      | (with_reducible exact LeO.refl _)
      | (with_reducible exact LeO.none _)
      | (with_reducible refine LeO.ite ?_ ?_)
      | (with_reducible refine LeO.bind ?_ (fun _ => ?_))
      | exact ih0 _ _ _ _ _ _ _ _
      | exact pentaglotref18_MonthDays.mono _ _ _ _ _ _
      | exact pentaglotref18_Months.mono _ _
      | exact pentaglotref18_Valid.mono _ _ _ _ _ _
      | exact pentaglotref18_YearStart.mono _ _
      | exact LeO.none _
      | refine LeO.ite ?_ ?_
      | refine LeO.bind ?_ (fun _ => ?_)
theorem pentaglotref18_Day.mono : ∀ a0 a1 a2 a3 a4 k, LeO (pentaglotref18_Day.f k a0 a1 a2 a3 a4) (pentaglotref18_Day.f (k + 1) a0 a1 a2 a3 a4) := by
  intro a0 a1 a2 a3 a4 k
  have ih0 := pentaglotref18_Day.mono_l k
  unfold pentaglotref18_Day.f
  repeat' first
      | (with_reducible exact ih0 _ _ _ _ _ _ _ _)
      | (with_reducible exact pentaglotref18_MonthDays.mono _ _ _ _ _ _)
      | (with_reducible exact pentaglotref18_Months.mono _ _)
      | (with_reducible exact pentaglotref18_Valid.mono _ _ _ _ _ _)
      | (with_reducible exact pentaglotref18_YearStart.mono _ _)
      | (with_reducible exact LeO.refl _)
      | (with_reducible exact LeO.none _)
      | (with_reducible refine LeO.ite ?_ ?_)
      | (with_reducible refine LeO.bind ?_ (fun _ => ?_))
      | exact ih0 _ _ _ _ _ _ _ _
      | exact pentaglotref18_MonthDays.mono _ _ _ _ _ _
      | exact pentaglotref18_Months.mono _ _
      | exact pentaglotref18_Valid.mono _ _ _ _ _ _
      | exact pentaglotref18_YearStart.mono _ _
      | exact LeO.none _
      | refine LeO.ite ?_ ?_
      | refine LeO.bind ?_ (fun _ => ?_)

/-! DEFS pentaglotlaw18_LunisolarDays -/
def pentaglotlaw18_LunisolarDays.f (k : Nat) (a0_0 : Int) (a0_1 : Int) (a0_2 : Int) (a0_3 : Int) (a0_4 : Bool) : Option (Bool) := (pentaglotlaw18_awake.f k).bind fun t230 => (if t230 = true then ((lunisolar_Day.f k a0_0 a0_1 a0_2 a0_3 a0_4).bind fun bt231 => ((pentaglotref18_Day.f k a0_0 a0_1 a0_2 a0_3 a0_4).bind fun bt233 => (if bt231.1 = bt233.1 then (some (bt231.2 == bt233.2)) else (some false)))) else (some false))
theorem pentaglotlaw18_LunisolarDays.mono : ∀ a0 a1 a2 a3 a4 k, LeO (pentaglotlaw18_LunisolarDays.f k a0 a1 a2 a3 a4) (pentaglotlaw18_LunisolarDays.f (k + 1) a0 a1 a2 a3 a4) := by
  intro a0 a1 a2 a3 a4 k
  unfold pentaglotlaw18_LunisolarDays.f
  repeat' first
      | (with_reducible exact lunisolar_Day.mono _ _ _ _ _ _)
      | (with_reducible exact pentaglotlaw18_awake.mono _)
      | (with_reducible exact pentaglotref18_Day.mono _ _ _ _ _ _)
      | (with_reducible exact LeO.refl _)
      | (with_reducible exact LeO.none _)
      | (with_reducible refine LeO.ite ?_ ?_)
      | (with_reducible refine LeO.bind ?_ (fun _ => ?_))
      | exact lunisolar_Day.mono _ _ _ _ _ _
      | exact pentaglotlaw18_awake.mono _
      | exact pentaglotref18_Day.mono _ _ _ _ _ _
      | exact LeO.none _
      | refine LeO.ite ?_ ?_
      | refine LeO.bind ?_ (fun _ => ?_)

/-! DEFS pentaglotlaw18_LunisolarInverts -/
def pentaglotlaw18_LunisolarInverts.j0 : Nat → Int → Int → Int → Int → Bool → Option (Bool)
  | 0, _, _, _, _, _ => none
  | k + 1, x236000, x236001, x236002, x236003, x236004 => (lunisolar_Day.f k x236000 x236001 x236002 x236003 x236004).bind fun bt247 => (if bt247.2 = 0 then ((lunisolar_Date.f k bt247.1).bind fun bt249 => ((pentaglotlaw18_day.f bt247.1).bind fun t256 => (if t256 = true then (if bt249.2.2.2.2.2 = 0 then (some (bt249.1 == x236000 && (bt249.2.1 == x236001 && (bt249.2.2.1 == x236002 && (bt249.2.2.2.1 == x236003 && (bt249.2.2.2.2.1 == x236004)))))) else (some false)) else (some false)))) else (some true))
def pentaglotlaw18_LunisolarInverts.f (k : Nat) (a0 : Int) (a1_0 : Int) (a1_1 : Int) (a1_2 : Int) (a1_3 : Int) (a1_4 : Bool) : Option (Bool) := (pentaglotlaw18_awake.f k).bind fun t236 => (if t236 = true then ((pentaglotlaw18_day.f a0).bind fun t237 => (if t237 = true then ((lunisolar_Date.f k a0).bind fun bt238 => ((lunisolar_Day.f k bt238.1 bt238.2.1 bt238.2.2.1 bt238.2.2.2.1 bt238.2.2.2.2.1).bind fun bt245 => (if bt238.2.2.2.2.2 = 0 then (if bt245.2 = 0 then (if bt245.1 = a0 then (pentaglotlaw18_LunisolarInverts.j0 k a1_0 a1_1 a1_2 a1_3 a1_4) else (some false)) else (some false)) else (some false)))) else (pentaglotlaw18_LunisolarInverts.j0 k a1_0 a1_1 a1_2 a1_3 a1_4))) else (some false))
theorem pentaglotlaw18_LunisolarInverts.mono_l : ∀ k, (∀ y0 y1 y2 y3 y4, LeO (pentaglotlaw18_LunisolarInverts.j0 k y0 y1 y2 y3 y4) (pentaglotlaw18_LunisolarInverts.j0 (k + 1) y0 y1 y2 y3 y4))
  | 0 => fun _ _ _ _ _ r h => by simp [pentaglotlaw18_LunisolarInverts.j0] at h
  | k + 1 => by
    have ih0 := pentaglotlaw18_LunisolarInverts.mono_l k
    · intro y0 y1 y2 y3 y4
      unfold pentaglotlaw18_LunisolarInverts.j0
      repeat' first
      | (with_reducible exact ih0 _ _ _ _ _)
      | (with_reducible exact lunisolar_Date.mono _ _)
      | (with_reducible exact lunisolar_Day.mono _ _ _ _ _ _)
      | (with_reducible exact pentaglotlaw18_awake.mono _)
      | (with_reducible exact LeO.refl _)
      | (with_reducible exact LeO.none _)
      | (with_reducible refine LeO.ite ?_ ?_)
      | (with_reducible refine LeO.bind ?_ (fun _ => ?_))
      | exact ih0 _ _ _ _ _
      | exact lunisolar_Date.mono _ _
      | exact lunisolar_Day.mono _ _ _ _ _ _
      | exact pentaglotlaw18_awake.mono _
      | exact LeO.none _
      | refine LeO.ite ?_ ?_
      | refine LeO.bind ?_ (fun _ => ?_)
theorem pentaglotlaw18_LunisolarInverts.mono : ∀ a0 a1 a2 a3 a4 a5 k, LeO (pentaglotlaw18_LunisolarInverts.f k a0 a1 a2 a3 a4 a5) (pentaglotlaw18_LunisolarInverts.f (k + 1) a0 a1 a2 a3 a4 a5) := by
  intro a0 a1 a2 a3 a4 a5 k
  have ih0 := pentaglotlaw18_LunisolarInverts.mono_l k
  unfold pentaglotlaw18_LunisolarInverts.f
  repeat' first
      | (with_reducible exact ih0 _ _ _ _ _)
      | (with_reducible exact lunisolar_Date.mono _ _)
      | (with_reducible exact lunisolar_Day.mono _ _ _ _ _ _)
      | (with_reducible exact pentaglotlaw18_awake.mono _)
      | (with_reducible exact LeO.refl _)
      | (with_reducible exact LeO.none _)
      | (with_reducible refine LeO.ite ?_ ?_)
      | (with_reducible refine LeO.bind ?_ (fun _ => ?_))
      | exact ih0 _ _ _ _ _
      | exact lunisolar_Date.mono _ _
      | exact lunisolar_Day.mono _ _ _ _ _ _
      | exact pentaglotlaw18_awake.mono _
      | exact LeO.none _
      | refine LeO.ite ?_ ?_
      | refine LeO.bind ?_ (fun _ => ?_)

/-! DEFS pentaglotlaw18_LunisolarFollows -/
mutual
def pentaglotlaw18_LunisolarFollows.j0 : Nat → Int → Bool → Option (Bool)
  | 0, _, _ => none
  | k + 1, x0, x16 => if x16 = true then (some true) else ((lunisolar_Date.f k x0).bind fun bt258 => ((lunisolar_Date.f k (wrap64 (x0 + 1))).bind fun bt265 => (if bt258.2.2.2.2.2 = 0 then (pentaglotlaw18_LunisolarFollows.j1 k (bt265.2.2.2.2.2 != 0) bt258.1 bt258.2.1 bt258.2.2.1 bt258.2.2.2.1 bt258.2.2.2.2.1 bt265.1 bt265.2.1 bt265.2.2.1 bt265.2.2.2.1 bt265.2.2.2.2.1) else (pentaglotlaw18_LunisolarFollows.j1 k true bt258.1 bt258.2.1 bt258.2.2.1 bt258.2.2.2.1 bt258.2.2.2.2.1 bt265.1 bt265.2.1 bt265.2.2.1 bt265.2.2.2.1 bt265.2.2.2.2.1))))
def pentaglotlaw18_LunisolarFollows.j1 : Nat → Bool → Int → Int → Int → Int → Bool → Int → Int → Int → Int → Bool → Option (Bool)
  | 0, _, _, _, _, _, _, _, _, _, _, _ => none
  | k + 1, x33, x265000, x265001, x265002, x265003, x265004, x272000, x272001, x272002, x272003, x272004 => if x33 = true then (some false) else ((lunisolar_MonthDays.f x265000 x265001 x265002 x265003 x265004).bind fun t272 => (if x265003 < t272 then (some (x265000 == x272000 && (x265001 == x272001 && (x265002 == x272002 && ((wrap64 (x265003 + 1)) == x272003 && (x265004 == x272004)))))) else ((lunisolar_Months.f k x265001).bind fun t273 => (pentaglotlaw18_LunisolarFollows.l0 k t273 0 x265000 x265001 x265002 x265003 x265004 x272000 x272001 x272002 x272003 x272004))))
def pentaglotlaw18_LunisolarFollows.l0 : Nat → List (S34) → Int → Int → Int → Int → Int → Bool → Int → Int → Int → Int → Bool → Option (Bool)
  | 0, _, _, _, _, _, _, _, _, _, _, _, _ => none
  | k + 1, x7, x8, x265000, x265001, x265002, x265003, x265004, x272000, x272001, x272002, x272003, x272004 => if x8 < (x7.length : Int) then (if 0 ≤ x8 then (if ((rd_T34 x7 x8).f2) = x265002 then (pentaglotlaw18_LunisolarFollows.j3 k x7 x8 (((rd_T34 x7 x8).f4) == x265004) x265000 x265001 x265002 x265003 x265004 x272000 x272001 x272002 x272003 x272004) else (pentaglotlaw18_LunisolarFollows.j3 k x7 x8 false x265000 x265001 x265002 x265003 x265004 x272000 x272001 x272002 x272003 x272004)) else (none)) else (some false)
def pentaglotlaw18_LunisolarFollows.j3 : Nat → List (S34) → Int → Bool → Int → Int → Int → Int → Bool → Int → Int → Int → Int → Bool → Option (Bool)
  | 0, _, _, _, _, _, _, _, _, _, _, _, _, _ => none
  | k + 1, x7, x8, x72, x265000, x265001, x265002, x265003, x265004, x272000, x272001, x272002, x272003, x272004 => if x72 = true then (if (wrap64 (x8 + 1)) < (x7.length : Int) then (if 0 ≤ (wrap64 (x8 + 1)) then (some (x272000 == ((rd_T34 x7 (wrap64 (x8 + 1))).f0) && (x272001 == ((rd_T34 x7 (wrap64 (x8 + 1))).f1) && (x272002 == ((rd_T34 x7 (wrap64 (x8 + 1))).f2) && (x272003 == ((rd_T34 x7 (wrap64 (x8 + 1))).f3) && (x272004 == ((rd_T34 x7 (wrap64 (x8 + 1))).f4))))))) else (none)) else ((lunisolar_Months.f k (wrap64 (x265001 + 1))).bind fun t279 => (if (t279.length : Int) > 0 then (if 0 < (t279.length : Int) then (some (x272000 == ((rd_T34 t279 0).f0) && (x272001 == ((rd_T34 t279 0).f1) && (x272002 == ((rd_T34 t279 0).f2) && (x272003 == ((rd_T34 t279 0).f3) && (x272004 == ((rd_T34 t279 0).f4))))))) else (none)) else (some false)))) else (pentaglotlaw18_LunisolarFollows.l0 k x7 (wrap64 (x8 + 1)) x265000 x265001 x265002 x265003 x265004 x272000 x272001 x272002 x272003 x272004)
end
def pentaglotlaw18_LunisolarFollows.f (k : Nat) (a0 : Int) : Option (Bool) := (pentaglotlaw18_awake.f k).bind fun t257 => (if t257 = true then (if a0 < 0 then (pentaglotlaw18_LunisolarFollows.j0 k a0 true) else (pentaglotlaw18_LunisolarFollows.j0 k a0 (decide (a0 ≥ 999999)))) else (some false))
theorem pentaglotlaw18_LunisolarFollows.mono_l : ∀ k, (∀ y0 y1, LeO (pentaglotlaw18_LunisolarFollows.j0 k y0 y1) (pentaglotlaw18_LunisolarFollows.j0 (k + 1) y0 y1)) ∧ (∀ y0 y1 y2 y3 y4 y5 y6 y7 y8 y9 y10, LeO (pentaglotlaw18_LunisolarFollows.j1 k y0 y1 y2 y3 y4 y5 y6 y7 y8 y9 y10) (pentaglotlaw18_LunisolarFollows.j1 (k + 1) y0 y1 y2 y3 y4 y5 y6 y7 y8 y9 y10)) ∧ (∀ y0 y1 y2 y3 y4 y5 y6 y7 y8 y9 y10 y11, LeO (pentaglotlaw18_LunisolarFollows.l0 k y0 y1 y2 y3 y4 y5 y6 y7 y8 y9 y10 y11) (pentaglotlaw18_LunisolarFollows.l0 (k + 1) y0 y1 y2 y3 y4 y5 y6 y7 y8 y9 y10 y11)) ∧ (∀ y0 y1 y2 y3 y4 y5 y6 y7 y8 y9 y10 y11 y12, LeO (pentaglotlaw18_LunisolarFollows.j3 k y0 y1 y2 y3 y4 y5 y6 y7 y8 y9 y10 y11 y12) (pentaglotlaw18_LunisolarFollows.j3 (k + 1) y0 y1 y2 y3 y4 y5 y6 y7 y8 y9 y10 y11 y12))
  | 0 => ⟨fun _ _ r h => by simp [pentaglotlaw18_LunisolarFollows.j0] at h, fun _ _ _ _ _ _ _ _ _ _ _ r h => by simp [pentaglotlaw18_LunisolarFollows.j1] at h, fun _ _ _ _ _ _ _ _ _ _ _ _ r h => by simp [pentaglotlaw18_LunisolarFollows.l0] at h, fun _ _ _ _ _ _ _ _ _ _ _ _ _ r h => by simp [pentaglotlaw18_LunisolarFollows.j3] at h⟩
  | k + 1 => by
    obtain ⟨ih0, ih1, ih2, ih3⟩ := pentaglotlaw18_LunisolarFollows.mono_l k
    refine ⟨?_, ?_, ?_, ?_⟩
    · intro y0 y1
      unfold pentaglotlaw18_LunisolarFollows.j0
      repeat' first
      | (with_reducible exact ih0 _ _)
      | (with_reducible exact ih1 _ _ _ _ _ _ _ _ _ _ _)
      | (with_reducible exact ih2 _ _ _ _ _ _ _ _ _ _ _ _)
      | (with_reducible exact ih3 _ _ _ _ _ _ _ _ _ _ _ _ _)
      | (with_reducible exact lunisolar_Date.mono _ _)
      | (with_reducible exact lunisolar_Months.mono _ _)
      | (with_reducible exact pentaglotlaw18_awake.mono _)
      | (with_reducible exact LeO.refl _)
      | (with_reducible exact LeO.none _)
      | (with_reducible refine LeO.ite ?_ ?_)
      | (with_reducible refine LeO.bind ?_ (fun _ => ?_))
      | exact ih0 _ _
      | exact ih1 _ _ _ _ _ _ _ _ _ _ _
      | exact ih2 _ _ _ _ _ _ _ _ _ _ _ _
      | exact ih3 _ _ _ _ _ _ _ _ _ _ _ _ _
      | exact lunisolar_Date.mono _ _
      | exact lunisolar_Months.mono _ _
      | exact pentaglotlaw18_awake.mono _
      | exact LeO.none _
      | refine LeO.ite ?_ ?_
      | refine LeO.bind ?_ (fun _ => ?_)
    · intro y0 y1 y2 y3 y4 y5 y6 y7 y8 y9 y10
      unfold pentaglotlaw18_LunisolarFollows.j1
      repeat' first
      | (with_reducible exact ih0 _ _)
      | (with_reducible exact ih1 _ _ _ _ _ _ _ _ _ _ _)
      | (with_reducible exact ih2 _ _ _ _ _ _ _ _ _ _ _ _)
      | (with_reducible exact ih3 _ _ _ _ _ _ _ _ _ _ _ _ _)
      | (with_reducible exact lunisolar_Date.mono _ _)
      | (with_reducible exact lunisolar_Months.mono _ _)
      | (with_reducible exact pentaglotlaw18_awake.mono _)
      | (with_reducible exact LeO.refl _)
      | (with_reducible exact LeO.none _)
      | (with_reducible refine LeO.ite ?_ ?_)
      | (with_reducible refine LeO.bind ?_ (fun _ => ?_))
      | exact ih0 _ _
      | exact ih1 _ _ _ _ _ _ _ _ _ _ _
      | exact ih2 _ _ _ _ _ _ _ _ _ _ _ _
      | exact ih3 _ _ _ _ _ _ _ _ _ _ _ _ _
      | exact lunisolar_Date.mono _ _
      | exact lunisolar_Months.mono _ _
      | exact pentaglotlaw18_awake.mono _
      | exact LeO.none _
      | refine LeO.ite ?_ ?_
      | refine LeO.bind ?_ (fun _ => ?_)
    · intro y0 y1 y2 y3 y4 y5 y6 y7 y8 y9 y10 y11
      unfold pentaglotlaw18_LunisolarFollows.l0
      repeat' first
      | (with_reducible exact ih0 _ _)
      | (with_reducible exact ih1 _ _ _ _ _ _ _ _ _ _ _)
      | (with_reducible exact ih2 _ _ _ _ _ _ _ _ _ _ _ _)
      | (with_reducible exact ih3 _ _ _ _ _ _ _ _ _ _ _ _ _)
      | (with_reducible exact lunisolar_Date.mono _ _)
      | (with_reducible exact lunisolar_Months.mono _ _)
      | (with_reducible exact pentaglotlaw18_awake.mono _)
      | (with_reducible exact LeO.refl _)
      | (with_reducible exact LeO.none _)
      | (with_reducible refine LeO.ite ?_ ?_)
      | (with_reducible refine LeO.bind ?_ (fun _ => ?_))
      | exact ih0 _ _
      | exact ih1 _ _ _ _ _ _ _ _ _ _ _
      | exact ih2 _ _ _ _ _ _ _ _ _ _ _ _
      | exact ih3 _ _ _ _ _ _ _ _ _ _ _ _ _
      | exact lunisolar_Date.mono _ _
      | exact lunisolar_Months.mono _ _
      | exact pentaglotlaw18_awake.mono _
      | exact LeO.none _
      | refine LeO.ite ?_ ?_
      | refine LeO.bind ?_ (fun _ => ?_)
    · intro y0 y1 y2 y3 y4 y5 y6 y7 y8 y9 y10 y11 y12
      unfold pentaglotlaw18_LunisolarFollows.j3
      repeat' first
      | (with_reducible exact ih0 _ _)
      | (with_reducible exact ih1 _ _ _ _ _ _ _ _ _ _ _)
      | (with_reducible exact ih2 _ _ _ _ _ _ _ _ _ _ _ _)
      | (with_reducible exact ih3 _ _ _ _ _ _ _ _ _ _ _ _ _)
      | (with_reducible exact lunisolar_Date.mono _ _)
      | (with_reducible exact lunisolar_Months.mono _ _)
      | (with_reducible exact pentaglotlaw18_awake.mono _)
      | (with_reducible exact LeO.refl _)
      | (with_reducible exact LeO.none _)
      | (with_reducible refine LeO.ite ?_ ?_)
      | (with_reducible refine LeO.bind ?_ (fun _ => ?_))
      | exact ih0 _ _
      | exact ih1 _ _ _ _ _ _ _ _ _ _ _
      | exact ih2 _ _ _ _ _ _ _ _ _ _ _ _
      | exact ih3 _ _ _ _ _ _ _ _ _ _ _ _ _
      | exact lunisolar_Date.mono _ _
      | exact lunisolar_Months.mono _ _
      | exact pentaglotlaw18_awake.mono _
      | exact LeO.none _
      | refine LeO.ite ?_ ?_
      | refine LeO.bind ?_ (fun _ => ?_)
theorem pentaglotlaw18_LunisolarFollows.mono : ∀ a0 k, LeO (pentaglotlaw18_LunisolarFollows.f k a0) (pentaglotlaw18_LunisolarFollows.f (k + 1) a0) := by
  intro a0 k
  obtain ⟨ih0, ih1, ih2, ih3⟩ := pentaglotlaw18_LunisolarFollows.mono_l k
  unfold pentaglotlaw18_LunisolarFollows.f
  repeat' first
      | (with_reducible exact ih0 _ _)
      | (with_reducible exact ih1 _ _ _ _ _ _ _ _ _ _ _)
      | (with_reducible exact ih2 _ _ _ _ _ _ _ _ _ _ _ _)
      | (with_reducible exact ih3 _ _ _ _ _ _ _ _ _ _ _ _ _)
      | (with_reducible exact lunisolar_Date.mono _ _)
      | (with_reducible exact lunisolar_Months.mono _ _)
      | (with_reducible exact pentaglotlaw18_awake.mono _)
      | (with_reducible exact LeO.refl _)
      | (with_reducible exact LeO.none _)
      | (with_reducible refine LeO.ite ?_ ?_)
      | (with_reducible refine LeO.bind ?_ (fun _ => ?_))
      | exact ih0 _ _
      | exact ih1 _ _ _ _ _ _ _ _ _ _ _
      | exact ih2 _ _ _ _ _ _ _ _ _ _ _ _
      | exact ih3 _ _ _ _ _ _ _ _ _ _ _ _ _
      | exact lunisolar_Date.mono _ _
      | exact lunisolar_Months.mono _ _
      | exact pentaglotlaw18_awake.mono _
      | exact LeO.none _
      | refine LeO.ite ?_ ?_
      | refine LeO.bind ?_ (fun _ => ?_)

/-! DEFS pentaglotlaw18_LunisolarRepeats -/
def pentaglotlaw18_LunisolarRepeats.j0 : Nat → Int → Bool → Option (Bool)
  | 0, _, _ => none
  | k + 1, x0, x14 => if x14 = true then (some true) else ((lunisolar_Date.f k x0).bind fun bt284 => ((lunisolar_Date.f k (wrap64 (x0 + 6936))).bind fun bt291 => (if bt284.2.2.2.2.2 = 0 then (if bt291.2.2.2.2.2 = 0 then (some (bt284.1 == bt291.1 && ((wrap64 (bt284.2.1 + 19)) == bt291.2.1 && (bt284.2.2.1 == bt291.2.2.1 && (bt284.2.2.2.1 == bt291.2.2.2.1 && (bt284.2.2.2.2.1 == bt291.2.2.2.2.1)))))) else (some false)) else (some false))))
def pentaglotlaw18_LunisolarRepeats.f (k : Nat) (a0 : Int) : Option (Bool) := (pentaglotlaw18_awake.f k).bind fun t283 => (if t283 = true then (if a0 < 0 then (pentaglotlaw18_LunisolarRepeats.j0 k a0 true) else (pentaglotlaw18_LunisolarRepeats.j0 k a0 (decide (a0 > 993063)))) else (some false))
theorem pentaglotlaw18_LunisolarRepeats.mono_l : ∀ k, (∀ y0 y1, LeO (pentaglotlaw18_LunisolarRepeats.j0 k y0 y1) (pentaglotlaw18_LunisolarRepeats.j0 (k + 1) y0 y1))
  | 0 => fun _ _ r h => by simp [pentaglotlaw18_LunisolarRepeats.j0] at h
  | k + 1 => by
    have ih0 := pentaglotlaw18_LunisolarRepeats.mono_l k
    · intro y0 y1
      unfold pentaglotlaw18_LunisolarRepeats.j0
      repeat' first
      | (with_reducible exact ih0 _ _)
      | (with_reducible exact lunisolar_Date.mono _ _)
      | (with_reducible exact pentaglotlaw18_awake.mono _)
      | (with_reducible exact LeO.refl _)
      | (with_reducible exact LeO.none _)
      | (with_reducible refine LeO.ite ?_ ?_)
      | (with_reducible refine LeO.bind ?_ (fun _ => ?_))
      | exact ih0 _ _
      | exact lunisolar_Date.mono _ _
      | exact pentaglotlaw18_awake.mono _
      | exact LeO.none _
      | refine LeO.ite ?_ ?_
      | refine LeO.bind ?_ (fun _ => ?_)
theorem pentaglotlaw18_LunisolarRepeats.mono : ∀ a0 k, LeO (pentaglotlaw18_LunisolarRepeats.f k a0) (pentaglotlaw18_LunisolarRepeats.f (k + 1) a0) := by
  intro a0 k
  have ih0 := pentaglotlaw18_LunisolarRepeats.mono_l k
  unfold pentaglotlaw18_LunisolarRepeats.f
  repeat' first
      | (with_reducible exact ih0 _ _)
      | (with_reducible exact lunisolar_Date.mono _ _)
      | (with_reducible exact pentaglotlaw18_awake.mono _)
      | (with_reducible exact LeO.refl _)
      | (with_reducible exact LeO.none _)
      | (with_reducible refine LeO.ite ?_ ?_)
      | (with_reducible refine LeO.bind ?_ (fun _ => ?_))
      | exact ih0 _ _
      | exact lunisolar_Date.mono _ _
      | exact pentaglotlaw18_awake.mono _
      | exact LeO.none _
      | refine LeO.ite ?_ ?_
      | refine LeO.bind ?_ (fun _ => ?_)

/-! DEFS cmp_isNaN_int -/
def cmp_isNaN_int.f (a0 : Int) : Option (Bool) := some (a0 != a0)

/-! DEFS cmp_Compare_int -/
def cmp_Compare_int.f (a0 : Int) (a1 : Int) : Option (Int) := (cmp_isNaN_int.f a0).bind fun t298 => ((cmp_isNaN_int.f a1).bind fun t299 => (if t298 = true then (if t299 = true then (some 0) else (some (-1))) else (if t299 = true then (some 1) else (if a0 < a1 then (some (-1)) else (if a0 > a1 then (some 1) else (some 0))))))

/-! DEFS lunisolar_Compare -/
def lunisolar_Compare.f (k : Nat) (a0_0 : Int) (a0_1 : Int) (a0_2 : Int) (a0_3 : Int) (a0_4 : Bool) (a1_0 : Int) (a1_1 : Int) (a1_2 : Int) (a1_3 : Int) (a1_4 : Bool) : Option (Int × Int) := (lunisolar_Day.f k a0_0 a0_1 a0_2 a0_3 a0_4).bind fun bt302 => (if bt302.2 = 0 then ((lunisolar_Day.f k a1_0 a1_1 a1_2 a1_3 a1_4).bind fun bt304 => (if bt304.2 = 0 then ((cmp_Compare_int.f bt302.1 bt304.1).bind fun t306 => (some (t306, 0))) else (some (0, bt304.2)))) else (some (0, bt302.2)))
theorem lunisolar_Compare.mono : ∀ a0 a1 a2 a3 a4 a5 a6 a7 a8 a9 k, LeO (lunisolar_Compare.f k a0 a1 a2 a3 a4 a5 a6 a7 a8 a9) (lunisolar_Compare.f (k + 1) a0 a1 a2 a3 a4 a5 a6 a7 a8 a9) := by
  intro a0 a1 a2 a3 a4 a5 a6 a7 a8 a9 k
  unfold lunisolar_Compare.f
  repeat' first
      | (with_reducible exact lunisolar_Day.mono _ _ _ _ _ _)
      | (with_reducible exact LeO.refl _)
      | (with_reducible exact LeO.none _)
      | (with_reducible refine LeO.ite ?_ ?_)
      | (with_reducible refine LeO.bind ?_ (fun _ => ?_))
      | exact lunisolar_Day.mono _ _ _ _ _ _
      | exact LeO.none _
      | refine LeO.ite ?_ ?_
      | refine LeO.bind ?_ (fun _ => ?_)

/-! DEFS pentaglotref18_order -/
def pentaglotref18_order.f (a0 : Int) (a1 : Int) : Option (Int) := if a0 < a1 then (some (-1)) else (if a0 > a1 then (some 1) else (some 0))

/-! DEFS pentaglotref18_Before -/
def pentaglotref18_Before.f (a0_0 : Int) (a0_1 : Int) (a0_2 : Int) (a0_3 : Int) (a0_4 : Bool) (a1_0 : Int) (a1_1 : Int) (a1_2 : Int) (a1_3 : Int) (a1_4 : Bool) : Option (Int) := if a0_1 = a1_1 then (if a0_2 = a1_2 then (if (a0_4 != a1_4) = true then (if a1_4 = true then (some (-1)) else (some 1)) else ((pentaglotref18_order.f a0_3 a1_3).bind fun t311 => (some t311))) else ((pentaglotref18_order.f a0_2 a1_2).bind fun t310 => (some t310))) else ((pentaglotref18_order.f a0_1 a1_1).bind fun t309 => (some t309))

/-! DEFS pentaglotlaw18_LunisolarCompares -/
def pentaglotlaw18_LunisolarCompares.f (k : Nat) (a0_0 : Int) (a0_1 : Int) (a0_2 : Int) (a0_3 : Int) (a0_4 : Bool) (a1_0 : Int) (a1_1 : Int) (a1_2 : Int) (a1_3 : Int) (a1_4 : Bool) : Option (Bool) := (pentaglotlaw18_awake.f k).bind fun t314 => (if t314 = true then ((lunisolar_Compare.f k a0_0 a0_1 a0_2 a0_3 a0_4 a1_0 a1_1 a1_2 a1_3 a1_4).bind fun bt315 => ((pentaglotref18_Day.f k a0_0 a0_1 a0_2 a0_3 a0_4).bind fun bt317 => ((pentaglotref18_Day.f k a1_0 a1_1 a1_2 a1_3 a1_4).bind fun bt319 => (if bt317.2 = 0 then (if bt319.2 = 0 then (if bt315.2 = 0 then ((pentaglotref18_Before.f a0_0 a0_1 a0_2 a0_3 a0_4 a1_0 a1_1 a1_2 a1_3 a1_4).bind fun t321 => (if bt315.1 = t321 then (if ((decide (bt315.1 < 0)) == (decide (bt317.1 < bt319.1))) = true then (if ((bt315.1 == 0) == (bt317.1 == bt319.1)) = true then (some ((decide (bt315.1 > 0)) == (decide (bt317.1 > bt319.1)))) else (some false)) else (some false)) else (some false))) else (some false)) else (if bt315.1 = 0 then (some (bt315.2 == bt319.2)) else (some false))) else (if bt315.1 = 0 then (some (bt315.2 == bt317.2)) else (some false)))))) else (some false))
theorem pentaglotlaw18_LunisolarCompares.mono : ∀ a0 a1 a2 a3 a4 a5 a6 a7 a8 a9 k, LeO (pentaglotlaw18_LunisolarCompares.f k a0 a1 a2 a3 a4 a5 a6 a7 a8 a9) (pentaglotlaw18_LunisolarCompares.f (k + 1) a0 a1 a2 a3 a4 a5 a6 a7 a8 a9) := by
  intro a0 a1 a2 a3 a4 a5 a6 a7 a8 a9 k
  unfold pentaglotlaw18_LunisolarCompares.f
  repeat' first
      | (with_reducible exact lunisolar_Compare.mono _ _ _ _ _ _ _ _ _ _ _)
      | (with_reducible exact pentaglotlaw18_awake.mono _)
      | (with_reducible exact pentaglotref18_Day.mono _ _ _ _ _ _)
      | (with_reducible exact LeO.refl _)
      | (with_reducible exact LeO.none _)
      | (with_reducible refine LeO.ite ?_ ?_)
      | (with_reducible refine LeO.bind ?_ (fun _ => ?_))
      | exact lunisolar_Compare.mono _ _ _ _ _ _ _ _ _ _ _
      | exact pentaglotlaw18_awake.mono _
      | exact pentaglotref18_Day.mono _ _ _ _ _ _
      | exact LeO.none _
      | refine LeO.ite ?_ ?_
      | refine LeO.bind ?_ (fun _ => ?_)

end Go.Proofs.Ytfpegmnjplagfaa.C
