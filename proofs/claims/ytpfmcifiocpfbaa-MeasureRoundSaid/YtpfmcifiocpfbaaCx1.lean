-- WRITTEN BY mkprint.py, a program of this session, over the kit's print of the given program. Not trusted: Lean checks it.
import Derived.Test.YtpfmcifiocpfbaaCx0
namespace Go.Proofs.Ytpfmcifiocpfbaa.C
open Go.RowKit Go.Proofs.YtpfmcifiocpfbaaW.PrintWords Go.Proofs.YtpfmcifiocpfbaaW.PrintLast Go.Proofs.YtpfmcifiocpfbaaW.PrintMore
attribute [local go_sem] max2_int min2_int max_two min_two max_three min_three max_four min_four   -- for this text's walks alone
set_option linter.unusedVariables false
set_option linter.unusedSimpArgs false

/-! DEFS measure_system_valid -/
/-- The names of the first i units. -/
def seenIn (xs : List S41) (s : List UInt8) : Bool := xs.any fun x => x.f0.toList == s
def measure_system_valid.l0 : Nat → List S41 → Int → Option Bool
  | 0, _, _ => none
  | k + 1, l, i => if i < (l.length : Int) then (if (rd_T41 l i).f0.size ≤ 1000 then (if (rd_T41 l i).f0.toList = [] then some false else (if seenIn (l.take i.toNat) (rd_T41 l i).f0.toList = true then some false else (if (rd_T41 l i).f1 > 1000000 then some false else (if i > 0 then (if (rd_T41 l i).f1 ≤ (rd_T41 l (i - 1)).f1 then some false else (if (rd_T41 l (i - 1)).f1 = 0 then none else (if Int.tmod (rd_T41 l i).f1 (rd_T41 l (i - 1)).f1 = 0 then measure_system_valid.l0 k l (i + 1) else some false))) else measure_system_valid.l0 k l (i + 1))))) else none) else some true
def measure_system_valid.f (k : Nat) (l : List S41) : Option Bool := if (l.length : Int) < 1 then some false else (if (l.length : Int) > 8 then some false else (if (rd_T41 l 0).f1 = 1 then measure_system_valid.l0 k l 0 else some false))
theorem measure_system_valid.mono_l : ∀ k l i, LeO (measure_system_valid.l0 k l i) (measure_system_valid.l0 (k + 1) l i)
  | 0, _, _ => fun r h => by simp [measure_system_valid.l0] at h
  | k + 1, l, i => by
    have ih := measure_system_valid.mono_l k
    unfold measure_system_valid.l0
    repeat' first
      | (with_reducible exact LeO.refl _)
      | (with_reducible exact ih _ _)
      | (with_reducible refine LeO.ite ?_ ?_)
theorem measure_system_valid.mono : ∀ l k, LeO (measure_system_valid.f k l) (measure_system_valid.f (k + 1) l) := by
  intro l k
  have ih := measure_system_valid.mono_l k
  unfold measure_system_valid.f
  repeat' first
      | (with_reducible exact LeO.refl _)
      | (with_reducible exact ih _ _)
      | (with_reducible refine LeO.ite ?_ ?_)
/-- The map of the names that have come: what a look-up gives. -/
def SeenAt (w : World) (b n : Nat) (f : List UInt8 → Bool) : Prop :=
  ∃ D : DataW Unit, w.ownsMap Try.prog 9 (plainElem Try.prog 4) b n D ∧ Maps.IsMap D ∧ ∀ s : ByteArray, D.atKey (.string s.data.toList) (.lit (.bool false)) = .lit (.bool (f s.toList))
theorem SeenAt.kept {w w' : World} {b n : Nat} {f : List UInt8 → Bool} {row : Option Nat} (h : SeenAt w b n f) (hg : w.grownBy w' row) (hne : some b ≠ row) : SeenAt w' b n f := by
  obtain ⟨D, h1, h2, h3⟩ := h
  exact ⟨D, h1.kept hg hne, h2, h3⟩
theorem SeenAt.step {w w' : World} {b n : Nat} {f : List UInt8 → Bool} (h : SeenAt w b n f) (hb : Below w.heap.size w w') : SeenAt w' b n f := h.kept (grown_of_below hb none) (by simp)
theorem SeenAt.lt {w : World} {b n : Nat} {f : List UInt8 → Bool} (h : SeenAt w b n f) : b < w.heap.size := by
  obtain ⟨D, h1, _⟩ := h
  exact h1.lt
theorem keyLaw : Maps.Keyed Try.prog 9 := Maps.string_keyed Try.underlying9
theorem zeroB (w : World) : (zeroValue 4).run Try.prog w = .ok (.bool false) w := by kernel_rfl
theorem toList_inj {s t : ByteArray} (h : s.toList = t.toList) : s = t := by
  rw [ByteArray.toList_eq, ByteArray.toList_eq] at h
  cases s; cases t
  simp_all
theorem SeenAt.look {w : World} {b n : Nat} {f : List UInt8 → Bool} (h : SeenAt w b n f) {s : ByteArray} (hs : s.size ≤ 1000) : (Instr.lookup 53 (.map (some b)) (.string s) false).run Try.prog w = .ok (.bool (f s.toList)) w := by
  obtain ⟨D, h1, h2, h3⟩ := h
  obtain ⟨v, ps, hrun, hv⟩ := h1.lookup keyLaw Try.underlying53 (zeroB w) (plainElem_bool Try.underlying4 false) (WideMaps.keyOf_string_mk Try.underlying9 (s := s) (by unfold maxLen; omega))
  rw [h3 s] at hv
  unfold plainElem at hv
  rw [Try.underlying4] at hv
  cases v <;> simp at hv
  obtain ⟨rfl, _⟩ := hv
  exact hrun
theorem seen_made (w : World) : SeenAt (w.alloc (.map #[] 0)) w.heap.size 0 (fun _ => false) :=
  ⟨.map [], World.ownsMap_made _ _ _ _, Maps.isMap_empty, fun _ => rfl⟩
theorem SeenAt.put {b n : Nat} {f : List UInt8 → Bool} {D : DataW Unit} {w1 : World} {s : ByteArray} (h2 : Maps.IsMap D) (h3 : ∀ s : ByteArray, D.atKey (.string s.data.toList) (.lit (.bool false)) = .lit (.bool (f s.toList)))
    (h1 : w1.ownsMap Try.prog 9 (plainElem Try.prog 4) b n (D.put (.string s.data.toList) (.lit (.bool true)))) : SeenAt w1 b n (fun x => f x || s.toList == x) := by
  refine ⟨_, h1, ?_, fun t => ?_⟩
  · obtain ⟨es, rfl⟩ := h2
    exact ⟨_, rfl⟩
  · by_cases e : s = t
    · subst e
      rw [Maps.atKey_put_same h2 (show WideAt.IsKeyLit (.string s.data.toList) from trivial)]
      simp
    · rw [Maps.atKey_put_other (fun x => e (by
        injection x with x
        cases s; cases t
        simp_all)), h3 t]
      have : (s.toList == t.toList) = false := by
        rw [beq_eq_false_iff_ne]
        exact fun x => e (toList_inj x)
      simp [this]
theorem SeenAt.congr {w : World} {b n : Nat} {f g : List UInt8 → Bool} (h : SeenAt w b n f) (e : ∀ x, f x = g x) : SeenAt w b n g := by
  have : f = g := funext e
  exact this ▸ h
theorem seenIn_next (l : List S41) (i : Int) (h0 : 0 ≤ i) (h1 : i < (l.length : Int)) (x : List UInt8) : (seenIn (l.take i.toNat) x || (rd_T41 l i).f0.toList == x) = seenIn (l.take (i + 1).toNat) x := by
  have e : (i + 1).toNat = i.toNat + 1 := by omega
  unfold seenIn rd_T41
  rw [e, List.take_succ_eq_append_getElem (by omega), List.any_append, List.getD, List.getElem?_eq_getElem (show i.toNat < l.length by omega)]
  simp

/-! DEFS measure_Check -/
def measure_Check.f (k : Nat) (l0 : List (S41)) : Option (Bool) := (measure_system_valid.f k l0).bind fun t101 => (some t101)
theorem measure_Check.mono : ∀ a0 k, LeO (measure_Check.f k a0) (measure_Check.f (k + 1) a0) := by
  intro a0 k
  unfold measure_Check.f
  repeat' first
      | (with_reducible exact measure_system_valid.mono _ _)
      | (with_reducible exact LeO.refl _)
      | (with_reducible exact LeO.none _)
      | (with_reducible refine LeO.ite ?_ ?_)
      | (with_reducible refine LeO.bind ?_ (fun _ => ?_))
      | exact measure_system_valid.mono _ _
      | exact LeO.none _
      | refine LeO.ite ?_ ?_
      | refine LeO.bind ?_ (fun _ => ?_)

/-! DEFS measure_system_split -/
def measure_system_split.l0 : Nat → List S41 → Int → Int → List Int → Option (List Int)
  | 0, _, _, _, _ => none
  | k + 1, l, i, n, ps => if i ≥ 0 then (if (rd_T41 l i).f1 = 0 then none else (if i < (ps.length : Int) then (if i < (l.length : Int) then measure_system_split.l0 k l (i - 1) (Int.tmod n (rd_T41 l i).f1) (ps.set i.toNat (wrap64 (Int.tdiv n (rd_T41 l i).f1))) else none) else none)) else some ps
def measure_system_split.f (k : Nat) (l : List S41) (n : Int) : Option (List Int) := if 1 ≤ (l.length : Int) ∧ (l.length : Int) ≤ 1000 then measure_system_split.l0 k l ((l.length : Int) - 1) n (List.replicate l.length 0) else none
theorem measure_system_split.mono_l : ∀ k l i n ps, LeO (measure_system_split.l0 k l i n ps) (measure_system_split.l0 (k + 1) l i n ps)
  | 0, _, _, _, _ => fun r h => by simp [measure_system_split.l0] at h
  | k + 1, l, i, n, ps => by
    have ih := measure_system_split.mono_l k
    unfold measure_system_split.l0
    repeat' first
      | (with_reducible exact LeO.refl _)
      | (with_reducible exact ih _ _ _ _)
      | (with_reducible refine LeO.ite ?_ ?_)
theorem measure_system_split.mono : ∀ l n k, LeO (measure_system_split.f k l n) (measure_system_split.f (k + 1) l n) := by
  intro l n k
  have ih := measure_system_split.mono_l k
  unfold measure_system_split.f
  repeat' first
      | (with_reducible exact LeO.refl _)
      | (with_reducible exact ih _ _ _ _)
      | (with_reducible refine LeO.ite ?_ ?_)

/-! DEFS measure_Split -/
def measure_Split.j0 : Nat → List (S41) → Int → Bool → Option (List Int × Int)
  | 0, _, _, _ => none
  | k + 1, x0, x1, x6 => if x6 = true then (some (([] : List Int), 1)) else (if x1 > 1099511627776 then (some (([] : List Int), 2)) else ((measure_system_split.f k x0 x1).bind fun t103 => (some (t103, 0))))
def measure_Split.f (k : Nat) (l0 : List (S41)) (a1 : Int) : Option (List Int × Int) := (measure_Check.f k l0).bind fun t102 => (if t102 = true then (measure_Split.j0 k l0 a1 (decide (a1 < 0))) else (measure_Split.j0 k l0 a1 true))
theorem measure_Split.mono_l : ∀ k, (∀ y0 y1 y2, LeO (measure_Split.j0 k y0 y1 y2) (measure_Split.j0 (k + 1) y0 y1 y2))
  | 0 => fun _ _ _ r h => by simp [measure_Split.j0] at h
  | k + 1 => by
    have ih0 := measure_Split.mono_l k
    · intro y0 y1 y2
      unfold measure_Split.j0
      repeat' first
      | (with_reducible exact ih0 _ _ _)
      | (with_reducible exact measure_Check.mono _ _)
      | (with_reducible exact measure_system_split.mono _ _ _)
      | (with_reducible exact LeO.refl _)
      | (with_reducible exact LeO.none _)
      | (with_reducible refine LeO.ite ?_ ?_)
      | (with_reducible refine LeO.bind ?_ (fun _ => ?_))
      | exact ih0 _ _ _
      | exact measure_Check.mono _ _
      | exact measure_system_split.mono _ _ _
      | exact LeO.none _
      | refine LeO.ite ?_ ?_
      | refine LeO.bind ?_ (fun _ => ?_)
theorem measure_Split.mono : ∀ a0 a1 k, LeO (measure_Split.f k a0 a1) (measure_Split.f (k + 1) a0 a1) := by
  intro a0 a1 k
  have ih0 := measure_Split.mono_l k
  unfold measure_Split.f
  repeat' first
      | (with_reducible exact ih0 _ _ _)
      | (with_reducible exact measure_Check.mono _ _)
      | (with_reducible exact measure_system_split.mono _ _ _)
      | (with_reducible exact LeO.refl _)
      | (with_reducible exact LeO.none _)
      | (with_reducible refine LeO.ite ?_ ?_)
      | (with_reducible refine LeO.bind ?_ (fun _ => ?_))
      | exact ih0 _ _ _
      | exact measure_Check.mono _ _
      | exact measure_system_split.mono _ _ _
      | exact LeO.none _
      | refine LeO.ite ?_ ?_
      | refine LeO.bind ?_ (fun _ => ?_)

/-! DEFS pentaglotlaw16_same -/
def pentaglotlaw16_same.l0 : Nat → List Int → List Int → Int → Option (Bool)
  | 0, _, _, _ => none
  | k + 1, x0, x1, x5 => if x5 < (x0.length : Int) then (if 0 ≤ x5 then (if x5 < (x1.length : Int) then (if (rd x0 x5) = (rd x1 x5) then (pentaglotlaw16_same.l0 k x0 x1 (wrap64 (x5 + 1))) else (some false)) else (none)) else (none)) else (some true)
def pentaglotlaw16_same.f (k : Nat) (l0 : List Int) (l1 : List Int) : Option (Bool) := if (l0.length : Int) = (l1.length : Int) then (pentaglotlaw16_same.l0 k l0 l1 0) else (some false)
theorem pentaglotlaw16_same.mono_l : ∀ k, (∀ y0 y1 y2, LeO (pentaglotlaw16_same.l0 k y0 y1 y2) (pentaglotlaw16_same.l0 (k + 1) y0 y1 y2))
  | 0 => fun _ _ _ r h => by simp [pentaglotlaw16_same.l0] at h
  | k + 1 => by
    have ih0 := pentaglotlaw16_same.mono_l k
    · intro y0 y1 y2
      unfold pentaglotlaw16_same.l0
      repeat' first
      | (with_reducible exact ih0 _ _ _)
      | (with_reducible exact LeO.refl _)
      | (with_reducible exact LeO.none _)
      | (with_reducible refine LeO.ite ?_ ?_)
      | (with_reducible refine LeO.bind ?_ (fun _ => ?_))
      | exact ih0 _ _ _
      | exact LeO.none _
      | refine LeO.ite ?_ ?_
      | refine LeO.bind ?_ (fun _ => ?_)
theorem pentaglotlaw16_same.mono : ∀ a0 a1 k, LeO (pentaglotlaw16_same.f k a0 a1) (pentaglotlaw16_same.f (k + 1) a0 a1) := by
  intro a0 a1 k
  have ih0 := pentaglotlaw16_same.mono_l k
  unfold pentaglotlaw16_same.f
  repeat' first
      | (with_reducible exact ih0 _ _ _)
      | (with_reducible exact LeO.refl _)
      | (with_reducible exact LeO.none _)
      | (with_reducible refine LeO.ite ?_ ?_)
      | (with_reducible refine LeO.bind ?_ (fun _ => ?_))
      | exact ih0 _ _ _
      | exact LeO.none _
      | refine LeO.ite ?_ ?_
      | refine LeO.bind ?_ (fun _ => ?_)

/-! DEFS measure_system_accepts -/
mutual
def measure_system_accepts.j0 : Nat → List Int → Bool → Option (Bool)
  | 0, _, _ => none
  | k + 1, x1, x16 => if x16 = true then (some false) else (measure_system_accepts.l0 k x1 (x1.length : Int) 0)
def measure_system_accepts.l0 : Nat → List Int → Int → Int → Option (Bool)
  | 0, _, _, _ => none
  | k + 1, x17, x18, x19 => if x19 < x18 then (if 0 ≤ x19 then (if x19 < (x17.length : Int) then (if (rd x17 x19) < 0 then (some false) else (measure_system_accepts.l0 k x17 x18 (wrap64 (x19 + 1)))) else (none)) else (none)) else (some true)
end
def measure_system_accepts.f (k : Nat) (l0 : List (S41)) (l1 : List Int) : Option (Bool) := (measure_system_valid.f k l0).bind fun t108 => (if t108 = true then (measure_system_accepts.j0 k l1 ((l1.length : Int) != (l0.length : Int))) else (measure_system_accepts.j0 k l1 true))
theorem measure_system_accepts.mono_l : ∀ k, (∀ y0 y1, LeO (measure_system_accepts.j0 k y0 y1) (measure_system_accepts.j0 (k + 1) y0 y1)) ∧ (∀ y0 y1 y2, LeO (measure_system_accepts.l0 k y0 y1 y2) (measure_system_accepts.l0 (k + 1) y0 y1 y2))
  | 0 => ⟨fun _ _ r h => by simp [measure_system_accepts.j0] at h, fun _ _ _ r h => by simp [measure_system_accepts.l0] at h⟩
  | k + 1 => by
    obtain ⟨ih0, ih1⟩ := measure_system_accepts.mono_l k
    refine ⟨?_, ?_⟩
    · intro y0 y1
      unfold measure_system_accepts.j0
      repeat' first
      | (with_reducible exact ih0 _ _)
      | (with_reducible exact ih1 _ _ _)
      | (with_reducible exact measure_system_valid.mono _ _)
      | (with_reducible exact LeO.refl _)
      | (with_reducible exact LeO.none _)
      | (with_reducible refine LeO.ite ?_ ?_)
      | (with_reducible refine LeO.bind ?_ (fun _ => ?_))
      | exact ih0 _ _
      | exact ih1 _ _ _
      | exact measure_system_valid.mono _ _
      | exact LeO.none _
      | refine LeO.ite ?_ ?_
      | refine LeO.bind ?_ (fun _ => ?_)
    · intro y0 y1 y2
      unfold measure_system_accepts.l0
      repeat' first
      | (with_reducible exact ih0 _ _)
      | (with_reducible exact ih1 _ _ _)
      | (with_reducible exact measure_system_valid.mono _ _)
      | (with_reducible exact LeO.refl _)
      | (with_reducible exact LeO.none _)
      | (with_reducible refine LeO.ite ?_ ?_)
      | (with_reducible refine LeO.bind ?_ (fun _ => ?_))
      | exact ih0 _ _
      | exact ih1 _ _ _
      | exact measure_system_valid.mono _ _
      | exact LeO.none _
      | refine LeO.ite ?_ ?_
      | refine LeO.bind ?_ (fun _ => ?_)
theorem measure_system_accepts.mono : ∀ a0 a1 k, LeO (measure_system_accepts.f k a0 a1) (measure_system_accepts.f (k + 1) a0 a1) := by
  intro a0 a1 k
  obtain ⟨ih0, ih1⟩ := measure_system_accepts.mono_l k
  unfold measure_system_accepts.f
  repeat' first
      | (with_reducible exact ih0 _ _)
      | (with_reducible exact ih1 _ _ _)
      | (with_reducible exact measure_system_valid.mono _ _)
      | (with_reducible exact LeO.refl _)
      | (with_reducible exact LeO.none _)
      | (with_reducible refine LeO.ite ?_ ?_)
      | (with_reducible refine LeO.bind ?_ (fun _ => ?_))
      | exact ih0 _ _
      | exact ih1 _ _ _
      | exact measure_system_valid.mono _ _
      | exact LeO.none _
      | refine LeO.ite ?_ ?_
      | refine LeO.bind ?_ (fun _ => ?_)

/-! DEFS measure_system_amount -/
/-- One unit's part is laid on: the sum, and whether it still fits. -/
def amt (p size sum : Int) (ok : Bool) : Int × Bool := if p > 1099511627776 then (sum, false) else (if ok = false then (sum, false) else (wrap64 (sum + wrap64 (p * size)), decide (wrap64 (sum + wrap64 (p * size)) ≤ 1099511627776)))
def measure_system_amount.l0 : Nat → List S41 → List Int → Int → Int → Bool → Option (Int × Bool)
  | 0, _, _, _, _, _ => none
  | k + 1, l, ps, i, sum, ok => if i ≥ 0 then (if i < (ps.length : Int) then (if i < (l.length : Int) then measure_system_amount.l0 k l ps (i - 1) (amt (rd ps i) (rd_T41 l i).f1 sum ok).1 (amt (rd ps i) (rd_T41 l i).f1 sum ok).2 else none) else none) else some (sum, ok)
def measure_system_amount.f (k : Nat) (l : List S41) (ps : List Int) : Option (Int × Bool) := if (l.length : Int) ≤ 1000 then measure_system_amount.l0 k l ps ((l.length : Int) - 1) 0 true else none
theorem measure_system_amount.mono_l : ∀ k l ps i sum ok, LeO (measure_system_amount.l0 k l ps i sum ok) (measure_system_amount.l0 (k + 1) l ps i sum ok)
  | 0, _, _, _, _, _ => fun r h => by simp [measure_system_amount.l0] at h
  | k + 1, l, ps, i, sum, ok => by
    have ih := measure_system_amount.mono_l k
    unfold measure_system_amount.l0
    repeat' first
      | (with_reducible exact LeO.refl _)
      | (with_reducible exact ih _ _ _ _ _)
      | (with_reducible refine LeO.ite ?_ ?_)
theorem measure_system_amount.mono : ∀ l ps k, LeO (measure_system_amount.f k l ps) (measure_system_amount.f (k + 1) l ps) := by
  intro l ps k
  have ih := measure_system_amount.mono_l k
  unfold measure_system_amount.f
  repeat' first
      | (with_reducible exact LeO.refl _)
      | (with_reducible exact ih _ _ _ _ _)
      | (with_reducible refine LeO.ite ?_ ?_)

/-! DEFS measure_Join -/
def measure_Join.f (k : Nat) (l0 : List (S41)) (l1 : List Int) : Option (Int × Int) := (measure_system_accepts.f k l0 l1).bind fun t110 => (if t110 = true then ((measure_system_amount.f k l0 l1).bind fun bt111 => (if bt111.2 = true then (some (bt111.1, 0)) else (some (0, 2)))) else (some (0, 1)))
theorem measure_Join.mono : ∀ a0 a1 k, LeO (measure_Join.f k a0 a1) (measure_Join.f (k + 1) a0 a1) := by
  intro a0 a1 k
  unfold measure_Join.f
  repeat' first
      | (with_reducible exact measure_system_accepts.mono _ _ _)
      | (with_reducible exact measure_system_amount.mono _ _ _)
      | (with_reducible exact LeO.refl _)
      | (with_reducible exact LeO.none _)
      | (with_reducible refine LeO.ite ?_ ?_)
      | (with_reducible refine LeO.bind ?_ (fun _ => ?_))
      | exact measure_system_accepts.mono _ _ _
      | exact measure_system_amount.mono _ _ _
      | exact LeO.none _
      | refine LeO.ite ?_ ?_
      | refine LeO.bind ?_ (fun _ => ?_)

/-! DEFS measure_both -/
def measure_both.f (k : Nat) (l0 : List (S41)) (l1 : List Int) (l2 : List Int) : Option (Int × Int × Int) := (measure_Join.f k l0 l1).bind fun bt113 => ((measure_Join.f k l0 l2).bind fun bt115 => (if bt113.2 = 1 then (some (0, 0, 1)) else (if bt115.2 = 1 then (some (0, 0, 1)) else (some (bt113.1, bt115.1, mx bt113.2 bt115.2)))))
theorem measure_both.mono : ∀ a0 a1 a2 k, LeO (measure_both.f k a0 a1 a2) (measure_both.f (k + 1) a0 a1 a2) := by
  intro a0 a1 a2 k
  unfold measure_both.f
  repeat' first
      | (with_reducible exact measure_Join.mono _ _ _)
      | (with_reducible exact LeO.refl _)
      | (with_reducible exact LeO.none _)
      | (with_reducible refine LeO.ite ?_ ?_)
      | (with_reducible refine LeO.bind ?_ (fun _ => ?_))
      | exact measure_Join.mono _ _ _
      | exact LeO.none _
      | refine LeO.ite ?_ ?_
      | refine LeO.bind ?_ (fun _ => ?_)

/-! DEFS cmp_isNaN_int -/
def cmp_isNaN_int.f (a0 : Int) : Option (Bool) := some (a0 != a0)

/-! DEFS cmp_Compare_int -/
def cmp_Compare_int.f (a0 : Int) (a1 : Int) : Option (Int) := (cmp_isNaN_int.f a0).bind fun t117 => ((cmp_isNaN_int.f a1).bind fun t118 => (if t117 = true then (if t118 = true then (some 0) else (some (-1))) else (if t118 = true then (some 1) else (if a0 < a1 then (some (-1)) else (if a0 > a1 then (some 1) else (some 0))))))

/-! DEFS measure_Compare -/
def measure_Compare.f (k : Nat) (l0 : List (S41)) (l1 : List Int) (l2 : List Int) : Option (Int × Int) := (measure_both.f k l0 l1 l2).bind fun bt119 => (if bt119.2.2 = 0 then ((cmp_Compare_int.f bt119.1 bt119.2.1).bind fun t122 => (some (t122, 0))) else (some (0, bt119.2.2)))
theorem measure_Compare.mono : ∀ a0 a1 a2 k, LeO (measure_Compare.f k a0 a1 a2) (measure_Compare.f (k + 1) a0 a1 a2) := by
  intro a0 a1 a2 k
  unfold measure_Compare.f
  repeat' first
      | (with_reducible exact measure_both.mono _ _ _ _)
      | (with_reducible exact LeO.refl _)
      | (with_reducible exact LeO.none _)
      | (with_reducible refine LeO.ite ?_ ?_)
      | (with_reducible refine LeO.bind ?_ (fun _ => ?_))
      | exact measure_both.mono _ _ _ _
      | exact LeO.none _
      | refine LeO.ite ?_ ?_
      | refine LeO.bind ?_ (fun _ => ?_)

/-! DEFS measure_Add -/
def measure_Add.f (k : Nat) (l0 : List (S41)) (l1 : List Int) (l2 : List Int) : Option (List Int × Int) := (measure_both.f k l0 l1 l2).bind fun bt123 => (if bt123.2.2 = 0 then ((measure_Split.f k l0 (wrap64 (bt123.1 + bt123.2.1))).bind fun bt126 => (some (bt126.1, bt126.2))) else (some (([] : List Int), bt123.2.2)))
theorem measure_Add.mono : ∀ a0 a1 a2 k, LeO (measure_Add.f k a0 a1 a2) (measure_Add.f (k + 1) a0 a1 a2) := by
  intro a0 a1 a2 k
  unfold measure_Add.f
  repeat' first
      | (with_reducible exact measure_Split.mono _ _ _)
      | (with_reducible exact measure_both.mono _ _ _ _)
      | (with_reducible exact LeO.refl _)
      | (with_reducible exact LeO.none _)
      | (with_reducible refine LeO.ite ?_ ?_)
      | (with_reducible refine LeO.bind ?_ (fun _ => ?_))
      | exact measure_Split.mono _ _ _
      | exact measure_both.mono _ _ _ _
      | exact LeO.none _
      | refine LeO.ite ?_ ?_
      | refine LeO.bind ?_ (fun _ => ?_)

/-! DEFS measure_Normal -/
def measure_Normal.l0 : Nat → List (S41) → List Int → Int → Option (Bool)
  | 0, _, _, _ => none
  | k + 1, x0, x1, x7 => if (wrap64 (x7 + 1)) < (x1.length : Int) then (if 0 ≤ x7 then (if x7 < (x1.length : Int) then (if 0 ≤ (wrap64 (x7 + 1)) then (if (wrap64 (x7 + 1)) < (x0.length : Int) then (if x7 < (x0.length : Int) then (if ((rd_T41 x0 x7).f1) = 0 then (none) else (if (rd x1 x7) ≥ (wrap64 (Int.tdiv ((rd_T41 x0 (wrap64 (x7 + 1))).f1) ((rd_T41 x0 x7).f1))) then (some false) else (measure_Normal.l0 k x0 x1 (wrap64 (x7 + 1))))) else (none)) else (none)) else (none)) else (none)) else (none)) else (some true)
def measure_Normal.f (k : Nat) (l0 : List (S41)) (l1 : List Int) : Option (Bool) := (measure_Join.f k l0 l1).bind fun bt130 => (if bt130.2 = 0 then (measure_Normal.l0 k l0 l1 0) else (some false))
theorem measure_Normal.mono_l : ∀ k, (∀ y0 y1 y2, LeO (measure_Normal.l0 k y0 y1 y2) (measure_Normal.l0 (k + 1) y0 y1 y2))
  | 0 => fun _ _ _ r h => by simp [measure_Normal.l0] at h
  | k + 1 => by
    have ih0 := measure_Normal.mono_l k
    · intro y0 y1 y2
      unfold measure_Normal.l0
      repeat' first
      | (with_reducible exact ih0 _ _ _)
      | (with_reducible exact measure_Join.mono _ _ _)
      | (with_reducible exact LeO.refl _)
      | (with_reducible exact LeO.none _)
      | (with_reducible refine LeO.ite ?_ ?_)
      | (with_reducible refine LeO.bind ?_ (fun _ => ?_))
      | exact ih0 _ _ _
      | exact measure_Join.mono _ _ _
      | exact LeO.none _
      | refine LeO.ite ?_ ?_
      | refine LeO.bind ?_ (fun _ => ?_)
theorem measure_Normal.mono : ∀ a0 a1 k, LeO (measure_Normal.f k a0 a1) (measure_Normal.f (k + 1) a0 a1) := by
  intro a0 a1 k
  have ih0 := measure_Normal.mono_l k
  unfold measure_Normal.f
  repeat' first
      | (with_reducible exact ih0 _ _ _)
      | (with_reducible exact measure_Join.mono _ _ _)
      | (with_reducible exact LeO.refl _)
      | (with_reducible exact LeO.none _)
      | (with_reducible refine LeO.ite ?_ ?_)
      | (with_reducible refine LeO.bind ?_ (fun _ => ?_))
      | exact ih0 _ _ _
      | exact measure_Join.mono _ _ _
      | exact LeO.none _
      | refine LeO.ite ?_ ?_
      | refine LeO.bind ?_ (fun _ => ?_)

/-! DEFS pentaglotlaw16_awake -/
def pentaglotlaw16_awake.j0 : Nat → List (S41) → List Int → List Int → Bool → Option (Bool)
  | 0, _, _, _, _ => none
  | k + 1, x1, x2, x6, x71 => if x71 = true then (some false) else ((pentaglotlaw16_same.f k x2 (([5, 1, 1] : List Int))).bind fun t172 => (if t172 = true then ((pentaglotlaw16_same.f k x6 (([0, 0, 1] : List Int))).bind fun t176 => (if t176 = true then ((measure_Check.f k x1).bind fun t177 => (if t177 = true then ((measure_Normal.f k x1 (([65, 0, 1] : List Int))).bind fun t181 => (if t181 = true then (some false) else ((measure_Normal.f k x1 x2).bind fun t182 => (some t182)))) else (some false))) else (some false))) else (some false)))
def pentaglotlaw16_awake.f (k : Nat)  : Option (Bool) := (some (([(⟨(⟨#[109, 105, 110, 117, 116, 101]⟩ : ByteArray), 1⟩ : S41), (⟨(⟨#[104, 111, 117, 114]⟩ : ByteArray), 60⟩ : S41), (⟨(⟨#[100, 97, 121]⟩ : ByteArray), 1440⟩ : S41)] : List (S41)) : List (S41))).bind fun y135 => ((measure_Split.f k y135 1505).bind fun bt138 => ((measure_Join.f k y135 (([65, 0, 1] : List Int))).bind fun bt145 => ((measure_Add.f k y135 (([59, 23, 0] : List Int)) (([1, 0, 0] : List Int))).bind fun bt153 => ((measure_Compare.f k y135 (([59, 0, 0] : List Int)) (([0, 1, 0] : List Int))).bind fun bt163 => ((measure_Split.f k y135 (-1)).bind fun bt165 => (if bt138.2 = 0 then (if bt145.2 = 0 then (if bt153.2 = 0 then (if bt163.2 = 0 then (if bt165.2 = 1 then (if bt145.1 = 1505 then (pentaglotlaw16_awake.j0 k y135 bt138.1 bt153.1 (bt163.1 != (-1))) else (pentaglotlaw16_awake.j0 k y135 bt138.1 bt153.1 true)) else (pentaglotlaw16_awake.j0 k y135 bt138.1 bt153.1 true)) else (pentaglotlaw16_awake.j0 k y135 bt138.1 bt153.1 true)) else (pentaglotlaw16_awake.j0 k y135 bt138.1 bt153.1 true)) else (pentaglotlaw16_awake.j0 k y135 bt138.1 bt153.1 true)) else (pentaglotlaw16_awake.j0 k y135 bt138.1 bt153.1 true)))))))
theorem pentaglotlaw16_awake.mono_l : ∀ k, (∀ y0 y1 y2 y3, LeO (pentaglotlaw16_awake.j0 k y0 y1 y2 y3) (pentaglotlaw16_awake.j0 (k + 1) y0 y1 y2 y3))
  | 0 => fun _ _ _ _ r h => by simp [pentaglotlaw16_awake.j0] at h
  | k + 1 => by
    have ih0 := pentaglotlaw16_awake.mono_l k
    · intro y0 y1 y2 y3
      unfold pentaglotlaw16_awake.j0
      repeat' first
      | (with_reducible exact ih0 _ _ _ _)
      | (with_reducible exact measure_Add.mono _ _ _ _)
      | (with_reducible exact measure_Check.mono _ _)
      | (with_reducible exact measure_Compare.mono _ _ _ _)
      | (with_reducible exact measure_Join.mono _ _ _)
      | (with_reducible exact measure_Normal.mono _ _ _)
      | (with_reducible exact measure_Split.mono _ _ _)
      | (with_reducible exact pentaglotlaw16_same.mono _ _ _)
      | (with_reducible exact LeO.refl _)
      | (with_reducible exact LeO.none _)
      | (with_reducible refine LeO.ite ?_ ?_)
      | (with_reducible refine LeO.bind ?_ (fun _ => ?_))
      | exact ih0 _ _ _ _
      | exact measure_Add.mono _ _ _ _
      | exact measure_Check.mono _ _
      | exact measure_Compare.mono _ _ _ _
      | exact measure_Join.mono _ _ _
      | exact measure_Normal.mono _ _ _
      | exact measure_Split.mono _ _ _
      | exact pentaglotlaw16_same.mono _ _ _
      | exact LeO.none _
      | refine LeO.ite ?_ ?_
      | refine LeO.bind ?_ (fun _ => ?_)
theorem pentaglotlaw16_awake.mono : ∀ k, LeO (pentaglotlaw16_awake.f k ) (pentaglotlaw16_awake.f (k + 1) ) := by
  intro  k
  have ih0 := pentaglotlaw16_awake.mono_l k
  unfold pentaglotlaw16_awake.f
  repeat' first
      | (with_reducible exact ih0 _ _ _ _)
      | (with_reducible exact measure_Add.mono _ _ _ _)
      | (with_reducible exact measure_Check.mono _ _)
      | (with_reducible exact measure_Compare.mono _ _ _ _)
      | (with_reducible exact measure_Join.mono _ _ _)
      | (with_reducible exact measure_Normal.mono _ _ _)
      | (with_reducible exact measure_Split.mono _ _ _)
      | (with_reducible exact pentaglotlaw16_same.mono _ _ _)
      | (with_reducible exact LeO.refl _)
      | (with_reducible exact LeO.none _)
      | (with_reducible refine LeO.ite ?_ ?_)
      | (with_reducible refine LeO.bind ?_ (fun _ => ?_))
      | exact ih0 _ _ _ _
      | exact measure_Add.mono _ _ _ _
      | exact measure_Check.mono _ _
      | exact measure_Compare.mono _ _ _ _
      | exact measure_Join.mono _ _ _
      | exact measure_Normal.mono _ _ _
      | exact measure_Split.mono _ _ _
      | exact pentaglotlaw16_same.mono _ _ _
      | exact LeO.none _
      | refine LeO.ite ?_ ?_
      | refine LeO.bind ?_ (fun _ => ?_)

/-! DEFS pentaglotlaw16_great -/
mutual
def pentaglotlaw16_great.j0 : Nat → List (S41) → Bool → Option (Bool)
  | 0, _, _ => none
  | k + 1, x0, x14 => if x14 = true then (some true) else (pentaglotlaw16_great.l0 k x0 (x0.length : Int) 0)
def pentaglotlaw16_great.l0 : Nat → List (S41) → Int → Int → Option (Bool)
  | 0, _, _, _ => none
  | k + 1, x15, x16, x17 => if x17 < x16 then (if 0 ≤ x17 then (if x17 < (x15.length : Int) then (if (((rd_T41 x15 x17).f0).size : Int) > 100 then (some true) else (pentaglotlaw16_great.l0 k x15 x16 (wrap64 (x17 + 1)))) else (none)) else (none)) else (some false)
end
def pentaglotlaw16_great.f (k : Nat) (l0 : List (S41)) (l1 : List Int) : Option (Bool) := if (l0.length : Int) > 12 then (pentaglotlaw16_great.j0 k l0 true) else (pentaglotlaw16_great.j0 k l0 (decide ((l1.length : Int) > 12)))
theorem pentaglotlaw16_great.mono_l : ∀ k, (∀ y0 y1, LeO (pentaglotlaw16_great.j0 k y0 y1) (pentaglotlaw16_great.j0 (k + 1) y0 y1)) ∧ (∀ y0 y1 y2, LeO (pentaglotlaw16_great.l0 k y0 y1 y2) (pentaglotlaw16_great.l0 (k + 1) y0 y1 y2))
  | 0 => ⟨fun _ _ r h => by simp [pentaglotlaw16_great.j0] at h, fun _ _ _ r h => by simp [pentaglotlaw16_great.l0] at h⟩
  | k + 1 => by
    obtain ⟨ih0, ih1⟩ := pentaglotlaw16_great.mono_l k
    refine ⟨?_, ?_⟩
    · intro y0 y1
      unfold pentaglotlaw16_great.j0
      repeat' first
      | (with_reducible exact ih0 _ _)
      | (with_reducible exact ih1 _ _ _)
      | (with_reducible exact LeO.refl _)
      | (with_reducible exact LeO.none _)
      | (with_reducible refine LeO.ite ?_ ?_)
      | (with_reducible refine LeO.bind ?_ (fun _ => ?_))
      | exact ih0 _ _
      | exact ih1 _ _ _
      | exact LeO.none _
      | refine LeO.ite ?_ ?_
      | refine LeO.bind ?_ (fun _ => ?_)
    · intro y0 y1 y2
      unfold pentaglotlaw16_great.l0
      repeat' first
      | (with_reducible exact ih0 _ _)
      | (with_reducible exact ih1 _ _ _)
      | (with_reducible exact LeO.refl _)
      | (with_reducible exact LeO.none _)
      | (with_reducible refine LeO.ite ?_ ?_)
      | (with_reducible refine LeO.bind ?_ (fun _ => ?_))
      | exact ih0 _ _
      | exact ih1 _ _ _
      | exact LeO.none _
      | refine LeO.ite ?_ ?_
      | refine LeO.bind ?_ (fun _ => ?_)
theorem pentaglotlaw16_great.mono : ∀ a0 a1 k, LeO (pentaglotlaw16_great.f k a0 a1) (pentaglotlaw16_great.f (k + 1) a0 a1) := by
  intro a0 a1 k
  obtain ⟨ih0, ih1⟩ := pentaglotlaw16_great.mono_l k
  unfold pentaglotlaw16_great.f
  repeat' first
      | (with_reducible exact ih0 _ _)
      | (with_reducible exact ih1 _ _ _)
      | (with_reducible exact LeO.refl _)
      | (with_reducible exact LeO.none _)
      | (with_reducible refine LeO.ite ?_ ?_)
      | (with_reducible refine LeO.bind ?_ (fun _ => ?_))
      | exact ih0 _ _
      | exact ih1 _ _ _
      | exact LeO.none _
      | refine LeO.ite ?_ ?_
      | refine LeO.bind ?_ (fun _ => ?_)

/-! DEFS pentaglotref16_Check -/
mutual
def pentaglotref16_Check.j0 : Nat → List (S41) → Bool → Option (Bool)
  | 0, _, _ => none
  | k + 1, x0, x21 => if x21 = true then (some false) else (pentaglotref16_Check.l0 k x0 x0 (x0.length : Int) 0)
def pentaglotref16_Check.l0 : Nat → List (S41) → List (S41) → Int → Int → Option (Bool)
  | 0, _, _, _, _ => none
  | k + 1, x0, x22, x23, x24 => if x24 < x23 then (if 0 ≤ x24 then (if x24 < (x22.length : Int) then (if ((rd_T41 x22 x24).f0).toList = ([] : List UInt8) then (some false) else (if x24 ≤ (x0.length : Int) then ((some (x0.take (x24 : Int).toNat : List (S41))).bind fun y188 => (pentaglotref16_Check.l1 k x0 x24 x22 x23 x24 y188 (y188.length : Int) 0 ((rd_T41 x22 x24).f0) ((rd_T41 x22 x24).f1))) else (none))) else (none)) else (none)) else (some true)
def pentaglotref16_Check.l1 : Nat → List (S41) → Int → List (S41) → Int → Int → List (S41) → Int → Int → ByteArray → Int → Option (Bool)
  | 0, _, _, _, _, _, _, _, _, _, _ => none
  | k + 1, x0, x3, x22, x23, x24, x34, x35, x36, x188000, x188001 => if x36 < x35 then (if 0 ≤ x36 then (if x36 < (x34.length : Int) then (if ((rd_T41 x34 x36).f0).toList = x188000.toList then (some false) else (pentaglotref16_Check.l1 k x0 x3 x22 x23 x24 x34 x35 (wrap64 (x36 + 1)) x188000 x188001)) else (none)) else (none)) else (if x3 > 0 then (if 0 ≤ (wrap64 (x3 - 1)) then (if (wrap64 (x3 - 1)) < (x0.length : Int) then (if x188001 ≤ ((rd_T41 x0 (wrap64 (x3 - 1))).f1) then (some false) else (if x188001 > 1000000 then (some false) else (if ((rd_T41 x0 (wrap64 (x3 - 1))).f1) = 0 then (none) else (if (Int.tmod x188001 ((rd_T41 x0 (wrap64 (x3 - 1))).f1)) = 0 then (pentaglotref16_Check.l0 k x0 x22 x23 (wrap64 (x24 + 1))) else (some false))))) else (none)) else (none)) else (pentaglotref16_Check.l0 k x0 x22 x23 (wrap64 (x24 + 1))))
end
def pentaglotref16_Check.f (k : Nat) (l0 : List (S41)) : Option (Bool) := if (l0.length : Int) < 1 then (pentaglotref16_Check.j0 k l0 true) else (if (l0.length : Int) > 8 then (pentaglotref16_Check.j0 k l0 true) else (if 0 < (l0.length : Int) then (pentaglotref16_Check.j0 k l0 (((rd_T41 l0 0).f1) != 1)) else (none)))
theorem pentaglotref16_Check.mono_l : ∀ k, (∀ y0 y1, LeO (pentaglotref16_Check.j0 k y0 y1) (pentaglotref16_Check.j0 (k + 1) y0 y1)) ∧ (∀ y0 y1 y2 y3, LeO (pentaglotref16_Check.l0 k y0 y1 y2 y3) (pentaglotref16_Check.l0 (k + 1) y0 y1 y2 y3)) ∧ (∀ y0 y1 y2 y3 y4 y5 y6 y7 y8 y9, LeO (pentaglotref16_Check.l1 k y0 y1 y2 y3 y4 y5 y6 y7 y8 y9) (pentaglotref16_Check.l1 (k + 1) y0 y1 y2 y3 y4 y5 y6 y7 y8 y9))
  | 0 => ⟨fun _ _ r h => by simp [pentaglotref16_Check.j0] at h, fun _ _ _ _ r h => by simp [pentaglotref16_Check.l0] at h, fun _ _ _ _ _ _ _ _ _ _ r h => by simp [pentaglotref16_Check.l1] at h⟩
  | k + 1 => by
    obtain ⟨ih0, ih1, ih2⟩ := pentaglotref16_Check.mono_l k
    refine ⟨?_, ?_, ?_⟩
    · intro y0 y1
      unfold pentaglotref16_Check.j0
      repeat' first
      | (with_reducible exact ih0 _ _)
      | (with_reducible exact ih1 _ _ _ _)
      | (with_reducible exact ih2 _ _ _ _ _ _ _ _ _ _)
      | (with_reducible exact LeO.refl _)
      | (with_reducible exact LeO.none _)
      | (with_reducible refine LeO.ite ?_ ?_)
      | (with_reducible refine LeO.bind ?_ (fun _ => ?_))
      | exact ih0 _ _
      | exact ih1 _ _ _ _
      | exact ih2 _ _ _ _ _ _ _ _ _ _
      | exact LeO.none _
      | refine LeO.ite ?_ ?_
      | refine LeO.bind ?_ (fun _ => ?_)
    · intro y0 y1 y2 y3
      unfold pentaglotref16_Check.l0
      repeat' first
      | (with_reducible exact ih0 _ _)
      | (with_reducible exact ih1 _ _ _ _)
      | (with_reducible exact ih2 _ _ _ _ _ _ _ _ _ _)
      | (with_reducible exact LeO.refl _)
      | (with_reducible exact LeO.none _)
      | (with_reducible refine LeO.ite ?_ ?_)
      | (with_reducible refine LeO.bind ?_ (fun _ => ?_))
      | exact ih0 _ _
      | exact ih1 _ _ _ _
      | exact ih2 _ _ _ _ _ _ _ _ _ _
      | exact LeO.none _
      | refine LeO.ite ?_ ?_
      | refine LeO.bind ?_ (fun _ => ?_)
    · intro y0 y1 y2 y3 y4 y5 y6 y7 y8 y9
      unfold pentaglotref16_Check.l1
      repeat' first
      | (with_reducible exact ih0 _ _)
      | (with_reducible exact ih1 _ _ _ _)
      | (with_reducible exact ih2 _ _ _ _ _ _ _ _ _ _)
      | (with_reducible exact LeO.refl _)
      | (with_reducible exact LeO.none _)
      | (with_reducible refine LeO.ite ?_ ?_)
      | (with_reducible refine LeO.bind ?_ (fun _ => ?_))
      | exact ih0 _ _
      | exact ih1 _ _ _ _
      | exact ih2 _ _ _ _ _ _ _ _ _ _
      | exact LeO.none _
      | refine LeO.ite ?_ ?_
      | refine LeO.bind ?_ (fun _ => ?_)
theorem pentaglotref16_Check.mono : ∀ a0 k, LeO (pentaglotref16_Check.f k a0) (pentaglotref16_Check.f (k + 1) a0) := by
  intro a0 k
  obtain ⟨ih0, ih1, ih2⟩ := pentaglotref16_Check.mono_l k
  unfold pentaglotref16_Check.f
  repeat' first
      | (with_reducible exact ih0 _ _)
      | (with_reducible exact ih1 _ _ _ _)
      | (with_reducible exact ih2 _ _ _ _ _ _ _ _ _ _)
      | (with_reducible exact LeO.refl _)
      | (with_reducible exact LeO.none _)
      | (with_reducible refine LeO.ite ?_ ?_)
      | (with_reducible refine LeO.bind ?_ (fun _ => ?_))
      | exact ih0 _ _
      | exact ih1 _ _ _ _
      | exact ih2 _ _ _ _ _ _ _ _ _ _
      | exact LeO.none _
      | refine LeO.ite ?_ ?_
      | refine LeO.bind ?_ (fun _ => ?_)

/-! DEFS pentaglotref16_Split -/
mutual
def pentaglotref16_Split.j0 : Nat → List (S41) → Int → Bool → Option (List Int × Int)
  | 0, _, _, _ => none
  | k + 1, x0, x1, x14 => if x14 = true then (some (([] : List Int), 1)) else (if x1 > 1099511627776 then (some (([] : List Int), 2)) else (if 0 ≤ (x0.length : Int) then (if ((x0.length : Int) : Int).toNat ≤ 35184372088832 then (pentaglotref16_Split.l0 k x0 x1 (List.replicate ((x0.length : Int) : Int).toNat 0) (wrap64 ((x0.length : Int) - 1))) else (none)) else (none)))
def pentaglotref16_Split.l0 : Nat → List (S41) → Int → List Int → Int → Option (List Int × Int)
  | 0, _, _, _, _ => none
  | k + 1, x0, x1, x6, x7 => if x7 ≥ 0 then (if 0 ≤ x7 then (if x7 < (x0.length : Int) then (if ((rd_T41 x0 x7).f1) = 0 then (none) else (if x7 < (x6.length : Int) then (pentaglotref16_Split.l0 k x0 (Int.tmod x1 ((rd_T41 x0 x7).f1)) (x6.set (x7 : Int).toNat (wrap64 (Int.tdiv x1 ((rd_T41 x0 x7).f1)))) (wrap64 (x7 - 1))) else (none))) else (none)) else (none)) else (some (x6, 0))
end
def pentaglotref16_Split.f (k : Nat) (l0 : List (S41)) (a1 : Int) : Option (List Int × Int) := (pentaglotref16_Check.f k l0).bind fun t196 => (if t196 = true then (pentaglotref16_Split.j0 k l0 a1 (decide (a1 < 0))) else (pentaglotref16_Split.j0 k l0 a1 true))
theorem pentaglotref16_Split.mono_l : ∀ k, (∀ y0 y1 y2, LeO (pentaglotref16_Split.j0 k y0 y1 y2) (pentaglotref16_Split.j0 (k + 1) y0 y1 y2)) ∧ (∀ y0 y1 y2 y3, LeO (pentaglotref16_Split.l0 k y0 y1 y2 y3) (pentaglotref16_Split.l0 (k + 1) y0 y1 y2 y3))
  | 0 => ⟨fun _ _ _ r h => by simp [pentaglotref16_Split.j0] at h, fun _ _ _ _ r h => by simp [pentaglotref16_Split.l0] at h⟩
  | k + 1 => by
    obtain ⟨ih0, ih1⟩ := pentaglotref16_Split.mono_l k
    refine ⟨?_, ?_⟩
    · intro y0 y1 y2
      unfold pentaglotref16_Split.j0
      repeat' first
      | (with_reducible exact ih0 _ _ _)
      | (with_reducible exact ih1 _ _ _ _)
      | (with_reducible exact pentaglotref16_Check.mono _ _)
      | (with_reducible exact LeO.refl _)
      | (with_reducible exact LeO.none _)
      | (with_reducible refine LeO.ite ?_ ?_)
      | (with_reducible refine LeO.bind ?_ (fun _ => ?_))
      | exact ih0 _ _ _
      | exact ih1 _ _ _ _
      | exact pentaglotref16_Check.mono _ _
      | exact LeO.none _
      | refine LeO.ite ?_ ?_
      | refine LeO.bind ?_ (fun _ => ?_)
    · intro y0 y1 y2 y3
      unfold pentaglotref16_Split.l0
      repeat' first
      | (with_reducible exact ih0 _ _ _)
      | (with_reducible exact ih1 _ _ _ _)
      | (with_reducible exact pentaglotref16_Check.mono _ _)
      | (with_reducible exact LeO.refl _)
      | (with_reducible exact LeO.none _)
      | (with_reducible refine LeO.ite ?_ ?_)
      | (with_reducible refine LeO.bind ?_ (fun _ => ?_))
      | exact ih0 _ _ _
      | exact ih1 _ _ _ _
      | exact pentaglotref16_Check.mono _ _
      | exact LeO.none _
      | refine LeO.ite ?_ ?_
      | refine LeO.bind ?_ (fun _ => ?_)
theorem pentaglotref16_Split.mono : ∀ a0 a1 k, LeO (pentaglotref16_Split.f k a0 a1) (pentaglotref16_Split.f (k + 1) a0 a1) := by
  intro a0 a1 k
  obtain ⟨ih0, ih1⟩ := pentaglotref16_Split.mono_l k
  unfold pentaglotref16_Split.f
  repeat' first
      | (with_reducible exact ih0 _ _ _)
      | (with_reducible exact ih1 _ _ _ _)
      | (with_reducible exact pentaglotref16_Check.mono _ _)
      | (with_reducible exact LeO.refl _)
      | (with_reducible exact LeO.none _)
      | (with_reducible refine LeO.ite ?_ ?_)
      | (with_reducible refine LeO.bind ?_ (fun _ => ?_))
      | exact ih0 _ _ _
      | exact ih1 _ _ _ _
      | exact pentaglotref16_Check.mono _ _
      | exact LeO.none _
      | refine LeO.ite ?_ ?_
      | refine LeO.bind ?_ (fun _ => ?_)

/-! DEFS pentaglotlaw16_MeasureSplit -/
def pentaglotlaw16_MeasureSplit.f (k : Nat) (l0 : List (S41)) (a1 : Int) : Option (Bool) := (pentaglotlaw16_awake.f k).bind fun t203 => (if t203 = true then ((pentaglotlaw16_great.f k l0 ([] : List Int)).bind fun t204 => (if t204 = true then (some true) else ((measure_Split.f k l0 a1).bind fun bt205 => ((pentaglotref16_Split.f k l0 a1).bind fun bt209 => ((measure_Check.f k l0).bind fun t213 => ((pentaglotref16_Check.f k l0).bind fun t214 => (if (t213 == t214) = true then (if bt205.2 = bt209.2 then ((pentaglotlaw16_same.f k bt205.1 bt209.1).bind fun t215 => (some t215)) else (some false)) else (some false)))))))) else (some false))
theorem pentaglotlaw16_MeasureSplit.mono : ∀ a0 a1 k, LeO (pentaglotlaw16_MeasureSplit.f k a0 a1) (pentaglotlaw16_MeasureSplit.f (k + 1) a0 a1) := by
  intro a0 a1 k
  unfold pentaglotlaw16_MeasureSplit.f
  repeat' first
      | (with_reducible exact measure_Check.mono _ _)
      | (with_reducible exact measure_Split.mono _ _ _)
      | (with_reducible exact pentaglotlaw16_awake.mono _)
      | (with_reducible exact pentaglotlaw16_great.mono _ _ _)
      | (with_reducible exact pentaglotlaw16_same.mono _ _ _)
      | (with_reducible exact pentaglotref16_Check.mono _ _)
      | (with_reducible exact pentaglotref16_Split.mono _ _ _)
      | (with_reducible exact LeO.refl _)
      | (with_reducible exact LeO.none _)
      | (with_reducible refine LeO.ite ?_ ?_)
      | (with_reducible refine LeO.bind ?_ (fun _ => ?_))
      | exact measure_Check.mono _ _
      | exact measure_Split.mono _ _ _
      | exact pentaglotlaw16_awake.mono _
      | exact pentaglotlaw16_great.mono _ _ _
      | exact pentaglotlaw16_same.mono _ _ _
      | exact pentaglotref16_Check.mono _ _
      | exact pentaglotref16_Split.mono _ _ _
      | exact LeO.none _
      | refine LeO.ite ?_ ?_
      | refine LeO.bind ?_ (fun _ => ?_)

/-! DEFS pentaglotref16_valid -/
mutual
def pentaglotref16_valid.j0 : Nat → List Int → Bool → Option (Bool)
  | 0, _, _ => none
  | k + 1, x1, x16 => if x16 = true then (some false) else (pentaglotref16_valid.l0 k x1 (x1.length : Int) 0)
def pentaglotref16_valid.l0 : Nat → List Int → Int → Int → Option (Bool)
  | 0, _, _, _ => none
  | k + 1, x17, x18, x19 => if x19 < x18 then (if 0 ≤ x19 then (if x19 < (x17.length : Int) then (if (rd x17 x19) < 0 then (some false) else (pentaglotref16_valid.l0 k x17 x18 (wrap64 (x19 + 1)))) else (none)) else (none)) else (some true)
end
def pentaglotref16_valid.f (k : Nat) (l0 : List (S41)) (l1 : List Int) : Option (Bool) := (pentaglotref16_Check.f k l0).bind fun t216 => (if t216 = true then (pentaglotref16_valid.j0 k l1 ((l1.length : Int) != (l0.length : Int))) else (pentaglotref16_valid.j0 k l1 true))
theorem pentaglotref16_valid.mono_l : ∀ k, (∀ y0 y1, LeO (pentaglotref16_valid.j0 k y0 y1) (pentaglotref16_valid.j0 (k + 1) y0 y1)) ∧ (∀ y0 y1 y2, LeO (pentaglotref16_valid.l0 k y0 y1 y2) (pentaglotref16_valid.l0 (k + 1) y0 y1 y2))
  | 0 => ⟨fun _ _ r h => by simp [pentaglotref16_valid.j0] at h, fun _ _ _ r h => by simp [pentaglotref16_valid.l0] at h⟩
  | k + 1 => by
    obtain ⟨ih0, ih1⟩ := pentaglotref16_valid.mono_l k
    refine ⟨?_, ?_⟩
    · intro y0 y1
      unfold pentaglotref16_valid.j0
      repeat' first
      | (with_reducible exact ih0 _ _)
      | (with_reducible exact ih1 _ _ _)
      | (with_reducible exact pentaglotref16_Check.mono _ _)
      | (with_reducible exact LeO.refl _)
      | (with_reducible exact LeO.none _)
      | (with_reducible refine LeO.ite ?_ ?_)
      | (with_reducible refine LeO.bind ?_ (fun _ => ?_))
      | exact ih0 _ _
      | exact ih1 _ _ _
      | exact pentaglotref16_Check.mono _ _
      | exact LeO.none _
      | refine LeO.ite ?_ ?_
      | refine LeO.bind ?_ (fun _ => ?_)
    · intro y0 y1 y2
      unfold pentaglotref16_valid.l0
      repeat' first
      | (with_reducible exact ih0 _ _)
      | (with_reducible exact ih1 _ _ _)
      | (with_reducible exact pentaglotref16_Check.mono _ _)
      | (with_reducible exact LeO.refl _)
      | (with_reducible exact LeO.none _)
      | (with_reducible refine LeO.ite ?_ ?_)
      | (with_reducible refine LeO.bind ?_ (fun _ => ?_))
      | exact ih0 _ _
      | exact ih1 _ _ _
      | exact pentaglotref16_Check.mono _ _
      | exact LeO.none _
      | refine LeO.ite ?_ ?_
      | refine LeO.bind ?_ (fun _ => ?_)
theorem pentaglotref16_valid.mono : ∀ a0 a1 k, LeO (pentaglotref16_valid.f k a0 a1) (pentaglotref16_valid.f (k + 1) a0 a1) := by
  intro a0 a1 k
  obtain ⟨ih0, ih1⟩ := pentaglotref16_valid.mono_l k
  unfold pentaglotref16_valid.f
  repeat' first
      | (with_reducible exact ih0 _ _)
      | (with_reducible exact ih1 _ _ _)
      | (with_reducible exact pentaglotref16_Check.mono _ _)
      | (with_reducible exact LeO.refl _)
      | (with_reducible exact LeO.none _)
      | (with_reducible refine LeO.ite ?_ ?_)
      | (with_reducible refine LeO.bind ?_ (fun _ => ?_))
      | exact ih0 _ _
      | exact ih1 _ _ _
      | exact pentaglotref16_Check.mono _ _
      | exact LeO.none _
      | refine LeO.ite ?_ ?_
      | refine LeO.bind ?_ (fun _ => ?_)

/-! DEFS pentaglotref16_Join -/
def pentaglotref16_Join.l0 : Nat → List (S41) → Int → List Int → Int → Int → Option (Int × Int)
  | 0, _, _, _, _, _ => none
  | k + 1, x0, x6, x13, x14, x15 => if x15 < x14 then (if 0 ≤ x15 then (if x15 < (x13.length : Int) then (if (rd x13 x15) > 1099511627776 then (some (0, 2)) else (if x15 < (x0.length : Int) then (if (wrap64 (x6 + (wrap64 ((rd x13 x15) * ((rd_T41 x0 x15).f1))))) > 1099511627776 then (some (0, 2)) else (pentaglotref16_Join.l0 k x0 (wrap64 (x6 + (wrap64 ((rd x13 x15) * ((rd_T41 x0 x15).f1))))) x13 x14 (wrap64 (x15 + 1)))) else (none))) else (none)) else (none)) else (some (x6, 0))
def pentaglotref16_Join.f (k : Nat) (l0 : List (S41)) (l1 : List Int) : Option (Int × Int) := (pentaglotref16_valid.f k l0 l1).bind fun t218 => (if t218 = true then (pentaglotref16_Join.l0 k l0 0 l1 (l1.length : Int) 0) else (some (0, 1)))
theorem pentaglotref16_Join.mono_l : ∀ k, (∀ y0 y1 y2 y3 y4, LeO (pentaglotref16_Join.l0 k y0 y1 y2 y3 y4) (pentaglotref16_Join.l0 (k + 1) y0 y1 y2 y3 y4))
  | 0 => fun _ _ _ _ _ r h => by simp [pentaglotref16_Join.l0] at h
  | k + 1 => by
    have ih0 := pentaglotref16_Join.mono_l k
    · intro y0 y1 y2 y3 y4
      unfold pentaglotref16_Join.l0
      repeat' first
      | (with_reducible exact ih0 _ _ _ _ _)
      | (with_reducible exact pentaglotref16_valid.mono _ _ _)
      | (with_reducible exact LeO.refl _)
      | (with_reducible exact LeO.none _)
      | (with_reducible refine LeO.ite ?_ ?_)
      | (with_reducible refine LeO.bind ?_ (fun _ => ?_))
      | exact ih0 _ _ _ _ _
      | exact pentaglotref16_valid.mono _ _ _
      | exact LeO.none _
      | refine LeO.ite ?_ ?_
      | refine LeO.bind ?_ (fun _ => ?_)
theorem pentaglotref16_Join.mono : ∀ a0 a1 k, LeO (pentaglotref16_Join.f k a0 a1) (pentaglotref16_Join.f (k + 1) a0 a1) := by
  intro a0 a1 k
  have ih0 := pentaglotref16_Join.mono_l k
  unfold pentaglotref16_Join.f
  repeat' first
      | (with_reducible exact ih0 _ _ _ _ _)
      | (with_reducible exact pentaglotref16_valid.mono _ _ _)
      | (with_reducible exact LeO.refl _)
      | (with_reducible exact LeO.none _)
      | (with_reducible refine LeO.ite ?_ ?_)
      | (with_reducible refine LeO.bind ?_ (fun _ => ?_))
      | exact ih0 _ _ _ _ _
      | exact pentaglotref16_valid.mono _ _ _
      | exact LeO.none _
      | refine LeO.ite ?_ ?_
      | refine LeO.bind ?_ (fun _ => ?_)

/-! DEFS pentaglotref16_Both -/
def pentaglotref16_Both.j0 : Nat → List (S41) → List Int → List Int → Bool → Option (Int × Int × Int)
  | 0, _, _, _, _ => none
  | k + 1, x0, x1, x2, x22 => if x22 = true then (some (0, 0, 1)) else ((pentaglotref16_Join.f k x0 x1).bind fun bt223 => ((pentaglotref16_Join.f k x0 x2).bind fun bt225 => (if bt223.2 = 0 then (if bt225.2 = 0 then (some (bt223.1, bt225.1, 0)) else (some (0, 0, 2))) else (some (0, 0, 2)))))
def pentaglotref16_Both.f (k : Nat) (l0 : List (S41)) (l1 : List Int) (l2 : List Int) : Option (Int × Int × Int) := (pentaglotref16_valid.f k l0 l1).bind fun t221 => (if t221 = true then ((pentaglotref16_valid.f k l0 l2).bind fun t222 => (pentaglotref16_Both.j0 k l0 l1 l2 (!t222))) else (pentaglotref16_Both.j0 k l0 l1 l2 true))
theorem pentaglotref16_Both.mono_l : ∀ k, (∀ y0 y1 y2 y3, LeO (pentaglotref16_Both.j0 k y0 y1 y2 y3) (pentaglotref16_Both.j0 (k + 1) y0 y1 y2 y3))
  | 0 => fun _ _ _ _ r h => by simp [pentaglotref16_Both.j0] at h
  | k + 1 => by
    have ih0 := pentaglotref16_Both.mono_l k
    · intro y0 y1 y2 y3
      unfold pentaglotref16_Both.j0
      repeat' first
      | (with_reducible exact ih0 _ _ _ _)
      | (with_reducible exact pentaglotref16_Join.mono _ _ _)
      | (with_reducible exact pentaglotref16_valid.mono _ _ _)
      | (with_reducible exact LeO.refl _)
      | (with_reducible exact LeO.none _)
      | (with_reducible refine LeO.ite ?_ ?_)
      | (with_reducible refine LeO.bind ?_ (fun _ => ?_))
      | exact ih0 _ _ _ _
      | exact pentaglotref16_Join.mono _ _ _
      | exact pentaglotref16_valid.mono _ _ _
      | exact LeO.none _
      | refine LeO.ite ?_ ?_
      | refine LeO.bind ?_ (fun _ => ?_)
theorem pentaglotref16_Both.mono : ∀ a0 a1 a2 k, LeO (pentaglotref16_Both.f k a0 a1 a2) (pentaglotref16_Both.f (k + 1) a0 a1 a2) := by
  intro a0 a1 a2 k
  have ih0 := pentaglotref16_Both.mono_l k
  unfold pentaglotref16_Both.f
  repeat' first
      | (with_reducible exact ih0 _ _ _ _)
      | (with_reducible exact pentaglotref16_Join.mono _ _ _)
      | (with_reducible exact pentaglotref16_valid.mono _ _ _)
      | (with_reducible exact LeO.refl _)
      | (with_reducible exact LeO.none _)
      | (with_reducible refine LeO.ite ?_ ?_)
      | (with_reducible refine LeO.bind ?_ (fun _ => ?_))
      | exact ih0 _ _ _ _
      | exact pentaglotref16_Join.mono _ _ _
      | exact pentaglotref16_valid.mono _ _ _
      | exact LeO.none _
      | refine LeO.ite ?_ ?_
      | refine LeO.bind ?_ (fun _ => ?_)

/-! DEFS pentaglotlaw16_MeasureSums -/
mutual
def pentaglotlaw16_MeasureSums.j0 : Nat → List (S41) → List Int → List Int → Bool → Option (Bool)
  | 0, _, _, _, _ => none
  | k + 1, x0, x1, x2, x25 => if x25 = true then (some true) else ((pentaglotref16_Both.f k x0 x1 x2).bind fun bt230 => (if bt230.1 < bt230.2.1 then (pentaglotlaw16_MeasureSums.j1 k x0 x1 x2 bt230.1 bt230.2.1 bt230.2.2 (-1)) else (pentaglotlaw16_MeasureSums.j1 k x0 x1 x2 bt230.1 bt230.2.1 bt230.2.2 0)))
def pentaglotlaw16_MeasureSums.j1 : Nat → List (S41) → List Int → List Int → Int → Int → Int → Int → Option (Bool)
  | 0, _, _, _, _, _, _, _ => none
  | k + 1, x0, x1, x2, x7, x8, x9, x10 => if x7 > x8 then (pentaglotlaw16_MeasureSums.j2 k x0 x1 x2 x7 x8 x9 1) else (pentaglotlaw16_MeasureSums.j2 k x0 x1 x2 x7 x8 x9 x10)
def pentaglotlaw16_MeasureSums.j2 : Nat → List (S41) → List Int → List Int → Int → Int → Int → Int → Option (Bool)
  | 0, _, _, _, _, _, _, _ => none
  | k + 1, x0, x1, x2, x7, x8, x9, x10 => (measure_Compare.f k x0 x1 x2).bind fun bt233 => (if bt233.1 = x10 then (pentaglotlaw16_MeasureSums.j3 k x0 x1 x2 x7 x8 x9 (bt233.2 != x9)) else (pentaglotlaw16_MeasureSums.j3 k x0 x1 x2 x7 x8 x9 true))
def pentaglotlaw16_MeasureSums.j3 : Nat → List (S41) → List Int → List Int → Int → Int → Int → Bool → Option (Bool)
  | 0, _, _, _, _, _, _, _ => none
  | k + 1, x0, x1, x2, x7, x8, x9, x54 => if x54 = true then (some false) else ((measure_Add.f k x0 x1 x2).bind fun bt235 => (if x9 = 0 then ((pentaglotref16_Split.f k x0 (wrap64 (x7 + x8))).bind fun bt239 => (if bt235.2 = bt239.2 then ((pentaglotlaw16_same.f k bt235.1 bt239.1).bind fun t243 => (some t243)) else (some false))) else (if bt235.2 = x9 then (some ((bt235.1.length : Int) == 0)) else (some false))))
end
def pentaglotlaw16_MeasureSums.f (k : Nat) (l0 : List (S41)) (l1 : List Int) (l2 : List Int) : Option (Bool) := (pentaglotlaw16_awake.f k).bind fun t227 => (if t227 = true then ((pentaglotlaw16_great.f k l0 l1).bind fun t228 => (if t228 = true then (pentaglotlaw16_MeasureSums.j0 k l0 l1 l2 true) else ((pentaglotlaw16_great.f k ([] : List (S41)) l2).bind fun t229 => (pentaglotlaw16_MeasureSums.j0 k l0 l1 l2 t229)))) else (some false))
theorem pentaglotlaw16_MeasureSums.mono_l : ∀ k, (∀ y0 y1 y2 y3, LeO (pentaglotlaw16_MeasureSums.j0 k y0 y1 y2 y3) (pentaglotlaw16_MeasureSums.j0 (k + 1) y0 y1 y2 y3)) ∧ (∀ y0 y1 y2 y3 y4 y5 y6, LeO (pentaglotlaw16_MeasureSums.j1 k y0 y1 y2 y3 y4 y5 y6) (pentaglotlaw16_MeasureSums.j1 (k + 1) y0 y1 y2 y3 y4 y5 y6)) ∧ (∀ y0 y1 y2 y3 y4 y5 y6, LeO (pentaglotlaw16_MeasureSums.j2 k y0 y1 y2 y3 y4 y5 y6) (pentaglotlaw16_MeasureSums.j2 (k + 1) y0 y1 y2 y3 y4 y5 y6)) ∧ (∀ y0 y1 y2 y3 y4 y5 y6, LeO (pentaglotlaw16_MeasureSums.j3 k y0 y1 y2 y3 y4 y5 y6) (pentaglotlaw16_MeasureSums.j3 (k + 1) y0 y1 y2 y3 y4 y5 y6))
  | 0 => ⟨fun _ _ _ _ r h => by simp [pentaglotlaw16_MeasureSums.j0] at h, fun _ _ _ _ _ _ _ r h => by simp [pentaglotlaw16_MeasureSums.j1] at h, fun _ _ _ _ _ _ _ r h => by simp [pentaglotlaw16_MeasureSums.j2] at h, fun _ _ _ _ _ _ _ r h => by simp [pentaglotlaw16_MeasureSums.j3] at h⟩
  | k + 1 => by
    obtain ⟨ih0, ih1, ih2, ih3⟩ := pentaglotlaw16_MeasureSums.mono_l k
    refine ⟨?_, ?_, ?_, ?_⟩
    · intro y0 y1 y2 y3
      unfold pentaglotlaw16_MeasureSums.j0
      repeat' first
      | (with_reducible exact ih0 _ _ _ _)
      | (with_reducible exact ih1 _ _ _ _ _ _ _)
      | (with_reducible exact ih2 _ _ _ _ _ _ _)
      | (with_reducible exact ih3 _ _ _ _ _ _ _)
      | (with_reducible exact measure_Add.mono _ _ _ _)
      | (with_reducible exact measure_Compare.mono _ _ _ _)
      | (with_reducible exact pentaglotlaw16_awake.mono _)
      | (with_reducible exact pentaglotlaw16_great.mono _ _ _)
      | (with_reducible exact pentaglotlaw16_same.mono _ _ _)
      | (with_reducible exact pentaglotref16_Both.mono _ _ _ _)
      | (with_reducible exact pentaglotref16_Split.mono _ _ _)
      | (with_reducible exact LeO.refl _)
      | (with_reducible exact LeO.none _)
      | (with_reducible refine LeO.ite ?_ ?_)
      | (with_reducible refine LeO.bind ?_ (fun _ => ?_))
      | exact ih0 _ _ _ _
      | exact ih1 _ _ _ _ _ _ _
      | exact ih2 _ _ _ _ _ _ _
      | exact ih3 _ _ _ _ _ _ _
      | exact measure_Add.mono _ _ _ _
      | exact measure_Compare.mono _ _ _ _
      | exact pentaglotlaw16_awake.mono _
      | exact pentaglotlaw16_great.mono _ _ _
      | exact pentaglotlaw16_same.mono _ _ _
      | exact pentaglotref16_Both.mono _ _ _ _
      | exact pentaglotref16_Split.mono _ _ _
      | exact LeO.none _
      | refine LeO.ite ?_ ?_
      | refine LeO.bind ?_ (fun _ => ?_)
    · intro y0 y1 y2 y3 y4 y5 y6
      unfold pentaglotlaw16_MeasureSums.j1
      repeat' first
      | (with_reducible exact ih0 _ _ _ _)
      | (with_reducible exact ih1 _ _ _ _ _ _ _)
      | (with_reducible exact ih2 _ _ _ _ _ _ _)
      | (with_reducible exact ih3 _ _ _ _ _ _ _)
      | (with_reducible exact measure_Add.mono _ _ _ _)
      | (with_reducible exact measure_Compare.mono _ _ _ _)
      | (with_reducible exact pentaglotlaw16_awake.mono _)
      | (with_reducible exact pentaglotlaw16_great.mono _ _ _)
      | (with_reducible exact pentaglotlaw16_same.mono _ _ _)
      | (with_reducible exact pentaglotref16_Both.mono _ _ _ _)
      | (with_reducible exact pentaglotref16_Split.mono _ _ _)
      | (with_reducible exact LeO.refl _)
      | (with_reducible exact LeO.none _)
      | (with_reducible refine LeO.ite ?_ ?_)
      | (with_reducible refine LeO.bind ?_ (fun _ => ?_))
      | exact ih0 _ _ _ _
      | exact ih1 _ _ _ _ _ _ _
      | exact ih2 _ _ _ _ _ _ _
      | exact ih3 _ _ _ _ _ _ _
      | exact measure_Add.mono _ _ _ _
      | exact measure_Compare.mono _ _ _ _
      | exact pentaglotlaw16_awake.mono _
      | exact pentaglotlaw16_great.mono _ _ _
      | exact pentaglotlaw16_same.mono _ _ _
      | exact pentaglotref16_Both.mono _ _ _ _
      | exact pentaglotref16_Split.mono _ _ _
      | exact LeO.none _
      | refine LeO.ite ?_ ?_
      | refine LeO.bind ?_ (fun _ => ?_)
    · intro y0 y1 y2 y3 y4 y5 y6
      unfold pentaglotlaw16_MeasureSums.j2
      repeat' first
      | (with_reducible exact ih0 _ _ _ _)
      | (with_reducible exact ih1 _ _ _ _ _ _ _)
      | (with_reducible exact ih2 _ _ _ _ _ _ _)
      | (with_reducible exact ih3 _ _ _ _ _ _ _)
      | (with_reducible exact measure_Add.mono _ _ _ _)
      | (with_reducible exact measure_Compare.mono _ _ _ _)
      | (with_reducible exact pentaglotlaw16_awake.mono _)
      | (with_reducible exact pentaglotlaw16_great.mono _ _ _)
      | (with_reducible exact pentaglotlaw16_same.mono _ _ _)
      | (with_reducible exact pentaglotref16_Both.mono _ _ _ _)
      | (with_reducible exact pentaglotref16_Split.mono _ _ _)
      | (with_reducible exact LeO.refl _)
      | (with_reducible exact LeO.none _)
      | (with_reducible refine LeO.ite ?_ ?_)
      | (with_reducible refine LeO.bind ?_ (fun _ => ?_))
      | exact ih0 _ _ _ _
      | exact ih1 _ _ _ _ _ _ _
      | exact ih2 _ _ _ _ _ _ _
      | exact ih3 _ _ _ _ _ _ _
      | exact measure_Add.mono _ _ _ _
      | exact measure_Compare.mono _ _ _ _
      | exact pentaglotlaw16_awake.mono _
      | exact pentaglotlaw16_great.mono _ _ _
      | exact pentaglotlaw16_same.mono _ _ _
      | exact pentaglotref16_Both.mono _ _ _ _
      | exact pentaglotref16_Split.mono _ _ _
      | exact LeO.none _
      | refine LeO.ite ?_ ?_
      | refine LeO.bind ?_ (fun _ => ?_)
    · intro y0 y1 y2 y3 y4 y5 y6
      unfold pentaglotlaw16_MeasureSums.j3
      repeat' first
      | (with_reducible exact ih0 _ _ _ _)
      | (with_reducible exact ih1 _ _ _ _ _ _ _)
      | (with_reducible exact ih2 _ _ _ _ _ _ _)
      | (with_reducible exact ih3 _ _ _ _ _ _ _)
      | (with_reducible exact measure_Add.mono _ _ _ _)
      | (with_reducible exact measure_Compare.mono _ _ _ _)
      | (with_reducible exact pentaglotlaw16_awake.mono _)
      | (with_reducible exact pentaglotlaw16_great.mono _ _ _)
      | (with_reducible exact pentaglotlaw16_same.mono _ _ _)
      | (with_reducible exact pentaglotref16_Both.mono _ _ _ _)
      | (with_reducible exact pentaglotref16_Split.mono _ _ _)
      | (with_reducible exact LeO.refl _)
      | (with_reducible exact LeO.none _)
      | (with_reducible refine LeO.ite ?_ ?_)
      | (with_reducible refine LeO.bind ?_ (fun _ => ?_))
      | exact ih0 _ _ _ _
      | exact ih1 _ _ _ _ _ _ _
      | exact ih2 _ _ _ _ _ _ _
      | exact ih3 _ _ _ _ _ _ _
      | exact measure_Add.mono _ _ _ _
      | exact measure_Compare.mono _ _ _ _
      | exact pentaglotlaw16_awake.mono _
      | exact pentaglotlaw16_great.mono _ _ _
      | exact pentaglotlaw16_same.mono _ _ _
      | exact pentaglotref16_Both.mono _ _ _ _
      | exact pentaglotref16_Split.mono _ _ _
      | exact LeO.none _
      | refine LeO.ite ?_ ?_
      | refine LeO.bind ?_ (fun _ => ?_)
theorem pentaglotlaw16_MeasureSums.mono : ∀ a0 a1 a2 k, LeO (pentaglotlaw16_MeasureSums.f k a0 a1 a2) (pentaglotlaw16_MeasureSums.f (k + 1) a0 a1 a2) := by
  intro a0 a1 a2 k
  obtain ⟨ih0, ih1, ih2, ih3⟩ := pentaglotlaw16_MeasureSums.mono_l k
  unfold pentaglotlaw16_MeasureSums.f
  repeat' first
      | (with_reducible exact ih0 _ _ _ _)
      | (with_reducible exact ih1 _ _ _ _ _ _ _)
      | (with_reducible exact ih2 _ _ _ _ _ _ _)
      | (with_reducible exact ih3 _ _ _ _ _ _ _)
      | (with_reducible exact measure_Add.mono _ _ _ _)
      | (with_reducible exact measure_Compare.mono _ _ _ _)
      | (with_reducible exact pentaglotlaw16_awake.mono _)
      | (with_reducible exact pentaglotlaw16_great.mono _ _ _)
      | (with_reducible exact pentaglotlaw16_same.mono _ _ _)
      | (with_reducible exact pentaglotref16_Both.mono _ _ _ _)
      | (with_reducible exact pentaglotref16_Split.mono _ _ _)
      | (with_reducible exact LeO.refl _)
      | (with_reducible exact LeO.none _)
      | (with_reducible refine LeO.ite ?_ ?_)
      | (with_reducible refine LeO.bind ?_ (fun _ => ?_))
      | exact ih0 _ _ _ _
      | exact ih1 _ _ _ _ _ _ _
      | exact ih2 _ _ _ _ _ _ _
      | exact ih3 _ _ _ _ _ _ _
      | exact measure_Add.mono _ _ _ _
      | exact measure_Compare.mono _ _ _ _
      | exact pentaglotlaw16_awake.mono _
      | exact pentaglotlaw16_great.mono _ _ _
      | exact pentaglotlaw16_same.mono _ _ _
      | exact pentaglotref16_Both.mono _ _ _ _
      | exact pentaglotref16_Split.mono _ _ _
      | exact LeO.none _
      | refine LeO.ite ?_ ?_
      | refine LeO.bind ?_ (fun _ => ?_)

/-! DEFS pentaglotlaw16_MeasureBack -/
def pentaglotlaw16_MeasureBack.j0 : Nat → List (S41) → List Int → Option (Bool)
  | 0, _, _ => none
  | k + 1, x0, x2 => (measure_Join.f k x0 x2).bind fun bt253 => (if bt253.2 = 0 then ((measure_Split.f k x0 bt253.1).bind fun bt255 => (if bt255.2 = 0 then ((measure_Normal.f k x0 x2).bind fun t259 => ((pentaglotlaw16_same.f k bt255.1 x2).bind fun t260 => (some (t259 == t260)))) else (some false))) else ((measure_Normal.f k x0 x2).bind fun t261 => (some (!t261))))
def pentaglotlaw16_MeasureBack.f (k : Nat) (l0 : List (S41)) (a1 : Int) (l2 : List Int) : Option (Bool) := (pentaglotlaw16_awake.f k).bind fun t244 => (if t244 = true then ((pentaglotlaw16_great.f k l0 l2).bind fun t245 => (if t245 = true then (some true) else ((measure_Split.f k l0 a1).bind fun bt246 => (if bt246.2 = 0 then ((measure_Join.f k l0 bt246.1).bind fun bt250 => (if bt250.2 = 0 then (if bt250.1 = a1 then ((measure_Normal.f k l0 bt246.1).bind fun t252 => (if t252 = true then (pentaglotlaw16_MeasureBack.j0 k l0 l2) else (some false))) else (some false)) else (some false))) else (pentaglotlaw16_MeasureBack.j0 k l0 l2))))) else (some false))
theorem pentaglotlaw16_MeasureBack.mono_l : ∀ k, (∀ y0 y1, LeO (pentaglotlaw16_MeasureBack.j0 k y0 y1) (pentaglotlaw16_MeasureBack.j0 (k + 1) y0 y1))
  | 0 => fun _ _ r h => by simp [pentaglotlaw16_MeasureBack.j0] at h
  | k + 1 => by
    have ih0 := pentaglotlaw16_MeasureBack.mono_l k
    · intro y0 y1
      unfold pentaglotlaw16_MeasureBack.j0
      repeat' first
      | (with_reducible exact ih0 _ _)
      | (with_reducible exact measure_Join.mono _ _ _)
      | (with_reducible exact measure_Normal.mono _ _ _)
      | (with_reducible exact measure_Split.mono _ _ _)
      | (with_reducible exact pentaglotlaw16_awake.mono _)
      | (with_reducible exact pentaglotlaw16_great.mono _ _ _)
      | (with_reducible exact pentaglotlaw16_same.mono _ _ _)
      | (with_reducible exact LeO.refl _)
      | (with_reducible exact LeO.none _)
      | (with_reducible refine LeO.ite ?_ ?_)
      | (with_reducible refine LeO.bind ?_ (fun _ => ?_))
      | exact ih0 _ _
      | exact measure_Join.mono _ _ _
      | exact measure_Normal.mono _ _ _
      | exact measure_Split.mono _ _ _
      | exact pentaglotlaw16_awake.mono _
      | exact pentaglotlaw16_great.mono _ _ _
      | exact pentaglotlaw16_same.mono _ _ _
      | exact LeO.none _
      | refine LeO.ite ?_ ?_
      | refine LeO.bind ?_ (fun _ => ?_)
theorem pentaglotlaw16_MeasureBack.mono : ∀ a0 a1 a2 k, LeO (pentaglotlaw16_MeasureBack.f k a0 a1 a2) (pentaglotlaw16_MeasureBack.f (k + 1) a0 a1 a2) := by
  intro a0 a1 a2 k
  have ih0 := pentaglotlaw16_MeasureBack.mono_l k
  unfold pentaglotlaw16_MeasureBack.f
  repeat' first
      | (with_reducible exact ih0 _ _)
      | (with_reducible exact measure_Join.mono _ _ _)
      | (with_reducible exact measure_Normal.mono _ _ _)
      | (with_reducible exact measure_Split.mono _ _ _)
      | (with_reducible exact pentaglotlaw16_awake.mono _)
      | (with_reducible exact pentaglotlaw16_great.mono _ _ _)
      | (with_reducible exact pentaglotlaw16_same.mono _ _ _)
      | (with_reducible exact LeO.refl _)
      | (with_reducible exact LeO.none _)
      | (with_reducible refine LeO.ite ?_ ?_)
      | (with_reducible refine LeO.bind ?_ (fun _ => ?_))
      | exact ih0 _ _
      | exact measure_Join.mono _ _ _
      | exact measure_Normal.mono _ _ _
      | exact measure_Split.mono _ _ _
      | exact pentaglotlaw16_awake.mono _
      | exact pentaglotlaw16_great.mono _ _ _
      | exact pentaglotlaw16_same.mono _ _ _
      | exact LeO.none _
      | refine LeO.ite ?_ ?_
      | refine LeO.bind ?_ (fun _ => ?_)

/-! DEFS pentaglotlaw16_MeasureLarge -/
def pentaglotlaw16_MeasureLarge.l0 : Nat → List (S41) → Int → List Int → Int → Int → Option (Bool)
  | 0, _, _, _, _, _ => none
  | k + 1, x0, x1, x5, x7, x8 => if x8 < (x5.length : Int) then (if 0 ≤ x8 then (if x8 < (x0.length : Int) then (if x7 ≥ ((rd_T41 x0 x8).f1) then (if x8 > 0 then (some false) else (if (rd x5 x8) < 0 then (some false) else (pentaglotlaw16_MeasureLarge.l0 k x0 x1 x5 (wrap64 (x7 + (wrap64 ((rd x5 x8) * ((rd_T41 x0 x8).f1))))) (wrap64 (x8 + 1))))) else (if (rd x5 x8) < 0 then (some false) else (pentaglotlaw16_MeasureLarge.l0 k x0 x1 x5 (wrap64 (x7 + (wrap64 ((rd x5 x8) * ((rd_T41 x0 x8).f1))))) (wrap64 (x8 + 1))))) else (none)) else (none)) else (some (x7 == x1))
def pentaglotlaw16_MeasureLarge.f (k : Nat) (l0 : List (S41)) (a1 : Int) : Option (Bool) := (pentaglotlaw16_awake.f k).bind fun t262 => (if t262 = true then ((pentaglotlaw16_great.f k l0 ([] : List Int)).bind fun t263 => (if t263 = true then (some true) else ((measure_Split.f k l0 a1).bind fun bt264 => (if bt264.2 = 0 then (if (bt264.1.length : Int) = (l0.length : Int) then (pentaglotlaw16_MeasureLarge.l0 k l0 a1 bt264.1 0 0) else (some false)) else ((measure_Check.f k l0).bind fun t268 => (if t268 = true then (if a1 < 0 then (some true) else (some (decide (a1 > 1099511627776)))) else (some true))))))) else (some false))
theorem pentaglotlaw16_MeasureLarge.mono_l : ∀ k, (∀ y0 y1 y2 y3 y4, LeO (pentaglotlaw16_MeasureLarge.l0 k y0 y1 y2 y3 y4) (pentaglotlaw16_MeasureLarge.l0 (k + 1) y0 y1 y2 y3 y4))
  | 0 => fun _ _ _ _ _ r h => by simp [pentaglotlaw16_MeasureLarge.l0] at h
  | k + 1 => by
    have ih0 := pentaglotlaw16_MeasureLarge.mono_l k
    · intro y0 y1 y2 y3 y4
      unfold pentaglotlaw16_MeasureLarge.l0
      repeat' first
      | (with_reducible exact ih0 _ _ _ _ _)
      | (with_reducible exact measure_Check.mono _ _)
      | (with_reducible exact measure_Split.mono _ _ _)
      | (with_reducible exact pentaglotlaw16_awake.mono _)
      | (with_reducible exact pentaglotlaw16_great.mono _ _ _)
      | (with_reducible exact LeO.refl _)
      | (with_reducible exact LeO.none _)
      | (with_reducible refine LeO.ite ?_ ?_)
      | (with_reducible refine LeO.bind ?_ (fun _ => ?_))
      | exact ih0 _ _ _ _ _
      | exact measure_Check.mono _ _
      | exact measure_Split.mono _ _ _
      | exact pentaglotlaw16_awake.mono _
      | exact pentaglotlaw16_great.mono _ _ _
      | exact LeO.none _
      | refine LeO.ite ?_ ?_
      | refine LeO.bind ?_ (fun _ => ?_)
theorem pentaglotlaw16_MeasureLarge.mono : ∀ a0 a1 k, LeO (pentaglotlaw16_MeasureLarge.f k a0 a1) (pentaglotlaw16_MeasureLarge.f (k + 1) a0 a1) := by
  intro a0 a1 k
  have ih0 := pentaglotlaw16_MeasureLarge.mono_l k
  unfold pentaglotlaw16_MeasureLarge.f
  repeat' first
      | (with_reducible exact ih0 _ _ _ _ _)
      | (with_reducible exact measure_Check.mono _ _)
      | (with_reducible exact measure_Split.mono _ _ _)
      | (with_reducible exact pentaglotlaw16_awake.mono _)
      | (with_reducible exact pentaglotlaw16_great.mono _ _ _)
      | (with_reducible exact LeO.refl _)
      | (with_reducible exact LeO.none _)
      | (with_reducible refine LeO.ite ?_ ?_)
      | (with_reducible refine LeO.bind ?_ (fun _ => ?_))
      | exact ih0 _ _ _ _ _
      | exact measure_Check.mono _ _
      | exact measure_Split.mono _ _ _
      | exact pentaglotlaw16_awake.mono _
      | exact pentaglotlaw16_great.mono _ _ _
      | exact LeO.none _
      | refine LeO.ite ?_ ?_
      | refine LeO.bind ?_ (fun _ => ?_)

/-! DEFS pentaglotlaw16_MeasureOrder -/
mutual
def pentaglotlaw16_MeasureOrder.j0 : Nat → List (S41) → List Int → List Int → Bool → Option (Bool)
  | 0, _, _, _, _ => none
  | k + 1, x0, x1, x2, x20 => if x20 = true then (some true) else ((measure_Compare.f k x0 x1 x2).bind fun bt279 => ((measure_Compare.f k x0 x2 x1).bind fun bt281 => (if bt279.2 = bt281.2 then (pentaglotlaw16_MeasureOrder.j1 k x0 x1 x2 bt279.1 bt279.2 (bt279.1 != (wrap64 (-bt281.1)))) else (pentaglotlaw16_MeasureOrder.j1 k x0 x1 x2 bt279.1 bt279.2 true))))
def pentaglotlaw16_MeasureOrder.j1 : Nat → List (S41) → List Int → List Int → Int → Int → Bool → Option (Bool)
  | 0, _, _, _, _, _, _ => none
  | k + 1, x0, x1, x2, x7, x8, x43 => if x43 = true then (some false) else ((measure_Normal.f k x0 x1).bind fun t283 => (if t283 = true then ((measure_Normal.f k x0 x2).bind fun t284 => (pentaglotlaw16_MeasureOrder.j2 k x1 x2 x7 x8 (!t284))) else (pentaglotlaw16_MeasureOrder.j2 k x1 x2 x7 x8 true)))
def pentaglotlaw16_MeasureOrder.j2 : Nat → List Int → List Int → Int → Int → Bool → Option (Bool)
  | 0, _, _, _, _, _ => none
  | k + 1, x1, x2, x7, x8, x53 => if x53 = true then (some true) else (pentaglotlaw16_MeasureOrder.l0 k x1 x2 x7 x8 (wrap64 ((x1.length : Int) - 1)))
def pentaglotlaw16_MeasureOrder.l0 : Nat → List Int → List Int → Int → Int → Int → Option (Bool)
  | 0, _, _, _, _, _ => none
  | k + 1, x1, x2, x7, x8, x11 => if x11 ≥ 0 then (if 0 ≤ x11 then (if x11 < (x1.length : Int) then (if x11 < (x2.length : Int) then (if (rd x1 x11) < (rd x2 x11) then (some (x7 == (-1))) else (if (rd x1 x11) > (rd x2 x11) then (some (x7 == 1)) else (pentaglotlaw16_MeasureOrder.l0 k x1 x2 x7 x8 (wrap64 (x11 - 1))))) else (none)) else (none)) else (none)) else (if x7 = 0 then (some (x8 == 0)) else (some false))
end
def pentaglotlaw16_MeasureOrder.f (k : Nat) (l0 : List (S41)) (l1 : List Int) (l2 : List Int) : Option (Bool) := (pentaglotlaw16_awake.f k).bind fun t276 => (if t276 = true then ((pentaglotlaw16_great.f k l0 l1).bind fun t277 => (if t277 = true then (pentaglotlaw16_MeasureOrder.j0 k l0 l1 l2 true) else ((pentaglotlaw16_great.f k ([] : List (S41)) l2).bind fun t278 => (pentaglotlaw16_MeasureOrder.j0 k l0 l1 l2 t278)))) else (some false))
theorem pentaglotlaw16_MeasureOrder.mono_l : ∀ k, (∀ y0 y1 y2 y3, LeO (pentaglotlaw16_MeasureOrder.j0 k y0 y1 y2 y3) (pentaglotlaw16_MeasureOrder.j0 (k + 1) y0 y1 y2 y3)) ∧ (∀ y0 y1 y2 y3 y4 y5, LeO (pentaglotlaw16_MeasureOrder.j1 k y0 y1 y2 y3 y4 y5) (pentaglotlaw16_MeasureOrder.j1 (k + 1) y0 y1 y2 y3 y4 y5)) ∧ (∀ y0 y1 y2 y3 y4, LeO (pentaglotlaw16_MeasureOrder.j2 k y0 y1 y2 y3 y4) (pentaglotlaw16_MeasureOrder.j2 (k + 1) y0 y1 y2 y3 y4)) ∧ (∀ y0 y1 y2 y3 y4, LeO (pentaglotlaw16_MeasureOrder.l0 k y0 y1 y2 y3 y4) (pentaglotlaw16_MeasureOrder.l0 (k + 1) y0 y1 y2 y3 y4))
  | 0 => ⟨fun _ _ _ _ r h => by simp [pentaglotlaw16_MeasureOrder.j0] at h, fun _ _ _ _ _ _ r h => by simp [pentaglotlaw16_MeasureOrder.j1] at h, fun _ _ _ _ _ r h => by simp [pentaglotlaw16_MeasureOrder.j2] at h, fun _ _ _ _ _ r h => by simp [pentaglotlaw16_MeasureOrder.l0] at h⟩
  | k + 1 => by
    obtain ⟨ih0, ih1, ih2, ih3⟩ := pentaglotlaw16_MeasureOrder.mono_l k
    refine ⟨?_, ?_, ?_, ?_⟩
    · intro y0 y1 y2 y3
      unfold pentaglotlaw16_MeasureOrder.j0
      repeat' first
      | (with_reducible exact ih0 _ _ _ _)
      | (with_reducible exact ih1 _ _ _ _ _ _)
      | (with_reducible exact ih2 _ _ _ _ _)
      | (with_reducible exact ih3 _ _ _ _ _)
      | (with_reducible exact measure_Compare.mono _ _ _ _)
      | (with_reducible exact measure_Normal.mono _ _ _)
      | (with_reducible exact pentaglotlaw16_awake.mono _)
      | (with_reducible exact pentaglotlaw16_great.mono _ _ _)
      | (with_reducible exact LeO.refl _)
      | (with_reducible exact LeO.none _)
      | (with_reducible refine LeO.ite ?_ ?_)
      | (with_reducible refine LeO.bind ?_ (fun _ => ?_))
      | exact ih0 _ _ _ _
      | exact ih1 _ _ _ _ _ _
      | exact ih2 _ _ _ _ _
      | exact ih3 _ _ _ _ _
      | exact measure_Compare.mono _ _ _ _
      | exact measure_Normal.mono _ _ _
      | exact pentaglotlaw16_awake.mono _
      | exact pentaglotlaw16_great.mono _ _ _
      | exact LeO.none _
      | refine LeO.ite ?_ ?_
      | refine LeO.bind ?_ (fun _ => ?_)
    · intro y0 y1 y2 y3 y4 y5
      unfold pentaglotlaw16_MeasureOrder.j1
      repeat' first
      | (with_reducible exact ih0 _ _ _ _)
      | (with_reducible exact ih1 _ _ _ _ _ _)
      | (with_reducible exact ih2 _ _ _ _ _)
      | (with_reducible exact ih3 _ _ _ _ _)
      | (with_reducible exact measure_Compare.mono _ _ _ _)
      | (with_reducible exact measure_Normal.mono _ _ _)
      | (with_reducible exact pentaglotlaw16_awake.mono _)
      | (with_reducible exact pentaglotlaw16_great.mono _ _ _)
      | (with_reducible exact LeO.refl _)
      | (with_reducible exact LeO.none _)
      | (with_reducible refine LeO.ite ?_ ?_)
      | (with_reducible refine LeO.bind ?_ (fun _ => ?_))
      | exact ih0 _ _ _ _
      | exact ih1 _ _ _ _ _ _
      | exact ih2 _ _ _ _ _
      | exact ih3 _ _ _ _ _
      | exact measure_Compare.mono _ _ _ _
      | exact measure_Normal.mono _ _ _
      | exact pentaglotlaw16_awake.mono _
      | exact pentaglotlaw16_great.mono _ _ _
      | exact LeO.none _
      | refine LeO.ite ?_ ?_
      | refine LeO.bind ?_ (fun _ => ?_)
    · intro y0 y1 y2 y3 y4
      unfold pentaglotlaw16_MeasureOrder.j2
      repeat' first
      | (with_reducible exact ih0 _ _ _ _)
      | (with_reducible exact ih1 _ _ _ _ _ _)
      | (with_reducible exact ih2 _ _ _ _ _)
      | (with_reducible exact ih3 _ _ _ _ _)
      | (with_reducible exact measure_Compare.mono _ _ _ _)
      | (with_reducible exact measure_Normal.mono _ _ _)
      | (with_reducible exact pentaglotlaw16_awake.mono _)
      | (with_reducible exact pentaglotlaw16_great.mono _ _ _)
      | (with_reducible exact LeO.refl _)
      | (with_reducible exact LeO.none _)
      | (with_reducible refine LeO.ite ?_ ?_)
      | (with_reducible refine LeO.bind ?_ (fun _ => ?_))
      | exact ih0 _ _ _ _
      | exact ih1 _ _ _ _ _ _
      | exact ih2 _ _ _ _ _
      | exact ih3 _ _ _ _ _
      | exact measure_Compare.mono _ _ _ _
      | exact measure_Normal.mono _ _ _
      | exact pentaglotlaw16_awake.mono _
      | exact pentaglotlaw16_great.mono _ _ _
      | exact LeO.none _
      | refine LeO.ite ?_ ?_
      | refine LeO.bind ?_ (fun _ => ?_)
    · intro y0 y1 y2 y3 y4
      unfold pentaglotlaw16_MeasureOrder.l0
      repeat' first
      | (with_reducible exact ih0 _ _ _ _)
      | (with_reducible exact ih1 _ _ _ _ _ _)
      | (with_reducible exact ih2 _ _ _ _ _)
      | (with_reducible exact ih3 _ _ _ _ _)
      | (with_reducible exact measure_Compare.mono _ _ _ _)
      | (with_reducible exact measure_Normal.mono _ _ _)
      | (with_reducible exact pentaglotlaw16_awake.mono _)
      | (with_reducible exact pentaglotlaw16_great.mono _ _ _)
      | (with_reducible exact LeO.refl _)
      | (with_reducible exact LeO.none _)
      | (with_reducible refine LeO.ite ?_ ?_)
      | (with_reducible refine LeO.bind ?_ (fun _ => ?_))
      | exact ih0 _ _ _ _
      | exact ih1 _ _ _ _ _ _
      | exact ih2 _ _ _ _ _
      | exact ih3 _ _ _ _ _
      | exact measure_Compare.mono _ _ _ _
      | exact measure_Normal.mono _ _ _
      | exact pentaglotlaw16_awake.mono _
      | exact pentaglotlaw16_great.mono _ _ _
      | exact LeO.none _
      | refine LeO.ite ?_ ?_
      | refine LeO.bind ?_ (fun _ => ?_)
theorem pentaglotlaw16_MeasureOrder.mono : ∀ a0 a1 a2 k, LeO (pentaglotlaw16_MeasureOrder.f k a0 a1 a2) (pentaglotlaw16_MeasureOrder.f (k + 1) a0 a1 a2) := by
  intro a0 a1 a2 k
  obtain ⟨ih0, ih1, ih2, ih3⟩ := pentaglotlaw16_MeasureOrder.mono_l k
  unfold pentaglotlaw16_MeasureOrder.f
  repeat' first
      | (with_reducible exact ih0 _ _ _ _)
      | (with_reducible exact ih1 _ _ _ _ _ _)
      | (with_reducible exact ih2 _ _ _ _ _)
      | (with_reducible exact ih3 _ _ _ _ _)
      | (with_reducible exact measure_Compare.mono _ _ _ _)
      | (with_reducible exact measure_Normal.mono _ _ _)
      | (with_reducible exact pentaglotlaw16_awake.mono _)
      | (with_reducible exact pentaglotlaw16_great.mono _ _ _)
      | (with_reducible exact LeO.refl _)
      | (with_reducible exact LeO.none _)
      | (with_reducible refine LeO.ite ?_ ?_)
      | (with_reducible refine LeO.bind ?_ (fun _ => ?_))
      | exact ih0 _ _ _ _
      | exact ih1 _ _ _ _ _ _
      | exact ih2 _ _ _ _ _
      | exact ih3 _ _ _ _ _
      | exact measure_Compare.mono _ _ _ _
      | exact measure_Normal.mono _ _ _
      | exact pentaglotlaw16_awake.mono _
      | exact pentaglotlaw16_great.mono _ _ _
      | exact LeO.none _
      | refine LeO.ite ?_ ?_
      | refine LeO.bind ?_ (fun _ => ?_)

/-! DEFS pentaglotlaw16_MeasureAdds -/
mutual
def pentaglotlaw16_MeasureAdds.j0 : Nat → List (S41) → List Int → List Int → Bool → Option (Bool)
  | 0, _, _, _, _ => none
  | k + 1, x0, x1, x2, x25 => if x25 = true then (some true) else ((measure_Add.f k x0 x1 x2).bind fun bt292 => ((measure_Add.f k x0 x2 x1).bind fun bt296 => (if bt292.2 = bt296.2 then ((pentaglotlaw16_same.f k bt292.1 bt296.1).bind fun t300 => (pentaglotlaw16_MeasureAdds.j1 k x0 x1 x2 bt292.1 bt292.2 (!t300))) else (pentaglotlaw16_MeasureAdds.j1 k x0 x1 x2 bt292.1 bt292.2 true))))
def pentaglotlaw16_MeasureAdds.j1 : Nat → List (S41) → List Int → List Int → List Int → Int → Bool → Option (Bool)
  | 0, _, _, _, _, _, _ => none
  | k + 1, x0, x1, x2, x7, x8, x48 => if x48 = true then (some false) else ((measure_Join.f k x0 x1).bind fun bt301 => ((measure_Join.f k x0 x2).bind fun bt303 => (if bt301.2 = 0 then (pentaglotlaw16_MeasureAdds.j2 k x0 x7 x8 bt301.1 bt303.1 (bt303.2 != 0)) else (pentaglotlaw16_MeasureAdds.j2 k x0 x7 x8 bt301.1 bt303.1 true))))
def pentaglotlaw16_MeasureAdds.j2 : Nat → List (S41) → List Int → Int → Int → Int → Bool → Option (Bool)
  | 0, _, _, _, _, _, _ => none
  | k + 1, x0, x7, x8, x11, x13, x66 => if x66 = true then (some (x8 != 0)) else (if x8 = 0 then ((measure_Join.f k x0 x7).bind fun bt305 => (if bt305.2 = 0 then (if bt305.1 = (wrap64 (x11 + x13)) then ((measure_Normal.f k x0 x7).bind fun t307 => (some t307)) else (some false)) else (some false))) else (if x8 = 2 then (some (decide ((wrap64 (x11 + x13)) > 1099511627776))) else (some false)))
end
def pentaglotlaw16_MeasureAdds.f (k : Nat) (l0 : List (S41)) (l1 : List Int) (l2 : List Int) : Option (Bool) := (pentaglotlaw16_awake.f k).bind fun t289 => (if t289 = true then ((pentaglotlaw16_great.f k l0 l1).bind fun t290 => (if t290 = true then (pentaglotlaw16_MeasureAdds.j0 k l0 l1 l2 true) else ((pentaglotlaw16_great.f k ([] : List (S41)) l2).bind fun t291 => (pentaglotlaw16_MeasureAdds.j0 k l0 l1 l2 t291)))) else (some false))
theorem pentaglotlaw16_MeasureAdds.mono_l : ∀ k, (∀ y0 y1 y2 y3, LeO (pentaglotlaw16_MeasureAdds.j0 k y0 y1 y2 y3) (pentaglotlaw16_MeasureAdds.j0 (k + 1) y0 y1 y2 y3)) ∧ (∀ y0 y1 y2 y3 y4 y5, LeO (pentaglotlaw16_MeasureAdds.j1 k y0 y1 y2 y3 y4 y5) (pentaglotlaw16_MeasureAdds.j1 (k + 1) y0 y1 y2 y3 y4 y5)) ∧ (∀ y0 y1 y2 y3 y4 y5, LeO (pentaglotlaw16_MeasureAdds.j2 k y0 y1 y2 y3 y4 y5) (pentaglotlaw16_MeasureAdds.j2 (k + 1) y0 y1 y2 y3 y4 y5))
  | 0 => ⟨fun _ _ _ _ r h => by simp [pentaglotlaw16_MeasureAdds.j0] at h, fun _ _ _ _ _ _ r h => by simp [pentaglotlaw16_MeasureAdds.j1] at h, fun _ _ _ _ _ _ r h => by simp [pentaglotlaw16_MeasureAdds.j2] at h⟩
  | k + 1 => by
    obtain ⟨ih0, ih1, ih2⟩ := pentaglotlaw16_MeasureAdds.mono_l k
    refine ⟨?_, ?_, ?_⟩
    · intro y0 y1 y2 y3
      unfold pentaglotlaw16_MeasureAdds.j0
      repeat' first
      | (with_reducible exact ih0 _ _ _ _)
      | (with_reducible exact ih1 _ _ _ _ _ _)
      | (with_reducible exact ih2 _ _ _ _ _ _)
      | (with_reducible exact measure_Add.mono _ _ _ _)
      | (with_reducible exact measure_Join.mono _ _ _)
      | (with_reducible exact measure_Normal.mono _ _ _)
      | (with_reducible exact pentaglotlaw16_awake.mono _)
      | (with_reducible exact pentaglotlaw16_great.mono _ _ _)
      | (with_reducible exact pentaglotlaw16_same.mono _ _ _)
      | (with_reducible exact LeO.refl _)
      | (with_reducible exact LeO.none _)
      | (with_reducible refine LeO.ite ?_ ?_)
      | (with_reducible refine LeO.bind ?_ (fun _ => ?_))
      | exact ih0 _ _ _ _
      | exact ih1 _ _ _ _ _ _
      | exact ih2 _ _ _ _ _ _
      | exact measure_Add.mono _ _ _ _
      | exact measure_Join.mono _ _ _
      | exact measure_Normal.mono _ _ _
      | exact pentaglotlaw16_awake.mono _
      | exact pentaglotlaw16_great.mono _ _ _
      | exact pentaglotlaw16_same.mono _ _ _
      | exact LeO.none _
      | refine LeO.ite ?_ ?_
      | refine LeO.bind ?_ (fun _ => ?_)
    · intro y0 y1 y2 y3 y4 y5
      unfold pentaglotlaw16_MeasureAdds.j1
      repeat' first
      | (with_reducible exact ih0 _ _ _ _)
      | (with_reducible exact ih1 _ _ _ _ _ _)
      | (with_reducible exact ih2 _ _ _ _ _ _)
      | (with_reducible exact measure_Add.mono _ _ _ _)
      | (with_reducible exact measure_Join.mono _ _ _)
      | (with_reducible exact measure_Normal.mono _ _ _)
      | (with_reducible exact pentaglotlaw16_awake.mono _)
      | (with_reducible exact pentaglotlaw16_great.mono _ _ _)
      | (with_reducible exact pentaglotlaw16_same.mono _ _ _)
      | (with_reducible exact LeO.refl _)
      | (with_reducible exact LeO.none _)
      | (with_reducible refine LeO.ite ?_ ?_)
      | (with_reducible refine LeO.bind ?_ (fun _ => ?_))
      | exact ih0 _ _ _ _
      | exact ih1 _ _ _ _ _ _
      | exact ih2 _ _ _ _ _ _
      | exact measure_Add.mono _ _ _ _
      | exact measure_Join.mono _ _ _
      | exact measure_Normal.mono _ _ _
      | exact pentaglotlaw16_awake.mono _
      | exact pentaglotlaw16_great.mono _ _ _
      | exact pentaglotlaw16_same.mono _ _ _
      | exact LeO.none _
      | refine LeO.ite ?_ ?_
      | refine LeO.bind ?_ (fun _ => ?_)
    · intro y0 y1 y2 y3 y4 y5
      unfold pentaglotlaw16_MeasureAdds.j2
      repeat' first
      | (with_reducible exact ih0 _ _ _ _)
      | (with_reducible exact ih1 _ _ _ _ _ _)
      | (with_reducible exact ih2 _ _ _ _ _ _)
      | (with_reducible exact measure_Add.mono _ _ _ _)
      | (with_reducible exact measure_Join.mono _ _ _)
      | (with_reducible exact measure_Normal.mono _ _ _)
      | (with_reducible exact pentaglotlaw16_awake.mono _)
      | (with_reducible exact pentaglotlaw16_great.mono _ _ _)
      | (with_reducible exact pentaglotlaw16_same.mono _ _ _)
      | (with_reducible exact LeO.refl _)
      | (with_reducible exact LeO.none _)
      | (with_reducible refine LeO.ite ?_ ?_)
      | (with_reducible refine LeO.bind ?_ (fun _ => ?_))
      | exact ih0 _ _ _ _
      | exact ih1 _ _ _ _ _ _
      | exact ih2 _ _ _ _ _ _
      | exact measure_Add.mono _ _ _ _
      | exact measure_Join.mono _ _ _
      | exact measure_Normal.mono _ _ _
      | exact pentaglotlaw16_awake.mono _
      | exact pentaglotlaw16_great.mono _ _ _
      | exact pentaglotlaw16_same.mono _ _ _
      | exact LeO.none _
      | refine LeO.ite ?_ ?_
      | refine LeO.bind ?_ (fun _ => ?_)
theorem pentaglotlaw16_MeasureAdds.mono : ∀ a0 a1 a2 k, LeO (pentaglotlaw16_MeasureAdds.f k a0 a1 a2) (pentaglotlaw16_MeasureAdds.f (k + 1) a0 a1 a2) := by
  intro a0 a1 a2 k
  obtain ⟨ih0, ih1, ih2⟩ := pentaglotlaw16_MeasureAdds.mono_l k
  unfold pentaglotlaw16_MeasureAdds.f
  repeat' first
      | (with_reducible exact ih0 _ _ _ _)
      | (with_reducible exact ih1 _ _ _ _ _ _)
      | (with_reducible exact ih2 _ _ _ _ _ _)
      | (with_reducible exact measure_Add.mono _ _ _ _)
      | (with_reducible exact measure_Join.mono _ _ _)
      | (with_reducible exact measure_Normal.mono _ _ _)
      | (with_reducible exact pentaglotlaw16_awake.mono _)
      | (with_reducible exact pentaglotlaw16_great.mono _ _ _)
      | (with_reducible exact pentaglotlaw16_same.mono _ _ _)
      | (with_reducible exact LeO.refl _)
      | (with_reducible exact LeO.none _)
      | (with_reducible refine LeO.ite ?_ ?_)
      | (with_reducible refine LeO.bind ?_ (fun _ => ?_))
      | exact ih0 _ _ _ _
      | exact ih1 _ _ _ _ _ _
      | exact ih2 _ _ _ _ _ _
      | exact measure_Add.mono _ _ _ _
      | exact measure_Join.mono _ _ _
      | exact measure_Normal.mono _ _ _
      | exact pentaglotlaw16_awake.mono _
      | exact pentaglotlaw16_great.mono _ _ _
      | exact pentaglotlaw16_same.mono _ _ _
      | exact LeO.none _
      | refine LeO.ite ?_ ?_
      | refine LeO.bind ?_ (fun _ => ?_)

/-! DEFS measure_Convert -/
def measure_Convert.f (k : Nat) (l0 : List (S41)) (l1 : List (S41)) (l2 : List Int) : Option (List Int × Int) := (measure_Check.f k l1).bind fun t308 => (if t308 = true then ((measure_Join.f k l0 l2).bind fun bt309 => (if bt309.2 = 0 then ((measure_system_split.f k l1 bt309.1).bind fun t311 => (some (t311, 0))) else (some (([] : List Int), bt309.2)))) else (some (([] : List Int), 1)))
theorem measure_Convert.mono : ∀ a0 a1 a2 k, LeO (measure_Convert.f k a0 a1 a2) (measure_Convert.f (k + 1) a0 a1 a2) := by
  intro a0 a1 a2 k
  unfold measure_Convert.f
  repeat' first
      | (with_reducible exact measure_Check.mono _ _)
      | (with_reducible exact measure_Join.mono _ _ _)
      | (with_reducible exact measure_system_split.mono _ _ _)
      | (with_reducible exact LeO.refl _)
      | (with_reducible exact LeO.none _)
      | (with_reducible refine LeO.ite ?_ ?_)
      | (with_reducible refine LeO.bind ?_ (fun _ => ?_))
      | exact measure_Check.mono _ _
      | exact measure_Join.mono _ _ _
      | exact measure_system_split.mono _ _ _
      | exact LeO.none _
      | refine LeO.ite ?_ ?_
      | refine LeO.bind ?_ (fun _ => ?_)

/-! DEFS pentaglotref16_Convert -/
def pentaglotref16_Convert.j0 : Nat → List (S41) → List (S41) → List Int → Bool → Option (List Int × Int)
  | 0, _, _, _, _ => none
  | k + 1, x0, x1, x2, x18 => if x18 = true then (some (([] : List Int), 1)) else ((pentaglotref16_Join.f k x0 x2).bind fun bt316 => (if bt316.2 = 0 then ((pentaglotref16_Split.f k x1 bt316.1).bind fun bt318 => (some (bt318.1, bt318.2))) else (some (([] : List Int), bt316.2))))
def pentaglotref16_Convert.f (k : Nat) (l0 : List (S41)) (l1 : List (S41)) (l2 : List Int) : Option (List Int × Int) := (pentaglotref16_valid.f k l0 l2).bind fun t314 => (if t314 = true then ((pentaglotref16_Check.f k l1).bind fun t315 => (pentaglotref16_Convert.j0 k l0 l1 l2 (!t315))) else (pentaglotref16_Convert.j0 k l0 l1 l2 true))
theorem pentaglotref16_Convert.mono_l : ∀ k, (∀ y0 y1 y2 y3, LeO (pentaglotref16_Convert.j0 k y0 y1 y2 y3) (pentaglotref16_Convert.j0 (k + 1) y0 y1 y2 y3))
  | 0 => fun _ _ _ _ r h => by simp [pentaglotref16_Convert.j0] at h
  | k + 1 => by
    have ih0 := pentaglotref16_Convert.mono_l k
    · intro y0 y1 y2 y3
      unfold pentaglotref16_Convert.j0
      repeat' first
      | (with_reducible exact ih0 _ _ _ _)
      | (with_reducible exact pentaglotref16_Check.mono _ _)
      | (with_reducible exact pentaglotref16_Join.mono _ _ _)
      | (with_reducible exact pentaglotref16_Split.mono _ _ _)
      | (with_reducible exact pentaglotref16_valid.mono _ _ _)
      | (with_reducible exact LeO.refl _)
      | (with_reducible exact LeO.none _)
      | (with_reducible refine LeO.ite ?_ ?_)
      | (with_reducible refine LeO.bind ?_ (fun _ => ?_))
      | exact ih0 _ _ _ _
      | exact pentaglotref16_Check.mono _ _
      | exact pentaglotref16_Join.mono _ _ _
      | exact pentaglotref16_Split.mono _ _ _
      | exact pentaglotref16_valid.mono _ _ _
      | exact LeO.none _
      | refine LeO.ite ?_ ?_
      | refine LeO.bind ?_ (fun _ => ?_)
theorem pentaglotref16_Convert.mono : ∀ a0 a1 a2 k, LeO (pentaglotref16_Convert.f k a0 a1 a2) (pentaglotref16_Convert.f (k + 1) a0 a1 a2) := by
  intro a0 a1 a2 k
  have ih0 := pentaglotref16_Convert.mono_l k
  unfold pentaglotref16_Convert.f
  repeat' first
      | (with_reducible exact ih0 _ _ _ _)
      | (with_reducible exact pentaglotref16_Check.mono _ _)
      | (with_reducible exact pentaglotref16_Join.mono _ _ _)
      | (with_reducible exact pentaglotref16_Split.mono _ _ _)
      | (with_reducible exact pentaglotref16_valid.mono _ _ _)
      | (with_reducible exact LeO.refl _)
      | (with_reducible exact LeO.none _)
      | (with_reducible refine LeO.ite ?_ ?_)
      | (with_reducible refine LeO.bind ?_ (fun _ => ?_))
      | exact ih0 _ _ _ _
      | exact pentaglotref16_Check.mono _ _
      | exact pentaglotref16_Join.mono _ _ _
      | exact pentaglotref16_Split.mono _ _ _
      | exact pentaglotref16_valid.mono _ _ _
      | exact LeO.none _
      | refine LeO.ite ?_ ?_
      | refine LeO.bind ?_ (fun _ => ?_)

/-! DEFS pentaglotlaw16_MeasureConvert -/
def pentaglotlaw16_MeasureConvert.j0 : Nat → List (S41) → List (S41) → List Int → Bool → Option (Bool)
  | 0, _, _, _, _ => none
  | k + 1, x0, x1, x2, x19 => if x19 = true then (some true) else ((measure_Convert.f k x0 x1 x2).bind fun bt325 => ((pentaglotref16_Convert.f k x0 x1 x2).bind fun bt329 => (if bt325.2 = bt329.2 then ((pentaglotlaw16_same.f k bt325.1 bt329.1).bind fun t333 => (some t333)) else (some false))))
def pentaglotlaw16_MeasureConvert.f (k : Nat) (l0 : List (S41)) (l1 : List (S41)) (l2 : List Int) : Option (Bool) := (pentaglotlaw16_awake.f k).bind fun t322 => (if t322 = true then ((pentaglotlaw16_great.f k l0 l2).bind fun t323 => (if t323 = true then (pentaglotlaw16_MeasureConvert.j0 k l0 l1 l2 true) else ((pentaglotlaw16_great.f k l1 ([] : List Int)).bind fun t324 => (pentaglotlaw16_MeasureConvert.j0 k l0 l1 l2 t324)))) else (some false))
theorem pentaglotlaw16_MeasureConvert.mono_l : ∀ k, (∀ y0 y1 y2 y3, LeO (pentaglotlaw16_MeasureConvert.j0 k y0 y1 y2 y3) (pentaglotlaw16_MeasureConvert.j0 (k + 1) y0 y1 y2 y3))
  | 0 => fun _ _ _ _ r h => by simp [pentaglotlaw16_MeasureConvert.j0] at h
  | k + 1 => by
    have ih0 := pentaglotlaw16_MeasureConvert.mono_l k
    · intro y0 y1 y2 y3
      unfold pentaglotlaw16_MeasureConvert.j0
      repeat' first
      | (with_reducible exact ih0 _ _ _ _)
      | (with_reducible exact measure_Convert.mono _ _ _ _)
      | (with_reducible exact pentaglotlaw16_awake.mono _)
      | (with_reducible exact pentaglotlaw16_great.mono _ _ _)
      | (with_reducible exact pentaglotlaw16_same.mono _ _ _)
      | (with_reducible exact pentaglotref16_Convert.mono _ _ _ _)
      | (with_reducible exact LeO.refl _)
      | (with_reducible exact LeO.none _)
      | (with_reducible refine LeO.ite ?_ ?_)
      | (with_reducible refine LeO.bind ?_ (fun _ => ?_))
      | exact ih0 _ _ _ _
      | exact measure_Convert.mono _ _ _ _
      | exact pentaglotlaw16_awake.mono _
      | exact pentaglotlaw16_great.mono _ _ _
      | exact pentaglotlaw16_same.mono _ _ _
      | exact pentaglotref16_Convert.mono _ _ _ _
      | exact LeO.none _
      | refine LeO.ite ?_ ?_
      | refine LeO.bind ?_ (fun _ => ?_)
theorem pentaglotlaw16_MeasureConvert.mono : ∀ a0 a1 a2 k, LeO (pentaglotlaw16_MeasureConvert.f k a0 a1 a2) (pentaglotlaw16_MeasureConvert.f (k + 1) a0 a1 a2) := by
  intro a0 a1 a2 k
  have ih0 := pentaglotlaw16_MeasureConvert.mono_l k
  unfold pentaglotlaw16_MeasureConvert.f
  repeat' first
      | (with_reducible exact ih0 _ _ _ _)
      | (with_reducible exact measure_Convert.mono _ _ _ _)
      | (with_reducible exact pentaglotlaw16_awake.mono _)
      | (with_reducible exact pentaglotlaw16_great.mono _ _ _)
      | (with_reducible exact pentaglotlaw16_same.mono _ _ _)
      | (with_reducible exact pentaglotref16_Convert.mono _ _ _ _)
      | (with_reducible exact LeO.refl _)
      | (with_reducible exact LeO.none _)
      | (with_reducible refine LeO.ite ?_ ?_)
      | (with_reducible refine LeO.bind ?_ (fun _ => ?_))
      | exact ih0 _ _ _ _
      | exact measure_Convert.mono _ _ _ _
      | exact pentaglotlaw16_awake.mono _
      | exact pentaglotlaw16_great.mono _ _ _
      | exact pentaglotlaw16_same.mono _ _ _
      | exact pentaglotref16_Convert.mono _ _ _ _
      | exact LeO.none _
      | refine LeO.ite ?_ ?_
      | refine LeO.bind ?_ (fun _ => ?_)

/-! DEFS pentaglotref16_Same -/
def pentaglotref16_Same.l0 : Nat → List Int → List Int → Int → Int → Option (Bool)
  | 0, _, _, _, _ => none
  | k + 1, x0, x1, x12, x13 => if x13 < x12 then (if 0 ≤ x13 then (if x13 < (x0.length : Int) then (if x13 < (x1.length : Int) then (if (rd x0 x13) = (rd x1 x13) then (pentaglotref16_Same.l0 k x0 x1 x12 (wrap64 (x13 + 1))) else (some false)) else (none)) else (none)) else (none)) else (some true)
def pentaglotref16_Same.f (k : Nat) (l0 : List Int) (l1 : List Int) : Option (Bool) := if (l0.length : Int) = (l1.length : Int) then (pentaglotref16_Same.l0 k l0 l1 (l0.length : Int) 0) else (some false)
theorem pentaglotref16_Same.mono_l : ∀ k, (∀ y0 y1 y2 y3, LeO (pentaglotref16_Same.l0 k y0 y1 y2 y3) (pentaglotref16_Same.l0 (k + 1) y0 y1 y2 y3))
  | 0 => fun _ _ _ _ r h => by simp [pentaglotref16_Same.l0] at h
  | k + 1 => by
    have ih0 := pentaglotref16_Same.mono_l k
    · intro y0 y1 y2 y3
      unfold pentaglotref16_Same.l0
      repeat' first
      | (with_reducible exact ih0 _ _ _ _)
      | (with_reducible exact LeO.refl _)
      | (with_reducible exact LeO.none _)
      | (with_reducible refine LeO.ite ?_ ?_)
      | (with_reducible refine LeO.bind ?_ (fun _ => ?_))
      | exact ih0 _ _ _ _
      | exact LeO.none _
      | refine LeO.ite ?_ ?_
      | refine LeO.bind ?_ (fun _ => ?_)
theorem pentaglotref16_Same.mono : ∀ a0 a1 k, LeO (pentaglotref16_Same.f k a0 a1) (pentaglotref16_Same.f (k + 1) a0 a1) := by
  intro a0 a1 k
  have ih0 := pentaglotref16_Same.mono_l k
  unfold pentaglotref16_Same.f
  repeat' first
      | (with_reducible exact ih0 _ _ _ _)
      | (with_reducible exact LeO.refl _)
      | (with_reducible exact LeO.none _)
      | (with_reducible refine LeO.ite ?_ ?_)
      | (with_reducible refine LeO.bind ?_ (fun _ => ?_))
      | exact ih0 _ _ _ _
      | exact LeO.none _
      | refine LeO.ite ?_ ?_
      | refine LeO.bind ?_ (fun _ => ?_)

/-! DEFS pentaglotref16_Normal -/
def pentaglotref16_Normal.f (k : Nat) (l0 : List (S41)) (l1 : List Int) : Option (Bool) := (pentaglotref16_Join.f k l0 l1).bind fun bt336 => (if bt336.2 = 0 then ((pentaglotref16_Split.f k l0 bt336.1).bind fun bt338 => ((pentaglotref16_Same.f k bt338.1 l1).bind fun t342 => (some t342))) else (some false))
theorem pentaglotref16_Normal.mono : ∀ a0 a1 k, LeO (pentaglotref16_Normal.f k a0 a1) (pentaglotref16_Normal.f (k + 1) a0 a1) := by
  intro a0 a1 k
  unfold pentaglotref16_Normal.f
  repeat' first
      | (with_reducible exact pentaglotref16_Join.mono _ _ _)
      | (with_reducible exact pentaglotref16_Same.mono _ _ _)
      | (with_reducible exact pentaglotref16_Split.mono _ _ _)
      | (with_reducible exact LeO.refl _)
      | (with_reducible exact LeO.none _)
      | (with_reducible refine LeO.ite ?_ ?_)
      | (with_reducible refine LeO.bind ?_ (fun _ => ?_))
      | exact pentaglotref16_Join.mono _ _ _
      | exact pentaglotref16_Same.mono _ _ _
      | exact pentaglotref16_Split.mono _ _ _
      | exact LeO.none _
      | refine LeO.ite ?_ ?_
      | refine LeO.bind ?_ (fun _ => ?_)

/-! DEFS measure_Normalize -/
def measure_Normalize.f (k : Nat) (l0 : List (S41)) (l1 : List Int) : Option (List Int × Int) := (measure_Convert.f k l0 l0 l1).bind fun bt343 => (some (bt343.1, bt343.2))
theorem measure_Normalize.mono : ∀ a0 a1 k, LeO (measure_Normalize.f k a0 a1) (measure_Normalize.f (k + 1) a0 a1) := by
  intro a0 a1 k
  unfold measure_Normalize.f
  repeat' first
      | (with_reducible exact measure_Convert.mono _ _ _ _)
      | (with_reducible exact LeO.refl _)
      | (with_reducible exact LeO.none _)
      | (with_reducible refine LeO.ite ?_ ?_)
      | (with_reducible refine LeO.bind ?_ (fun _ => ?_))
      | exact measure_Convert.mono _ _ _ _
      | exact LeO.none _
      | refine LeO.ite ?_ ?_
      | refine LeO.bind ?_ (fun _ => ?_)

/-! DEFS pentaglotlaw16_MeasureJoin -/
def pentaglotlaw16_MeasureJoin.j0 : Nat → List (S41) → List Int → Int → Int → Bool → Option (Bool)
  | 0, _, _, _, _, _ => none
  | k + 1, x0, x1, x7, x8, x45 => if x45 = true then (some false) else ((measure_Normalize.f k x0 x1).bind fun bt355 => ((pentaglotref16_Split.f k x0 x7).bind fun bt359 => (if x8 = 0 then (if bt355.2 = 0 then ((pentaglotlaw16_same.f k bt355.1 bt359.1).bind fun t363 => (some t363)) else (some false)) else (if bt355.2 = x8 then (some ((bt355.1.length : Int) == 0)) else (some false)))))
def pentaglotlaw16_MeasureJoin.f (k : Nat) (l0 : List (S41)) (l1 : List Int) : Option (Bool) := (pentaglotlaw16_awake.f k).bind fun t347 => (if t347 = true then ((pentaglotlaw16_great.f k l0 l1).bind fun t348 => (if t348 = true then (some true) else ((measure_Join.f k l0 l1).bind fun bt349 => ((pentaglotref16_Join.f k l0 l1).bind fun bt351 => (if bt349.1 = bt351.1 then (if bt349.2 = bt351.2 then ((measure_Normal.f k l0 l1).bind fun t353 => ((pentaglotref16_Normal.f k l0 l1).bind fun t354 => (pentaglotlaw16_MeasureJoin.j0 k l0 l1 bt351.1 bt351.2 (t353 != t354)))) else (pentaglotlaw16_MeasureJoin.j0 k l0 l1 bt351.1 bt351.2 true)) else (pentaglotlaw16_MeasureJoin.j0 k l0 l1 bt351.1 bt351.2 true)))))) else (some false))
theorem pentaglotlaw16_MeasureJoin.mono_l : ∀ k, (∀ y0 y1 y2 y3 y4, LeO (pentaglotlaw16_MeasureJoin.j0 k y0 y1 y2 y3 y4) (pentaglotlaw16_MeasureJoin.j0 (k + 1) y0 y1 y2 y3 y4))
  | 0 => fun _ _ _ _ _ r h => by simp [pentaglotlaw16_MeasureJoin.j0] at h
  | k + 1 => by
    have ih0 := pentaglotlaw16_MeasureJoin.mono_l k
    · intro y0 y1 y2 y3 y4
      unfold pentaglotlaw16_MeasureJoin.j0
      repeat' first
      | (with_reducible exact ih0 _ _ _ _ _)
      | (with_reducible exact measure_Join.mono _ _ _)
      | (with_reducible exact measure_Normal.mono _ _ _)
      | (with_reducible exact measure_Normalize.mono _ _ _)
      | (with_reducible exact pentaglotlaw16_awake.mono _)
      | (with_reducible exact pentaglotlaw16_great.mono _ _ _)
      | (with_reducible exact pentaglotlaw16_same.mono _ _ _)
      | (with_reducible exact pentaglotref16_Join.mono _ _ _)
      | (with_reducible exact pentaglotref16_Normal.mono _ _ _)
      | (with_reducible exact pentaglotref16_Split.mono _ _ _)
      | (with_reducible exact LeO.refl _)
      | (with_reducible exact LeO.none _)
      | (with_reducible refine LeO.ite ?_ ?_)
      | (with_reducible refine LeO.bind ?_ (fun _ => ?_))
      | exact ih0 _ _ _ _ _
      | exact measure_Join.mono _ _ _
      | exact measure_Normal.mono _ _ _
      | exact measure_Normalize.mono _ _ _
      | exact pentaglotlaw16_awake.mono _
      | exact pentaglotlaw16_great.mono _ _ _
      | exact pentaglotlaw16_same.mono _ _ _
      | exact pentaglotref16_Join.mono _ _ _
      | exact pentaglotref16_Normal.mono _ _ _
      | exact pentaglotref16_Split.mono _ _ _
      | exact LeO.none _
      | refine LeO.ite ?_ ?_
      | refine LeO.bind ?_ (fun _ => ?_)
theorem pentaglotlaw16_MeasureJoin.mono : ∀ a0 a1 k, LeO (pentaglotlaw16_MeasureJoin.f k a0 a1) (pentaglotlaw16_MeasureJoin.f (k + 1) a0 a1) := by
  intro a0 a1 k
  have ih0 := pentaglotlaw16_MeasureJoin.mono_l k
  unfold pentaglotlaw16_MeasureJoin.f
  repeat' first
      | (with_reducible exact ih0 _ _ _ _ _)
      | (with_reducible exact measure_Join.mono _ _ _)
      | (with_reducible exact measure_Normal.mono _ _ _)
      | (with_reducible exact measure_Normalize.mono _ _ _)
      | (with_reducible exact pentaglotlaw16_awake.mono _)
      | (with_reducible exact pentaglotlaw16_great.mono _ _ _)
      | (with_reducible exact pentaglotlaw16_same.mono _ _ _)
      | (with_reducible exact pentaglotref16_Join.mono _ _ _)
      | (with_reducible exact pentaglotref16_Normal.mono _ _ _)
      | (with_reducible exact pentaglotref16_Split.mono _ _ _)
      | (with_reducible exact LeO.refl _)
      | (with_reducible exact LeO.none _)
      | (with_reducible refine LeO.ite ?_ ?_)
      | (with_reducible refine LeO.bind ?_ (fun _ => ?_))
      | exact ih0 _ _ _ _ _
      | exact measure_Join.mono _ _ _
      | exact measure_Normal.mono _ _ _
      | exact measure_Normalize.mono _ _ _
      | exact pentaglotlaw16_awake.mono _
      | exact pentaglotlaw16_great.mono _ _ _
      | exact pentaglotlaw16_same.mono _ _ _
      | exact pentaglotref16_Join.mono _ _ _
      | exact pentaglotref16_Normal.mono _ _ _
      | exact pentaglotref16_Split.mono _ _ _
      | exact LeO.none _
      | refine LeO.ite ?_ ?_
      | refine LeO.bind ?_ (fun _ => ?_)

/-! DEFS pentaglotlaw16_MeasureRound -/
def pentaglotlaw16_MeasureRound.j0 : Nat → List (S41) → List (S41) → List Int → Bool → Option (Bool)
  | 0, _, _, _, _ => none
  | k + 1, x0, x1, x2, x25 => if x25 = true then (some true) else ((measure_Convert.f k x0 x1 x2).bind fun bt367 => (if bt367.2 = 0 then ((measure_Convert.f k x1 x0 bt367.1).bind fun bt371 => ((measure_Normalize.f k x0 x2).bind fun bt375 => ((measure_Join.f k x1 bt367.1).bind fun bt379 => ((measure_Join.f k x0 x2).bind fun bt381 => (if bt371.2 = 0 then (if bt375.2 = 0 then (if bt379.2 = 0 then (if bt381.2 = 0 then ((pentaglotlaw16_same.f k bt371.1 bt375.1).bind fun t383 => (if t383 = true then (if bt379.1 = bt381.1 then ((measure_Normal.f k x1 bt367.1).bind fun t384 => (some t384)) else (some false)) else (some false))) else (some false)) else (some false)) else (some false)) else (some false)))))) else (some true)))
def pentaglotlaw16_MeasureRound.f (k : Nat) (l0 : List (S41)) (l1 : List (S41)) (l2 : List Int) : Option (Bool) := (pentaglotlaw16_awake.f k).bind fun t364 => (if t364 = true then ((pentaglotlaw16_great.f k l0 l2).bind fun t365 => (if t365 = true then (pentaglotlaw16_MeasureRound.j0 k l0 l1 l2 true) else ((pentaglotlaw16_great.f k l1 ([] : List Int)).bind fun t366 => (pentaglotlaw16_MeasureRound.j0 k l0 l1 l2 t366)))) else (some false))
theorem pentaglotlaw16_MeasureRound.mono_l : ∀ k, (∀ y0 y1 y2 y3, LeO (pentaglotlaw16_MeasureRound.j0 k y0 y1 y2 y3) (pentaglotlaw16_MeasureRound.j0 (k + 1) y0 y1 y2 y3))
  | 0 => fun _ _ _ _ r h => by simp [pentaglotlaw16_MeasureRound.j0] at h
  | k + 1 => by
    have ih0 := pentaglotlaw16_MeasureRound.mono_l k
    · intro y0 y1 y2 y3
      unfold pentaglotlaw16_MeasureRound.j0
      repeat' first
      | (with_reducible exact ih0 _ _ _ _)
      | (with_reducible exact measure_Convert.mono _ _ _ _)
      | (with_reducible exact measure_Join.mono _ _ _)
      | (with_reducible exact measure_Normal.mono _ _ _)
      | (with_reducible exact measure_Normalize.mono _ _ _)
      | (with_reducible exact pentaglotlaw16_awake.mono _)
      | (with_reducible exact pentaglotlaw16_great.mono _ _ _)
      | (with_reducible exact pentaglotlaw16_same.mono _ _ _)
      | (with_reducible exact LeO.refl _)
      | (with_reducible exact LeO.none _)
      | (with_reducible refine LeO.ite ?_ ?_)
      | (with_reducible refine LeO.bind ?_ (fun _ => ?_))
      | exact ih0 _ _ _ _
      | exact measure_Convert.mono _ _ _ _
      | exact measure_Join.mono _ _ _
      | exact measure_Normal.mono _ _ _
      | exact measure_Normalize.mono _ _ _
      | exact pentaglotlaw16_awake.mono _
      | exact pentaglotlaw16_great.mono _ _ _
      | exact pentaglotlaw16_same.mono _ _ _
      | exact LeO.none _
      | refine LeO.ite ?_ ?_
      | refine LeO.bind ?_ (fun _ => ?_)
theorem pentaglotlaw16_MeasureRound.mono : ∀ a0 a1 a2 k, LeO (pentaglotlaw16_MeasureRound.f k a0 a1 a2) (pentaglotlaw16_MeasureRound.f (k + 1) a0 a1 a2) := by
  intro a0 a1 a2 k
  have ih0 := pentaglotlaw16_MeasureRound.mono_l k
  unfold pentaglotlaw16_MeasureRound.f
  repeat' first
      | (with_reducible exact ih0 _ _ _ _)
      | (with_reducible exact measure_Convert.mono _ _ _ _)
      | (with_reducible exact measure_Join.mono _ _ _)
      | (with_reducible exact measure_Normal.mono _ _ _)
      | (with_reducible exact measure_Normalize.mono _ _ _)
      | (with_reducible exact pentaglotlaw16_awake.mono _)
      | (with_reducible exact pentaglotlaw16_great.mono _ _ _)
      | (with_reducible exact pentaglotlaw16_same.mono _ _ _)
      | (with_reducible exact LeO.refl _)
      | (with_reducible exact LeO.none _)
      | (with_reducible refine LeO.ite ?_ ?_)
      | (with_reducible refine LeO.bind ?_ (fun _ => ?_))
      | exact ih0 _ _ _ _
      | exact measure_Convert.mono _ _ _ _
      | exact measure_Join.mono _ _ _
      | exact measure_Normal.mono _ _ _
      | exact measure_Normalize.mono _ _ _
      | exact pentaglotlaw16_awake.mono _
      | exact pentaglotlaw16_great.mono _ _ _
      | exact pentaglotlaw16_same.mono _ _ _
      | exact LeO.none _
      | refine LeO.ite ?_ ?_
      | refine LeO.bind ?_ (fun _ => ?_)

end Go.Proofs.Ytpfmcifiocpfbaa.C
