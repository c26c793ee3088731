-- WRITTEN BY mkprint.py, a program of this session, over the kit's print of the given program. Not trusted: Lean checks it.
import Derived.Test.YtfecolaljnijbaaDoorCx0
namespace Go.Proofs.YtfecolaljnijbaaDoor.C
open Go.RowKit Go.Proofs.YtfecolaljnijbaaDoorW.PrintWords Go.Proofs.YtfecolaljnijbaaDoorW.PrintLast Go.Proofs.YtfecolaljnijbaaDoorW.PrintMore
attribute [local go_sem] max2_int min2_int max_two min_two max_three min_three max_four min_four   -- for this text's walks alone
set_option linter.unusedVariables false
set_option linter.unusedSimpArgs false

/-! DEFS pentaglotlaw43_short -/
def pentaglotlaw43_short.f (a0 : ByteArray) : Option (Bool) := some (decide ((a0.size : Int) ≤ 400))

/-! DEFS bidi_Class -/
mutual
def bidi_Class.j0 : Nat → Int → Bool → Option (Int)
  | 0, _, _ => none
  | k + 1, x0, x3 => if x3 = true then (some 2) else (if x0 ≥ 65 then (bidi_Class.j1 k x0 (decide (x0 ≤ 90))) else (bidi_Class.j1 k x0 false))
def bidi_Class.j1 : Nat → Int → Bool → Option (Int)
  | 0, _, _ => none
  | k + 1, x0, x10 => if x10 = true then (bidi_Class.j2 k x0 x10) else (if x0 ≥ 97 then (if x0 ≤ 122 then (bidi_Class.j2 k x0 (decide (x0 ≤ 122))) else (bidi_Class.j2 k x0 (decide (x0 ≥ 192)))) else (bidi_Class.j2 k x0 (decide (x0 ≥ 192))))
def bidi_Class.j2 : Nat → Int → Bool → Option (Int)
  | 0, _, _ => none
  | k + 1, x0, x10 => if x10 = true then (some 1) else (if x0 ≥ 48 then (bidi_Class.j3 k x0 (decide (x0 ≤ 57))) else (bidi_Class.j3 k x0 false))
def bidi_Class.j3 : Nat → Int → Bool → Option (Int)
  | 0, _, _ => none
  | k + 1, x0, x25 => if x25 = true then (some 3) else (if x0 = 32 then (some 4) else (some 5))
end
def bidi_Class.f (k : Nat) (a0 : Int) : Option (Int) := if a0 ≥ 1488 then (bidi_Class.j0 k a0 (decide (a0 ≤ 1514))) else (bidi_Class.j0 k a0 false)
theorem bidi_Class.mono_l : ∀ k, (∀ y0 y1, LeO (bidi_Class.j0 k y0 y1) (bidi_Class.j0 (k + 1) y0 y1)) ∧ (∀ y0 y1, LeO (bidi_Class.j1 k y0 y1) (bidi_Class.j1 (k + 1) y0 y1)) ∧ (∀ y0 y1, LeO (bidi_Class.j2 k y0 y1) (bidi_Class.j2 (k + 1) y0 y1)) ∧ (∀ y0 y1, LeO (bidi_Class.j3 k y0 y1) (bidi_Class.j3 (k + 1) y0 y1))
  | 0 => ⟨fun _ _ r h => by simp [bidi_Class.j0] at h, fun _ _ r h => by simp [bidi_Class.j1] at h, fun _ _ r h => by simp [bidi_Class.j2] at h, fun _ _ r h => by simp [bidi_Class.j3] at h⟩
  | k + 1 => by
    obtain ⟨ih0, ih1, ih2, ih3⟩ := bidi_Class.mono_l k
    refine ⟨?_, ?_, ?_, ?_⟩
    · intro y0 y1
      unfold bidi_Class.j0
      repeat' first
      | (with_reducible exact ih0 _ _)
      | (with_reducible exact ih1 _ _)
      | (with_reducible exact ih2 _ _)
      | (with_reducible exact ih3 _ _)
      | (with_reducible exact LeO.refl _)
      | (with_reducible exact LeO.none _)
      | (with_reducible refine LeO.ite ?_ ?_)
      | (with_reducible refine LeO.bind ?_ (fun _ => ?_))
      | exact ih0 _ _
      | exact ih1 _ _
      | exact ih2 _ _
      | exact ih3 _ _
      | exact LeO.none _
      | refine LeO.ite ?_ ?_
      | refine LeO.bind ?_ (fun _ => ?_)
    · intro y0 y1
      unfold bidi_Class.j1
      repeat' first
      | (with_reducible exact ih0 _ _)
      | (with_reducible exact ih1 _ _)
      | (with_reducible exact ih2 _ _)
      | (with_reducible exact ih3 _ _)
      | (with_reducible exact LeO.refl _)
      | (with_reducible exact LeO.none _)
      | (with_reducible refine LeO.ite ?_ ?_)
      | (with_reducible refine LeO.bind ?_ (fun _ => ?_))
      | exact ih0 _ _
      | exact ih1 _ _
      | exact ih2 _ _
      | exact ih3 _ _
      | exact LeO.none _
      | refine LeO.ite ?_ ?_
      | refine LeO.bind ?_ (fun _ => ?_)
    · intro y0 y1
      unfold bidi_Class.j2
      repeat' first
      | (with_reducible exact ih0 _ _)
      | (with_reducible exact ih1 _ _)
      | (with_reducible exact ih2 _ _)
      | (with_reducible exact ih3 _ _)
      | (with_reducible exact LeO.refl _)
      | (with_reducible exact LeO.none _)
      | (with_reducible refine LeO.ite ?_ ?_)
      | (with_reducible refine LeO.bind ?_ (fun _ => ?_))
      | exact ih0 _ _
      | exact ih1 _ _
      | exact ih2 _ _
      | exact ih3 _ _
      | exact LeO.none _
      | refine LeO.ite ?_ ?_
      | refine LeO.bind ?_ (fun _ => ?_)
    · intro y0 y1
      unfold bidi_Class.j3
      repeat' first
      | (with_reducible exact ih0 _ _)
      | (with_reducible exact ih1 _ _)
      | (with_reducible exact ih2 _ _)
      | (with_reducible exact ih3 _ _)
      | (with_reducible exact LeO.refl _)
      | (with_reducible exact LeO.none _)
      | (with_reducible refine LeO.ite ?_ ?_)
      | (with_reducible refine LeO.bind ?_ (fun _ => ?_))
      | exact ih0 _ _
      | exact ih1 _ _
      | exact ih2 _ _
      | exact ih3 _ _
      | exact LeO.none _
      | refine LeO.ite ?_ ?_
      | refine LeO.bind ?_ (fun _ => ?_)
theorem bidi_Class.mono : ∀ a0 k, LeO (bidi_Class.f k a0) (bidi_Class.f (k + 1) a0) := by
  intro a0 k
  obtain ⟨ih0, ih1, ih2, ih3⟩ := bidi_Class.mono_l k
  unfold bidi_Class.f
  repeat' first
      | (with_reducible exact ih0 _ _)
      | (with_reducible exact ih1 _ _)
      | (with_reducible exact ih2 _ _)
      | (with_reducible exact ih3 _ _)
      | (with_reducible exact LeO.refl _)
      | (with_reducible exact LeO.none _)
      | (with_reducible refine LeO.ite ?_ ?_)
      | (with_reducible refine LeO.bind ?_ (fun _ => ?_))
      | exact ih0 _ _
      | exact ih1 _ _
      | exact ih2 _ _
      | exact ih3 _ _
      | exact LeO.none _
      | refine LeO.ite ?_ ?_
      | refine LeO.bind ?_ (fun _ => ?_)

/-! DEFS pentaglotref43_Class -/
mutual
def pentaglotref43_Class.j0 : Nat → Int → Bool → Option (Int)
  | 0, _, _ => none
  | k + 1, x0, x8 => if x8 = true then (some 2) else (if x0 ≥ 65 then (if x0 ≤ 90 then (pentaglotref43_Class.j1 k x0 true) else (if x0 ≥ 97 then (if x0 ≤ 122 then (pentaglotref43_Class.j1 k x0 true) else (pentaglotref43_Class.j1 k x0 (decide (x0 ≥ 192)))) else (pentaglotref43_Class.j1 k x0 (decide (x0 ≥ 192))))) else (if x0 ≥ 97 then (if x0 ≤ 122 then (pentaglotref43_Class.j1 k x0 true) else (pentaglotref43_Class.j1 k x0 (decide (x0 ≥ 192)))) else (pentaglotref43_Class.j1 k x0 (decide (x0 ≥ 192)))))
def pentaglotref43_Class.j1 : Nat → Int → Bool → Option (Int)
  | 0, _, _ => none
  | k + 1, x0, x26 => if x26 = true then (some 1) else (if x0 ≥ 48 then (pentaglotref43_Class.j2 k x0 (decide (x0 ≤ 57))) else (pentaglotref43_Class.j2 k x0 false))
def pentaglotref43_Class.j2 : Nat → Int → Bool → Option (Int)
  | 0, _, _ => none
  | k + 1, x0, x32 => if x32 = true then (some 3) else (if x0 = 32 then (some 4) else (some 5))
end
def pentaglotref43_Class.f (k : Nat) (a0 : Int) : Option (Int) := if a0 ≥ 1488 then (pentaglotref43_Class.j0 k a0 (decide (a0 ≤ 1514))) else (pentaglotref43_Class.j0 k a0 false)
theorem pentaglotref43_Class.mono_l : ∀ k, (∀ y0 y1, LeO (pentaglotref43_Class.j0 k y0 y1) (pentaglotref43_Class.j0 (k + 1) y0 y1)) ∧ (∀ y0 y1, LeO (pentaglotref43_Class.j1 k y0 y1) (pentaglotref43_Class.j1 (k + 1) y0 y1)) ∧ (∀ y0 y1, LeO (pentaglotref43_Class.j2 k y0 y1) (pentaglotref43_Class.j2 (k + 1) y0 y1))
  | 0 => ⟨fun _ _ r h => by simp [pentaglotref43_Class.j0] at h, fun _ _ r h => by simp [pentaglotref43_Class.j1] at h, fun _ _ r h => by simp [pentaglotref43_Class.j2] at h⟩
  | k + 1 => by
    obtain ⟨ih0, ih1, ih2⟩ := pentaglotref43_Class.mono_l k
    refine ⟨?_, ?_, ?_⟩
    · intro y0 y1
      unfold pentaglotref43_Class.j0
      repeat' first
      | (with_reducible exact ih0 _ _)
      | (with_reducible exact ih1 _ _)
      | (with_reducible exact ih2 _ _)
      | (with_reducible exact LeO.refl _)
      | (with_reducible exact LeO.none _)
      | (with_reducible refine LeO.ite ?_ ?_)
      | (with_reducible refine LeO.bind ?_ (fun _ => ?_))
      | exact ih0 _ _
      | exact ih1 _ _
      | exact ih2 _ _
      | exact LeO.none _
      | refine LeO.ite ?_ ?_
      | refine LeO.bind ?_ (fun _ => ?_)
    · intro y0 y1
      unfold pentaglotref43_Class.j1
      repeat' first
      | (with_reducible exact ih0 _ _)
      | (with_reducible exact ih1 _ _)
      | (with_reducible exact ih2 _ _)
      | (with_reducible exact LeO.refl _)
      | (with_reducible exact LeO.none _)
      | (with_reducible refine LeO.ite ?_ ?_)
      | (with_reducible refine LeO.bind ?_ (fun _ => ?_))
      | exact ih0 _ _
      | exact ih1 _ _
      | exact ih2 _ _
      | exact LeO.none _
      | refine LeO.ite ?_ ?_
      | refine LeO.bind ?_ (fun _ => ?_)
    · intro y0 y1
      unfold pentaglotref43_Class.j2
      repeat' first
      | (with_reducible exact ih0 _ _)
      | (with_reducible exact ih1 _ _)
      | (with_reducible exact ih2 _ _)
      | (with_reducible exact LeO.refl _)
      | (with_reducible exact LeO.none _)
      | (with_reducible refine LeO.ite ?_ ?_)
      | (with_reducible refine LeO.bind ?_ (fun _ => ?_))
      | exact ih0 _ _
      | exact ih1 _ _
      | exact ih2 _ _
      | exact LeO.none _
      | refine LeO.ite ?_ ?_
      | refine LeO.bind ?_ (fun _ => ?_)
theorem pentaglotref43_Class.mono : ∀ a0 k, LeO (pentaglotref43_Class.f k a0) (pentaglotref43_Class.f (k + 1) a0) := by
  intro a0 k
  obtain ⟨ih0, ih1, ih2⟩ := pentaglotref43_Class.mono_l k
  unfold pentaglotref43_Class.f
  repeat' first
      | (with_reducible exact ih0 _ _)
      | (with_reducible exact ih1 _ _)
      | (with_reducible exact ih2 _ _)
      | (with_reducible exact LeO.refl _)
      | (with_reducible exact LeO.none _)
      | (with_reducible refine LeO.ite ?_ ?_)
      | (with_reducible refine LeO.bind ?_ (fun _ => ?_))
      | exact ih0 _ _
      | exact ih1 _ _
      | exact ih2 _ _
      | exact LeO.none _
      | refine LeO.ite ?_ ?_
      | refine LeO.bind ?_ (fun _ => ?_)

/-! DEFS utf8_word_string -/
def utf8_word_string.f (a0 : ByteArray) : Option (Int) := if 0 < (a0.size : Int) then (if 1 < (a0.size : Int) then (if 2 < (a0.size : Int) then (if 3 < (a0.size : Int) then (if 4 < (a0.size : Int) then (if 5 < (a0.size : Int) then (if 6 < (a0.size : Int) then (if 7 < (a0.size : Int) then (some (Go.bits .or .u64 (Go.bits .or .u64 (Go.bits .or .u64 (Go.bits .or .u64 (Go.bits .or .u64 (Go.bits .or .u64 (Go.bits .or .u64 (IntKind.u64.wrap (bt a0 0)) (IntKind.u64.wrap ((IntKind.u64.wrap (bt a0 1)) * 256))) (IntKind.u64.wrap ((IntKind.u64.wrap (bt a0 2)) * 65536))) (IntKind.u64.wrap ((IntKind.u64.wrap (bt a0 3)) * 16777216))) (IntKind.u64.wrap ((IntKind.u64.wrap (bt a0 4)) * 4294967296))) (IntKind.u64.wrap ((IntKind.u64.wrap (bt a0 5)) * 1099511627776))) (IntKind.u64.wrap ((IntKind.u64.wrap (bt a0 6)) * 281474976710656))) (IntKind.u64.wrap ((IntKind.u64.wrap (bt a0 7)) * 72057594037927936)))) else (none)) else (none)) else (none)) else (none)) else (none)) else (none)) else (none)) else (none)

/-! DEFS utf8_ValidString -/
def laysValid_ren : Go.Shelf.Ren := ⟨fun | 196 => 16 | 259 => 29 | n => n, fun | 9 => 9 | 4 => 4 | 3 => 3 | 5 => 5 | 12 => 12 | 119 => 44 | 0 => 0 | 46 => 48 | 139 => 47 | 138 => 46 | 53 => 56 | n => n, fun | 3 => 0 | 4 => 1 | n => n⟩
theorem laysValid : Go.Proofs.Lays.n196 Tryd.prog laysValid_ren :=
  { mixed := by kernel_rfl,
    f196 := Tryd.func16.trans (congrArg some (by kernel_rfl)),
    f259 := Tryd.func29.trans (congrArg some (by kernel_rfl)),
    t0 := Tryd.underlying0,
    a0 := Tryd.isAgg0,
    z0 := Tryd.sizeOf0,
    v0 := Tryd.zeroValue0,
    t3 := Tryd.underlying3,
    a3 := Tryd.isAgg3,
    z3 := Tryd.sizeOf3,
    v3 := Tryd.zeroValue3,
    t4 := Tryd.underlying4,
    a4 := Tryd.isAgg4,
    z4 := Tryd.sizeOf4,
    v4 := Tryd.zeroValue4,
    t5 := Tryd.underlying5,
    a5 := Tryd.isAgg5,
    z5 := Tryd.sizeOf5,
    v5 := Tryd.zeroValue5,
    t9 := Tryd.underlying9,
    a9 := Tryd.isAgg9,
    z9 := Tryd.sizeOf9,
    v9 := Tryd.zeroValue9,
    t12 := Tryd.underlying12,
    a12 := Tryd.isAgg12,
    z12 := Tryd.sizeOf12,
    v12 := Tryd.zeroValue12,
    t46 := Tryd.underlying48,
    a46 := Tryd.isAgg48,
    z46 := Tryd.sizeOf48,
    v46 := Tryd.zeroValue48,
    t53 := Tryd.underlying56,
    a53 := Tryd.isAgg56,
    z53 := Tryd.sizeOf56,
    v53 := Tryd.zeroValue56,
    t119 := Tryd.underlying44,
    a119 := Tryd.isAgg44,
    z119 := Tryd.sizeOf44,
    t138 := Tryd.underlying46,
    a138 := Tryd.isAgg46,
    z138 := Tryd.sizeOf46,
    v138 := Tryd.zeroValue46,
    t139 := Tryd.underlying47,
    a139 := Tryd.isAgg47,
    z139 := Tryd.sizeOf47,
    v139 := Tryd.zeroValue47,
    g3 := by kernel_rfl,
    g4 := by kernel_rfl }
/-- What the tables of unicode/utf8 hold. -/
def Glob (w : World) : Prop := Lib.Utf8Tabs (laysValid_ren.g 3) (laysValid_ren.g 4) w
theorem Glob.below {w w1 : World} (h : Glob w) (hb : Below w.heap.size w w1) : Glob w1 :=
  ⟨fun c hc => pw_cell_below hb (h.1 c hc), fun i hi => ⟨pw_cell_below hb (h.2 i hi).1, pw_cell_below hb (h.2 i hi).2⟩⟩
def utf8_ValidString.f (s : ByteArray) : Option Bool := if s.size ≤ 9223372036854775807 then some (Lib.validD s.data.toList) else none

/-! DEFS bidi_Base -/
def bidi_Base.l0 (k : Nat) : List Int → Option Int
  | [] => some 0
  | x :: xs => (bidi_Class.f k x).bind fun c => if c = 2 then some 1 else if c = 1 then some 0 else bidi_Base.l0 k xs
def bidi_Base.f (k : Nat) (s : ByteArray) : Option Int := if s.size ≤ 1000000 then ((utf8_ValidString.f s).bind fun t => if t = true then bidi_Base.l0 k (rns s) else some 0) else none
theorem bidi_Base.mono_l (k : Nat) : ∀ xs, LeO (bidi_Base.l0 k xs) (bidi_Base.l0 (k + 1) xs)
  | [] => LeO.refl _
  | x :: xs => by
    have ih := bidi_Base.mono_l k xs
    unfold bidi_Base.l0
    repeat' first
      | (with_reducible exact LeO.refl _)
      | (with_reducible exact ih)
      | (with_reducible exact bidi_Class.mono _ _)
      | (with_reducible refine LeO.ite ?_ ?_)
      | (with_reducible refine LeO.bind ?_ (fun _ => ?_))
theorem bidi_Base.mono : ∀ s k, LeO (bidi_Base.f k s) (bidi_Base.f (k + 1) s) := by
  intro s k
  unfold bidi_Base.f
  repeat' first
      | (with_reducible exact LeO.refl _)
      | (with_reducible exact bidi_Base.mono_l _ _)
      | (with_reducible refine LeO.ite ?_ ?_)
      | (with_reducible refine LeO.bind ?_ (fun _ => ?_))

/-! DEFS bidi_Levels -/
/-- Where a run ends: the last place, before one of the class 'never', whose class may end a run. -/
def scan (p : Int → Bool) (never : Int) : List Int → Nat → Nat → Nat
  | [], _, last => last
  | c :: cs, k, last => if c = never then last else scan p never cs (k + 1) (if p c = true then k else last)
/-- m places from i on are written. -/
def fill (f : Nat → Int) : Nat → Nat → List Int → List Int
  | 0, _, zs => zs
  | m + 1, i, zs => fill f m (i + 1) (zs.set i (f i))
/-- The levels of the runs from i on are raised. -/
def raiseL (p : Int → Bool) (never : Int) (f : Nat → Int) (cs : List Int) : Nat → Nat → List Int → List Int
  | 0, _, zs => zs
  | d + 1, i, zs => if i < cs.length then (if p (rd cs (i : Int)) = true then raiseL p never f cs d (scan p never (cs.drop i) i i + 1) (fill f (scan p never (cs.drop i) i i + 1 - i) i zs) else raiseL p never f cs d (i + 1) zs) else zs
def end0 (c : Int) : Bool := c == 2
def end1 (c : Int) : Bool := c == 1 || c == 3
def lev0 (cs : List Int) (i : Nat) : Int := if rd cs (i : Int) = 3 then 2 else 1
def lev1 (_ : Nat) : Int := 2
def levelsL (base : Int) (cs : List Int) : List Int :=
  if base = 0 then raiseL end0 1 (lev0 cs) cs (cs.length + 1) 0 (List.replicate cs.length 0) else raiseL end1 2 lev1 cs (cs.length + 1) 0 (List.replicate cs.length 1)
def classesL (k : Nat) : List Int → Option (List Int)
  | [] => some []
  | x :: xs => (bidi_Class.f k x).bind fun c => (classesL k xs).bind fun cs => some (c :: cs)
def bidi_Levels.f (k : Nat) (base : Int) (s : ByteArray) : Option (List Int) := if s.size ≤ 1000000 then ((utf8_ValidString.f s).bind fun t => if t = true then ((classesL k (rns s)).bind fun cs => some (levelsL base cs)) else some []) else none
theorem classesL.mono_l (k : Nat) : ∀ xs, LeO (classesL k xs) (classesL (k + 1) xs)
  | [] => LeO.refl _
  | x :: xs => by
    have ih := classesL.mono_l k xs
    unfold classesL
    repeat' first
      | (with_reducible exact LeO.refl _)
      | (with_reducible exact ih)
      | (with_reducible exact bidi_Class.mono _ _)
      | (with_reducible refine LeO.bind ?_ (fun _ => ?_))
theorem bidi_Levels.mono : ∀ b s k, LeO (bidi_Levels.f k b s) (bidi_Levels.f (k + 1) b s) := by
  intro b s k
  unfold bidi_Levels.f
  repeat' first
      | (with_reducible exact LeO.refl _)
      | (with_reducible exact classesL.mono_l _ _)
      | (with_reducible refine LeO.ite ?_ ?_)
      | (with_reducible refine LeO.bind ?_ (fun _ => ?_))
theorem scan_ge (p : Int → Bool) (never : Int) : ∀ (cs : List Int) (k last : Nat), last ≤ k → last ≤ scan p never cs k last ∧ scan p never cs k last ≤ k + cs.length
  | [], k, last, h => by simp [scan]; omega
  | c :: cs, k, last, h => by
    unfold scan
    split
    · simp; omega
    · have := scan_ge p never cs (k + 1) (if p c = true then k else last) (by split <;> omega)
      rw [List.length_cons]
      constructor
      · refine Nat.le_trans ?_ this.1
        split <;> omega
      · omega
theorem scan_lt (p : Int → Bool) (never : Int) : ∀ (cs : List Int) (k last : Nat), scan p never cs k last = last ∨ scan p never cs k last < k + cs.length
  | [], k, last => by simp [scan]
  | c :: cs, k, last => by
    unfold scan
    split
    · simp
    · have := scan_lt p never cs (k + 1) (if p c = true then k else last)
      rw [List.length_cons]
      rcases this with h | h
      · by_cases e : p c = true
        · rw [if_pos e] at h ⊢
          right; omega
        · rw [if_neg e] at h ⊢
          left; exact h
      · right; omega
/-- What Levels holds while it raises: its list in a block of its own, the classes beside it, both behind variables that closures share. -/
structure Lv (w : World) (b8 b5 g : Nat) (A5 : Option Addr) (c5 : Nat) (cs zs : List Int) : Prop where
  out : w.cell? ⟨b8, 0, none⟩ = some (.slice (some ⟨g, 0, none⟩) zs.length zs.length)
  cls : w.cell? ⟨b5, 0, none⟩ = some (.slice A5 cs.length c5)
  row : w.heap[g]? = some (.cells (zs.map (Value.int .i64)).toArray 3 (0, 0))
  rds : Kd.C (Kd.int .i64) w A5 cs.length cs
  le5 : cs.length ≤ c5
  len : zs.length = cs.length
  small : cs.length ≤ 1000000
  n8 : b8 ≠ g
  n5 : b5 ≠ g
  nA : ∀ a, A5 = some a → a.block ≠ g
theorem Lv.cell {w : World} {b8 b5 g : Nat} {A5 : Option Addr} {c5 : Nat} {cs zs : List Int} (h : Lv w b8 b5 g A5 c5 cs zs) {i : Nat} (hi : i < cs.length) : w.cell? ⟨g, i, none⟩ = some (.int .i64 (rd zs (i : Int))) := by
  have hl := h.len
  rw [blk_cell h.row i]
  simp [rd, List.getD, List.getElem?_eq_getElem (show i < zs.length by omega)]
theorem Lv.free {w : World} {b8 b5 g : Nat} {A5 : Option Addr} {c5 : Nat} {cs zs : List Int} (h : Lv w b8 b5 g A5 c5 cs zs) (i : Nat) : w.frozen? ⟨g, i, none⟩ = false := blk_frozen h.row i
theorem map_set (zs : List Int) (i : Nat) (v : Int) : ((zs.map (Value.int .i64)).toArray).setIfInBounds i (.int .i64 v) = ((zs.set i v).map (Value.int .i64)).toArray := by
  rw [List.setIfInBounds_toArray, List.map_set]
theorem C_cells {w : World} {A : Option Addr} {n : Nat} {xs : List Int} (h : Kd.C (Kd.int .i64) w A n xs) : xs.length = n ∧ (0 < n → ∃ ad, A = some ad ∧ ∀ j, j < n → w.cell? (ad.add j) = some (.int .i64 (xs.getD j 0))) := by
  obtain ⟨h1, _, h2⟩ := Kd.reads_of_C (enc := Value.int .i64) (d := (0 : Int)) (h1 := fun _ => rfl) h
  exact ⟨h1, h2⟩
theorem C_grown {w w1 : World} {A : Option Addr} {n : Nat} {xs : List Int} (h : Kd.C (Kd.int .i64) w A n xs) {g : Nat} (hg : w.grownBy w1 (some g)) (hn : ∀ a, A = some a → a.block ≠ g) : Kd.C (Kd.int .i64) w1 A n xs := by
  obtain ⟨h1, h2, h3⟩ := Kd.reads_of_C (enc := Value.int .i64) (d := (0 : Int)) (h1 := fun _ => rfl) h
  refine Kd.C_of_reads (d := (0 : Int)) (h1 := fun _ => rfl) ⟨h1, h2, fun h0 => ?_⟩
  obtain ⟨ad, e, hc⟩ := h3 h0
  refine ⟨ad, e, fun j hj => hg.cell (hc j hj) ?_⟩
  have hb : (ad.add j).block = ad.block := by unfold Addr.add; split <;> rfl
  rw [hb]
  intro x
  exact hn ad e (by injection x)
theorem grown_set (w : World) (g i : Nat) (v : Value) : w.grownBy (w.setCell ⟨g, i, none⟩ v) (some g) :=
  ⟨rfl, rfl, rfl, by simp [World.setCell], fun k hk hr => Below.heap_setCell w ⟨g, i, none⟩ v k (fun e => hr (by rw [e]))⟩
theorem grown_trans {w w1 w2 : World} {g : Nat} (h : w.grownBy w1 (some g)) (k : w1.grownBy w2 (some g)) : w.grownBy w2 (some g) :=
  ⟨k.os.trans h.os, k.tape.trans h.tape, k.output.trans h.output, Nat.le_trans h.size k.size, fun i hi hr => (k.block i (Nat.lt_of_lt_of_le hi h.size) hr).trans (h.block i hi hr)⟩
theorem grown_refl (w : World) (g : Nat) : w.grownBy w (some g) := ⟨rfl, rfl, rfl, Nat.le_refl _, fun _ _ _ => rfl⟩
/-- A world in which only the list has been written. -/
theorem Lv.turn {w w1 : World} {b8 b5 g : Nat} {A5 : Option Addr} {c5 : Nat} {cs zs ys : List Int} (h : Lv w b8 b5 g A5 c5 cs zs) (hg : w.grownBy w1 (some g)) (hr : w1.heap[g]? = some (.cells (ys.map (Value.int .i64)).toArray 3 (0, 0))) (hl : ys.length = zs.length) : Lv w1 b8 b5 g A5 c5 cs ys :=
  ⟨by rw [hl]; exact hg.cell h.out (fun e => h.n8 (by injection e)), hg.cell h.cls (fun e => h.n5 (by injection e)), hr, C_grown h.rds hg h.nA, h.le5, hl.trans h.len, h.small, h.n8, h.n5, h.nA⟩
theorem Lv.set {w : World} {b8 b5 g : Nat} {A5 : Option Addr} {c5 : Nat} {cs zs : List Int} (h : Lv w b8 b5 g A5 c5 cs zs) (i : Nat) (v : Int) : Lv (w.setCell ⟨g, i, none⟩ (.int .i64 v)) b8 b5 g A5 c5 cs (zs.set i v) :=
  h.turn (grown_set w g i _) (by rw [← map_set]; exact blk_set h.row i _) (by simp)
theorem end0_calls (c : Int) (w : World) : Calls Tryd.prog 31 #[.int .i64 c] w fun e w' => e = .returned (.bool (end0 c)) ∧ w = w' := by
  go_enter Tryd.func31, Tryd.ntmps31
  go_wp2
  go_ret
  exact ⟨rfl, rfl⟩
theorem end1_calls (c : Int) (w : World) : Calls Tryd.prog 33 #[.int .i64 c] w fun e w' => e = .returned (.bool (end1 c)) ∧ w = w' := by
  by_cases h : c = 1
  · subst h
    go_enter Tryd.func33, Tryd.ntmps33
    go_wp2
    go_ret
    exact ⟨rfl, rfl⟩
  · have hb : (c == 1) = false := beq_eq_false_iff_ne.mpr h
    have he : end1 c = (c == 3) := by unfold end1; rw [hb]; rfl
    rw [he]
    clear h he
    go_enter Tryd.func33, Tryd.ntmps33
    go_wp2
    go_ret
    exact ⟨rfl, rfl⟩

/-! DEFS bidi_reverse -/
def bidi_reverse.l0 : Nat → List Int → Int → Int → Option (List Int)
  | 0, _, _, _ => none
  | k + 1, x0, x2, x3 => if x2 < x3 then (if 0 ≤ x3 then (if x3 < (x0.length : Int) then (if 0 ≤ x2 then (if x2 < (x0.length : Int) then (bidi_reverse.l0 k ((x0.set (x2 : Int).toNat (rd x0 x3)).set (x3 : Int).toNat (rd x0 x2)) (wrap64 (x2 + 1)) (wrap64 (x3 - 1))) else (none)) else (none)) else (none)) else (none)) else (some x0)
def bidi_reverse.f (k : Nat) (l0 : List Int) : Option (List Int) := bidi_reverse.l0 k l0 0 (wrap64 ((l0.length : Int) - 1))
theorem bidi_reverse.mono_l : ∀ k, (∀ y0 y1 y2, LeO (bidi_reverse.l0 k y0 y1 y2) (bidi_reverse.l0 (k + 1) y0 y1 y2))
  | 0 => fun _ _ _ r h => by simp [bidi_reverse.l0] at h
  | k + 1 => by
    have ih0 := bidi_reverse.mono_l k
    · intro y0 y1 y2
      unfold bidi_reverse.l0
      repeat' first
      | (with_reducible exact ih0 _ _ _)
      | (with_reducible exact LeO.refl _)
      | (with_reducible exact LeO.none _)
      | (with_reducible refine LeO.ite ?_ ?_)
      | (with_reducible refine LeO.bind ?_ (fun _ => ?_))
      | exact ih0 _ _ _
      | exact LeO.none _
      | refine LeO.ite ?_ ?_
      | refine LeO.bind ?_ (fun _ => ?_)
theorem bidi_reverse.mono : ∀ a0 k, LeO (bidi_reverse.f k a0) (bidi_reverse.f (k + 1) a0) := by
  intro a0 k
  have ih0 := bidi_reverse.mono_l k
  unfold bidi_reverse.f
  repeat' first
      | (with_reducible exact ih0 _ _ _)
      | (with_reducible exact LeO.refl _)
      | (with_reducible exact LeO.none _)
      | (with_reducible refine LeO.ite ?_ ?_)
      | (with_reducible refine LeO.bind ?_ (fun _ => ?_))
      | exact ih0 _ _ _
      | exact LeO.none _
      | refine LeO.ite ?_ ?_
      | refine LeO.bind ?_ (fun _ => ?_)

/-! DEFS bidi_Order -/
/-- The places from i to e turned round. -/
def revAt (zs : List Int) (i e : Nat) : List Int := zs.take i ++ (((zs.take e).drop i).reverse ++ zs.drop e)
/-- Where the run of places of at least this level ends. -/
def turnRun (order levels : List Int) (least : Int) : Nat → Nat → Option Nat
  | 0, _ => none
  | k + 1, n => if n < order.length then (if 0 ≤ rd order (n : Int) then (if rd order (n : Int) < (levels.length : Int) then (if rd levels (rd order (n : Int)) ≥ least then turnRun order levels least k (n + 1) else some n) else none) else none) else some n
def turnL (levels : List Int) (least : Int) : Nat → List Int → Nat → Option (List Int)
  | 0, _, _ => none
  | k + 1, order, i => if i < order.length then ((turnRun order levels least k i).bind fun e => turnL levels least k (revAt order i e) (max (i + 1) e)) else some order
def iotaL (n : Nat) : List Int := (List.range n).map (fun i : Nat => (i : Int))
def bidi_Order.f (k : Nat) (base : Int) (s : ByteArray) : Option (List Int) := (bidi_Levels.f k base s).bind fun ls => (if ls.length ≤ 1000000 then ((turnL ls 2 k (iotaL ls.length) 0).bind fun o => turnL ls 1 k o 0) else none)
theorem turnRun.mono (order levels : List Int) (least : Int) : ∀ k n, LeO (turnRun order levels least k n) (turnRun order levels least (k + 1) n)
  | 0, _ => fun r h => by simp [turnRun] at h
  | k + 1, n => by
    have ih := turnRun.mono order levels least k
    unfold turnRun
    repeat' first
      | (with_reducible exact LeO.refl _)
      | (with_reducible exact ih _)
      | (with_reducible refine LeO.ite ?_ ?_)
theorem turnL.mono (levels : List Int) (least : Int) : ∀ k o n, LeO (turnL levels least k o n) (turnL levels least (k + 1) o n)
  | 0, _, _ => fun r h => by simp [turnL] at h
  | k + 1, o, n => by
    have ih := turnL.mono levels least k
    unfold turnL
    repeat' first
      | (with_reducible exact LeO.refl _)
      | (with_reducible exact ih _ _)
      | (with_reducible exact turnRun.mono _ _ _ _ _)
      | (with_reducible refine LeO.ite ?_ ?_)
      | (with_reducible refine LeO.bind ?_ (fun _ => ?_))
theorem bidi_Order.mono : ∀ b s k, LeO (bidi_Order.f k b s) (bidi_Order.f (k + 1) b s) := by
  intro b s k
  unfold bidi_Order.f
  repeat' first
      | (with_reducible exact LeO.refl _)
      | (with_reducible exact bidi_Levels.mono _ _ _)
      | (with_reducible exact turnL.mono _ _ _ _ _)
      | (with_reducible refine LeO.ite ?_ ?_)
      | (with_reducible refine LeO.bind ?_ (fun _ => ?_))
/-- a places from either end of the part from off to off + m are exchanged. -/
def Swp (zs : List Int) (off m a : Nat) (ys : List Int) : Prop :=
  ys.length = zs.length ∧ ∀ j, ys.getD j 0 = if (off ≤ j ∧ j < off + a) ∨ (off + m ≤ j + a ∧ j < off + m) then zs.getD (2 * off + m - 1 - j) 0 else zs.getD j 0
theorem getD_set (ys : List Int) (i j : Nat) (v : Int) (h : i < ys.length) : (ys.set i v).getD j 0 = if i = j then v else ys.getD j 0 := by
  simp only [List.getD_eq_getElem?_getD, List.getElem?_set]
  by_cases e : i = j
  · subst e
    simp [h]
  · simp [e]
theorem Swp.step {zs ys : List Int} {off m a : Nat} (h : Swp zs off m a ys) (hm : off + m ≤ zs.length) (h2 : 2 * a + 1 < m) :
    Swp zs off m (a + 1) ((ys.set (off + a) (ys.getD (off + (m - 1 - a)) 0)).set (off + (m - 1 - a)) (ys.getD (off + a) 0)) := by
  obtain ⟨hl, hs⟩ := h
  refine ⟨by simp [hl], fun j => ?_⟩
  rw [getD_set _ _ _ _ (by rw [List.length_set]; omega), getD_set _ _ _ _ (by omega), hs, hs, hs]
  by_cases e1 : off + (m - 1 - a) = j
  · rw [if_pos e1, if_neg (by omega), if_pos (by omega)]
    congr 1; omega
  · rw [if_neg e1]
    by_cases e2 : off + a = j
    · rw [if_pos e2, if_neg (by omega), if_pos (by omega)]
      congr 1; omega
    · rw [if_neg e2]
      by_cases c : (off ≤ j ∧ j < off + a) ∨ (off + m ≤ j + a ∧ j < off + m)
      · rw [if_pos c, if_pos (by omega)]
      · rw [if_neg c, if_neg (by omega)]
theorem getD_revAt (zs : List Int) (i e j : Nat) (h1 : i ≤ e) (h2 : e ≤ zs.length) : (revAt zs i e).getD j 0 = if i ≤ j ∧ j < e then zs.getD (i + e - 1 - j) 0 else zs.getD j 0 := by
  unfold revAt
  simp only [List.getD_eq_getElem?_getD]
  by_cases c1 : j < i
  · rw [List.getElem?_append_left (by rw [List.length_take]; omega), List.getElem?_take, if_pos c1, if_neg (by omega)]
  · rw [List.getElem?_append_right (by rw [List.length_take]; omega), List.length_take, Nat.min_eq_left (by omega)]
    have hl : (((zs.take e).drop i).reverse).length = e - i := by rw [List.length_reverse, List.length_drop, List.length_take]; omega
    by_cases c2 : j < e
    · rw [List.getElem?_append_left (by rw [hl]; omega), List.getElem?_reverse (by rw [List.length_drop, List.length_take]; omega), List.length_drop, List.length_take, Nat.min_eq_left h2, List.getElem?_drop, List.getElem?_take, if_pos (by omega), if_pos (by omega)]
      congr 2; omega
    · rw [List.getElem?_append_right (by rw [hl]; omega), hl, List.getElem?_drop, if_neg (by omega)]
      congr 2; omega
theorem length_revAt (zs : List Int) (i e : Nat) (h1 : i ≤ e) (h2 : e ≤ zs.length) : (revAt zs i e).length = zs.length := by
  unfold revAt
  simp only [List.length_append, List.length_take, List.length_reverse, List.length_drop]
  omega
theorem Swp.done {zs ys : List Int} {off m a : Nat} (h : Swp zs off m a ys) (hm : off + m ≤ zs.length) (h2 : m ≤ 2 * a + 1) (h3 : 2 * a ≤ m) : ys = revAt zs off (off + m) := by
  obtain ⟨hl, hs⟩ := h
  have hr := length_revAt zs off (off + m) (by omega) hm
  apply List.ext_getElem (by omega)
  intro j j1 j2
  have e1 := hs j
  have e2 := getD_revAt zs off (off + m) j (by omega) hm
  simp only [List.getD_eq_getElem?_getD, List.getElem?_eq_getElem j1, Option.getD_some] at e1
  rw [List.getD_eq_getElem?_getD, List.getElem?_eq_getElem j2, Option.getD_some] at e2
  rw [e1, e2]
  simp only [List.getD_eq_getElem?_getD]
  by_cases c : off ≤ j ∧ j < off + m
  · rw [if_pos c]
    by_cases c2 : (off ≤ j ∧ j < off + a) ∨ (off + m ≤ j + a ∧ j < off + m)
    · rw [if_pos c2]; congr 2; omega
    · rw [if_neg c2]; congr 2; omega
  · rw [if_neg c, if_neg (by omega)]
theorem Swp.start (zs : List Int) (off m : Nat) : Swp zs off m 0 zs := ⟨rfl, fun j => by rw [if_neg (by omega)]⟩
/-- A block that holds just these numbers. -/
def Blk (w : World) (g : Nat) (zs : List Int) : Prop := w.heap[g]? = some (.cells (zs.map (Value.int .i64)).toArray 3 (0, 0))
theorem Blk.cell {w : World} {g : Nat} {zs : List Int} (h : Blk w g zs) {i : Nat} (hi : i < zs.length) : w.cell? ⟨g, i, none⟩ = some (.int .i64 (zs.getD i 0)) := by
  rw [blk_cell h i]
  simp [List.getD, List.getElem?_eq_getElem hi]
theorem Blk.free {w : World} {g : Nat} {zs : List Int} (h : Blk w g zs) (i : Nat) : w.frozen? ⟨g, i, none⟩ = false := blk_frozen h i
theorem Blk.set {w : World} {g : Nat} {zs : List Int} (h : Blk w g zs) (i : Nat) (v : Int) : Blk (w.setCell ⟨g, i, none⟩ (.int .i64 v)) g (zs.set i v) := by
  unfold Blk
  rw [← map_set]
  exact blk_set h i _
theorem Blk.drew {w : World} {g : Nat} {zs : List Int} (h : Blk w g zs) : Blk w.drew g zs := h
theorem grown_drew {w w1 : World} {g : Nat} (h : w.grownBy w1 (some g)) : w.grownBy w1.drew (some g) := ⟨h.os, h.tape, h.output, h.size, h.block⟩

/-! DEFS slices_Index_2_int_2_int -/
def slices_Index_2_int_2_int.l0 : Nat → List (S38) → Int → Int → Int → Int → Option (Int)
  | 0, _, _, _, _, _ => none
  | k + 1, x0, x7, x8, x106000, x106001 => if x8 < x7 then (if 0 ≤ x8 then (if x8 < (x0.length : Int) then (if (x106000 == ((rd_T38 x0 x8).f0) && (x106001 == ((rd_T38 x0 x8).f1))) = true then (some x8) else (slices_Index_2_int_2_int.l0 k x0 x7 (wrap64 (x8 + 1)) x106000 x106001)) else (none)) else (none)) else (some (-1))
def slices_Index_2_int_2_int.f (k : Nat) (l0 : List (S38)) (a1_0 : Int) (a1_1 : Int) : Option (Int) := slices_Index_2_int_2_int.l0 k l0 (l0.length : Int) 0 a1_0 a1_1
theorem slices_Index_2_int_2_int.mono_l : ∀ k, (∀ y0 y1 y2 y3 y4, LeO (slices_Index_2_int_2_int.l0 k y0 y1 y2 y3 y4) (slices_Index_2_int_2_int.l0 (k + 1) y0 y1 y2 y3 y4))
  | 0 => fun _ _ _ _ _ r h => by simp [slices_Index_2_int_2_int.l0] at h
  | k + 1 => by
    have ih0 := slices_Index_2_int_2_int.mono_l k
    · intro y0 y1 y2 y3 y4
      unfold slices_Index_2_int_2_int.l0
      repeat' first
      | (with_reducible exact ih0 _ _ _ _ _)
      | (with_reducible exact LeO.refl _)
      | (with_reducible exact LeO.none _)
      | (with_reducible refine LeO.ite ?_ ?_)
      | (with_reducible refine LeO.bind ?_ (fun _ => ?_))
      | exact ih0 _ _ _ _ _
      | exact LeO.none _
      | refine LeO.ite ?_ ?_
      | refine LeO.bind ?_ (fun _ => ?_)
theorem slices_Index_2_int_2_int.mono : ∀ a0 a1 a2 k, LeO (slices_Index_2_int_2_int.f k a0 a1 a2) (slices_Index_2_int_2_int.f (k + 1) a0 a1 a2) := by
  intro a0 a1 a2 k
  have ih0 := slices_Index_2_int_2_int.mono_l k
  unfold slices_Index_2_int_2_int.f
  repeat' first
      | (with_reducible exact ih0 _ _ _ _ _)
      | (with_reducible exact LeO.refl _)
      | (with_reducible exact LeO.none _)
      | (with_reducible refine LeO.ite ?_ ?_)
      | (with_reducible refine LeO.bind ?_ (fun _ => ?_))
      | exact ih0 _ _ _ _ _
      | exact LeO.none _
      | refine LeO.ite ?_ ?_
      | refine LeO.bind ?_ (fun _ => ?_)

/-! DEFS slices_Contains_2_int_2_int -/
def slices_Contains_2_int_2_int.f (k : Nat) (l0 : List (S38)) (a1_0 : Int) (a1_1 : Int) : Option (Bool) := (slices_Index_2_int_2_int.f k l0 a1_0 a1_1).bind fun t108 => (some (decide (t108 ≥ 0)))
theorem slices_Contains_2_int_2_int.mono : ∀ a0 a1 a2 k, LeO (slices_Contains_2_int_2_int.f k a0 a1 a2) (slices_Contains_2_int_2_int.f (k + 1) a0 a1 a2) := by
  intro a0 a1 a2 k
  unfold slices_Contains_2_int_2_int.f
  repeat' first
      | (with_reducible exact slices_Index_2_int_2_int.mono _ _ _ _)
      | (with_reducible exact LeO.refl _)
      | (with_reducible exact LeO.none _)
      | (with_reducible refine LeO.ite ?_ ?_)
      | (with_reducible refine LeO.bind ?_ (fun _ => ?_))
      | exact slices_Index_2_int_2_int.mono _ _ _ _
      | exact LeO.none _
      | refine LeO.ite ?_ ?_
      | refine LeO.bind ?_ (fun _ => ?_)

/-! DEFS bidi_Runs -/
mutual
def bidi_Runs.l0 : Nat → Int → ByteArray → List Int → List (S38) → List Int → Int → Int → Option ((List (S38)))
  | 0, _, _, _, _, _, _, _ => none
  | k + 1, x0, x1, x5, x6, x7, x20, x21 => if x21 < x20 then (if x21 = 0 then (if x6.length < 8796093022208 then ((some (x6 ++ [(⟨x21, x21⟩ : S38)] : List (S38))).bind fun y115 => (if 0 ≤ (wrap64 ((y115.length : Int) - 1)) then (if (wrap64 ((y115.length : Int) - 1)) < (y115.length : Int) then (if 0 ≤ x21 then (if x21 < (x7.length : Int) then (bidi_Runs.l0 k x0 x1 x5 (y115.set ((wrap64 ((y115.length : Int) - 1)) : Int).toNat (⟨(rd_T38 y115 (wrap64 ((y115.length : Int) - 1))).f0, wrap64 (x21 + 1)⟩ : S38)) (x7.set (x21 : Int).toNat (wrap64 ((y115.length : Int) - 1))) x20 (wrap64 (x21 + 1))) else (none)) else (none)) else (none)) else (none))) else (none)) else (if 0 ≤ x21 then (if x21 < (x5.length : Int) then (if 0 ≤ (wrap64 (x21 - 1)) then (if (wrap64 (x21 - 1)) < (x5.length : Int) then (if (rd x5 x21) = (rd x5 (wrap64 (x21 - 1))) then (if 0 ≤ (wrap64 ((x6.length : Int) - 1)) then (if (wrap64 ((x6.length : Int) - 1)) < (x6.length : Int) then (if x21 < (x7.length : Int) then (bidi_Runs.l0 k x0 x1 x5 (x6.set ((wrap64 ((x6.length : Int) - 1)) : Int).toNat (⟨(rd_T38 x6 (wrap64 ((x6.length : Int) - 1))).f0, wrap64 (x21 + 1)⟩ : S38)) (x7.set (x21 : Int).toNat (wrap64 ((x6.length : Int) - 1))) x20 (wrap64 (x21 + 1))) else (none)) else (none)) else (none)) else (if x6.length < 8796093022208 then ((some (x6 ++ [(⟨x21, x21⟩ : S38)] : List (S38))).bind fun y124 => (if 0 ≤ (wrap64 ((y124.length : Int) - 1)) then (if (wrap64 ((y124.length : Int) - 1)) < (y124.length : Int) then (if x21 < (x7.length : Int) then (bidi_Runs.l0 k x0 x1 x5 (y124.set ((wrap64 ((y124.length : Int) - 1)) : Int).toNat (⟨(rd_T38 y124 (wrap64 ((y124.length : Int) - 1))).f0, wrap64 (x21 + 1)⟩ : S38)) (x7.set (x21 : Int).toNat (wrap64 ((y124.length : Int) - 1))) x20 (wrap64 (x21 + 1))) else (none)) else (none)) else (none))) else (none))) else (none)) else (none)) else (none)) else (none))) else ((bidi_Order.f k x0 x1).bind fun t129 => (bidi_Runs.l1 k x6 x7 ([] : List (S38)) t129 (t129.length : Int) 0))
def bidi_Runs.l1 : Nat → List (S38) → List Int → List (S38) → List Int → Int → Int → Option ((List (S38)))
  | 0, _, _, _, _, _, _ => none
  | k + 1, x6, x7, x9, x61, x62, x63 => if x63 < x62 then (if 0 ≤ x63 then (if x63 < (x61.length : Int) then (if 0 ≤ (rd x61 x63) then (if (rd x61 x63) < (x7.length : Int) then (if 0 ≤ (rd x7 (rd x61 x63)) then (if (rd x7 (rd x61 x63)) < (x6.length : Int) then ((slices_Contains_2_int_2_int.f k x9 ((rd_T38 x6 (rd x7 (rd x61 x63))).f0) ((rd_T38 x6 (rd x7 (rd x61 x63))).f1)).bind fun t136 => (if t136 = true then (bidi_Runs.l1 k x6 x7 x9 x61 x62 (wrap64 (x63 + 1))) else (if x9.length < 8796093022208 then (bidi_Runs.l1 k x6 x7 (x9 ++ [(⟨(rd_T38 x6 (rd x7 (rd x61 x63))).f0, (rd_T38 x6 (rd x7 (rd x61 x63))).f1⟩ : S38)]) x61 x62 (wrap64 (x63 + 1))) else (none)))) else (none)) else (none)) else (none)) else (none)) else (none)) else (none)) else (some x9)
end
def bidi_Runs.f (k : Nat) (a0 : Int) (a1 : ByteArray) : Option ((List (S38))) := (bidi_Levels.f k a0 a1).bind fun t109 => (if 0 ≤ (t109.length : Int) then (if ((t109.length : Int) : Int).toNat ≤ 35184372088832 then (bidi_Runs.l0 k a0 a1 t109 ([] : List (S38)) (List.replicate ((t109.length : Int) : Int).toNat 0) (t109.length : Int) 0) else (none)) else (none))
theorem bidi_Runs.mono_l : ∀ k, (∀ y0 y1 y2 y3 y4 y5 y6, LeO (bidi_Runs.l0 k y0 y1 y2 y3 y4 y5 y6) (bidi_Runs.l0 (k + 1) y0 y1 y2 y3 y4 y5 y6)) ∧ (∀ y0 y1 y2 y3 y4 y5, LeO (bidi_Runs.l1 k y0 y1 y2 y3 y4 y5) (bidi_Runs.l1 (k + 1) y0 y1 y2 y3 y4 y5))
  | 0 => ⟨fun _ _ _ _ _ _ _ r h => by simp [bidi_Runs.l0] at h, fun _ _ _ _ _ _ r h => by simp [bidi_Runs.l1] at h⟩
  | k + 1 => by
    obtain ⟨ih0, ih1⟩ := bidi_Runs.mono_l k
    refine ⟨?_, ?_⟩
    · intro y0 y1 y2 y3 y4 y5 y6
      unfold bidi_Runs.l0
      repeat' first
      | (with_reducible exact ih0 _ _ _ _ _ _ _)
      | (with_reducible exact ih1 _ _ _ _ _ _)
      | (with_reducible exact bidi_Levels.mono _ _ _)
      | (with_reducible exact bidi_Order.mono _ _ _)
      | (with_reducible exact slices_Contains_2_int_2_int.mono _ _ _ _)
      | (with_reducible exact LeO.refl _)
      | (with_reducible exact LeO.none _)
      | (with_reducible refine LeO.ite ?_ ?_)
      | (with_reducible refine LeO.bind ?_ (fun _ => ?_))
      | exact ih0 _ _ _ _ _ _ _
      | exact ih1 _ _ _ _ _ _
      | exact bidi_Levels.mono _ _ _
      | exact bidi_Order.mono _ _ _
      | exact slices_Contains_2_int_2_int.mono _ _ _ _
      | exact LeO.none _
      | refine LeO.ite ?_ ?_
      | refine LeO.bind ?_ (fun _ => ?_)
    · intro y0 y1 y2 y3 y4 y5
      unfold bidi_Runs.l1
      repeat' first
      | (with_reducible exact ih0 _ _ _ _ _ _ _)
      | (with_reducible exact ih1 _ _ _ _ _ _)
      | (with_reducible exact bidi_Levels.mono _ _ _)
      | (with_reducible exact bidi_Order.mono _ _ _)
      | (with_reducible exact slices_Contains_2_int_2_int.mono _ _ _ _)
      | (with_reducible exact LeO.refl _)
      | (with_reducible exact LeO.none _)
      | (with_reducible refine LeO.ite ?_ ?_)
      | (with_reducible refine LeO.bind ?_ (fun _ => ?_))
      | exact ih0 _ _ _ _ _ _ _
      | exact ih1 _ _ _ _ _ _
      | exact bidi_Levels.mono _ _ _
      | exact bidi_Order.mono _ _ _
      | exact slices_Contains_2_int_2_int.mono _ _ _ _
      | exact LeO.none _
      | refine LeO.ite ?_ ?_
      | refine LeO.bind ?_ (fun _ => ?_)
theorem bidi_Runs.mono : ∀ a0 a1 k, LeO (bidi_Runs.f k a0 a1) (bidi_Runs.f (k + 1) a0 a1) := by
  intro a0 a1 k
  obtain ⟨ih0, ih1⟩ := bidi_Runs.mono_l k
  unfold bidi_Runs.f
  repeat' first
      | (with_reducible exact ih0 _ _ _ _ _ _ _)
      | (with_reducible exact ih1 _ _ _ _ _ _)
      | (with_reducible exact bidi_Levels.mono _ _ _)
      | (with_reducible exact bidi_Order.mono _ _ _)
      | (with_reducible exact slices_Contains_2_int_2_int.mono _ _ _ _)
      | (with_reducible exact LeO.refl _)
      | (with_reducible exact LeO.none _)
      | (with_reducible refine LeO.ite ?_ ?_)
      | (with_reducible refine LeO.bind ?_ (fun _ => ?_))
      | exact ih0 _ _ _ _ _ _ _
      | exact ih1 _ _ _ _ _ _
      | exact bidi_Levels.mono _ _ _
      | exact bidi_Order.mono _ _ _
      | exact slices_Contains_2_int_2_int.mono _ _ _ _
      | exact LeO.none _
      | refine LeO.ite ?_ ?_
      | refine LeO.bind ?_ (fun _ => ?_)

/-! DEFS bidi_Visual -/
def bidi_Visual.l0 : Nat → List Int → List Int → List Int → Int → Int → Option (ByteArray)
  | 0, _, _, _, _, _ => none
  | k + 1, x5, x6, x13, x14, x15 => if x15 < x14 then (if 0 ≤ x15 then (if x15 < (x13.length : Int) then (if 0 ≤ (rd x13 x15) then (if (rd x13 x15) < (x5.length : Int) then (if x6.length < 35184372088832 then (bidi_Visual.l0 k x5 (x6 ++ [rd x5 (rd x13 x15)]) x13 x14 (wrap64 (x15 + 1))) else (none)) else (none)) else (none)) else (none)) else (none)) else (some (strOfRunes x6))
def bidi_Visual.f (k : Nat) (a0 : Int) (a1 : ByteArray) : Option (ByteArray) := if a1.size ≤ 70368744177664 then ((bidi_Order.f k a0 a1).bind fun t143 => (bidi_Visual.l0 k (rns a1) ([] : List Int) t143 (t143.length : Int) 0)) else (none)
theorem bidi_Visual.mono_l : ∀ k, (∀ y0 y1 y2 y3 y4, LeO (bidi_Visual.l0 k y0 y1 y2 y3 y4) (bidi_Visual.l0 (k + 1) y0 y1 y2 y3 y4))
  | 0 => fun _ _ _ _ _ r h => by simp [bidi_Visual.l0] at h
  | k + 1 => by
    have ih0 := bidi_Visual.mono_l k
    · intro y0 y1 y2 y3 y4
      unfold bidi_Visual.l0
      repeat' first
      | (with_reducible exact ih0 _ _ _ _ _)
      | (with_reducible exact bidi_Order.mono _ _ _)
      | (with_reducible exact LeO.refl _)
      | (with_reducible exact LeO.none _)
      | (with_reducible refine LeO.ite ?_ ?_)
      | (with_reducible refine LeO.bind ?_ (fun _ => ?_))
      | exact ih0 _ _ _ _ _
      | exact bidi_Order.mono _ _ _
      | exact LeO.none _
      | refine LeO.ite ?_ ?_
      | refine LeO.bind ?_ (fun _ => ?_)
theorem bidi_Visual.mono : ∀ a0 a1 k, LeO (bidi_Visual.f k a0 a1) (bidi_Visual.f (k + 1) a0 a1) := by
  intro a0 a1 k
  have ih0 := bidi_Visual.mono_l k
  unfold bidi_Visual.f
  repeat' first
      | (with_reducible exact ih0 _ _ _ _ _)
      | (with_reducible exact bidi_Order.mono _ _ _)
      | (with_reducible exact LeO.refl _)
      | (with_reducible exact LeO.none _)
      | (with_reducible refine LeO.ite ?_ ?_)
      | (with_reducible refine LeO.bind ?_ (fun _ => ?_))
      | exact ih0 _ _ _ _ _
      | exact bidi_Order.mono _ _ _
      | exact LeO.none _
      | refine LeO.ite ?_ ?_
      | refine LeO.bind ?_ (fun _ => ?_)

/-! DEFS bidi_Logical -/
def bidi_Logical.f (k : Nat) (a0 : Int) (a1 : ByteArray) : Option (ByteArray) := (bidi_Visual.f k a0 a1).bind fun t151 => (some t151)
theorem bidi_Logical.mono : ∀ a0 a1 k, LeO (bidi_Logical.f k a0 a1) (bidi_Logical.f (k + 1) a0 a1) := by
  intro a0 a1 k
  unfold bidi_Logical.f
  repeat' first
      | (with_reducible exact bidi_Visual.mono _ _ _)
      | (with_reducible exact LeO.refl _)
      | (with_reducible exact LeO.none _)
      | (with_reducible refine LeO.ite ?_ ?_)
      | (with_reducible refine LeO.bind ?_ (fun _ => ?_))
      | exact bidi_Visual.mono _ _ _
      | exact LeO.none _
      | refine LeO.ite ?_ ?_
      | refine LeO.bind ?_ (fun _ => ?_)

/-! DEFS pentaglotref03_Ints -/
def pentaglotref03_Ints.l0 : Nat → List Int → List Int → Int → Option (Bool)
  | 0, _, _, _ => none
  | k + 1, x0, x1, x5 => if x5 < (x0.length : Int) then (if 0 ≤ x5 then (if x5 < (x1.length : Int) then (if (rd x0 x5) = (rd x1 x5) then (pentaglotref03_Ints.l0 k x0 x1 (wrap64 (x5 + 1))) else (some false)) else (none)) else (none)) else (some true)
def pentaglotref03_Ints.f (k : Nat) (l0 : List Int) (l1 : List Int) : Option (Bool) := if (l0.length : Int) = (l1.length : Int) then (pentaglotref03_Ints.l0 k l0 l1 0) else (some false)
theorem pentaglotref03_Ints.mono_l : ∀ k, (∀ y0 y1 y2, LeO (pentaglotref03_Ints.l0 k y0 y1 y2) (pentaglotref03_Ints.l0 (k + 1) y0 y1 y2))
  | 0 => fun _ _ _ r h => by simp [pentaglotref03_Ints.l0] at h
  | k + 1 => by
    have ih0 := pentaglotref03_Ints.mono_l k
    · intro y0 y1 y2
      unfold pentaglotref03_Ints.l0
      repeat' first
      | (with_reducible exact ih0 _ _ _)
      | (with_reducible exact LeO.refl _)
      | (with_reducible exact LeO.none _)
      | (with_reducible refine LeO.ite ?_ ?_)
      | (with_reducible refine LeO.bind ?_ (fun _ => ?_))
      | exact ih0 _ _ _
      | exact LeO.none _
      | refine LeO.ite ?_ ?_
      | refine LeO.bind ?_ (fun _ => ?_)
theorem pentaglotref03_Ints.mono : ∀ a0 a1 k, LeO (pentaglotref03_Ints.f k a0 a1) (pentaglotref03_Ints.f (k + 1) a0 a1) := by
  intro a0 a1 k
  have ih0 := pentaglotref03_Ints.mono_l k
  unfold pentaglotref03_Ints.f
  repeat' first
      | (with_reducible exact ih0 _ _ _)
      | (with_reducible exact LeO.refl _)
      | (with_reducible exact LeO.none _)
      | (with_reducible refine LeO.ite ?_ ?_)
      | (with_reducible refine LeO.bind ?_ (fun _ => ?_))
      | exact ih0 _ _ _
      | exact LeO.none _
      | refine LeO.ite ?_ ?_
      | refine LeO.bind ?_ (fun _ => ?_)

/-! DEFS pentaglotlaw43_awake -/
def pentaglotlaw43_awake.f (k : Nat)  : Option (Bool) := (bidi_Visual.f k 0 (⟨#[97, 32, 215, 144, 215, 145, 32, 49, 50, 32, 215, 146, 32, 98]⟩ : ByteArray)).bind fun t154 => (if t154.toList = ([97, 32, 215, 146, 32, 49, 50, 32, 215, 145, 215, 144, 32, 98] : List UInt8) then ((bidi_Visual.f k 0 (⟨#[97, 32, 215, 144, 215, 145, 32, 49, 50, 32, 215, 146, 32, 98]⟩ : ByteArray)).bind fun t155 => ((bidi_Logical.f k 0 t155).bind fun t156 => (if t156.toList = ([97, 32, 215, 144, 215, 145, 32, 49, 50, 32, 215, 146, 32, 98] : List UInt8) then ((bidi_Visual.f k 1 (⟨#[215, 144, 32, 97, 98, 32, 49, 50]⟩ : ByteArray)).bind fun t157 => (if t157.toList = ([97, 98, 32, 49, 50, 32, 215, 144] : List UInt8) then ((bidi_Levels.f k 0 (⟨#[97, 32, 215, 144, 215, 145, 32, 49, 50, 32, 215, 146, 32, 98]⟩ : ByteArray)).bind fun t158 => ((pentaglotref03_Ints.f k t158 (([0, 0, 1, 1, 1, 2, 2, 1, 1, 0, 0] : List Int))).bind fun t164 => (if t164 = true then ((bidi_Class.f k 1488).bind fun t165 => (if t165 = 2 then ((bidi_Base.f k (⟨#[49, 32, 215, 144, 97]⟩ : ByteArray)).bind fun t166 => (if t166 = 1 then ((bidi_Runs.f k 0 (⟨#[97, 32, 215, 144, 215, 145, 32, 49, 50, 32, 215, 146, 32, 98]⟩ : ByteArray)).bind fun t167 => (some ((t167.length : Int) == 5))) else (some false))) else (some false))) else (some false)))) else (some false))) else (some false)))) else (some false))
theorem pentaglotlaw43_awake.mono : ∀ k, LeO (pentaglotlaw43_awake.f k ) (pentaglotlaw43_awake.f (k + 1) ) := by
  intro  k
  unfold pentaglotlaw43_awake.f
  repeat' first
      | (with_reducible exact bidi_Base.mono _ _)
      | (with_reducible exact bidi_Class.mono _ _)
      | (with_reducible exact bidi_Levels.mono _ _ _)
      | (with_reducible exact bidi_Logical.mono _ _ _)
      | (with_reducible exact bidi_Runs.mono _ _ _)
      | (with_reducible exact bidi_Visual.mono _ _ _)
      | (with_reducible exact pentaglotref03_Ints.mono _ _ _)
      | (with_reducible exact LeO.refl _)
      | (with_reducible exact LeO.none _)
      | (with_reducible refine LeO.ite ?_ ?_)
      | (with_reducible refine LeO.bind ?_ (fun _ => ?_))
      | exact bidi_Base.mono _ _
      | exact bidi_Class.mono _ _
      | exact bidi_Levels.mono _ _ _
      | exact bidi_Logical.mono _ _ _
      | exact bidi_Runs.mono _ _ _
      | exact bidi_Visual.mono _ _ _
      | exact pentaglotref03_Ints.mono _ _ _
      | exact LeO.none _
      | refine LeO.ite ?_ ?_
      | refine LeO.bind ?_ (fun _ => ?_)

/-! DEFS pentaglotref43_Base -/
def pentaglotref43_Base.l0 : Nat → List Int → Int → Option (Int)
  | 0, _, _ => none
  | k + 1, x0, x3 => if x3 < (x0.length : Int) then (if 0 ≤ x3 then ((pentaglotref43_Class.f k (rd x0 x3)).bind fun t171 => (if t171 = 1 then (some 0) else (if t171 = 2 then (some 1) else (pentaglotref43_Base.l0 k x0 (wrap64 (x3 + 1)))))) else (none)) else (some 0)
def pentaglotref43_Base.f (k : Nat) (l0 : List Int) : Option (Int) := pentaglotref43_Base.l0 k l0 0
theorem pentaglotref43_Base.mono_l : ∀ k, (∀ y0 y1, LeO (pentaglotref43_Base.l0 k y0 y1) (pentaglotref43_Base.l0 (k + 1) y0 y1))
  | 0 => fun _ _ r h => by simp [pentaglotref43_Base.l0] at h
  | k + 1 => by
    have ih0 := pentaglotref43_Base.mono_l k
    · intro y0 y1
      unfold pentaglotref43_Base.l0
      repeat' first
      | (with_reducible exact ih0 _ _)
      | (with_reducible exact pentaglotref43_Class.mono _ _)
      | (with_reducible exact LeO.refl _)
      | (with_reducible exact LeO.none _)
      | (with_reducible refine LeO.ite ?_ ?_)
      | (with_reducible refine LeO.bind ?_ (fun _ => ?_))
      | exact ih0 _ _
      | exact pentaglotref43_Class.mono _ _
      | exact LeO.none _
      | refine LeO.ite ?_ ?_
      | refine LeO.bind ?_ (fun _ => ?_)
theorem pentaglotref43_Base.mono : ∀ a0 k, LeO (pentaglotref43_Base.f k a0) (pentaglotref43_Base.f (k + 1) a0) := by
  intro a0 k
  have ih0 := pentaglotref43_Base.mono_l k
  unfold pentaglotref43_Base.f
  repeat' first
      | (with_reducible exact ih0 _ _)
      | (with_reducible exact pentaglotref43_Class.mono _ _)
      | (with_reducible exact LeO.refl _)
      | (with_reducible exact LeO.none _)
      | (with_reducible refine LeO.ite ?_ ?_)
      | (with_reducible refine LeO.bind ?_ (fun _ => ?_))
      | exact ih0 _ _
      | exact pentaglotref43_Class.mono _ _
      | exact LeO.none _
      | refine LeO.ite ?_ ?_
      | refine LeO.bind ?_ (fun _ => ?_)

/-! DEFS pentaglotlaw43_BidiClasses -/
def pentaglotlaw43_BidiClasses.j0 : Nat → ByteArray → Bool → Option (Bool)
  | 0, _, _ => none
  | k + 1, x1, x15 => if x15 = true then ((pentaglotlaw43_short.f x1).bind fun t175 => (if (t175 == false) = true then ((pentaglotlaw43_awake.f k).bind fun t176 => (some t176)) else (some false))) else ((utf8_ValidString.f x1).bind fun t177 => (if t177 = true then (if x1.size ≤ 70368744177664 then ((pentaglotref43_Base.f k (rns x1)).bind fun t181 => ((pentaglotlaw43_awake.f k).bind fun t182 => (if t182 = true then ((bidi_Base.f k x1).bind fun t183 => (some (t183 == t181))) else (some false)))) else (none)) else ((pentaglotlaw43_awake.f k).bind fun t184 => (if t184 = true then ((bidi_Base.f k x1).bind fun t185 => (some (t185 == 0))) else (some false)))))
def pentaglotlaw43_BidiClasses.f (k : Nat) (a0 : Int) (a1 : ByteArray) : Option (Bool) := (pentaglotlaw43_short.f a1).bind fun t172 => (if t172 = true then ((bidi_Class.f k a0).bind fun t173 => ((pentaglotref43_Class.f k a0).bind fun t174 => (pentaglotlaw43_BidiClasses.j0 k a1 (t173 != t174)))) else (pentaglotlaw43_BidiClasses.j0 k a1 true))
theorem pentaglotlaw43_BidiClasses.mono_l : ∀ k, (∀ y0 y1, LeO (pentaglotlaw43_BidiClasses.j0 k y0 y1) (pentaglotlaw43_BidiClasses.j0 (k + 1) y0 y1))
  | 0 => fun _ _ r h => by simp [pentaglotlaw43_BidiClasses.j0] at h
  | k + 1 => by
    have ih0 := pentaglotlaw43_BidiClasses.mono_l k
    · intro y0 y1
      unfold pentaglotlaw43_BidiClasses.j0
      repeat' first
      | (with_reducible exact ih0 _ _)
      | (with_reducible exact bidi_Base.mono _ _)
      | (with_reducible exact bidi_Class.mono _ _)
      | (with_reducible exact pentaglotlaw43_awake.mono _)
      | (with_reducible exact pentaglotref43_Base.mono _ _)
      | (with_reducible exact pentaglotref43_Class.mono _ _)
      | (with_reducible exact LeO.refl _)
      | (with_reducible exact LeO.none _)
      | (with_reducible refine LeO.ite ?_ ?_)
      | (with_reducible refine LeO.bind ?_ (fun _ => ?_))
      | exact ih0 _ _
      | exact bidi_Base.mono _ _
      | exact bidi_Class.mono _ _
      | exact pentaglotlaw43_awake.mono _
      | exact pentaglotref43_Base.mono _ _
      | exact pentaglotref43_Class.mono _ _
      | exact LeO.none _
      | refine LeO.ite ?_ ?_
      | refine LeO.bind ?_ (fun _ => ?_)
theorem pentaglotlaw43_BidiClasses.mono : ∀ a0 a1 k, LeO (pentaglotlaw43_BidiClasses.f k a0 a1) (pentaglotlaw43_BidiClasses.f (k + 1) a0 a1) := by
  intro a0 a1 k
  have ih0 := pentaglotlaw43_BidiClasses.mono_l k
  unfold pentaglotlaw43_BidiClasses.f
  repeat' first
      | (with_reducible exact ih0 _ _)
      | (with_reducible exact bidi_Base.mono _ _)
      | (with_reducible exact bidi_Class.mono _ _)
      | (with_reducible exact pentaglotlaw43_awake.mono _)
      | (with_reducible exact pentaglotref43_Base.mono _ _)
      | (with_reducible exact pentaglotref43_Class.mono _ _)
      | (with_reducible exact LeO.refl _)
      | (with_reducible exact LeO.none _)
      | (with_reducible refine LeO.ite ?_ ?_)
      | (with_reducible refine LeO.bind ?_ (fun _ => ?_))
      | exact ih0 _ _
      | exact bidi_Base.mono _ _
      | exact bidi_Class.mono _ _
      | exact pentaglotlaw43_awake.mono _
      | exact pentaglotref43_Base.mono _ _
      | exact pentaglotref43_Class.mono _ _
      | exact LeO.none _
      | refine LeO.ite ?_ ?_
      | refine LeO.bind ?_ (fun _ => ?_)

/-! DEFS pentaglotref43_barrier -/
def pentaglotref43_barrier.f (k : Nat) (a0 : Int) (a1 : Int) : Option (Bool) := if a0 = 0 then ((pentaglotref43_Class.f k a1).bind fun t186 => (some (t186 == 1))) else ((pentaglotref43_Class.f k a1).bind fun t187 => (some (t187 == 2)))
theorem pentaglotref43_barrier.mono : ∀ a0 a1 k, LeO (pentaglotref43_barrier.f k a0 a1) (pentaglotref43_barrier.f (k + 1) a0 a1) := by
  intro a0 a1 k
  unfold pentaglotref43_barrier.f
  repeat' first
      | (with_reducible exact pentaglotref43_Class.mono _ _)
      | (with_reducible exact LeO.refl _)
      | (with_reducible exact LeO.none _)
      | (with_reducible refine LeO.ite ?_ ?_)
      | (with_reducible refine LeO.bind ?_ (fun _ => ?_))
      | exact pentaglotref43_Class.mono _ _
      | exact LeO.none _
      | refine LeO.ite ?_ ?_
      | refine LeO.bind ?_ (fun _ => ?_)

/-! DEFS pentaglotref43_border -/
def pentaglotref43_border.f (k : Nat) (a0 : Int) (a1 : Int) : Option (Bool) := (pentaglotref43_Class.f k a1).bind fun t188 => (if a0 = 0 then (some (t188 == 2)) else (if t188 = 1 then (some true) else (some (t188 == 3))))
theorem pentaglotref43_border.mono : ∀ a0 a1 k, LeO (pentaglotref43_border.f k a0 a1) (pentaglotref43_border.f (k + 1) a0 a1) := by
  intro a0 a1 k
  unfold pentaglotref43_border.f
  repeat' first
      | (with_reducible exact pentaglotref43_Class.mono _ _)
      | (with_reducible exact LeO.refl _)
      | (with_reducible exact LeO.none _)
      | (with_reducible refine LeO.ite ?_ ?_)
      | (with_reducible refine LeO.bind ?_ (fun _ => ?_))
      | exact pentaglotref43_Class.mono _ _
      | exact LeO.none _
      | refine LeO.ite ?_ ?_
      | refine LeO.bind ?_ (fun _ => ?_)

/-! DEFS pentaglotref43_reaches -/
mutual
def pentaglotref43_reaches.l0 : Nat → Int → List Int → Int → Int → Option (Bool)
  | 0, _, _, _, _ => none
  | k + 1, x0, x1, x2, x3 => if x2 ≥ 0 then (if x2 < (x1.length : Int) then (if 0 ≤ x2 then ((pentaglotref43_barrier.f k x0 (rd x1 x2)).bind fun t190 => (pentaglotref43_reaches.j1 k x0 x1 x2 x3 (!t190))) else (none)) else (pentaglotref43_reaches.j1 k x0 x1 x2 x3 false)) else (pentaglotref43_reaches.j1 k x0 x1 x2 x3 false)
def pentaglotref43_reaches.j1 : Nat → Int → List Int → Int → Int → Bool → Option (Bool)
  | 0, _, _, _, _, _ => none
  | k + 1, x0, x1, x2, x3, x25 => if x25 = true then (if 0 ≤ x2 then (if x2 < (x1.length : Int) then ((pentaglotref43_border.f k x0 (rd x1 x2)).bind fun t192 => (if t192 = true then (some true) else (pentaglotref43_reaches.l0 k x0 x1 (wrap64 (x2 + x3)) x3))) else (none)) else (none)) else (some false)
end
def pentaglotref43_reaches.f (k : Nat) (a0 : Int) (l1 : List Int) (a2 : Int) (a3 : Int) : Option (Bool) := pentaglotref43_reaches.l0 k a0 l1 a2 a3
theorem pentaglotref43_reaches.mono_l : ∀ k, (∀ y0 y1 y2 y3, LeO (pentaglotref43_reaches.l0 k y0 y1 y2 y3) (pentaglotref43_reaches.l0 (k + 1) y0 y1 y2 y3)) ∧ (∀ y0 y1 y2 y3 y4, LeO (pentaglotref43_reaches.j1 k y0 y1 y2 y3 y4) (pentaglotref43_reaches.j1 (k + 1) y0 y1 y2 y3 y4))
  | 0 => ⟨fun _ _ _ _ r h => by simp [pentaglotref43_reaches.l0] at h, fun _ _ _ _ _ r h => by simp [pentaglotref43_reaches.j1] at h⟩
  | k + 1 => by
    obtain ⟨ih0, ih1⟩ := pentaglotref43_reaches.mono_l k
    refine ⟨?_, ?_⟩
    · intro y0 y1 y2 y3
      unfold pentaglotref43_reaches.l0
      repeat' first
      | (with_reducible exact ih0 _ _ _ _)
      | (with_reducible exact ih1 _ _ _ _ _)
      | (with_reducible exact pentaglotref43_barrier.mono _ _ _)
      | (with_reducible exact pentaglotref43_border.mono _ _ _)
      | (with_reducible exact LeO.refl _)
      | (with_reducible exact LeO.none _)
      | (with_reducible refine LeO.ite ?_ ?_)
      | (with_reducible refine LeO.bind ?_ (fun _ => ?_))
      | exact ih0 _ _ _ _
      | exact ih1 _ _ _ _ _
      | exact pentaglotref43_barrier.mono _ _ _
      | exact pentaglotref43_border.mono _ _ _
      | exact LeO.none _
      | refine LeO.ite ?_ ?_
      | refine LeO.bind ?_ (fun _ => ?_)
    · intro y0 y1 y2 y3 y4
      unfold pentaglotref43_reaches.j1
      repeat' first
      | (with_reducible exact ih0 _ _ _ _)
      | (with_reducible exact ih1 _ _ _ _ _)
      | (with_reducible exact pentaglotref43_barrier.mono _ _ _)
      | (with_reducible exact pentaglotref43_border.mono _ _ _)
      | (with_reducible exact LeO.refl _)
      | (with_reducible exact LeO.none _)
      | (with_reducible refine LeO.ite ?_ ?_)
      | (with_reducible refine LeO.bind ?_ (fun _ => ?_))
      | exact ih0 _ _ _ _
      | exact ih1 _ _ _ _ _
      | exact pentaglotref43_barrier.mono _ _ _
      | exact pentaglotref43_border.mono _ _ _
      | exact LeO.none _
      | refine LeO.ite ?_ ?_
      | refine LeO.bind ?_ (fun _ => ?_)
theorem pentaglotref43_reaches.mono : ∀ a0 a1 a2 a3 k, LeO (pentaglotref43_reaches.f k a0 a1 a2 a3) (pentaglotref43_reaches.f (k + 1) a0 a1 a2 a3) := by
  intro a0 a1 a2 a3 k
  obtain ⟨ih0, ih1⟩ := pentaglotref43_reaches.mono_l k
  unfold pentaglotref43_reaches.f
  repeat' first
      | (with_reducible exact ih0 _ _ _ _)
      | (with_reducible exact ih1 _ _ _ _ _)
      | (with_reducible exact pentaglotref43_barrier.mono _ _ _)
      | (with_reducible exact pentaglotref43_border.mono _ _ _)
      | (with_reducible exact LeO.refl _)
      | (with_reducible exact LeO.none _)
      | (with_reducible refine LeO.ite ?_ ?_)
      | (with_reducible refine LeO.bind ?_ (fun _ => ?_))
      | exact ih0 _ _ _ _
      | exact ih1 _ _ _ _ _
      | exact pentaglotref43_barrier.mono _ _ _
      | exact pentaglotref43_border.mono _ _ _
      | exact LeO.none _
      | refine LeO.ite ?_ ?_
      | refine LeO.bind ?_ (fun _ => ?_)

/-! DEFS pentaglotref43_Levels -/
mutual
def pentaglotref43_Levels.l0 : Nat → Int → List Int → List Int → Int → Option (List Int)
  | 0, _, _, _, _ => none
  | k + 1, x0, x1, x5, x6 => if x6 < (x1.length : Int) then ((pentaglotref43_reaches.f k x0 x1 x6 1).bind fun t196 => (if t196 = true then ((pentaglotref43_reaches.f k x0 x1 x6 (-1)).bind fun t197 => (pentaglotref43_Levels.j1 k x0 x1 x5 x6 t197)) else (pentaglotref43_Levels.j1 k x0 x1 x5 x6 false))) else (some x5)
def pentaglotref43_Levels.j1 : Nat → Int → List Int → List Int → Int → Bool → Option (List Int)
  | 0, _, _, _, _, _ => none
  | k + 1, x0, x1, x5, x6, x7 => if x0 = 0 then (if x7 = true then (if 0 ≤ x6 then (if x6 < (x1.length : Int) then ((pentaglotref43_Class.f k (rd x1 x6)).bind fun t199 => (pentaglotref43_Levels.j2 k x0 x1 x5 x6 x7 (t199 == 3))) else (none)) else (none)) else (pentaglotref43_Levels.j2 k x0 x1 x5 x6 x7 false)) else (pentaglotref43_Levels.j2 k x0 x1 x5 x6 x7 false)
def pentaglotref43_Levels.j2 : Nat → Int → List Int → List Int → Int → Bool → Bool → Option (List Int)
  | 0, _, _, _, _, _, _ => none
  | k + 1, x0, x1, x5, x6, x7, x27 => if x27 = true then (pentaglotref43_Levels.j3 k x0 x1 x5 x6 x7 x27) else (if x0 = 0 then (pentaglotref43_Levels.j3 k x0 x1 x5 x6 x7 false) else (pentaglotref43_Levels.j3 k x0 x1 x5 x6 x7 x7))
def pentaglotref43_Levels.j3 : Nat → Int → List Int → List Int → Int → Bool → Bool → Option (List Int)
  | 0, _, _, _, _, _, _ => none
  | k + 1, x0, x1, x5, x6, x7, x27 => if x27 = true then (if 0 ≤ x6 then (if x6 < (x5.length : Int) then (pentaglotref43_Levels.l0 k x0 x1 (x5.set (x6 : Int).toNat 2) (wrap64 (x6 + 1))) else (none)) else (none)) else (if x0 = 0 then (pentaglotref43_Levels.j4 k x0 x1 x5 x6 x7) else (pentaglotref43_Levels.j4 k x0 x1 x5 x6 false))
def pentaglotref43_Levels.j4 : Nat → Int → List Int → List Int → Int → Bool → Option (List Int)
  | 0, _, _, _, _, _ => none
  | k + 1, x0, x1, x5, x6, x49 => if x49 = true then (if 0 ≤ x6 then (if x6 < (x5.length : Int) then (pentaglotref43_Levels.l0 k x0 x1 (x5.set (x6 : Int).toNat 1) (wrap64 (x6 + 1))) else (none)) else (none)) else (if x0 = 0 then (pentaglotref43_Levels.l0 k x0 x1 x5 (wrap64 (x6 + 1))) else (if 0 ≤ x6 then (if x6 < (x5.length : Int) then (pentaglotref43_Levels.l0 k x0 x1 (x5.set (x6 : Int).toNat 1) (wrap64 (x6 + 1))) else (none)) else (none)))
end
def pentaglotref43_Levels.f (k : Nat) (a0 : Int) (l1 : List Int) : Option (List Int) := if 0 ≤ (l1.length : Int) then (if ((l1.length : Int) : Int).toNat ≤ 35184372088832 then (pentaglotref43_Levels.l0 k a0 l1 (List.replicate ((l1.length : Int) : Int).toNat 0) 0) else (none)) else (none)
theorem pentaglotref43_Levels.mono_l : ∀ k, (∀ y0 y1 y2 y3, LeO (pentaglotref43_Levels.l0 k y0 y1 y2 y3) (pentaglotref43_Levels.l0 (k + 1) y0 y1 y2 y3)) ∧ (∀ y0 y1 y2 y3 y4, LeO (pentaglotref43_Levels.j1 k y0 y1 y2 y3 y4) (pentaglotref43_Levels.j1 (k + 1) y0 y1 y2 y3 y4)) ∧ (∀ y0 y1 y2 y3 y4 y5, LeO (pentaglotref43_Levels.j2 k y0 y1 y2 y3 y4 y5) (pentaglotref43_Levels.j2 (k + 1) y0 y1 y2 y3 y4 y5)) ∧ (∀ y0 y1 y2 y3 y4 y5, LeO (pentaglotref43_Levels.j3 k y0 y1 y2 y3 y4 y5) (pentaglotref43_Levels.j3 (k + 1) y0 y1 y2 y3 y4 y5)) ∧ (∀ y0 y1 y2 y3 y4, LeO (pentaglotref43_Levels.j4 k y0 y1 y2 y3 y4) (pentaglotref43_Levels.j4 (k + 1) y0 y1 y2 y3 y4))
  | 0 => ⟨fun _ _ _ _ r h => by simp [pentaglotref43_Levels.l0] at h, fun _ _ _ _ _ r h => by simp [pentaglotref43_Levels.j1] at h, fun _ _ _ _ _ _ r h => by simp [pentaglotref43_Levels.j2] at h, fun _ _ _ _ _ _ r h => by simp [pentaglotref43_Levels.j3] at h, fun _ _ _ _ _ r h => by simp [pentaglotref43_Levels.j4] at h⟩
  | k + 1 => by
    obtain ⟨ih0, ih1, ih2, ih3, ih4⟩ := pentaglotref43_Levels.mono_l k
    refine ⟨?_, ?_, ?_, ?_, ?_⟩
    · intro y0 y1 y2 y3
      unfold pentaglotref43_Levels.l0
      repeat' first
      | (with_reducible exact ih0 _ _ _ _)
      | (with_reducible exact ih1 _ _ _ _ _)
      | (with_reducible exact ih2 _ _ _ _ _ _)
      | (with_reducible exact ih3 _ _ _ _ _ _)
      | (with_reducible exact ih4 _ _ _ _ _)
      | (with_reducible exact pentaglotref43_Class.mono _ _)
      | (with_reducible exact pentaglotref43_reaches.mono _ _ _ _ _)
      | (with_reducible exact LeO.refl _)
      | (with_reducible exact LeO.none _)
      | (with_reducible refine LeO.ite ?_ ?_)
      | (with_reducible refine LeO.bind ?_ (fun _ => ?_))
      | exact ih0 _ _ _ _
      | exact ih1 _ _ _ _ _
      | exact ih2 _ _ _ _ _ _
      | exact ih3 _ _ _ _ _ _
      | exact ih4 _ _ _ _ _
      | exact pentaglotref43_Class.mono _ _
      | exact pentaglotref43_reaches.mono _ _ _ _ _
      | exact LeO.none _
      | refine LeO.ite ?_ ?_
      | refine LeO.bind ?_ (fun _ => ?_)
    · intro y0 y1 y2 y3 y4
      unfold pentaglotref43_Levels.j1
      repeat' first
      | (with_reducible exact ih0 _ _ _ _)
      | (with_reducible exact ih1 _ _ _ _ _)
      | (with_reducible exact ih2 _ _ _ _ _ _)
      | (with_reducible exact ih3 _ _ _ _ _ _)
      | (with_reducible exact ih4 _ _ _ _ _)
      | (with_reducible exact pentaglotref43_Class.mono _ _)
      | (with_reducible exact pentaglotref43_reaches.mono _ _ _ _ _)
      | (with_reducible exact LeO.refl _)
      | (with_reducible exact LeO.none _)
      | (with_reducible refine LeO.ite ?_ ?_)
      | (with_reducible refine LeO.bind ?_ (fun _ => ?_))
      | exact ih0 _ _ _ _
      | exact ih1 _ _ _ _ _
      | exact ih2 _ _ _ _ _ _
      | exact ih3 _ _ _ _ _ _
      | exact ih4 _ _ _ _ _
      | exact pentaglotref43_Class.mono _ _
      | exact pentaglotref43_reaches.mono _ _ _ _ _
      | exact LeO.none _
      | refine LeO.ite ?_ ?_
      | refine LeO.bind ?_ (fun _ => ?_)
    · intro y0 y1 y2 y3 y4 y5
      unfold pentaglotref43_Levels.j2
      repeat' first
      | (with_reducible exact ih0 _ _ _ _)
      | (with_reducible exact ih1 _ _ _ _ _)
      | (with_reducible exact ih2 _ _ _ _ _ _)
      | (with_reducible exact ih3 _ _ _ _ _ _)
      | (with_reducible exact ih4 _ _ _ _ _)
      | (with_reducible exact pentaglotref43_Class.mono _ _)
      | (with_reducible exact pentaglotref43_reaches.mono _ _ _ _ _)
      | (with_reducible exact LeO.refl _)
      | (with_reducible exact LeO.none _)
      | (with_reducible refine LeO.ite ?_ ?_)
      | (with_reducible refine LeO.bind ?_ (fun _ => ?_))
      | exact ih0 _ _ _ _
      | exact ih1 _ _ _ _ _
      | exact ih2 _ _ _ _ _ _
      | exact ih3 _ _ _ _ _ _
      | exact ih4 _ _ _ _ _
      | exact pentaglotref43_Class.mono _ _
      | exact pentaglotref43_reaches.mono _ _ _ _ _
      | exact LeO.none _
      | refine LeO.ite ?_ ?_
      | refine LeO.bind ?_ (fun _ => ?_)
    · intro y0 y1 y2 y3 y4 y5
      unfold pentaglotref43_Levels.j3
      repeat' first
      | (with_reducible exact ih0 _ _ _ _)
      | (with_reducible exact ih1 _ _ _ _ _)
      | (with_reducible exact ih2 _ _ _ _ _ _)
      | (with_reducible exact ih3 _ _ _ _ _ _)
      | (with_reducible exact ih4 _ _ _ _ _)
      | (with_reducible exact pentaglotref43_Class.mono _ _)
      | (with_reducible exact pentaglotref43_reaches.mono _ _ _ _ _)
      | (with_reducible exact LeO.refl _)
      | (with_reducible exact LeO.none _)
      | (with_reducible refine LeO.ite ?_ ?_)
      | (with_reducible refine LeO.bind ?_ (fun _ => ?_))
      | exact ih0 _ _ _ _
      | exact ih1 _ _ _ _ _
      | exact ih2 _ _ _ _ _ _
      | exact ih3 _ _ _ _ _ _
      | exact ih4 _ _ _ _ _
      | exact pentaglotref43_Class.mono _ _
      | exact pentaglotref43_reaches.mono _ _ _ _ _
      | exact LeO.none _
      | refine LeO.ite ?_ ?_
      | refine LeO.bind ?_ (fun _ => ?_)
    · intro y0 y1 y2 y3 y4
      unfold pentaglotref43_Levels.j4
      repeat' first
      | (with_reducible exact ih0 _ _ _ _)
      | (with_reducible exact ih1 _ _ _ _ _)
      | (with_reducible exact ih2 _ _ _ _ _ _)
      | (with_reducible exact ih3 _ _ _ _ _ _)
      | (with_reducible exact ih4 _ _ _ _ _)
      | (with_reducible exact pentaglotref43_Class.mono _ _)
      | (with_reducible exact pentaglotref43_reaches.mono _ _ _ _ _)
      | (with_reducible exact LeO.refl _)
      | (with_reducible exact LeO.none _)
      | (with_reducible refine LeO.ite ?_ ?_)
      | (with_reducible refine LeO.bind ?_ (fun _ => ?_))
      | exact ih0 _ _ _ _
      | exact ih1 _ _ _ _ _
      | exact ih2 _ _ _ _ _ _
      | exact ih3 _ _ _ _ _ _
      | exact ih4 _ _ _ _ _
      | exact pentaglotref43_Class.mono _ _
      | exact pentaglotref43_reaches.mono _ _ _ _ _
      | exact LeO.none _
      | refine LeO.ite ?_ ?_
      | refine LeO.bind ?_ (fun _ => ?_)
theorem pentaglotref43_Levels.mono : ∀ a0 a1 k, LeO (pentaglotref43_Levels.f k a0 a1) (pentaglotref43_Levels.f (k + 1) a0 a1) := by
  intro a0 a1 k
  obtain ⟨ih0, ih1, ih2, ih3, ih4⟩ := pentaglotref43_Levels.mono_l k
  unfold pentaglotref43_Levels.f
  repeat' first
      | (with_reducible exact ih0 _ _ _ _)
      | (with_reducible exact ih1 _ _ _ _ _)
      | (with_reducible exact ih2 _ _ _ _ _ _)
      | (with_reducible exact ih3 _ _ _ _ _ _)
      | (with_reducible exact ih4 _ _ _ _ _)
      | (with_reducible exact pentaglotref43_Class.mono _ _)
      | (with_reducible exact pentaglotref43_reaches.mono _ _ _ _ _)
      | (with_reducible exact LeO.refl _)
      | (with_reducible exact LeO.none _)
      | (with_reducible refine LeO.ite ?_ ?_)
      | (with_reducible refine LeO.bind ?_ (fun _ => ?_))
      | exact ih0 _ _ _ _
      | exact ih1 _ _ _ _ _
      | exact ih2 _ _ _ _ _ _
      | exact ih3 _ _ _ _ _ _
      | exact ih4 _ _ _ _ _
      | exact pentaglotref43_Class.mono _ _
      | exact pentaglotref43_reaches.mono _ _ _ _ _
      | exact LeO.none _
      | refine LeO.ite ?_ ?_
      | refine LeO.bind ?_ (fun _ => ?_)

/-! DEFS pentaglotlaw43_BidiLevels -/
def pentaglotlaw43_BidiLevels.f (k : Nat) (a0 : Int) (a1 : ByteArray) : Option (Bool) := (pentaglotlaw43_short.f a1).bind fun t203 => (if t203 = true then ((utf8_ValidString.f a1).bind fun t205 => (if t205 = true then ((pentaglotlaw43_awake.f k).bind fun t219 => (if t219 = true then ((bidi_Levels.f k a0 a1).bind fun t220 => (if a1.size ≤ 70368744177664 then ((pentaglotref43_Levels.f k a0 (rns a1)).bind fun t226 => ((pentaglotref03_Ints.f k t220 t226).bind fun t229 => (some t229))) else (none))) else (some false))) else ((pentaglotlaw43_awake.f k).bind fun t206 => (if t206 = true then ((bidi_Levels.f k a0 a1).bind fun t207 => (if (t207.length : Int) = 0 then ((bidi_Order.f k a0 a1).bind fun t210 => (if (t210.length : Int) = 0 then ((bidi_Runs.f k a0 a1).bind fun t213 => (if (t213.length : Int) = 0 then ((bidi_Visual.f k a0 a1).bind fun t216 => (if t216.toList = ([] : List UInt8) then ((bidi_Logical.f k a0 a1).bind fun t217 => (if t217.toList = ([] : List UInt8) then ((bidi_Base.f k a1).bind fun t218 => (some (t218 == 0))) else (some false))) else (some false))) else (some false))) else (some false))) else (some false))) else (some false))))) else ((pentaglotlaw43_awake.f k).bind fun t204 => (some t204)))
theorem pentaglotlaw43_BidiLevels.mono : ∀ a0 a1 k, LeO (pentaglotlaw43_BidiLevels.f k a0 a1) (pentaglotlaw43_BidiLevels.f (k + 1) a0 a1) := by
  intro a0 a1 k
  unfold pentaglotlaw43_BidiLevels.f
  repeat' first
      | (with_reducible exact bidi_Base.mono _ _)
      | (with_reducible exact bidi_Levels.mono _ _ _)
      | (with_reducible exact bidi_Logical.mono _ _ _)
      | (with_reducible exact bidi_Order.mono _ _ _)
      | (with_reducible exact bidi_Runs.mono _ _ _)
      | (with_reducible exact bidi_Visual.mono _ _ _)
      | (with_reducible exact pentaglotlaw43_awake.mono _)
      | (with_reducible exact pentaglotref03_Ints.mono _ _ _)
      | (with_reducible exact pentaglotref43_Levels.mono _ _ _)
      | (with_reducible exact LeO.refl _)
      | (with_reducible exact LeO.none _)
      | (with_reducible refine LeO.ite ?_ ?_)
      | (with_reducible refine LeO.bind ?_ (fun _ => ?_))
      | exact bidi_Base.mono _ _
      | exact bidi_Levels.mono _ _ _
      | exact bidi_Logical.mono _ _ _
      | exact bidi_Order.mono _ _ _
      | exact bidi_Runs.mono _ _ _
      | exact bidi_Visual.mono _ _ _
      | exact pentaglotlaw43_awake.mono _
      | exact pentaglotref03_Ints.mono _ _ _
      | exact pentaglotref43_Levels.mono _ _ _
      | exact LeO.none _
      | refine LeO.ite ?_ ?_
      | refine LeO.bind ?_ (fun _ => ?_)

/-! DEFS pentaglotref43_turn -/
mutual
def pentaglotref43_turn.l0 : Nat → List Int → List Int → Int → List Int → Int → Option (List Int)
  | 0, _, _, _, _, _ => none
  | k + 1, x0, x1, x2, x7, x8 => if x8 < (x1.length : Int) then (pentaglotref43_turn.l1 k x0 x1 x2 x7 x8 x8) else (some x7)
def pentaglotref43_turn.j2 : Nat → List Int → List Int → Int → List Int → Int → Int → Option (List Int)
  | 0, _, _, _, _, _, _ => none
  | k + 1, x0, x1, x2, x7, x8, x9 => pentaglotref43_turn.l2 k x0 x1 x2 x7 x8 x9 (wrap64 (x9 - 1))
def pentaglotref43_turn.l2 : Nat → List Int → List Int → Int → List Int → Int → Int → Int → Option (List Int)
  | 0, _, _, _, _, _, _, _ => none
  | k + 1, x0, x1, x2, x7, x8, x9, x10 => if x10 ≥ x8 then (if 0 ≤ x10 then (if x10 < (x1.length : Int) then (if x7.length < 17592186044416 then (pentaglotref43_turn.l2 k x0 x1 x2 (x7 ++ [rd x1 x10]) x8 x9 (wrap64 (x10 - 1))) else (none)) else (none)) else (none)) else (if x9 < (x1.length : Int) then (if 0 ≤ x9 then (if x7.length < 17592186044416 then (pentaglotref43_turn.l0 k x0 x1 x2 (x7 ++ [rd x1 x9]) (wrap64 (x9 + 1))) else (none)) else (none)) else (pentaglotref43_turn.l0 k x0 x1 x2 x7 (wrap64 (x9 + 1))))
def pentaglotref43_turn.l1 : Nat → List Int → List Int → Int → List Int → Int → Int → Option (List Int)
  | 0, _, _, _, _, _, _ => none
  | k + 1, x0, x1, x2, x7, x8, x9 => if x9 < (x1.length : Int) then (if 0 ≤ x9 then (if 0 ≤ (rd x1 x9) then (if (rd x1 x9) < (x0.length : Int) then (if (rd x0 (rd x1 x9)) ≥ x2 then (pentaglotref43_turn.l1 k x0 x1 x2 x7 x8 (wrap64 (x9 + 1))) else (pentaglotref43_turn.j2 k x0 x1 x2 x7 x8 x9)) else (none)) else (none)) else (none)) else (pentaglotref43_turn.j2 k x0 x1 x2 x7 x8 x9)
end
def pentaglotref43_turn.f (k : Nat) (l0 : List Int) (l1 : List Int) (a2 : Int) : Option (List Int) := pentaglotref43_turn.l0 k l0 l1 a2 (([] : List Int)) 0
theorem pentaglotref43_turn.mono_l : ∀ k, (∀ y0 y1 y2 y3 y4, LeO (pentaglotref43_turn.l0 k y0 y1 y2 y3 y4) (pentaglotref43_turn.l0 (k + 1) y0 y1 y2 y3 y4)) ∧ (∀ y0 y1 y2 y3 y4 y5, LeO (pentaglotref43_turn.j2 k y0 y1 y2 y3 y4 y5) (pentaglotref43_turn.j2 (k + 1) y0 y1 y2 y3 y4 y5)) ∧ (∀ y0 y1 y2 y3 y4 y5 y6, LeO (pentaglotref43_turn.l2 k y0 y1 y2 y3 y4 y5 y6) (pentaglotref43_turn.l2 (k + 1) y0 y1 y2 y3 y4 y5 y6)) ∧ (∀ y0 y1 y2 y3 y4 y5, LeO (pentaglotref43_turn.l1 k y0 y1 y2 y3 y4 y5) (pentaglotref43_turn.l1 (k + 1) y0 y1 y2 y3 y4 y5))
  | 0 => ⟨fun _ _ _ _ _ r h => by simp [pentaglotref43_turn.l0] at h, fun _ _ _ _ _ _ r h => by simp [pentaglotref43_turn.j2] at h, fun _ _ _ _ _ _ _ r h => by simp [pentaglotref43_turn.l2] at h, fun _ _ _ _ _ _ r h => by simp [pentaglotref43_turn.l1] at h⟩
  | k + 1 => by
    obtain ⟨ih0, ih1, ih2, ih3⟩ := pentaglotref43_turn.mono_l k
    refine ⟨?_, ?_, ?_, ?_⟩
    · intro y0 y1 y2 y3 y4
      unfold pentaglotref43_turn.l0
      repeat' first
      | (with_reducible exact ih0 _ _ _ _ _)
      | (with_reducible exact ih1 _ _ _ _ _ _)
      | (with_reducible exact ih2 _ _ _ _ _ _ _)
      | (with_reducible exact ih3 _ _ _ _ _ _)
      | (with_reducible exact LeO.refl _)
      | (with_reducible exact LeO.none _)
      | (with_reducible refine LeO.ite ?_ ?_)
      | (with_reducible refine LeO.bind ?_ (fun _ => ?_))
      | exact ih0 _ _ _ _ _
      | exact ih1 _ _ _ _ _ _
      | exact ih2 _ _ _ _ _ _ _
      | exact ih3 _ _ _ _ _ _
      | exact LeO.none _
      | refine LeO.ite ?_ ?_
      | refine LeO.bind ?_ (fun _ => ?_)
    · intro y0 y1 y2 y3 y4 y5
      unfold pentaglotref43_turn.j2
      repeat' first
      | (with_reducible exact ih0 _ _ _ _ _)
      | (with_reducible exact ih1 _ _ _ _ _ _)
      | (with_reducible exact ih2 _ _ _ _ _ _ _)
      | (with_reducible exact ih3 _ _ _ _ _ _)
      | (with_reducible exact LeO.refl _)
      | (with_reducible exact LeO.none _)
      | (with_reducible refine LeO.ite ?_ ?_)
      | (with_reducible refine LeO.bind ?_ (fun _ => ?_))
      | exact ih0 _ _ _ _ _
      | exact ih1 _ _ _ _ _ _
      | exact ih2 _ _ _ _ _ _ _
      | exact ih3 _ _ _ _ _ _
      | exact LeO.none _
      | refine LeO.ite ?_ ?_
      | refine LeO.bind ?_ (fun _ => ?_)
    · intro y0 y1 y2 y3 y4 y5 y6
      unfold pentaglotref43_turn.l2
      repeat' first
      | (with_reducible exact ih0 _ _ _ _ _)
      | (with_reducible exact ih1 _ _ _ _ _ _)
      | (with_reducible exact ih2 _ _ _ _ _ _ _)
      | (with_reducible exact ih3 _ _ _ _ _ _)
      | (with_reducible exact LeO.refl _)
      | (with_reducible exact LeO.none _)
      | (with_reducible refine LeO.ite ?_ ?_)
      | (with_reducible refine LeO.bind ?_ (fun _ => ?_))
      | exact ih0 _ _ _ _ _
      | exact ih1 _ _ _ _ _ _
      | exact ih2 _ _ _ _ _ _ _
      | exact ih3 _ _ _ _ _ _
      | exact LeO.none _
      | refine LeO.ite ?_ ?_
      | refine LeO.bind ?_ (fun _ => ?_)
    · intro y0 y1 y2 y3 y4 y5
      unfold pentaglotref43_turn.l1
      repeat' first
      | (with_reducible exact ih0 _ _ _ _ _)
      | (with_reducible exact ih1 _ _ _ _ _ _)
      | (with_reducible exact ih2 _ _ _ _ _ _ _)
      | (with_reducible exact ih3 _ _ _ _ _ _)
      | (with_reducible exact LeO.refl _)
      | (with_reducible exact LeO.none _)
      | (with_reducible refine LeO.ite ?_ ?_)
      | (with_reducible refine LeO.bind ?_ (fun _ => ?_))
      | exact ih0 _ _ _ _ _
      | exact ih1 _ _ _ _ _ _
      | exact ih2 _ _ _ _ _ _ _
      | exact ih3 _ _ _ _ _ _
      | exact LeO.none _
      | refine LeO.ite ?_ ?_
      | refine LeO.bind ?_ (fun _ => ?_)
theorem pentaglotref43_turn.mono : ∀ a0 a1 a2 k, LeO (pentaglotref43_turn.f k a0 a1 a2) (pentaglotref43_turn.f (k + 1) a0 a1 a2) := by
  intro a0 a1 a2 k
  obtain ⟨ih0, ih1, ih2, ih3⟩ := pentaglotref43_turn.mono_l k
  unfold pentaglotref43_turn.f
  repeat' first
      | (with_reducible exact ih0 _ _ _ _ _)
      | (with_reducible exact ih1 _ _ _ _ _ _)
      | (with_reducible exact ih2 _ _ _ _ _ _ _)
      | (with_reducible exact ih3 _ _ _ _ _ _)
      | (with_reducible exact LeO.refl _)
      | (with_reducible exact LeO.none _)
      | (with_reducible refine LeO.ite ?_ ?_)
      | (with_reducible refine LeO.bind ?_ (fun _ => ?_))
      | exact ih0 _ _ _ _ _
      | exact ih1 _ _ _ _ _ _
      | exact ih2 _ _ _ _ _ _ _
      | exact ih3 _ _ _ _ _ _
      | exact LeO.none _
      | refine LeO.ite ?_ ?_
      | refine LeO.bind ?_ (fun _ => ?_)

/-! DEFS pentaglotref43_Order -/
def pentaglotref43_Order.l0 : Nat → List Int → List Int → List Int → Int → Option (List Int)
  | 0, _, _, _, _ => none
  | k + 1, x1, x5, x6, x7 => if x7 < (x1.length : Int) then (if 0 ≤ x7 then (if x7 < (x6.length : Int) then (pentaglotref43_Order.l0 k x1 x5 (x6.set (x7 : Int).toNat x7) (wrap64 (x7 + 1))) else (none)) else (none)) else ((pentaglotref43_turn.f k x5 x6 2).bind fun t250 => ((pentaglotref43_turn.f k x5 t250 1).bind fun t253 => (some t253)))
def pentaglotref43_Order.f (k : Nat) (a0 : Int) (l1 : List Int) : Option (List Int) := (pentaglotref43_Levels.f k a0 l1).bind fun t243 => (if 0 ≤ (l1.length : Int) then (if ((l1.length : Int) : Int).toNat ≤ 35184372088832 then (pentaglotref43_Order.l0 k l1 t243 (List.replicate ((l1.length : Int) : Int).toNat 0) 0) else (none)) else (none))
theorem pentaglotref43_Order.mono_l : ∀ k, (∀ y0 y1 y2 y3, LeO (pentaglotref43_Order.l0 k y0 y1 y2 y3) (pentaglotref43_Order.l0 (k + 1) y0 y1 y2 y3))
  | 0 => fun _ _ _ _ r h => by simp [pentaglotref43_Order.l0] at h
  | k + 1 => by
    have ih0 := pentaglotref43_Order.mono_l k
    · intro y0 y1 y2 y3
      unfold pentaglotref43_Order.l0
      repeat' first
      | (with_reducible exact ih0 _ _ _ _)
      | (with_reducible exact pentaglotref43_Levels.mono _ _ _)
      | (with_reducible exact pentaglotref43_turn.mono _ _ _ _)
      | (with_reducible exact LeO.refl _)
      | (with_reducible exact LeO.none _)
      | (with_reducible refine LeO.ite ?_ ?_)
      | (with_reducible refine LeO.bind ?_ (fun _ => ?_))
      | exact ih0 _ _ _ _
      | exact pentaglotref43_Levels.mono _ _ _
      | exact pentaglotref43_turn.mono _ _ _ _
      | exact LeO.none _
      | refine LeO.ite ?_ ?_
      | refine LeO.bind ?_ (fun _ => ?_)
theorem pentaglotref43_Order.mono : ∀ a0 a1 k, LeO (pentaglotref43_Order.f k a0 a1) (pentaglotref43_Order.f (k + 1) a0 a1) := by
  intro a0 a1 k
  have ih0 := pentaglotref43_Order.mono_l k
  unfold pentaglotref43_Order.f
  repeat' first
      | (with_reducible exact ih0 _ _ _ _)
      | (with_reducible exact pentaglotref43_Levels.mono _ _ _)
      | (with_reducible exact pentaglotref43_turn.mono _ _ _ _)
      | (with_reducible exact LeO.refl _)
      | (with_reducible exact LeO.none _)
      | (with_reducible refine LeO.ite ?_ ?_)
      | (with_reducible refine LeO.bind ?_ (fun _ => ?_))
      | exact ih0 _ _ _ _
      | exact pentaglotref43_Levels.mono _ _ _
      | exact pentaglotref43_turn.mono _ _ _ _
      | exact LeO.none _
      | refine LeO.ite ?_ ?_
      | refine LeO.bind ?_ (fun _ => ?_)

/-! DEFS pentaglotlaw43_BidiOrder -/
def pentaglotlaw43_BidiOrder.j0 : Nat → Int → ByteArray → Bool → Option (Bool)
  | 0, _, _, _ => none
  | k + 1, x0, x1, x12 => if x12 = true then ((pentaglotlaw43_awake.f k).bind fun t258 => (some t258)) else ((pentaglotlaw43_awake.f k).bind fun t259 => (if t259 = true then ((bidi_Order.f k x0 x1).bind fun t260 => (if x1.size ≤ 70368744177664 then ((pentaglotref43_Order.f k x0 (rns x1)).bind fun t266 => ((pentaglotref03_Ints.f k t260 t266).bind fun t269 => (some t269))) else (none))) else (some false)))
def pentaglotlaw43_BidiOrder.f (k : Nat) (a0 : Int) (a1 : ByteArray) : Option (Bool) := (pentaglotlaw43_short.f a1).bind fun t256 => (if t256 = true then ((utf8_ValidString.f a1).bind fun t257 => (pentaglotlaw43_BidiOrder.j0 k a0 a1 (!t257))) else (pentaglotlaw43_BidiOrder.j0 k a0 a1 true))
theorem pentaglotlaw43_BidiOrder.mono_l : ∀ k, (∀ y0 y1 y2, LeO (pentaglotlaw43_BidiOrder.j0 k y0 y1 y2) (pentaglotlaw43_BidiOrder.j0 (k + 1) y0 y1 y2))
  | 0 => fun _ _ _ r h => by simp [pentaglotlaw43_BidiOrder.j0] at h
  | k + 1 => by
    have ih0 := pentaglotlaw43_BidiOrder.mono_l k
    · intro y0 y1 y2
      unfold pentaglotlaw43_BidiOrder.j0
      repeat' first
      | (with_reducible exact ih0 _ _ _)
      | (with_reducible exact bidi_Order.mono _ _ _)
      | (with_reducible exact pentaglotlaw43_awake.mono _)
      | (with_reducible exact pentaglotref03_Ints.mono _ _ _)
      | (with_reducible exact pentaglotref43_Order.mono _ _ _)
      | (with_reducible exact LeO.refl _)
      | (with_reducible exact LeO.none _)
      | (with_reducible refine LeO.ite ?_ ?_)
      | (with_reducible refine LeO.bind ?_ (fun _ => ?_))
      | exact ih0 _ _ _
      | exact bidi_Order.mono _ _ _
      | exact pentaglotlaw43_awake.mono _
      | exact pentaglotref03_Ints.mono _ _ _
      | exact pentaglotref43_Order.mono _ _ _
      | exact LeO.none _
      | refine LeO.ite ?_ ?_
      | refine LeO.bind ?_ (fun _ => ?_)
theorem pentaglotlaw43_BidiOrder.mono : ∀ a0 a1 k, LeO (pentaglotlaw43_BidiOrder.f k a0 a1) (pentaglotlaw43_BidiOrder.f (k + 1) a0 a1) := by
  intro a0 a1 k
  have ih0 := pentaglotlaw43_BidiOrder.mono_l k
  unfold pentaglotlaw43_BidiOrder.f
  repeat' first
      | (with_reducible exact ih0 _ _ _)
      | (with_reducible exact bidi_Order.mono _ _ _)
      | (with_reducible exact pentaglotlaw43_awake.mono _)
      | (with_reducible exact pentaglotref03_Ints.mono _ _ _)
      | (with_reducible exact pentaglotref43_Order.mono _ _ _)
      | (with_reducible exact LeO.refl _)
      | (with_reducible exact LeO.none _)
      | (with_reducible refine LeO.ite ?_ ?_)
      | (with_reducible refine LeO.bind ?_ (fun _ => ?_))
      | exact ih0 _ _ _
      | exact bidi_Order.mono _ _ _
      | exact pentaglotlaw43_awake.mono _
      | exact pentaglotref03_Ints.mono _ _ _
      | exact pentaglotref43_Order.mono _ _ _
      | exact LeO.none _
      | refine LeO.ite ?_ ?_
      | refine LeO.bind ?_ (fun _ => ?_)

/-! DEFS pentaglotlaw43_BidiVisual -/
mutual
def pentaglotlaw43_BidiVisual.j0 : Nat → Int → ByteArray → Bool → Option (Bool)
  | 0, _, _, _ => none
  | k + 1, x0, x1, x18 => if x18 = true then ((pentaglotlaw43_awake.f k).bind fun t272 => (some t272)) else (if x1.size ≤ 70368744177664 then ((some (rns x1 : List Int)).bind fun y273 => ((bidi_Order.f k x0 x1).bind fun t276 => (if 0 ≤ (y273.length : Int) then (if ((y273.length : Int) : Int).toNat ≤ 281474976710656 then (pentaglotlaw43_BidiVisual.l0 k x0 x1 y273 t276 (List.replicate ((y273.length : Int) : Int).toNat false) (([] : List Int)) 0) else (none)) else (none)))) else (none))
def pentaglotlaw43_BidiVisual.l0 : Nat → Int → ByteArray → List Int → List Int → List Bool → List Int → Int → Option (Bool)
  | 0, _, _, _, _, _, _, _ => none
  | k + 1, x0, x1, x5, x6, x7, x8, x9 => if x9 < (x6.length : Int) then (if 0 ≤ x9 then (if (rd x6 x9) < 0 then (some false) else (if (rd x6 x9) ≥ (x5.length : Int) then (some false) else (if 0 ≤ (rd x6 x9) then (if (rd x6 x9) < (x7.length : Int) then (if rdOf false x7 (rd x6 x9) = true then (some false) else (if (rd x6 x9) < (x5.length : Int) then (if x8.length < 35184372088832 then (pentaglotlaw43_BidiVisual.l0 k x0 x1 x5 x6 (x7.set ((rd x6 x9) : Int).toNat true) (x8 ++ [rd x5 (rd x6 x9)]) (wrap64 (x9 + 1))) else (none)) else (none))) else (none)) else (none)))) else (none)) else ((pentaglotlaw43_awake.f k).bind fun t292 => (if t292 = true then (if (x6.length : Int) = (x5.length : Int) then ((bidi_Visual.f k x0 x1).bind fun t293 => (some (t293.toList == (strOfRunes x8).toList))) else (some false)) else (some false)))
end
def pentaglotlaw43_BidiVisual.f (k : Nat) (a0 : Int) (a1 : ByteArray) : Option (Bool) := (pentaglotlaw43_short.f a1).bind fun t270 => (if t270 = true then ((utf8_ValidString.f a1).bind fun t271 => (pentaglotlaw43_BidiVisual.j0 k a0 a1 (!t271))) else (pentaglotlaw43_BidiVisual.j0 k a0 a1 true))
theorem pentaglotlaw43_BidiVisual.mono_l : ∀ k, (∀ y0 y1 y2, LeO (pentaglotlaw43_BidiVisual.j0 k y0 y1 y2) (pentaglotlaw43_BidiVisual.j0 (k + 1) y0 y1 y2)) ∧ (∀ y0 y1 y2 y3 y4 y5 y6, LeO (pentaglotlaw43_BidiVisual.l0 k y0 y1 y2 y3 y4 y5 y6) (pentaglotlaw43_BidiVisual.l0 (k + 1) y0 y1 y2 y3 y4 y5 y6))
  | 0 => ⟨fun _ _ _ r h => by simp [pentaglotlaw43_BidiVisual.j0] at h, fun _ _ _ _ _ _ _ r h => by simp [pentaglotlaw43_BidiVisual.l0] at h⟩
  | k + 1 => by
    obtain ⟨ih0, ih1⟩ := pentaglotlaw43_BidiVisual.mono_l k
    refine ⟨?_, ?_⟩
    · intro y0 y1 y2
      unfold pentaglotlaw43_BidiVisual.j0
      repeat' first
      | (with_reducible exact ih0 _ _ _)
      | (with_reducible exact ih1 _ _ _ _ _ _ _)
      | (with_reducible exact bidi_Order.mono _ _ _)
      | (with_reducible exact bidi_Visual.mono _ _ _)
      | (with_reducible exact pentaglotlaw43_awake.mono _)
      | (with_reducible exact LeO.refl _)
      | (with_reducible exact LeO.none _)
      | (with_reducible refine LeO.ite ?_ ?_)
      | (with_reducible refine LeO.bind ?_ (fun _ => ?_))
      | exact ih0 _ _ _
      | exact ih1 _ _ _ _ _ _ _
      | exact bidi_Order.mono _ _ _
      | exact bidi_Visual.mono _ _ _
      | exact pentaglotlaw43_awake.mono _
      | exact LeO.none _
      | refine LeO.ite ?_ ?_
      | refine LeO.bind ?_ (fun _ => ?_)
    · intro y0 y1 y2 y3 y4 y5 y6
      unfold pentaglotlaw43_BidiVisual.l0
      repeat' first
      | (with_reducible exact ih0 _ _ _)
      | (with_reducible exact ih1 _ _ _ _ _ _ _)
      | (with_reducible exact bidi_Order.mono _ _ _)
      | (with_reducible exact bidi_Visual.mono _ _ _)
      | (with_reducible exact pentaglotlaw43_awake.mono _)
      | (with_reducible exact LeO.refl _)
      | (with_reducible exact LeO.none _)
      | (with_reducible refine LeO.ite ?_ ?_)
      | (with_reducible refine LeO.bind ?_ (fun _ => ?_))
      | exact ih0 _ _ _
      | exact ih1 _ _ _ _ _ _ _
      | exact bidi_Order.mono _ _ _
      | exact bidi_Visual.mono _ _ _
      | exact pentaglotlaw43_awake.mono _
      | exact LeO.none _
      | refine LeO.ite ?_ ?_
      | refine LeO.bind ?_ (fun _ => ?_)
theorem pentaglotlaw43_BidiVisual.mono : ∀ a0 a1 k, LeO (pentaglotlaw43_BidiVisual.f k a0 a1) (pentaglotlaw43_BidiVisual.f (k + 1) a0 a1) := by
  intro a0 a1 k
  obtain ⟨ih0, ih1⟩ := pentaglotlaw43_BidiVisual.mono_l k
  unfold pentaglotlaw43_BidiVisual.f
  repeat' first
      | (with_reducible exact ih0 _ _ _)
      | (with_reducible exact ih1 _ _ _ _ _ _ _)
      | (with_reducible exact bidi_Order.mono _ _ _)
      | (with_reducible exact bidi_Visual.mono _ _ _)
      | (with_reducible exact pentaglotlaw43_awake.mono _)
      | (with_reducible exact LeO.refl _)
      | (with_reducible exact LeO.none _)
      | (with_reducible refine LeO.ite ?_ ?_)
      | (with_reducible refine LeO.bind ?_ (fun _ => ?_))
      | exact ih0 _ _ _
      | exact ih1 _ _ _ _ _ _ _
      | exact bidi_Order.mono _ _ _
      | exact bidi_Visual.mono _ _ _
      | exact pentaglotlaw43_awake.mono _
      | exact LeO.none _
      | refine LeO.ite ?_ ?_
      | refine LeO.bind ?_ (fun _ => ?_)

/-! DEFS pentaglotlaw43_BidiLogical -/
def pentaglotlaw43_BidiLogical.j0 : Nat → Int → ByteArray → Bool → Option (Bool)
  | 0, _, _, _ => none
  | k + 1, x0, x1, x12 => if x12 = true then ((pentaglotlaw43_awake.f k).bind fun t296 => (some t296)) else ((pentaglotlaw43_awake.f k).bind fun t297 => (if t297 = true then ((bidi_Visual.f k x0 x1).bind fun t298 => ((bidi_Logical.f k x0 t298).bind fun t299 => (if t299.toList = x1.toList then ((bidi_Logical.f k x0 x1).bind fun t300 => ((bidi_Visual.f k x0 t300).bind fun t301 => (if t301.toList = x1.toList then ((bidi_Visual.f k x0 x1).bind fun t302 => ((bidi_Visual.f k x0 t302).bind fun t303 => (some (t303.toList == x1.toList)))) else (some false)))) else (some false)))) else (some false)))
def pentaglotlaw43_BidiLogical.f (k : Nat) (a0 : Int) (a1 : ByteArray) : Option (Bool) := (pentaglotlaw43_short.f a1).bind fun t294 => (if t294 = true then ((utf8_ValidString.f a1).bind fun t295 => (pentaglotlaw43_BidiLogical.j0 k a0 a1 (!t295))) else (pentaglotlaw43_BidiLogical.j0 k a0 a1 true))
theorem pentaglotlaw43_BidiLogical.mono_l : ∀ k, (∀ y0 y1 y2, LeO (pentaglotlaw43_BidiLogical.j0 k y0 y1 y2) (pentaglotlaw43_BidiLogical.j0 (k + 1) y0 y1 y2))
  | 0 => fun _ _ _ r h => by simp [pentaglotlaw43_BidiLogical.j0] at h
  | k + 1 => by
    have ih0 := pentaglotlaw43_BidiLogical.mono_l k
    · intro y0 y1 y2
      unfold pentaglotlaw43_BidiLogical.j0
      repeat' first
      | (with_reducible exact ih0 _ _ _)
      | (with_reducible exact bidi_Logical.mono _ _ _)
      | (with_reducible exact bidi_Visual.mono _ _ _)
      | (with_reducible exact pentaglotlaw43_awake.mono _)
      | (with_reducible exact LeO.refl _)
      | (with_reducible exact LeO.none _)
      | (with_reducible refine LeO.ite ?_ ?_)
      | (with_reducible refine LeO.bind ?_ (fun _ => ?_))
      | exact ih0 _ _ _
      | exact bidi_Logical.mono _ _ _
      | exact bidi_Visual.mono _ _ _
      | exact pentaglotlaw43_awake.mono _
      | exact LeO.none _
      | refine LeO.ite ?_ ?_
      | refine LeO.bind ?_ (fun _ => ?_)
theorem pentaglotlaw43_BidiLogical.mono : ∀ a0 a1 k, LeO (pentaglotlaw43_BidiLogical.f k a0 a1) (pentaglotlaw43_BidiLogical.f (k + 1) a0 a1) := by
  intro a0 a1 k
  have ih0 := pentaglotlaw43_BidiLogical.mono_l k
  unfold pentaglotlaw43_BidiLogical.f
  repeat' first
      | (with_reducible exact ih0 _ _ _)
      | (with_reducible exact bidi_Logical.mono _ _ _)
      | (with_reducible exact bidi_Visual.mono _ _ _)
      | (with_reducible exact pentaglotlaw43_awake.mono _)
      | (with_reducible exact LeO.refl _)
      | (with_reducible exact LeO.none _)
      | (with_reducible refine LeO.ite ?_ ?_)
      | (with_reducible refine LeO.bind ?_ (fun _ => ?_))
      | exact ih0 _ _ _
      | exact bidi_Logical.mono _ _ _
      | exact bidi_Visual.mono _ _ _
      | exact pentaglotlaw43_awake.mono _
      | exact LeO.none _
      | refine LeO.ite ?_ ?_
      | refine LeO.bind ?_ (fun _ => ?_)

/-! DEFS pentaglotlaw43_BidiRuns -/
mutual
def pentaglotlaw43_BidiRuns.j0 : Nat → Int → ByteArray → Bool → Option (Bool)
  | 0, _, _, _ => none
  | k + 1, x0, x1, x22 => if x22 = true then ((pentaglotlaw43_awake.f k).bind fun t306 => (some t306)) else (if x1.size ≤ 70368744177664 then ((some (rns x1 : List Int)).bind fun y307 => ((bidi_Levels.f k x0 x1).bind fun t310 => ((bidi_Order.f k x0 x1).bind fun t313 => ((bidi_Runs.f k x0 x1).bind fun t316 => (if (t310.length : Int) = (y307.length : Int) then (pentaglotlaw43_BidiRuns.j1 k y307 t310 t313 t316 ((t313.length : Int) != (y307.length : Int))) else (pentaglotlaw43_BidiRuns.j1 k y307 t310 t313 t316 true)))))) else (none))
def pentaglotlaw43_BidiRuns.j1 : Nat → List Int → List Int → List Int → List (S38) → Bool → Option (Bool)
  | 0, _, _, _, _, _ => none
  | k + 1, x5, x6, x7, x8, x46 => if x46 = true then (some false) else (pentaglotlaw43_BidiRuns.l0 k x5 x6 x7 x8 0 0)
def pentaglotlaw43_BidiRuns.l0 : Nat → List Int → List Int → List Int → List (S38) → Int → Int → Option (Bool)
  | 0, _, _, _, _, _, _ => none
  | k + 1, x5, x6, x7, x8, x9, x10 => if x10 < (x8.length : Int) then (if 0 ≤ x10 then (if ((rd_T38 x8 x10).f0) < 0 then (pentaglotlaw43_BidiRuns.j3 k x5 x6 x7 x8 x9 x10 ((rd_T38 x8 x10).f0) ((rd_T38 x8 x10).f1) true) else (if ((rd_T38 x8 x10).f0) ≥ ((rd_T38 x8 x10).f1) then (pentaglotlaw43_BidiRuns.j3 k x5 x6 x7 x8 x9 x10 ((rd_T38 x8 x10).f0) ((rd_T38 x8 x10).f1) true) else (if ((rd_T38 x8 x10).f1) > (x5.length : Int) then (pentaglotlaw43_BidiRuns.j3 k x5 x6 x7 x8 x9 x10 ((rd_T38 x8 x10).f0) ((rd_T38 x8 x10).f1) true) else (if ((rd_T38 x8 x10).f0) > 0 then (if 0 ≤ (wrap64 (((rd_T38 x8 x10).f0) - 1)) then (if (wrap64 (((rd_T38 x8 x10).f0) - 1)) < (x6.length : Int) then (if 0 ≤ ((rd_T38 x8 x10).f0) then (if ((rd_T38 x8 x10).f0) < (x6.length : Int) then (if (rd x6 (wrap64 (((rd_T38 x8 x10).f0) - 1))) = (rd x6 ((rd_T38 x8 x10).f0)) then (pentaglotlaw43_BidiRuns.j3 k x5 x6 x7 x8 x9 x10 ((rd_T38 x8 x10).f0) ((rd_T38 x8 x10).f1) true) else (if ((rd_T38 x8 x10).f1) < (x5.length : Int) then (if 0 ≤ ((rd_T38 x8 x10).f1) then (if ((rd_T38 x8 x10).f1) < (x6.length : Int) then (pentaglotlaw43_BidiRuns.j3 k x5 x6 x7 x8 x9 x10 ((rd_T38 x8 x10).f0) ((rd_T38 x8 x10).f1) ((rd x6 ((rd_T38 x8 x10).f1)) == (rd x6 ((rd_T38 x8 x10).f0)))) else (none)) else (none)) else (pentaglotlaw43_BidiRuns.j3 k x5 x6 x7 x8 x9 x10 ((rd_T38 x8 x10).f0) ((rd_T38 x8 x10).f1) false))) else (none)) else (none)) else (none)) else (none)) else (if ((rd_T38 x8 x10).f1) < (x5.length : Int) then (if 0 ≤ ((rd_T38 x8 x10).f1) then (if ((rd_T38 x8 x10).f1) < (x6.length : Int) then (if 0 ≤ ((rd_T38 x8 x10).f0) then (if ((rd_T38 x8 x10).f0) < (x6.length : Int) then (pentaglotlaw43_BidiRuns.j3 k x5 x6 x7 x8 x9 x10 ((rd_T38 x8 x10).f0) ((rd_T38 x8 x10).f1) ((rd x6 ((rd_T38 x8 x10).f1)) == (rd x6 ((rd_T38 x8 x10).f0)))) else (none)) else (none)) else (none)) else (none)) else (pentaglotlaw43_BidiRuns.j3 k x5 x6 x7 x8 x9 x10 ((rd_T38 x8 x10).f0) ((rd_T38 x8 x10).f1) false)))))) else (none)) else ((pentaglotlaw43_awake.f k).bind fun t319 => (if t319 = true then (some (x9 == (x5.length : Int))) else (some false)))
def pentaglotlaw43_BidiRuns.j3 : Nat → List Int → List Int → List Int → List (S38) → Int → Int → Int → Int → Bool → Option (Bool)
  | 0, _, _, _, _, _, _, _, _, _ => none
  | k + 1, x5, x6, x7, x8, x9, x10, x11, x12, x108 => if x108 = true then (some false) else (pentaglotlaw43_BidiRuns.l1 k x5 x6 x7 x8 x9 x10 x11 x12 x11)
def pentaglotlaw43_BidiRuns.l1 : Nat → List Int → List Int → List Int → List (S38) → Int → Int → Int → Int → Int → Option (Bool)
  | 0, _, _, _, _, _, _, _, _, _ => none
  | k + 1, x5, x6, x7, x8, x9, x10, x11, x12, x13 => if x13 < x12 then (if 0 ≤ x11 then (if x11 < (x6.length : Int) then (if (Int.tmod (rd x6 x11) 2) = 1 then (if 0 ≤ x13 then (if x13 < (x6.length : Int) then (if (rd x6 x13) = (rd x6 x11) then (if x9 ≥ (x7.length : Int) then (some false) else (if 0 ≤ x9 then (if x9 < (x7.length : Int) then (if (rd x7 x9) = (wrap64 ((wrap64 (x12 - 1)) - (wrap64 (x13 - x11)))) then (pentaglotlaw43_BidiRuns.l1 k x5 x6 x7 x8 (wrap64 (x9 + 1)) x10 x11 x12 (wrap64 (x13 + 1))) else (some false)) else (none)) else (none))) else (some false)) else (none)) else (none)) else (if 0 ≤ x13 then (if x13 < (x6.length : Int) then (if (rd x6 x13) = (rd x6 x11) then (if x9 ≥ (x7.length : Int) then (some false) else (if 0 ≤ x9 then (if x9 < (x7.length : Int) then (if (rd x7 x9) = x13 then (pentaglotlaw43_BidiRuns.l1 k x5 x6 x7 x8 (wrap64 (x9 + 1)) x10 x11 x12 (wrap64 (x13 + 1))) else (some false)) else (none)) else (none))) else (some false)) else (none)) else (none))) else (none)) else (none)) else (pentaglotlaw43_BidiRuns.l0 k x5 x6 x7 x8 x9 (wrap64 (x10 + 1)))
end
def pentaglotlaw43_BidiRuns.f (k : Nat) (a0 : Int) (a1 : ByteArray) : Option (Bool) := (pentaglotlaw43_short.f a1).bind fun t304 => (if t304 = true then ((utf8_ValidString.f a1).bind fun t305 => (pentaglotlaw43_BidiRuns.j0 k a0 a1 (!t305))) else (pentaglotlaw43_BidiRuns.j0 k a0 a1 true))
theorem pentaglotlaw43_BidiRuns.mono_l : ∀ k, (∀ y0 y1 y2, LeO (pentaglotlaw43_BidiRuns.j0 k y0 y1 y2) (pentaglotlaw43_BidiRuns.j0 (k + 1) y0 y1 y2)) ∧ (∀ y0 y1 y2 y3 y4, LeO (pentaglotlaw43_BidiRuns.j1 k y0 y1 y2 y3 y4) (pentaglotlaw43_BidiRuns.j1 (k + 1) y0 y1 y2 y3 y4)) ∧ (∀ y0 y1 y2 y3 y4 y5, LeO (pentaglotlaw43_BidiRuns.l0 k y0 y1 y2 y3 y4 y5) (pentaglotlaw43_BidiRuns.l0 (k + 1) y0 y1 y2 y3 y4 y5)) ∧ (∀ y0 y1 y2 y3 y4 y5 y6 y7 y8, LeO (pentaglotlaw43_BidiRuns.j3 k y0 y1 y2 y3 y4 y5 y6 y7 y8) (pentaglotlaw43_BidiRuns.j3 (k + 1) y0 y1 y2 y3 y4 y5 y6 y7 y8)) ∧ (∀ y0 y1 y2 y3 y4 y5 y6 y7 y8, LeO (pentaglotlaw43_BidiRuns.l1 k y0 y1 y2 y3 y4 y5 y6 y7 y8) (pentaglotlaw43_BidiRuns.l1 (k + 1) y0 y1 y2 y3 y4 y5 y6 y7 y8))
  | 0 => ⟨fun _ _ _ r h => by simp [pentaglotlaw43_BidiRuns.j0] at h, fun _ _ _ _ _ r h => by simp [pentaglotlaw43_BidiRuns.j1] at h, fun _ _ _ _ _ _ r h => by simp [pentaglotlaw43_BidiRuns.l0] at h, fun _ _ _ _ _ _ _ _ _ r h => by simp [pentaglotlaw43_BidiRuns.j3] at h, fun _ _ _ _ _ _ _ _ _ r h => by simp [pentaglotlaw43_BidiRuns.l1] at h⟩
  | k + 1 => by
    obtain ⟨ih0, ih1, ih2, ih3, ih4⟩ := pentaglotlaw43_BidiRuns.mono_l k
    refine ⟨?_, ?_, ?_, ?_, ?_⟩
    · intro y0 y1 y2
      unfold pentaglotlaw43_BidiRuns.j0
      repeat' first
      | (with_reducible exact ih0 _ _ _)
      | (with_reducible exact ih1 _ _ _ _ _)
      | (with_reducible exact ih2 _ _ _ _ _ _)
      | (with_reducible exact ih3 _ _ _ _ _ _ _ _ _)
      | (with_reducible exact ih4 _ _ _ _ _ _ _ _ _)
      | (with_reducible exact bidi_Levels.mono _ _ _)
      | (with_reducible exact bidi_Order.mono _ _ _)
      | (with_reducible exact bidi_Runs.mono _ _ _)
      | (with_reducible exact pentaglotlaw43_awake.mono _)
      | (with_reducible exact LeO.refl _)
      | (with_reducible exact LeO.none _)
      | (with_reducible refine LeO.ite ?_ ?_)
      | (with_reducible refine LeO.bind ?_ (fun _ => ?_))
      | exact ih0 _ _ _
      | exact ih1 _ _ _ _ _
      | exact ih2 _ _ _ _ _ _
      | exact ih3 _ _ _ _ _ _ _ _ _
      | exact ih4 _ _ _ _ _ _ _ _ _
      | exact bidi_Levels.mono _ _ _
      | exact bidi_Order.mono _ _ _
      | exact bidi_Runs.mono _ _ _
      | exact pentaglotlaw43_awake.mono _
      | exact LeO.none _
      | refine LeO.ite ?_ ?_
      | refine LeO.bind ?_ (fun _ => ?_)
    · intro y0 y1 y2 y3 y4
      unfold pentaglotlaw43_BidiRuns.j1
      repeat' first
      | (with_reducible exact ih0 _ _ _)
      | (with_reducible exact ih1 _ _ _ _ _)
      | (with_reducible exact ih2 _ _ _ _ _ _)
      | (with_reducible exact ih3 _ _ _ _ _ _ _ _ _)
      | (with_reducible exact ih4 _ _ _ _ _ _ _ _ _)
      | (with_reducible exact bidi_Levels.mono _ _ _)
      | (with_reducible exact bidi_Order.mono _ _ _)
      | (with_reducible exact bidi_Runs.mono _ _ _)
      | (with_reducible exact pentaglotlaw43_awake.mono _)
      | (with_reducible exact LeO.refl _)
      | (with_reducible exact LeO.none _)
      | (with_reducible refine LeO.ite ?_ ?_)
      | (with_reducible refine LeO.bind ?_ (fun _ => ?_))
      | exact ih0 _ _ _
      | exact ih1 _ _ _ _ _
      | exact ih2 _ _ _ _ _ _
      | exact ih3 _ _ _ _ _ _ _ _ _
      | exact ih4 _ _ _ _ _ _ _ _ _
      | exact bidi_Levels.mono _ _ _
      | exact bidi_Order.mono _ _ _
      | exact bidi_Runs.mono _ _ _
      | exact pentaglotlaw43_awake.mono _
      | exact LeO.none _
      | refine LeO.ite ?_ ?_
      | refine LeO.bind ?_ (fun _ => ?_)
    · intro y0 y1 y2 y3 y4 y5
      unfold pentaglotlaw43_BidiRuns.l0
      repeat' first
      | (with_reducible exact ih0 _ _ _)
      | (with_reducible exact ih1 _ _ _ _ _)
      | (with_reducible exact ih2 _ _ _ _ _ _)
      | (with_reducible exact ih3 _ _ _ _ _ _ _ _ _)
      | (with_reducible exact ih4 _ _ _ _ _ _ _ _ _)
      | (with_reducible exact bidi_Levels.mono _ _ _)
      | (with_reducible exact bidi_Order.mono _ _ _)
      | (with_reducible exact bidi_Runs.mono _ _ _)
      | (with_reducible exact pentaglotlaw43_awake.mono _)
      | (with_reducible exact LeO.refl _)
      | (with_reducible exact LeO.none _)
      | (with_reducible refine LeO.ite ?_ ?_)
      | (with_reducible refine LeO.bind ?_ (fun _ => ?_))
      | exact ih0 _ _ _
      | exact ih1 _ _ _ _ _
      | exact ih2 _ _ _ _ _ _
      | exact ih3 _ _ _ _ _ _ _ _ _
      | exact ih4 _ _ _ _ _ _ _ _ _
      | exact bidi_Levels.mono _ _ _
      | exact bidi_Order.mono _ _ _
      | exact bidi_Runs.mono _ _ _
      | exact pentaglotlaw43_awake.mono _
      | exact LeO.none _
      | refine LeO.ite ?_ ?_
      | refine LeO.bind ?_ (fun _ => ?_)
    · intro y0 y1 y2 y3 y4 y5 y6 y7 y8
      unfold pentaglotlaw43_BidiRuns.j3
      repeat' first
      | (with_reducible exact ih0 _ _ _)
      | (with_reducible exact ih1 _ _ _ _ _)
      | (with_reducible exact ih2 _ _ _ _ _ _)
      | (with_reducible exact ih3 _ _ _ _ _ _ _ _ _)
      | (with_reducible exact ih4 _ _ _ _ _ _ _ _ _)
      | (with_reducible exact bidi_Levels.mono _ _ _)
      | (with_reducible exact bidi_Order.mono _ _ _)
      | (with_reducible exact bidi_Runs.mono _ _ _)
      | (with_reducible exact pentaglotlaw43_awake.mono _)
      | (with_reducible exact LeO.refl _)
      | (with_reducible exact LeO.none _)
      | (with_reducible refine LeO.ite ?_ ?_)
      | (with_reducible refine LeO.bind ?_ (fun _ => ?_))
      | exact ih0 _ _ _
      | exact ih1 _ _ _ _ _
      | exact ih2 _ _ _ _ _ _
      | exact ih3 _ _ _ _ _ _ _ _ _
      | exact ih4 _ _ _ _ _ _ _ _ _
      | exact bidi_Levels.mono _ _ _
      | exact bidi_Order.mono _ _ _
      | exact bidi_Runs.mono _ _ _
      | exact pentaglotlaw43_awake.mono _
      | exact LeO.none _
      | refine LeO.ite ?_ ?_
      | refine LeO.bind ?_ (fun _ => ?_)
    · intro y0 y1 y2 y3 y4 y5 y6 y7 y8
      unfold pentaglotlaw43_BidiRuns.l1
      repeat' first
      | (with_reducible exact ih0 _ _ _)
      | (with_reducible exact ih1 _ _ _ _ _)
      | (with_reducible exact ih2 _ _ _ _ _ _)
      | (with_reducible exact ih3 _ _ _ _ _ _ _ _ _)
      | (with_reducible exact ih4 _ _ _ _ _ _ _ _ _)
      | (with_reducible exact bidi_Levels.mono _ _ _)
      | (with_reducible exact bidi_Order.mono _ _ _)
      | (with_reducible exact bidi_Runs.mono _ _ _)
      | (with_reducible exact pentaglotlaw43_awake.mono _)
      | (with_reducible exact LeO.refl _)
      | (with_reducible exact LeO.none _)
      | (with_reducible refine LeO.ite ?_ ?_)
      | (with_reducible refine LeO.bind ?_ (fun _ => ?_))
      | exact ih0 _ _ _
      | exact ih1 _ _ _ _ _
      | exact ih2 _ _ _ _ _ _
      | exact ih3 _ _ _ _ _ _ _ _ _
      | exact ih4 _ _ _ _ _ _ _ _ _
      | exact bidi_Levels.mono _ _ _
      | exact bidi_Order.mono _ _ _
      | exact bidi_Runs.mono _ _ _
      | exact pentaglotlaw43_awake.mono _
      | exact LeO.none _
      | refine LeO.ite ?_ ?_
      | refine LeO.bind ?_ (fun _ => ?_)
theorem pentaglotlaw43_BidiRuns.mono : ∀ a0 a1 k, LeO (pentaglotlaw43_BidiRuns.f k a0 a1) (pentaglotlaw43_BidiRuns.f (k + 1) a0 a1) := by
  intro a0 a1 k
  obtain ⟨ih0, ih1, ih2, ih3, ih4⟩ := pentaglotlaw43_BidiRuns.mono_l k
  unfold pentaglotlaw43_BidiRuns.f
  repeat' first
      | (with_reducible exact ih0 _ _ _)
      | (with_reducible exact ih1 _ _ _ _ _)
      | (with_reducible exact ih2 _ _ _ _ _ _)
      | (with_reducible exact ih3 _ _ _ _ _ _ _ _ _)
      | (with_reducible exact ih4 _ _ _ _ _ _ _ _ _)
      | (with_reducible exact bidi_Levels.mono _ _ _)
      | (with_reducible exact bidi_Order.mono _ _ _)
      | (with_reducible exact bidi_Runs.mono _ _ _)
      | (with_reducible exact pentaglotlaw43_awake.mono _)
      | (with_reducible exact LeO.refl _)
      | (with_reducible exact LeO.none _)
      | (with_reducible refine LeO.ite ?_ ?_)
      | (with_reducible refine LeO.bind ?_ (fun _ => ?_))
      | exact ih0 _ _ _
      | exact ih1 _ _ _ _ _
      | exact ih2 _ _ _ _ _ _
      | exact ih3 _ _ _ _ _ _ _ _ _
      | exact ih4 _ _ _ _ _ _ _ _ _
      | exact bidi_Levels.mono _ _ _
      | exact bidi_Order.mono _ _ _
      | exact bidi_Runs.mono _ _ _
      | exact pentaglotlaw43_awake.mono _
      | exact LeO.none _
      | refine LeO.ite ?_ ?_
      | refine LeO.bind ?_ (fun _ => ?_)

/-! DEFS pentaglotlaw43_backward -/
def pentaglotlaw43_backward.l0 : Nat → List Int → List Int → Int → Option (ByteArray)
  | 0, _, _, _ => none
  | k + 1, x0, x3, x4 => if x4 ≥ 0 then (if 0 ≤ x4 then (if x4 < (x0.length : Int) then (if x3.length < 35184372088832 then (pentaglotlaw43_backward.l0 k x0 (x3 ++ [rd x0 x4]) (wrap64 (x4 - 1))) else (none)) else (none)) else (none)) else (some (strOfRunes x3))
def pentaglotlaw43_backward.f (k : Nat) (l0 : List Int) : Option (ByteArray) := pentaglotlaw43_backward.l0 k l0 (([] : List Int)) (wrap64 ((l0.length : Int) - 1))
theorem pentaglotlaw43_backward.mono_l : ∀ k, (∀ y0 y1 y2, LeO (pentaglotlaw43_backward.l0 k y0 y1 y2) (pentaglotlaw43_backward.l0 (k + 1) y0 y1 y2))
  | 0 => fun _ _ _ r h => by simp [pentaglotlaw43_backward.l0] at h
  | k + 1 => by
    have ih0 := pentaglotlaw43_backward.mono_l k
    · intro y0 y1 y2
      unfold pentaglotlaw43_backward.l0
      repeat' first
      | (with_reducible exact ih0 _ _ _)
      | (with_reducible exact LeO.refl _)
      | (with_reducible exact LeO.none _)
      | (with_reducible refine LeO.ite ?_ ?_)
      | (with_reducible refine LeO.bind ?_ (fun _ => ?_))
      | exact ih0 _ _ _
      | exact LeO.none _
      | refine LeO.ite ?_ ?_
      | refine LeO.bind ?_ (fun _ => ?_)
theorem pentaglotlaw43_backward.mono : ∀ a0 k, LeO (pentaglotlaw43_backward.f k a0) (pentaglotlaw43_backward.f (k + 1) a0) := by
  intro a0 k
  have ih0 := pentaglotlaw43_backward.mono_l k
  unfold pentaglotlaw43_backward.f
  repeat' first
      | (with_reducible exact ih0 _ _ _)
      | (with_reducible exact LeO.refl _)
      | (with_reducible exact LeO.none _)
      | (with_reducible refine LeO.ite ?_ ?_)
      | (with_reducible refine LeO.bind ?_ (fun _ => ?_))
      | exact ih0 _ _ _
      | exact LeO.none _
      | refine LeO.ite ?_ ?_
      | refine LeO.bind ?_ (fun _ => ?_)

/-! DEFS pentaglotlaw43_BidiPlain -/
mutual
def pentaglotlaw43_BidiPlain.j0 : Nat → ByteArray → Bool → Option (Bool)
  | 0, _, _ => none
  | k + 1, x0, x15 => if x15 = true then ((pentaglotlaw43_awake.f k).bind fun t344 => (some t344)) else (if x0.size ≤ 70368744177664 then (pentaglotlaw43_BidiPlain.l0 k x0 (rns x0) false false 0) else (none))
def pentaglotlaw43_BidiPlain.l0 : Nat → ByteArray → List Int → Bool → Bool → Int → Option (Bool)
  | 0, _, _, _, _, _ => none
  | k + 1, x0, x3, x4, x5, x6 => if x6 < (x3.length : Int) then (if 0 ≤ x6 then ((pentaglotref43_Class.f k (rd x3 x6)).bind fun t349 => (if x4 = true then (if x5 = true then (pentaglotlaw43_BidiPlain.l0 k x0 x3 true true (wrap64 (x6 + 1))) else (if t349 = 1 then (pentaglotlaw43_BidiPlain.l0 k x0 x3 true true (wrap64 (x6 + 1))) else (pentaglotlaw43_BidiPlain.l0 k x0 x3 true (t349 == 3) (wrap64 (x6 + 1))))) else (if x5 = true then (pentaglotlaw43_BidiPlain.l0 k x0 x3 (t349 == 2) true (wrap64 (x6 + 1))) else (if t349 = 1 then (pentaglotlaw43_BidiPlain.l0 k x0 x3 (t349 == 2) true (wrap64 (x6 + 1))) else (pentaglotlaw43_BidiPlain.l0 k x0 x3 (t349 == 2) (t349 == 3) (wrap64 (x6 + 1))))))) else (none)) else ((pentaglotlaw43_awake.f k).bind fun t350 => (if t350 = true then (if x4 = true then (if x5 = true then (some true) else ((bidi_Visual.f k 1 x0).bind fun t351 => ((pentaglotlaw43_backward.f k x3).bind fun t352 => (some (t351.toList == t352.toList))))) else ((bidi_Visual.f k 0 x0).bind fun t353 => (if t353.toList = x0.toList then (if x5 = true then (some true) else ((bidi_Visual.f k 1 x0).bind fun t354 => ((pentaglotlaw43_backward.f k x3).bind fun t355 => (some (t354.toList == t355.toList))))) else (some false)))) else (some false)))
end
def pentaglotlaw43_BidiPlain.f (k : Nat) (a0 : ByteArray) : Option (Bool) := (pentaglotlaw43_short.f a0).bind fun t342 => (if t342 = true then ((utf8_ValidString.f a0).bind fun t343 => (pentaglotlaw43_BidiPlain.j0 k a0 (!t343))) else (pentaglotlaw43_BidiPlain.j0 k a0 true))
theorem pentaglotlaw43_BidiPlain.mono_l : ∀ k, (∀ y0 y1, LeO (pentaglotlaw43_BidiPlain.j0 k y0 y1) (pentaglotlaw43_BidiPlain.j0 (k + 1) y0 y1)) ∧ (∀ y0 y1 y2 y3 y4, LeO (pentaglotlaw43_BidiPlain.l0 k y0 y1 y2 y3 y4) (pentaglotlaw43_BidiPlain.l0 (k + 1) y0 y1 y2 y3 y4))
  | 0 => ⟨fun _ _ r h => by simp [pentaglotlaw43_BidiPlain.j0] at h, fun _ _ _ _ _ r h => by simp [pentaglotlaw43_BidiPlain.l0] at h⟩
  | k + 1 => by
    obtain ⟨ih0, ih1⟩ := pentaglotlaw43_BidiPlain.mono_l k
    refine ⟨?_, ?_⟩
    · intro y0 y1
      unfold pentaglotlaw43_BidiPlain.j0
      repeat' first
      | (with_reducible exact ih0 _ _)
      | (with_reducible exact ih1 _ _ _ _ _)
      | (with_reducible exact bidi_Visual.mono _ _ _)
      | (with_reducible exact pentaglotlaw43_awake.mono _)
      | (with_reducible exact pentaglotlaw43_backward.mono _ _)
      | (with_reducible exact pentaglotref43_Class.mono _ _)
      | (with_reducible exact LeO.refl _)
      | (with_reducible exact LeO.none _)
      | (with_reducible refine LeO.ite ?_ ?_)
      | (with_reducible refine LeO.bind ?_ (fun _ => ?_))
      | exact ih0 _ _
      | exact ih1 _ _ _ _ _
      | exact bidi_Visual.mono _ _ _
      | exact pentaglotlaw43_awake.mono _
      | exact pentaglotlaw43_backward.mono _ _
      | exact pentaglotref43_Class.mono _ _
      | exact LeO.none _
      | refine LeO.ite ?_ ?_
      | refine LeO.bind ?_ (fun _ => ?_)
    · intro y0 y1 y2 y3 y4
      unfold pentaglotlaw43_BidiPlain.l0
      repeat' first
      | (with_reducible exact ih0 _ _)
      | (with_reducible exact ih1 _ _ _ _ _)
      | (with_reducible exact bidi_Visual.mono _ _ _)
      | (with_reducible exact pentaglotlaw43_awake.mono _)
      | (with_reducible exact pentaglotlaw43_backward.mono _ _)
      | (with_reducible exact pentaglotref43_Class.mono _ _)
      | (with_reducible exact LeO.refl _)
      | (with_reducible exact LeO.none _)
      | (with_reducible refine LeO.ite ?_ ?_)
      | (with_reducible refine LeO.bind ?_ (fun _ => ?_))
      | exact ih0 _ _
      | exact ih1 _ _ _ _ _
      | exact bidi_Visual.mono _ _ _
      | exact pentaglotlaw43_awake.mono _
      | exact pentaglotlaw43_backward.mono _ _
      | exact pentaglotref43_Class.mono _ _
      | exact LeO.none _
      | refine LeO.ite ?_ ?_
      | refine LeO.bind ?_ (fun _ => ?_)
theorem pentaglotlaw43_BidiPlain.mono : ∀ a0 k, LeO (pentaglotlaw43_BidiPlain.f k a0) (pentaglotlaw43_BidiPlain.f (k + 1) a0) := by
  intro a0 k
  obtain ⟨ih0, ih1⟩ := pentaglotlaw43_BidiPlain.mono_l k
  unfold pentaglotlaw43_BidiPlain.f
  repeat' first
      | (with_reducible exact ih0 _ _)
      | (with_reducible exact ih1 _ _ _ _ _)
      | (with_reducible exact bidi_Visual.mono _ _ _)
      | (with_reducible exact pentaglotlaw43_awake.mono _)
      | (with_reducible exact pentaglotlaw43_backward.mono _ _)
      | (with_reducible exact pentaglotref43_Class.mono _ _)
      | (with_reducible exact LeO.refl _)
      | (with_reducible exact LeO.none _)
      | (with_reducible refine LeO.ite ?_ ?_)
      | (with_reducible refine LeO.bind ?_ (fun _ => ?_))
      | exact ih0 _ _
      | exact ih1 _ _ _ _ _
      | exact bidi_Visual.mono _ _ _
      | exact pentaglotlaw43_awake.mono _
      | exact pentaglotlaw43_backward.mono _ _
      | exact pentaglotref43_Class.mono _ _
      | exact LeO.none _
      | refine LeO.ite ?_ ?_
      | refine LeO.bind ?_ (fun _ => ?_)

/-! DEFS pentaglotlaw43_BidiParts -/
def pentaglotlaw43_BidiParts.j0 : Nat → ByteArray → ByteArray → Bool → Option (Bool)
  | 0, _, _, _ => none
  | k + 1, x0, x1, x22 => if x22 = true then ((pentaglotlaw43_awake.f k).bind fun t360 => (some t360)) else ((pentaglotlaw43_awake.f k).bind fun t361 => (if t361 = true then (if x0.size + 1 ≤ 9223372036854775807 then (if (x0 ++ (⟨#[120]⟩ : ByteArray)).size + x1.size ≤ 9223372036854775807 then ((bidi_Visual.f k 0 ((x0 ++ (⟨#[120]⟩ : ByteArray)) ++ x1)).bind fun t362 => ((bidi_Visual.f k 0 x0).bind fun t363 => (if t363.size + 1 ≤ 9223372036854775807 then ((bidi_Visual.f k 0 x1).bind fun t364 => (if (t363 ++ (⟨#[120]⟩ : ByteArray)).size + t364.size ≤ 9223372036854775807 then (if t362.toList = ((t363 ++ (⟨#[120]⟩ : ByteArray)) ++ t364).toList then (if x0.size + 2 ≤ 9223372036854775807 then (if (x0 ++ (⟨#[215, 144]⟩ : ByteArray)).size + x1.size ≤ 9223372036854775807 then ((bidi_Visual.f k 1 ((x0 ++ (⟨#[215, 144]⟩ : ByteArray)) ++ x1)).bind fun t365 => ((bidi_Visual.f k 1 x1).bind fun t366 => (if t366.size + 2 ≤ 9223372036854775807 then ((bidi_Visual.f k 1 x0).bind fun t367 => (if (t366 ++ (⟨#[215, 144]⟩ : ByteArray)).size + t367.size ≤ 9223372036854775807 then (some (t365.toList == ((t366 ++ (⟨#[215, 144]⟩ : ByteArray)) ++ t367).toList)) else (none))) else (none)))) else (none)) else (none)) else (some false)) else (none))) else (none)))) else (none)) else (none)) else (some false)))
def pentaglotlaw43_BidiParts.f (k : Nat) (a0 : ByteArray) (a1 : ByteArray) : Option (Bool) := (pentaglotlaw43_short.f a0).bind fun t356 => (if t356 = true then ((pentaglotlaw43_short.f a1).bind fun t357 => (if t357 = true then ((utf8_ValidString.f a0).bind fun t358 => (if t358 = true then ((utf8_ValidString.f a1).bind fun t359 => (pentaglotlaw43_BidiParts.j0 k a0 a1 (!t359))) else (pentaglotlaw43_BidiParts.j0 k a0 a1 true))) else (pentaglotlaw43_BidiParts.j0 k a0 a1 true))) else (pentaglotlaw43_BidiParts.j0 k a0 a1 true))
theorem pentaglotlaw43_BidiParts.mono_l : ∀ k, (∀ y0 y1 y2, LeO (pentaglotlaw43_BidiParts.j0 k y0 y1 y2) (pentaglotlaw43_BidiParts.j0 (k + 1) y0 y1 y2))
  | 0 => fun _ _ _ r h => by simp [pentaglotlaw43_BidiParts.j0] at h
  | k + 1 => by
    have ih0 := pentaglotlaw43_BidiParts.mono_l k
    · intro y0 y1 y2
      unfold pentaglotlaw43_BidiParts.j0
      repeat' first
      | (with_reducible exact ih0 _ _ _)
      | (with_reducible exact bidi_Visual.mono _ _ _)
      | (with_reducible exact pentaglotlaw43_awake.mono _)
      | (with_reducible exact LeO.refl _)
      | (with_reducible exact LeO.none _)
      | (with_reducible refine LeO.ite ?_ ?_)
      | (with_reducible refine LeO.bind ?_ (fun _ => ?_))
      | exact ih0 _ _ _
      | exact bidi_Visual.mono _ _ _
      | exact pentaglotlaw43_awake.mono _
      | exact LeO.none _
      | refine LeO.ite ?_ ?_
      | refine LeO.bind ?_ (fun _ => ?_)
theorem pentaglotlaw43_BidiParts.mono : ∀ a0 a1 k, LeO (pentaglotlaw43_BidiParts.f k a0 a1) (pentaglotlaw43_BidiParts.f (k + 1) a0 a1) := by
  intro a0 a1 k
  have ih0 := pentaglotlaw43_BidiParts.mono_l k
  unfold pentaglotlaw43_BidiParts.f
  repeat' first
      | (with_reducible exact ih0 _ _ _)
      | (with_reducible exact bidi_Visual.mono _ _ _)
      | (with_reducible exact pentaglotlaw43_awake.mono _)
      | (with_reducible exact LeO.refl _)
      | (with_reducible exact LeO.none _)
      | (with_reducible refine LeO.ite ?_ ?_)
      | (with_reducible refine LeO.bind ?_ (fun _ => ?_))
      | exact ih0 _ _ _
      | exact bidi_Visual.mono _ _ _
      | exact pentaglotlaw43_awake.mono _
      | exact LeO.none _
      | refine LeO.ite ?_ ?_
      | refine LeO.bind ?_ (fun _ => ?_)

/-! DEFS utf8_ValidRune -/
def utf8_ValidRune.j0 : Nat → Int → Bool → Option (Bool)
  | 0, _, _ => none
  | k + 1, x0, x3 => if x3 = true then (some true) else (if 57343 < x0 then (if x0 ≤ 1114111 then (some true) else (some false)) else (some false))
def utf8_ValidRune.f (k : Nat) (a0 : Int) : Option (Bool) := if 0 ≤ a0 then (utf8_ValidRune.j0 k a0 (decide (a0 < 55296))) else (utf8_ValidRune.j0 k a0 false)
theorem utf8_ValidRune.mono_l : ∀ k, (∀ y0 y1, LeO (utf8_ValidRune.j0 k y0 y1) (utf8_ValidRune.j0 (k + 1) y0 y1))
  | 0 => fun _ _ r h => by simp [utf8_ValidRune.j0] at h
  | k + 1 => by
    have ih0 := utf8_ValidRune.mono_l k
    · intro y0 y1
      unfold utf8_ValidRune.j0
      repeat' first
      | (with_reducible exact ih0 _ _)
      | (with_reducible exact LeO.refl _)
      | (with_reducible exact LeO.none _)
      | (with_reducible refine LeO.ite ?_ ?_)
      | (with_reducible refine LeO.bind ?_ (fun _ => ?_))
      | exact ih0 _ _
      | exact LeO.none _
      | refine LeO.ite ?_ ?_
      | refine LeO.bind ?_ (fun _ => ?_)
theorem utf8_ValidRune.mono : ∀ a0 k, LeO (utf8_ValidRune.f k a0) (utf8_ValidRune.f (k + 1) a0) := by
  intro a0 k
  have ih0 := utf8_ValidRune.mono_l k
  unfold utf8_ValidRune.f
  repeat' first
      | (with_reducible exact ih0 _ _)
      | (with_reducible exact LeO.refl _)
      | (with_reducible exact LeO.none _)
      | (with_reducible refine LeO.ite ?_ ?_)
      | (with_reducible refine LeO.bind ?_ (fun _ => ?_))
      | exact ih0 _ _
      | exact LeO.none _
      | refine LeO.ite ?_ ?_
      | refine LeO.bind ?_ (fun _ => ?_)

/-! DEFS pentaglotlaw43_BidiBase -/
mutual
def pentaglotlaw43_BidiBase.j0 : Nat → ByteArray → ByteArray → Int → Bool → Option (Bool)
  | 0, _, _, _, _ => none
  | k + 1, x0, x1, x2, x33 => if x33 = true then ((pentaglotlaw43_awake.f k).bind fun t373 => (some t373)) else (if x1.size ≤ 70368744177664 then (pentaglotlaw43_BidiBase.l0 k x0 x1 x2 (rns x1) 0) else (none))
def pentaglotlaw43_BidiBase.l0 : Nat → ByteArray → ByteArray → Int → List Int → Int → Option (Bool)
  | 0, _, _, _, _, _ => none
  | k + 1, x0, x1, x2, x7, x8 => if x8 < (x7.length : Int) then (if 0 ≤ x8 then ((bidi_Class.f k (rd x7 x8)).bind fun t378 => (if t378 ≤ 2 then ((pentaglotlaw43_awake.f k).bind fun t379 => (some t379)) else (pentaglotlaw43_BidiBase.l0 k x0 x1 x2 x7 (wrap64 (x8 + 1))))) else (none)) else ((bidi_Class.f k x2).bind fun t380 => (if t380 = 1 then (if x1.size + (Utf8.encode x2).size ≤ 9223372036854775807 then (if (x1 ++ (Utf8.encode x2)).size + x0.size ≤ 9223372036854775807 then ((bidi_Base.f k ((x1 ++ (Utf8.encode x2)) ++ x0)).bind fun t381 => ((pentaglotlaw43_awake.f k).bind fun t382 => (if t382 = true then (if t381 = (wrap64 (t380 - 1)) then (if x1.size + x0.size ≤ 9223372036854775807 then ((bidi_Base.f k (x1 ++ x0)).bind fun t383 => ((bidi_Base.f k x0).bind fun t384 => (some (t383 == t384)))) else (none)) else (some false)) else (some false)))) else (none)) else (none)) else (if t380 = 2 then (if x1.size + (Utf8.encode x2).size ≤ 9223372036854775807 then (if (x1 ++ (Utf8.encode x2)).size + x0.size ≤ 9223372036854775807 then ((bidi_Base.f k ((x1 ++ (Utf8.encode x2)) ++ x0)).bind fun t385 => ((pentaglotlaw43_awake.f k).bind fun t386 => (if t386 = true then (if t385 = (wrap64 (t380 - 1)) then (if x1.size + x0.size ≤ 9223372036854775807 then ((bidi_Base.f k (x1 ++ x0)).bind fun t387 => ((bidi_Base.f k x0).bind fun t388 => (some (t387 == t388)))) else (none)) else (some false)) else (some false)))) else (none)) else (none)) else ((pentaglotlaw43_awake.f k).bind fun t389 => (if t389 = true then (if x1.size + x0.size ≤ 9223372036854775807 then ((bidi_Base.f k (x1 ++ x0)).bind fun t390 => ((bidi_Base.f k x0).bind fun t391 => (some (t390 == t391)))) else (none)) else (some false))))))
end
def pentaglotlaw43_BidiBase.f (k : Nat) (a0 : ByteArray) (a1 : ByteArray) (a2 : Int) : Option (Bool) := (pentaglotlaw43_short.f a0).bind fun t368 => (if t368 = true then ((pentaglotlaw43_short.f a1).bind fun t369 => (if t369 = true then ((utf8_ValidString.f a0).bind fun t370 => (if t370 = true then ((utf8_ValidString.f a1).bind fun t371 => (if t371 = true then ((utf8_ValidRune.f k a2).bind fun t372 => (pentaglotlaw43_BidiBase.j0 k a0 a1 a2 (!t372))) else (pentaglotlaw43_BidiBase.j0 k a0 a1 a2 true))) else (pentaglotlaw43_BidiBase.j0 k a0 a1 a2 true))) else (pentaglotlaw43_BidiBase.j0 k a0 a1 a2 true))) else (pentaglotlaw43_BidiBase.j0 k a0 a1 a2 true))
theorem pentaglotlaw43_BidiBase.mono_l : ∀ k, (∀ y0 y1 y2 y3, LeO (pentaglotlaw43_BidiBase.j0 k y0 y1 y2 y3) (pentaglotlaw43_BidiBase.j0 (k + 1) y0 y1 y2 y3)) ∧ (∀ y0 y1 y2 y3 y4, LeO (pentaglotlaw43_BidiBase.l0 k y0 y1 y2 y3 y4) (pentaglotlaw43_BidiBase.l0 (k + 1) y0 y1 y2 y3 y4))
  | 0 => ⟨fun _ _ _ _ r h => by simp [pentaglotlaw43_BidiBase.j0] at h, fun _ _ _ _ _ r h => by simp [pentaglotlaw43_BidiBase.l0] at h⟩
  | k + 1 => by
    obtain ⟨ih0, ih1⟩ := pentaglotlaw43_BidiBase.mono_l k
    refine ⟨?_, ?_⟩
    · intro y0 y1 y2 y3
      unfold pentaglotlaw43_BidiBase.j0
      repeat' first
      | (with_reducible exact ih0 _ _ _ _)
      | (with_reducible exact ih1 _ _ _ _ _)
      | (with_reducible exact bidi_Base.mono _ _)
      | (with_reducible exact bidi_Class.mono _ _)
      | (with_reducible exact pentaglotlaw43_awake.mono _)
      | (with_reducible exact utf8_ValidRune.mono _ _)
      | (with_reducible exact LeO.refl _)
      | (with_reducible exact LeO.none _)
      | (with_reducible refine LeO.ite ?_ ?_)
      | (with_reducible refine LeO.bind ?_ (fun _ => ?_))
      | exact ih0 _ _ _ _
      | exact ih1 _ _ _ _ _
      | exact bidi_Base.mono _ _
      | exact bidi_Class.mono _ _
      | exact pentaglotlaw43_awake.mono _
      | exact utf8_ValidRune.mono _ _
      | exact LeO.none _
      | refine LeO.ite ?_ ?_
      | refine LeO.bind ?_ (fun _ => ?_)
    · intro y0 y1 y2 y3 y4
      unfold pentaglotlaw43_BidiBase.l0
      repeat' first
      | (with_reducible exact ih0 _ _ _ _)
      | (with_reducible exact ih1 _ _ _ _ _)
      | (with_reducible exact bidi_Base.mono _ _)
      | (with_reducible exact bidi_Class.mono _ _)
      | (with_reducible exact pentaglotlaw43_awake.mono _)
      | (with_reducible exact utf8_ValidRune.mono _ _)
      | (with_reducible exact LeO.refl _)
      | (with_reducible exact LeO.none _)
      | (with_reducible refine LeO.ite ?_ ?_)
      | (with_reducible refine LeO.bind ?_ (fun _ => ?_))
      | exact ih0 _ _ _ _
      | exact ih1 _ _ _ _ _
      | exact bidi_Base.mono _ _
      | exact bidi_Class.mono _ _
      | exact pentaglotlaw43_awake.mono _
      | exact utf8_ValidRune.mono _ _
      | exact LeO.none _
      | refine LeO.ite ?_ ?_
      | refine LeO.bind ?_ (fun _ => ?_)
theorem pentaglotlaw43_BidiBase.mono : ∀ a0 a1 a2 k, LeO (pentaglotlaw43_BidiBase.f k a0 a1 a2) (pentaglotlaw43_BidiBase.f (k + 1) a0 a1 a2) := by
  intro a0 a1 a2 k
  obtain ⟨ih0, ih1⟩ := pentaglotlaw43_BidiBase.mono_l k
  unfold pentaglotlaw43_BidiBase.f
  repeat' first
      | (with_reducible exact ih0 _ _ _ _)
      | (with_reducible exact ih1 _ _ _ _ _)
      | (with_reducible exact bidi_Base.mono _ _)
      | (with_reducible exact bidi_Class.mono _ _)
      | (with_reducible exact pentaglotlaw43_awake.mono _)
      | (with_reducible exact utf8_ValidRune.mono _ _)
      | (with_reducible exact LeO.refl _)
      | (with_reducible exact LeO.none _)
      | (with_reducible refine LeO.ite ?_ ?_)
      | (with_reducible refine LeO.bind ?_ (fun _ => ?_))
      | exact ih0 _ _ _ _
      | exact ih1 _ _ _ _ _
      | exact bidi_Base.mono _ _
      | exact bidi_Class.mono _ _
      | exact pentaglotlaw43_awake.mono _
      | exact utf8_ValidRune.mono _ _
      | exact LeO.none _
      | refine LeO.ite ?_ ?_
      | refine LeO.bind ?_ (fun _ => ?_)

end Go.Proofs.YtfecolaljnijbaaDoor.C
