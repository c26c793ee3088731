-- WRITTEN BY mkprint.py, a program of this session, over the kit's print of the given program. Not trusted: Lean checks it.
import Derived.Test.YtpgeimihmkampaaDoorCx0
namespace Go.Proofs.YtpgeimihmkampaaDoor.C
open Go.RowKit Go.Proofs.YtpgeimihmkampaaDoorW.PrintWords Go.Proofs.YtpgeimihmkampaaDoorW.PrintLast Go.Proofs.YtpgeimihmkampaaDoorW.PrintMore
attribute [local go_sem] max2_int min2_int max_two min_two max_three min_three max_four min_four   -- for this text's walks alone
set_option linter.unusedVariables false
set_option linter.unusedSimpArgs false

/-! DEFS utf8_ValidRune -/
def utf8_ValidRune.j0 : Nat → Int → Bool → Option (Bool)
  | 0, _, _ => none
  | k + 1, x0, x3 => if x3 = true then (some true) else (if 57343 < x0 then (if x0 ≤ 1114111 then (some true) else (some false)) else (some false))
def utf8_ValidRune.f (k : Nat) (a0 : Int) : Option (Bool) := if 0 ≤ a0 then (utf8_ValidRune.j0 k a0 (decide (a0 < 55296))) else (utf8_ValidRune.j0 k a0 false)
theorem utf8_ValidRune.mono_l : ∀ k, (∀ y0 y1, LeO (utf8_ValidRune.j0 k y0 y1) (utf8_ValidRune.j0 (k + 1) y0 y1))
  | 0 => fun _ _ r h => by simp [utf8_ValidRune.j0] at h
  | k + 1 => by
    have ih0 := utf8_ValidRune.mono_l k
    · intro y0 y1
      unfold utf8_ValidRune.j0
      repeat' first
      | (with_reducible exact ih0 _ _)
      | (with_reducible exact LeO.refl _)
      | (with_reducible exact LeO.none _)
      | (with_reducible refine LeO.ite ?_ ?_)
      | (with_reducible refine LeO.bind ?_ (fun _ => ?_))
      | exact ih0 _ _
      | exact LeO.none _
      | refine LeO.ite ?_ ?_
      | refine LeO.bind ?_ (fun _ => ?_)
theorem utf8_ValidRune.mono : ∀ a0 k, LeO (utf8_ValidRune.f k a0) (utf8_ValidRune.f (k + 1) a0) := by
  intro a0 k
  have ih0 := utf8_ValidRune.mono_l k
  unfold utf8_ValidRune.f
  repeat' first
      | (with_reducible exact ih0 _ _)
      | (with_reducible exact LeO.refl _)
      | (with_reducible exact LeO.none _)
      | (with_reducible refine LeO.ite ?_ ?_)
      | (with_reducible refine LeO.bind ?_ (fun _ => ?_))
      | exact ih0 _ _
      | exact LeO.none _
      | refine LeO.ite ?_ ?_
      | refine LeO.bind ?_ (fun _ => ?_)

/-! DEFS alphabet_indices -/
/-- The index of the first of the first m letters with a rune. -/
def firstIn (l : List S42) (m : Nat) (r : Int) : Option Int := Option.map (fun n : Nat => (n : Int)) ((l.take m).findIdx? (fun x => x.f0 == r))
/-- How many distinct runes the first m letters have. -/
def distinct (l : List S42) : Nat → Nat
  | 0 => 0
  | m + 1 => distinct l m + (if (firstIn l m (rd_T42 l m).f0).isSome then 0 else 1)
/-- A map of runes to numbers, of the call's own: what a look-up gives, and its size. -/
def Tb (w : World) (b n size : Nat) (f : Int → Option Int) : Prop :=
  ∃ D : DataW Unit, w.ownsMap Tryd.prog 21 (plainElem Tryd.prog 3) b n D ∧ Maps.Tidy D ∧ Maps.size D = size ∧ (∀ r : Int, Maps.has D (.int .i32 r) = (f r).isSome) ∧ ∀ r : Int, D.atKey (.int .i32 r) (.lit (.int .i64 0)) = .lit (.int .i64 ((f r).getD 0))
theorem Tb.kept {w w' : World} {b n m : Nat} {f : Int → Option Int} {row : Option Nat} (h : Tb w b n m f) (hg : w.grownBy w' row) (hne : some b ≠ row) : Tb w' b n m f := by
  obtain ⟨D, h1, h2, h3, h4, h5⟩ := h
  exact ⟨D, h1.kept hg hne, h2, h3, h4, h5⟩
theorem Tb.step {w w' : World} {b n m : Nat} {f : Int → Option Int} (h : Tb w b n m f) (hb : Below w.heap.size w w') : Tb w' b n m f := h.kept (grown_of_below hb none) (by simp)
theorem Tb.lt {w : World} {b n m : Nat} {f : Int → Option Int} (h : Tb w b n m f) : b < w.heap.size := by
  obtain ⟨D, h1, _⟩ := h
  exact h1.lt
theorem Tb.congr {w : World} {b n m m' : Nat} {f g : Int → Option Int} (h : Tb w b n m f) (e : ∀ x, f x = g x) (hm : m = m') : Tb w b n m' g := by
  have : f = g := funext e
  subst hm
  exact this ▸ h
theorem zeroI (w : World) : (zeroValue 3).run Tryd.prog w = .ok (.int .i64 0) w := by kernel_rfl
theorem keyR : Maps.Keyed Tryd.prog 21 := Maps.int_keyed Tryd.underlying21
theorem keyR_at {r : Int} (h : (Lit.int .i32 r).wf = true) : keyOf Tryd.prog 21 (.int .i32 r) = some (.int .i32 r) := Maps.keyOf_int_mk Tryd.underlying21 h
theorem Tb.look {w : World} {b n m : Nat} {f : Int → Option Int} (h : Tb w b n m f) {r : Int} (hr : (Lit.int .i32 r).wf = true) : (Instr.lookup 53 (.map (some b)) (.int .i32 r) true).run Tryd.prog w = .ok (.tuple #[.int .i64 ((f r).getD 0), .bool (f r).isSome]) w := by
  obtain ⟨D, h1, h2, h3, h4, h5⟩ := h
  obtain ⟨v, ps, hrun, hv⟩ := h1.look_ok keyR Tryd.underlying53 (zeroI w) (zd := .lit (.int .i64 0)) (zp := []) (plainElem_int Tryd.underlying3 (by decide)) (keyR_at hr)
  rw [h5 r] at hv
  obtain ⟨c, rfl, hc, _⟩ := plainElem_int_inv Tryd.underlying3 hv
  have := congrArg Prod.fst hc
  simp only [DataW.lit.injEq, Lit.int.injEq, true_and] at this
  rw [hrun, h4 r, this]
theorem Tb.length {w : World} {b n m : Nat} {f : Int → Option Int} (h : Tb w b n m f) (ty : TypeId) : (Builtin.len_ #[53] ty #[.map (some b)]).run Tryd.prog w = .ok (.int .i64 (m : Int)) w := by
  obtain ⟨D, h1, h2, h3, h4, h5⟩ := h
  rw [← h3]
  exact h1.len Tryd.underlying53 ty
theorem tb_made (w : World) : Tb (w.alloc (.map #[] 0)) w.heap.size 0 0 (fun _ => none) :=
  ⟨.map [], World.ownsMap_made _ _ _ _, Maps.tidy_empty, rfl, fun _ => rfl, fun _ => rfl⟩
theorem Tb.put {b n m : Nat} {f : Int → Option Int} {D : DataW Unit} {w1 : World} {r c : Int} (h2 : Maps.Tidy D) (h3 : Maps.size D = m) (h4 : ∀ r : Int, Maps.has D (.int .i32 r) = (f r).isSome) (h5 : ∀ r : Int, D.atKey (.int .i32 r) (.lit (.int .i64 0)) = .lit (.int .i64 ((f r).getD 0))) (hf : f r = none)
    (h1 : w1.ownsMap Tryd.prog 21 (plainElem Tryd.prog 3) b n (D.put (.int .i32 r) (.lit (.int .i64 c)))) : Tb w1 b n (m + 1) (fun x => if x = r then some c else f x) := by
  have hk : WideAt.IsKeyLit (.int .i32 r) := trivial
  refine ⟨_, h1, h2.put hk _, ?_, fun t => ?_, fun t => ?_⟩
  · rw [Maps.size_put h2, h4 r, hf, h3]
    simp
  · by_cases e : t = r
    · subst e
      rw [Maps.has_put_same h2.isMap hk]
      simp
    · rw [Maps.has_put_other (fun x => e (by injection x)), h4 t]
      simp [e]
  · by_cases e : t = r
    · subst e
      rw [Maps.atKey_put_same h2.isMap hk]
      simp
    · rw [Maps.atKey_put_other (fun x => e (by injection x)), h5 t]
      simp [e]
theorem firstIn_next {l : List S42} {m : Nat} (h : m < l.length) (hn : firstIn l m (rd_T42 l m).f0 = none) (x : Int) : (if x = (rd_T42 l m).f0 then some (m : Int) else firstIn l m x) = firstIn l (m + 1) x := by
  have hx : rd_T42 l m = l[m] := by simp [rd_T42, List.getD, List.getElem?_eq_getElem h]
  unfold firstIn at hn ⊢
  rw [hx] at hn ⊢
  rw [List.take_succ_eq_append_getElem h, List.findIdx?_append]
  by_cases e : x = l[m].f0
  · subst e
    rw [if_pos rfl]
    simp only [Option.map_eq_none_iff] at hn
    rw [hn]
    simp [List.findIdx?_cons, Nat.min_eq_left (Nat.le_of_lt h)]
  · rw [if_neg e]
    simp [List.findIdx?_cons, Ne.symm e]
theorem firstIn_stay {l : List S42} {m : Nat} (h : m < l.length) (hn : (firstIn l m (rd_T42 l m).f0).isSome = true) (x : Int) : firstIn l m x = firstIn l (m + 1) x := by
  have hx : rd_T42 l m = l[m] := by simp [rd_T42, List.getD, List.getElem?_eq_getElem h]
  unfold firstIn at hn ⊢
  rw [hx] at hn
  rw [List.take_succ_eq_append_getElem h, List.findIdx?_append]
  by_cases e : x = l[m].f0
  · subst e
    obtain ⟨v, hv⟩ := Option.isSome_iff_exists.mp hn
    obtain ⟨u, hu, _⟩ := Option.map_eq_some_iff.mp hv
    rw [hu]
    rfl
  · simp [List.findIdx?_cons, Ne.symm e]
theorem wf_small {x : Int} (h0 : 0 ≤ x) (h1 : x ≤ 1000) : (Lit.int .i64 x).wf = true := by
  have a : IntKind.i64.min = -9223372036854775808 := by decide
  have b : IntKind.i64.max = 9223372036854775807 := by decide
  simp only [Lit.wf, a, b]
  simp
  omega
def good (l : List S42) : Bool := l.all fun x => (Lit.int .i32 x.f0).wf
theorem good_at {l : List S42} (h : good l = true) {i : Int} (h0 : 0 ≤ i) (h1 : i < (l.length : Int)) : (Lit.int .i32 (rd_T42 l i).f0).wf = true := by
  have hj : i.toNat < l.length := by omega
  have := List.all_eq_true.mp h l[i.toNat] (List.getElem_mem hj)
  simpa [rd_T42, List.getD, List.getElem?_eq_getElem hj] using this
def okA (l : List S42) : Bool := good l && decide ((l.length : Int) ≤ 1000)
theorem okA_at {l : List S42} (h : okA l = true) : good l = true ∧ (l.length : Int) ≤ 1000 := by
  unfold okA at h
  simpa using h
def isLetter (l : List S42) (r : Int) : Bool := (firstIn l l.length r).isSome
def okS (l : List S42) (s : ByteArray) : Bool := okA l && decide (s.size ≤ 1000000)
theorem okS_at {l : List S42} {s : ByteArray} (h : okS l s = true) : (good l = true ∧ (l.length : Int) ≤ 1000) ∧ s.size ≤ 1000000 := by
  unfold okS at h
  have h1 : okA l = true ∧ s.size ≤ 1000000 := by simpa using h
  exact ⟨okA_at h1.1, h1.2⟩

/-! DEFS alphabet_Valid -/
def alphabet_Valid.l0 : Nat → List S42 → Int → Option Bool
  | 0, _, _ => none
  | k + 1, l, i => if i < (l.length : Int) then (if (rd_T42 l i).f0 ≤ 32 then some false else ((utf8_ValidRune.f k (rd_T42 l i).f0).bind fun t => (if t = true then alphabet_Valid.l0 k l (i + 1) else some false))) else (if good l = true then some ((distinct l l.length : Int) == (l.length : Int)) else none)
def alphabet_Valid.f (k : Nat) (l : List S42) : Option Bool := if (l.length : Int) < 1 then some false else (if (l.length : Int) > 64 then some false else alphabet_Valid.l0 k l 0)
theorem alphabet_Valid.mono_l : ∀ k l i, LeO (alphabet_Valid.l0 k l i) (alphabet_Valid.l0 (k + 1) l i)
  | 0, _, _ => fun r h => by simp [alphabet_Valid.l0] at h
  | k + 1, l, i => by
    have ih := alphabet_Valid.mono_l k
    unfold alphabet_Valid.l0
    repeat' first
      | (with_reducible exact LeO.refl _)
      | (with_reducible exact ih _ _)
      | (with_reducible exact utf8_ValidRune.mono _ _)
      | (with_reducible refine LeO.ite ?_ ?_)
      | (with_reducible refine LeO.bind ?_ (fun _ => ?_))
theorem alphabet_Valid.mono : ∀ l k, LeO (alphabet_Valid.f k l) (alphabet_Valid.f (k + 1) l) := by
  intro l k
  have ih := alphabet_Valid.mono_l k
  unfold alphabet_Valid.f
  repeat' first
      | (with_reducible exact LeO.refl _)
      | (with_reducible exact ih _ _)
      | (with_reducible refine LeO.ite ?_ ?_)

/-! DEFS utf8_word_string -/
def utf8_word_string.f (a0 : ByteArray) : Option (Int) := if 0 < (a0.size : Int) then (if 1 < (a0.size : Int) then (if 2 < (a0.size : Int) then (if 3 < (a0.size : Int) then (if 4 < (a0.size : Int) then (if 5 < (a0.size : Int) then (if 6 < (a0.size : Int) then (if 7 < (a0.size : Int) then (some (Go.bits .or .u64 (Go.bits .or .u64 (Go.bits .or .u64 (Go.bits .or .u64 (Go.bits .or .u64 (Go.bits .or .u64 (Go.bits .or .u64 (IntKind.u64.wrap (bt a0 0)) (IntKind.u64.wrap ((IntKind.u64.wrap (bt a0 1)) * 256))) (IntKind.u64.wrap ((IntKind.u64.wrap (bt a0 2)) * 65536))) (IntKind.u64.wrap ((IntKind.u64.wrap (bt a0 3)) * 16777216))) (IntKind.u64.wrap ((IntKind.u64.wrap (bt a0 4)) * 4294967296))) (IntKind.u64.wrap ((IntKind.u64.wrap (bt a0 5)) * 1099511627776))) (IntKind.u64.wrap ((IntKind.u64.wrap (bt a0 6)) * 281474976710656))) (IntKind.u64.wrap ((IntKind.u64.wrap (bt a0 7)) * 72057594037927936)))) else (none)) else (none)) else (none)) else (none)) else (none)) else (none)) else (none)) else (none)

/-! DEFS utf8_ValidString -/
def laysValid_ren : Go.Shelf.Ren := ⟨fun | 196 => 42 | 259 => 50 | n => n, fun | 9 => 9 | 4 => 4 | 3 => 3 | 5 => 5 | 12 => 12 | 119 => 63 | 0 => 0 | 46 => 67 | 139 => 66 | 138 => 65 | 53 => 72 | n => n, fun | 3 => 0 | 4 => 1 | n => n⟩
theorem laysValid : Go.Proofs.Lays.n196 Tryd.prog laysValid_ren :=
  { mixed := by kernel_rfl,
    f196 := Tryd.func42.trans (congrArg some (by kernel_rfl)),
    f259 := Tryd.func50.trans (congrArg some (by kernel_rfl)),
    t0 := Tryd.underlying0,
    a0 := Tryd.isAgg0,
    z0 := Tryd.sizeOf0,
    v0 := Tryd.zeroValue0,
    t3 := Tryd.underlying3,
    a3 := Tryd.isAgg3,
    z3 := Tryd.sizeOf3,
    v3 := Tryd.zeroValue3,
    t4 := Tryd.underlying4,
    a4 := Tryd.isAgg4,
    z4 := Tryd.sizeOf4,
    v4 := Tryd.zeroValue4,
    t5 := Tryd.underlying5,
    a5 := Tryd.isAgg5,
    z5 := Tryd.sizeOf5,
    v5 := Tryd.zeroValue5,
    t9 := Tryd.underlying9,
    a9 := Tryd.isAgg9,
    z9 := Tryd.sizeOf9,
    v9 := Tryd.zeroValue9,
    t12 := Tryd.underlying12,
    a12 := Tryd.isAgg12,
    z12 := Tryd.sizeOf12,
    v12 := Tryd.zeroValue12,
    t46 := Tryd.underlying67,
    a46 := Tryd.isAgg67,
    z46 := Tryd.sizeOf67,
    v46 := Tryd.zeroValue67,
    t53 := Tryd.underlying72,
    a53 := Tryd.isAgg72,
    z53 := Tryd.sizeOf72,
    v53 := Tryd.zeroValue72,
    t119 := Tryd.underlying63,
    a119 := Tryd.isAgg63,
    z119 := Tryd.sizeOf63,
    t138 := Tryd.underlying65,
    a138 := Tryd.isAgg65,
    z138 := Tryd.sizeOf65,
    v138 := Tryd.zeroValue65,
    t139 := Tryd.underlying66,
    a139 := Tryd.isAgg66,
    z139 := Tryd.sizeOf66,
    v139 := Tryd.zeroValue66,
    g3 := by kernel_rfl,
    g4 := by kernel_rfl }
/-- What the tables of unicode/utf8 hold. -/
def Glob (w : World) : Prop := Lib.Utf8Tabs (laysValid_ren.g 3) (laysValid_ren.g 4) w
theorem Glob.below {w w1 : World} (h : Glob w) (hb : Below w.heap.size w w1) : Glob w1 :=
  ⟨fun c hc => pw_cell_below hb (h.1 c hc), fun i hi => ⟨pw_cell_below hb (h.2 i hi).1, pw_cell_below hb (h.2 i hi).2⟩⟩
def utf8_ValidString.f (s : ByteArray) : Option Bool := if s.size ≤ 9223372036854775807 then some (Lib.validD s.data.toList) else none

/-! DEFS alphabet_IsWord -/
def alphabet_IsWord.f (l : List S42) (s : ByteArray) : Option Bool := if okS l s = true then some (Lib.validD s.data.toList && ((rns s).all (isLetter l) && decide (((rns s).length : Int) ≤ 40))) else none

/-! DEFS alphabet_Index -/
theorem firstIn_range {l : List S42} {m : Nat} (hm : m ≤ l.length) {r i : Int} (h : firstIn l m r = some i) : 0 ≤ i ∧ i < (m : Int) := by
  obtain ⟨n, hn, e⟩ := Option.map_eq_some_iff.mp h
  subst e
  have := (List.findIdx?_eq_some_iff_findIdx_eq.mp hn).1
  rw [List.length_take] at this
  exact ⟨by simp, by simp; omega⟩
def alphabet_Index.f (l : List S42) (r : Int) : Option Int := if okA l = true then (if (Lit.int .i32 r).wf = true then some ((firstIn l l.length r).getD (-1)) else none) else none
def alphabet_Classes.f (l : List S42) (r : Int) : Option Int := if okA l = true then (if (Lit.int .i32 r).wf = true then (match firstIn l l.length r with | some i => some (rd_T42 l i).f1 | none => some 0) else none) else none

/-! DEFS cmp_isNaN_int -/
def cmp_isNaN_int.f (a0 : Int) : Option (Bool) := some (a0 != a0)

/-! DEFS cmp_Compare_int -/
def cmp_Compare_int.f (a0 : Int) (a1 : Int) : Option (Int) := (cmp_isNaN_int.f a0).bind fun t101 => ((cmp_isNaN_int.f a1).bind fun t102 => (if t101 = true then (if t102 = true then (some 0) else (some (-1))) else (if t102 = true then (some 1) else (if a0 < a1 then (some (-1)) else (if a0 > a1 then (some 1) else (some 0))))))

/-! DEFS slices_Compare_int_int -/
def slices_Compare_int_int.l0 : Nat → List Int → List Int → List Int → Int → Int → Option (Int)
  | 0, _, _, _, _, _ => none
  | k + 1, x0, x1, x9, x10, x11 => if x11 < x10 then (if 0 ≤ x11 then (if x11 < (x9.length : Int) then (if x11 ≥ (x1.length : Int) then (some 1) else (if x11 < (x1.length : Int) then ((cmp_Compare_int.f (rd x9 x11) (rd x1 x11)).bind fun t105 => (if t105 = 0 then (slices_Compare_int_int.l0 k x0 x1 x9 x10 (wrap64 (x11 + 1))) else (some t105))) else (none))) else (none)) else (none)) else (if (x0.length : Int) < (x1.length : Int) then (some (-1)) else (some 0))
def slices_Compare_int_int.f (k : Nat) (l0 : List Int) (l1 : List Int) : Option (Int) := slices_Compare_int_int.l0 k l0 l1 l0 (l0.length : Int) 0
theorem slices_Compare_int_int.mono_l : ∀ k, (∀ y0 y1 y2 y3 y4, LeO (slices_Compare_int_int.l0 k y0 y1 y2 y3 y4) (slices_Compare_int_int.l0 (k + 1) y0 y1 y2 y3 y4))
  | 0 => fun _ _ _ _ _ r h => by simp [slices_Compare_int_int.l0] at h
  | k + 1 => by
    have ih0 := slices_Compare_int_int.mono_l k
    · intro y0 y1 y2 y3 y4
      unfold slices_Compare_int_int.l0
      repeat' first
      | (with_reducible exact ih0 _ _ _ _ _)
      | (with_reducible exact LeO.refl _)
      | (with_reducible exact LeO.none _)
      | (with_reducible refine LeO.ite ?_ ?_)
      | (with_reducible refine LeO.bind ?_ (fun _ => ?_))
      | exact ih0 _ _ _ _ _
      | exact LeO.none _
      | refine LeO.ite ?_ ?_
      | refine LeO.bind ?_ (fun _ => ?_)
theorem slices_Compare_int_int.mono : ∀ a0 a1 k, LeO (slices_Compare_int_int.f k a0 a1) (slices_Compare_int_int.f (k + 1) a0 a1) := by
  intro a0 a1 k
  have ih0 := slices_Compare_int_int.mono_l k
  unfold slices_Compare_int_int.f
  repeat' first
      | (with_reducible exact ih0 _ _ _ _ _)
      | (with_reducible exact LeO.refl _)
      | (with_reducible exact LeO.none _)
      | (with_reducible refine LeO.ite ?_ ?_)
      | (with_reducible refine LeO.bind ?_ (fun _ => ?_))
      | exact ih0 _ _ _ _ _
      | exact LeO.none _
      | refine LeO.ite ?_ ?_
      | refine LeO.bind ?_ (fun _ => ?_)

/-! DEFS alphabet_Compare -/
/-- The weight of a rune: its letter's index, or behind all letters. -/
def weight (l : List S42) (r : Int) : Int := (firstIn l l.length r).getD ((l.length : Int) + r)
def weights (l : List S42) (s : ByteArray) : List Int := (rns s).map (weight l)
def alphabet_Compare.f (k : Nat) (l : List S42) (s t : ByteArray) : Option Int := if okS l s = true then (if okS l t = true then slices_Compare_int_int.f k (weights l s) (weights l t) else none) else none
theorem alphabet_Compare.mono : ∀ l s t k, LeO (alphabet_Compare.f k l s t) (alphabet_Compare.f (k + 1) l s t) := by
  intro l s t k
  unfold alphabet_Compare.f
  repeat' first
      | (with_reducible exact LeO.refl _)
      | (with_reducible exact slices_Compare_int_int.mono _ _ _)
      | (with_reducible refine LeO.ite ?_ ?_)
theorem wInfo3 : (Tryd.prog.info? 3).map (fun i => (i.zero, i.size, i.bytes)) = some (some (.int .i64 0), 1, 8) := by kernel_rfl
theorem weight_small {l : List S42} {r i : Int} (hl : (l.length : Int) ≤ 1000) (h : firstIn l l.length r = some i) : 0 ≤ i ∧ i ≤ 1000 := by
  have := firstIn_range (Nat.le_refl _) h
  omega

/-! DEFS alphabet_Words -/
mutual
def alphabet_Words.j0 : Nat → List (S42) → Int → Bool → Option (List ByteArray)
  | 0, _, _, _ => none
  | k + 1, x0, x1, x21 => if x21 = true then (some ([] : List ByteArray)) else (alphabet_Words.l0 k x0 (([(⟨#[]⟩ : ByteArray)] : List ByteArray)) x1 0)
def alphabet_Words.l0 : Nat → List (S42) → List ByteArray → Int → Int → Option (List ByteArray)
  | 0, _, _, _, _ => none
  | k + 1, x0, x5, x23, x24 => if x24 < x23 then (if (wrap64 ((x5.length : Int) * (x0.length : Int))) > 256 then (some ([] : List ByteArray)) else (alphabet_Words.l1 k x0 ([] : List ByteArray) x23 x24 x5 (x5.length : Int) 0)) else (some x5)
def alphabet_Words.l1 : Nat → List (S42) → List ByteArray → Int → Int → List ByteArray → Int → Int → Option (List ByteArray)
  | 0, _, _, _, _, _, _, _ => none
  | k + 1, x0, x6, x23, x24, x32, x33, x34 => if x34 < x33 then (if 0 ≤ x34 then (if x34 < (x32.length : Int) then (alphabet_Words.l2 k x0 x6 (rdOf ByteArray.empty x32 x34) x23 x24 x32 x33 x34 x0 (x0.length : Int) 0) else (none)) else (none)) else (alphabet_Words.l0 k x0 x6 x23 (wrap64 (x24 + 1)))
def alphabet_Words.l2 : Nat → List (S42) → List ByteArray → ByteArray → Int → Int → List ByteArray → Int → Int → List (S42) → Int → Int → Option (List ByteArray)
  | 0, _, _, _, _, _, _, _, _, _, _, _ => none
  | k + 1, x0, x6, x8, x23, x24, x32, x33, x34, x38, x39, x40 => if x40 < x39 then (if 0 ≤ x40 then (if x40 < (x38.length : Int) then (if x8.size + (Utf8.encode ((rd_T42 x38 x40).f0)).size ≤ 9223372036854775807 then (if x6.length < 8796093022208 then (alphabet_Words.l2 k x0 (x6 ++ [x8 ++ (Utf8.encode ((rd_T42 x38 x40).f0))]) x8 x23 x24 x32 x33 x34 x38 x39 (wrap64 (x40 + 1))) else (none)) else (none)) else (none)) else (none)) else (alphabet_Words.l1 k x0 x6 x23 x24 x32 x33 (wrap64 (x34 + 1)))
end
def alphabet_Words.f (k : Nat) (l0 : List (S42)) (a1 : Int) : Option (List ByteArray) := (alphabet_Valid.f k l0).bind fun t106 => (if t106 = true then (if a1 < 0 then (alphabet_Words.j0 k l0 a1 true) else (alphabet_Words.j0 k l0 a1 (decide (a1 > 40)))) else (alphabet_Words.j0 k l0 a1 true))
theorem alphabet_Words.mono_l : ∀ k, (∀ y0 y1 y2, LeO (alphabet_Words.j0 k y0 y1 y2) (alphabet_Words.j0 (k + 1) y0 y1 y2)) ∧ (∀ y0 y1 y2 y3, LeO (alphabet_Words.l0 k y0 y1 y2 y3) (alphabet_Words.l0 (k + 1) y0 y1 y2 y3)) ∧ (∀ y0 y1 y2 y3 y4 y5 y6, LeO (alphabet_Words.l1 k y0 y1 y2 y3 y4 y5 y6) (alphabet_Words.l1 (k + 1) y0 y1 y2 y3 y4 y5 y6)) ∧ (∀ y0 y1 y2 y3 y4 y5 y6 y7 y8 y9 y10, LeO (alphabet_Words.l2 k y0 y1 y2 y3 y4 y5 y6 y7 y8 y9 y10) (alphabet_Words.l2 (k + 1) y0 y1 y2 y3 y4 y5 y6 y7 y8 y9 y10))
  | 0 => ⟨fun _ _ _ r h => by simp [alphabet_Words.j0] at h, fun _ _ _ _ r h => by simp [alphabet_Words.l0] at h, fun _ _ _ _ _ _ _ r h => by simp [alphabet_Words.l1] at h, fun _ _ _ _ _ _ _ _ _ _ _ r h => by simp [alphabet_Words.l2] at h⟩
  | k + 1 => by
    obtain ⟨ih0, ih1, ih2, ih3⟩ := alphabet_Words.mono_l k
    refine ⟨?_, ?_, ?_, ?_⟩
    · intro y0 y1 y2
      unfold alphabet_Words.j0
      repeat' first
      | (with_reducible exact ih0 _ _ _)
      | (with_reducible exact ih1 _ _ _ _)
      | (with_reducible exact ih2 _ _ _ _ _ _ _)
      | (with_reducible exact ih3 _ _ _ _ _ _ _ _ _ _ _)
      | (with_reducible exact alphabet_Valid.mono _ _)
      | (with_reducible exact LeO.refl _)
      | (with_reducible exact LeO.none _)
      | (with_reducible refine LeO.ite ?_ ?_)
      | (with_reducible refine LeO.bind ?_ (fun _ => ?_))
      | exact ih0 _ _ _
      | exact ih1 _ _ _ _
      | exact ih2 _ _ _ _ _ _ _
      | exact ih3 _ _ _ _ _ _ _ _ _ _ _
      | exact alphabet_Valid.mono _ _
      | exact LeO.none _
      | refine LeO.ite ?_ ?_
      | refine LeO.bind ?_ (fun _ => ?_)
    · intro y0 y1 y2 y3
      unfold alphabet_Words.l0
      repeat' first
      | (with_reducible exact ih0 _ _ _)
      | (with_reducible exact ih1 _ _ _ _)
      | (with_reducible exact ih2 _ _ _ _ _ _ _)
      | (with_reducible exact ih3 _ _ _ _ _ _ _ _ _ _ _)
      | (with_reducible exact alphabet_Valid.mono _ _)
      | (with_reducible exact LeO.refl _)
      | (with_reducible exact LeO.none _)
      | (with_reducible refine LeO.ite ?_ ?_)
      | (with_reducible refine LeO.bind ?_ (fun _ => ?_))
      | exact ih0 _ _ _
      | exact ih1 _ _ _ _
      | exact ih2 _ _ _ _ _ _ _
      | exact ih3 _ _ _ _ _ _ _ _ _ _ _
      | exact alphabet_Valid.mono _ _
      | exact LeO.none _
      | refine LeO.ite ?_ ?_
      | refine LeO.bind ?_ (fun _ => ?_)
    · intro y0 y1 y2 y3 y4 y5 y6
      unfold alphabet_Words.l1
      repeat' first
      | (with_reducible exact ih0 _ _ _)
      | (with_reducible exact ih1 _ _ _ _)
      | (with_reducible exact ih2 _ _ _ _ _ _ _)
      | (with_reducible exact ih3 _ _ _ _ _ _ _ _ _ _ _)
      | (with_reducible exact alphabet_Valid.mono _ _)
      | (with_reducible exact LeO.refl _)
      | (with_reducible exact LeO.none _)
      | (with_reducible refine LeO.ite ?_ ?_)
      | (with_reducible refine LeO.bind ?_ (fun _ => ?_))
      | exact ih0 _ _ _
      | exact ih1 _ _ _ _
      | exact ih2 _ _ _ _ _ _ _
      | exact ih3 _ _ _ _ _ _ _ _ _ _ _
      | exact alphabet_Valid.mono _ _
      | exact LeO.none _
      | refine LeO.ite ?_ ?_
      | refine LeO.bind ?_ (fun _ => ?_)
    · intro y0 y1 y2 y3 y4 y5 y6 y7 y8 y9 y10
      unfold alphabet_Words.l2
      repeat' first
      | (with_reducible exact ih0 _ _ _)
      | (with_reducible exact ih1 _ _ _ _)
      | (with_reducible exact ih2 _ _ _ _ _ _ _)
      | (with_reducible exact ih3 _ _ _ _ _ _ _ _ _ _ _)
      | (with_reducible exact alphabet_Valid.mono _ _)
      | (with_reducible exact LeO.refl _)
      | (with_reducible exact LeO.none _)
      | (with_reducible refine LeO.ite ?_ ?_)
      | (with_reducible refine LeO.bind ?_ (fun _ => ?_))
      | exact ih0 _ _ _
      | exact ih1 _ _ _ _
      | exact ih2 _ _ _ _ _ _ _
      | exact ih3 _ _ _ _ _ _ _ _ _ _ _
      | exact alphabet_Valid.mono _ _
      | exact LeO.none _
      | refine LeO.ite ?_ ?_
      | refine LeO.bind ?_ (fun _ => ?_)
theorem alphabet_Words.mono : ∀ a0 a1 k, LeO (alphabet_Words.f k a0 a1) (alphabet_Words.f (k + 1) a0 a1) := by
  intro a0 a1 k
  obtain ⟨ih0, ih1, ih2, ih3⟩ := alphabet_Words.mono_l k
  unfold alphabet_Words.f
  repeat' first
      | (with_reducible exact ih0 _ _ _)
      | (with_reducible exact ih1 _ _ _ _)
      | (with_reducible exact ih2 _ _ _ _ _ _ _)
      | (with_reducible exact ih3 _ _ _ _ _ _ _ _ _ _ _)
      | (with_reducible exact alphabet_Valid.mono _ _)
      | (with_reducible exact LeO.refl _)
      | (with_reducible exact LeO.none _)
      | (with_reducible refine LeO.ite ?_ ?_)
      | (with_reducible refine LeO.bind ?_ (fun _ => ?_))
      | exact ih0 _ _ _
      | exact ih1 _ _ _ _
      | exact ih2 _ _ _ _ _ _ _
      | exact ih3 _ _ _ _ _ _ _ _ _ _ _
      | exact alphabet_Valid.mono _ _
      | exact LeO.none _
      | refine LeO.ite ?_ ?_
      | refine LeO.bind ?_ (fun _ => ?_)

/-! DEFS alphabet_Partner -/
def alphabet_Partner.l0 : Nat → List S42 → Int → Int → Option (Int × Bool)
  | 0, _, _, _ => none
  | k + 1, l, want, i => if i < (l.length : Int) then (if (rd_T42 l i).f1 = want then some ((rd_T42 l i).f0, true) else alphabet_Partner.l0 k l want (i + 1)) else some (0, false)
def alphabet_Partner.f (k : Nat) (l : List S42) (r : Int) (toggle : Int) : Option (Int × Bool) := if okA l = true then (if (Lit.int .i32 r).wf = true then (match firstIn l l.length r with | some i => alphabet_Partner.l0 k l (Go.bits .xor .u32 (rd_T42 l i).f1 toggle) 0 | none => some (0, false)) else none) else none
theorem alphabet_Partner.mono_l : ∀ k l want i, LeO (alphabet_Partner.l0 k l want i) (alphabet_Partner.l0 (k + 1) l want i)
  | 0, _, _, _ => fun r h => by simp [alphabet_Partner.l0] at h
  | k + 1, l, want, i => by
    have ih := alphabet_Partner.mono_l k
    unfold alphabet_Partner.l0
    repeat' first
      | (with_reducible exact LeO.refl _)
      | (with_reducible exact ih _ _ _)
      | (with_reducible refine LeO.ite ?_ ?_)
theorem alphabet_Partner.mono : ∀ l r t k, LeO (alphabet_Partner.f k l r t) (alphabet_Partner.f (k + 1) l r t) := by
  intro l r t k
  have ih := alphabet_Partner.mono_l k
  unfold alphabet_Partner.f
  refine LeO.ite (LeO.ite ?_ (LeO.refl _)) (LeO.refl _)
  split
  · exact ih _ _ _
  · exact LeO.refl _

/-! DEFS pentaglotlaw01_awake -/
def pentaglotlaw01_awake.f (k : Nat)  : Option (Bool) := (some (([(⟨98, 2⟩ : S42), (⟨97, 9⟩ : S42), (⟨101, 5⟩ : S42)] : List (S42)) : List (S42))).bind fun y116 => ((alphabet_Partner.f k y116 97 12).bind fun bt119 => ((alphabet_Valid.f k y116).bind fun t121 => (if t121 = true then ((alphabet_Index.f y116 101).bind fun t122 => (if t122 = 2 then ((alphabet_Compare.f k y116 (⟨#[98, 97]⟩ : ByteArray) (⟨#[98, 101]⟩ : ByteArray)).bind fun t123 => (if t123 = (-1) then ((alphabet_Compare.f k y116 (⟨#[98, 97]⟩ : ByteArray) (⟨#[98, 122]⟩ : ByteArray)).bind fun t124 => (if t124 = (-1) then (if bt119.1 = 101 then (if bt119.2 = true then ((alphabet_IsWord.f y116 (⟨#[97, 98, 98, 97]⟩ : ByteArray)).bind fun t125 => (if t125 = true then ((alphabet_IsWord.f y116 (⟨#[97, 98, 99]⟩ : ByteArray)).bind fun t126 => (if t126 = true then (some false) else ((alphabet_Words.f k y116 2).bind fun t127 => (some ((t127.length : Int) == 9))))) else (some false))) else (some false)) else (some false)) else (some false))) else (some false))) else (some false))) else (some false))))
theorem pentaglotlaw01_awake.mono : ∀ k, LeO (pentaglotlaw01_awake.f k ) (pentaglotlaw01_awake.f (k + 1) ) := by
  intro  k
  unfold pentaglotlaw01_awake.f
  repeat' first
      | (with_reducible exact alphabet_Compare.mono _ _ _ _)
      | (with_reducible exact alphabet_Partner.mono _ _ _ _)
      | (with_reducible exact alphabet_Valid.mono _ _)
      | (with_reducible exact alphabet_Words.mono _ _ _)
      | (with_reducible exact LeO.refl _)
      | (with_reducible exact LeO.none _)
      | (with_reducible refine LeO.ite ?_ ?_)
      | (with_reducible refine LeO.bind ?_ (fun _ => ?_))
      | exact alphabet_Compare.mono _ _ _ _
      | exact alphabet_Partner.mono _ _ _ _
      | exact alphabet_Valid.mono _ _
      | exact alphabet_Words.mono _ _ _
      | exact LeO.none _
      | refine LeO.ite ?_ ?_
      | refine LeO.bind ?_ (fun _ => ?_)

/-! DEFS pentaglotlaw01_few -/
def pentaglotlaw01_few.l0 : Nat → List (S42) → List ByteArray → Int → Option (Bool)
  | 0, _, _, _ => none
  | k + 1, x0, x1, x5 => if x5 < (x1.length : Int) then (if 0 ≤ x5 then (if ((rdOf ByteArray.empty x1 x5).size : Int) > 200 then (some false) else (pentaglotlaw01_few.l0 k x0 x1 (wrap64 (x5 + 1)))) else (none)) else (if (x0.length : Int) ≤ 70 then (some (decide ((x1.length : Int) ≤ 40))) else (some false))
def pentaglotlaw01_few.f (k : Nat) (l0 : List (S42)) (l1 : List ByteArray) : Option (Bool) := pentaglotlaw01_few.l0 k l0 l1 0
theorem pentaglotlaw01_few.mono_l : ∀ k, (∀ y0 y1 y2, LeO (pentaglotlaw01_few.l0 k y0 y1 y2) (pentaglotlaw01_few.l0 (k + 1) y0 y1 y2))
  | 0 => fun _ _ _ r h => by simp [pentaglotlaw01_few.l0] at h
  | k + 1 => by
    have ih0 := pentaglotlaw01_few.mono_l k
    · intro y0 y1 y2
      unfold pentaglotlaw01_few.l0
      repeat' first
      | (with_reducible exact ih0 _ _ _)
      | (with_reducible exact LeO.refl _)
      | (with_reducible exact LeO.none _)
      | (with_reducible refine LeO.ite ?_ ?_)
      | (with_reducible refine LeO.bind ?_ (fun _ => ?_))
      | exact ih0 _ _ _
      | exact LeO.none _
      | refine LeO.ite ?_ ?_
      | refine LeO.bind ?_ (fun _ => ?_)
theorem pentaglotlaw01_few.mono : ∀ a0 a1 k, LeO (pentaglotlaw01_few.f k a0 a1) (pentaglotlaw01_few.f (k + 1) a0 a1) := by
  intro a0 a1 k
  have ih0 := pentaglotlaw01_few.mono_l k
  unfold pentaglotlaw01_few.f
  repeat' first
      | (with_reducible exact ih0 _ _ _)
      | (with_reducible exact LeO.refl _)
      | (with_reducible exact LeO.none _)
      | (with_reducible refine LeO.ite ?_ ?_)
      | (with_reducible refine LeO.bind ?_ (fun _ => ?_))
      | exact ih0 _ _ _
      | exact LeO.none _
      | refine LeO.ite ?_ ?_
      | refine LeO.bind ?_ (fun _ => ?_)

/-! DEFS pentaglotref01_Index -/
def pentaglotref01_Index.l0 : Nat → List (S42) → Int → Int → Option (Int)
  | 0, _, _, _ => none
  | k + 1, x0, x1, x5 => if x5 < (x0.length : Int) then (if 0 ≤ x5 then (if ((rd_T42 x0 x5).f0) = x1 then (some x5) else (pentaglotref01_Index.l0 k x0 x1 (wrap64 (x5 + 1)))) else (none)) else (some (-1))
def pentaglotref01_Index.f (k : Nat) (l0 : List (S42)) (a1 : Int) : Option (Int) := pentaglotref01_Index.l0 k l0 a1 0
theorem pentaglotref01_Index.mono_l : ∀ k, (∀ y0 y1 y2, LeO (pentaglotref01_Index.l0 k y0 y1 y2) (pentaglotref01_Index.l0 (k + 1) y0 y1 y2))
  | 0 => fun _ _ _ r h => by simp [pentaglotref01_Index.l0] at h
  | k + 1 => by
    have ih0 := pentaglotref01_Index.mono_l k
    · intro y0 y1 y2
      unfold pentaglotref01_Index.l0
      repeat' first
      | (with_reducible exact ih0 _ _ _)
      | (with_reducible exact LeO.refl _)
      | (with_reducible exact LeO.none _)
      | (with_reducible refine LeO.ite ?_ ?_)
      | (with_reducible refine LeO.bind ?_ (fun _ => ?_))
      | exact ih0 _ _ _
      | exact LeO.none _
      | refine LeO.ite ?_ ?_
      | refine LeO.bind ?_ (fun _ => ?_)
theorem pentaglotref01_Index.mono : ∀ a0 a1 k, LeO (pentaglotref01_Index.f k a0 a1) (pentaglotref01_Index.f (k + 1) a0 a1) := by
  intro a0 a1 k
  have ih0 := pentaglotref01_Index.mono_l k
  unfold pentaglotref01_Index.f
  repeat' first
      | (with_reducible exact ih0 _ _ _)
      | (with_reducible exact LeO.refl _)
      | (with_reducible exact LeO.none _)
      | (with_reducible refine LeO.ite ?_ ?_)
      | (with_reducible refine LeO.bind ?_ (fun _ => ?_))
      | exact ih0 _ _ _
      | exact LeO.none _
      | refine LeO.ite ?_ ?_
      | refine LeO.bind ?_ (fun _ => ?_)

/-! DEFS pentaglotref01_Good -/
def pentaglotref01_Good.f (a0 : Int) : Option (Bool) := if a0 > 32 then (if a0 ≤ 1114111 then (if a0 < 55296 then (some true) else (some (decide (a0 > 57343)))) else (some false)) else (some false)

/-! DEFS pentaglotref01_Valid -/
mutual
def pentaglotref01_Valid.j0 : Nat → List (S42) → Bool → Option (Bool)
  | 0, _, _ => none
  | k + 1, x0, x11 => if x11 = true then (some false) else (pentaglotref01_Valid.l0 k x0 0)
def pentaglotref01_Valid.l0 : Nat → List (S42) → Int → Option (Bool)
  | 0, _, _ => none
  | k + 1, x0, x3 => if x3 < (x0.length : Int) then (if 0 ≤ x3 then ((pentaglotref01_Good.f ((rd_T42 x0 x3).f0)).bind fun t133 => (if t133 = true then ((pentaglotref01_Index.f k x0 ((rd_T42 x0 x3).f0)).bind fun t135 => (if t135 = x3 then (pentaglotref01_Valid.l0 k x0 (wrap64 (x3 + 1))) else (some false))) else (some false))) else (none)) else (some true)
end
def pentaglotref01_Valid.f (k : Nat) (l0 : List (S42)) : Option (Bool) := if (l0.length : Int) < 1 then (pentaglotref01_Valid.j0 k l0 true) else (pentaglotref01_Valid.j0 k l0 (decide ((l0.length : Int) > 64)))
theorem pentaglotref01_Valid.mono_l : ∀ k, (∀ y0 y1, LeO (pentaglotref01_Valid.j0 k y0 y1) (pentaglotref01_Valid.j0 (k + 1) y0 y1)) ∧ (∀ y0 y1, LeO (pentaglotref01_Valid.l0 k y0 y1) (pentaglotref01_Valid.l0 (k + 1) y0 y1))
  | 0 => ⟨fun _ _ r h => by simp [pentaglotref01_Valid.j0] at h, fun _ _ r h => by simp [pentaglotref01_Valid.l0] at h⟩
  | k + 1 => by
    obtain ⟨ih0, ih1⟩ := pentaglotref01_Valid.mono_l k
    refine ⟨?_, ?_⟩
    · intro y0 y1
      unfold pentaglotref01_Valid.j0
      repeat' first
      | (with_reducible exact ih0 _ _)
      | (with_reducible exact ih1 _ _)
      | (with_reducible exact pentaglotref01_Index.mono _ _ _)
      | (with_reducible exact LeO.refl _)
      | (with_reducible exact LeO.none _)
      | (with_reducible refine LeO.ite ?_ ?_)
      | (with_reducible refine LeO.bind ?_ (fun _ => ?_))
      | exact ih0 _ _
      | exact ih1 _ _
      | exact pentaglotref01_Index.mono _ _ _
      | exact LeO.none _
      | refine LeO.ite ?_ ?_
      | refine LeO.bind ?_ (fun _ => ?_)
    · intro y0 y1
      unfold pentaglotref01_Valid.l0
      repeat' first
      | (with_reducible exact ih0 _ _)
      | (with_reducible exact ih1 _ _)
      | (with_reducible exact pentaglotref01_Index.mono _ _ _)
      | (with_reducible exact LeO.refl _)
      | (with_reducible exact LeO.none _)
      | (with_reducible refine LeO.ite ?_ ?_)
      | (with_reducible refine LeO.bind ?_ (fun _ => ?_))
      | exact ih0 _ _
      | exact ih1 _ _
      | exact pentaglotref01_Index.mono _ _ _
      | exact LeO.none _
      | refine LeO.ite ?_ ?_
      | refine LeO.bind ?_ (fun _ => ?_)
theorem pentaglotref01_Valid.mono : ∀ a0 k, LeO (pentaglotref01_Valid.f k a0) (pentaglotref01_Valid.f (k + 1) a0) := by
  intro a0 k
  obtain ⟨ih0, ih1⟩ := pentaglotref01_Valid.mono_l k
  unfold pentaglotref01_Valid.f
  repeat' first
      | (with_reducible exact ih0 _ _)
      | (with_reducible exact ih1 _ _)
      | (with_reducible exact pentaglotref01_Index.mono _ _ _)
      | (with_reducible exact LeO.refl _)
      | (with_reducible exact LeO.none _)
      | (with_reducible refine LeO.ite ?_ ?_)
      | (with_reducible refine LeO.bind ?_ (fun _ => ?_))
      | exact ih0 _ _
      | exact ih1 _ _
      | exact pentaglotref01_Index.mono _ _ _
      | exact LeO.none _
      | refine LeO.ite ?_ ?_
      | refine LeO.bind ?_ (fun _ => ?_)

/-! DEFS pentaglotlaw01_AlphabetValid -/
def pentaglotlaw01_AlphabetValid.j0 : Nat → List (S42) → Bool → Option (Bool)
  | 0, _, _ => none
  | k + 1, x0, x9 => if x9 = true then ((pentaglotlaw01_awake.f k).bind fun t138 => (some t138)) else ((alphabet_Valid.f k x0).bind fun t139 => ((pentaglotref01_Valid.f k x0).bind fun t140 => (some (t139 == t140))))
def pentaglotlaw01_AlphabetValid.f (k : Nat) (l0 : List (S42)) : Option (Bool) := (pentaglotlaw01_awake.f k).bind fun t136 => (if t136 = true then ((pentaglotlaw01_few.f k l0 ([] : List ByteArray)).bind fun t137 => (pentaglotlaw01_AlphabetValid.j0 k l0 (!t137))) else (pentaglotlaw01_AlphabetValid.j0 k l0 true))
theorem pentaglotlaw01_AlphabetValid.mono_l : ∀ k, (∀ y0 y1, LeO (pentaglotlaw01_AlphabetValid.j0 k y0 y1) (pentaglotlaw01_AlphabetValid.j0 (k + 1) y0 y1))
  | 0 => fun _ _ r h => by simp [pentaglotlaw01_AlphabetValid.j0] at h
  | k + 1 => by
    have ih0 := pentaglotlaw01_AlphabetValid.mono_l k
    · intro y0 y1
      unfold pentaglotlaw01_AlphabetValid.j0
      repeat' first
      | (with_reducible exact ih0 _ _)
      | (with_reducible exact alphabet_Valid.mono _ _)
      | (with_reducible exact pentaglotlaw01_awake.mono _)
      | (with_reducible exact pentaglotlaw01_few.mono _ _ _)
      | (with_reducible exact pentaglotref01_Valid.mono _ _)
      | (with_reducible exact LeO.refl _)
      | (with_reducible exact LeO.none _)
      | (with_reducible refine LeO.ite ?_ ?_)
      | (with_reducible refine LeO.bind ?_ (fun _ => ?_))
      | exact ih0 _ _
      | exact alphabet_Valid.mono _ _
      | exact pentaglotlaw01_awake.mono _
      | exact pentaglotlaw01_few.mono _ _ _
      | exact pentaglotref01_Valid.mono _ _
      | exact LeO.none _
      | refine LeO.ite ?_ ?_
      | refine LeO.bind ?_ (fun _ => ?_)
theorem pentaglotlaw01_AlphabetValid.mono : ∀ a0 k, LeO (pentaglotlaw01_AlphabetValid.f k a0) (pentaglotlaw01_AlphabetValid.f (k + 1) a0) := by
  intro a0 k
  have ih0 := pentaglotlaw01_AlphabetValid.mono_l k
  unfold pentaglotlaw01_AlphabetValid.f
  repeat' first
      | (with_reducible exact ih0 _ _)
      | (with_reducible exact alphabet_Valid.mono _ _)
      | (with_reducible exact pentaglotlaw01_awake.mono _)
      | (with_reducible exact pentaglotlaw01_few.mono _ _ _)
      | (with_reducible exact pentaglotref01_Valid.mono _ _)
      | (with_reducible exact LeO.refl _)
      | (with_reducible exact LeO.none _)
      | (with_reducible refine LeO.ite ?_ ?_)
      | (with_reducible refine LeO.bind ?_ (fun _ => ?_))
      | exact ih0 _ _
      | exact alphabet_Valid.mono _ _
      | exact pentaglotlaw01_awake.mono _
      | exact pentaglotlaw01_few.mono _ _ _
      | exact pentaglotref01_Valid.mono _ _
      | exact LeO.none _
      | refine LeO.ite ?_ ?_
      | refine LeO.bind ?_ (fun _ => ?_)

/-! DEFS pentaglotref01_UTF8 -/

/-! DEFS pentaglotref01_Over -/
def refOver.l0 (k : Nat) (l : List S42) : List Int → Option Bool
  | [] => some true
  | x :: xs => (pentaglotref01_Index.f k l x).bind fun t => if t < 0 then some false else refOver.l0 k l xs
def pentaglotref01_Over.f (k : Nat) (l : List S42) (s : ByteArray) : Option Bool := if s.size ≤ 1000000 then ((pentaglotref01_UTF8.f k s).bind fun t => if t = true then refOver.l0 k l (rns s) else some false) else none
theorem refOver.mono_l (k : Nat) (l : List S42) : ∀ xs, LeO (refOver.l0 k l xs) (refOver.l0 (k + 1) l xs)
  | [] => LeO.refl _
  | x :: xs => by
    have ih := refOver.mono_l k l xs
    unfold refOver.l0
    repeat' first
      | (with_reducible exact LeO.refl _)
      | (with_reducible exact ih)
      | (with_reducible exact pentaglotref01_Index.mono _ _ _)
      | (with_reducible refine LeO.ite ?_ ?_)
      | (with_reducible refine LeO.bind ?_ (fun _ => ?_))
theorem pentaglotref01_Over.mono : ∀ l s k, LeO (pentaglotref01_Over.f k l s) (pentaglotref01_Over.f (k + 1) l s) := by
  intro l s k
  unfold pentaglotref01_Over.f
  repeat' first
      | (with_reducible exact LeO.refl _)
      | (with_reducible exact refOver.mono_l _ _ _)
      | (with_reducible exact pentaglotref01_UTF8.mono _ _)
      | (with_reducible refine LeO.ite ?_ ?_)
      | (with_reducible refine LeO.bind ?_ (fun _ => ?_))

/-! DEFS pentaglotref01_IsWord -/
def pentaglotref01_IsWord.f (k : Nat) (l0 : List (S42)) (a1 : ByteArray) : Option (Bool) := (pentaglotref01_Over.f k l0 a1).bind fun t141 => (if t141 = true then (if a1.size ≤ 70368744177664 then (some (decide (((rns a1).length : Int) ≤ 40))) else (none)) else (some false))
theorem pentaglotref01_IsWord.mono : ∀ a0 a1 k, LeO (pentaglotref01_IsWord.f k a0 a1) (pentaglotref01_IsWord.f (k + 1) a0 a1) := by
  intro a0 a1 k
  unfold pentaglotref01_IsWord.f
  repeat' first
      | (with_reducible exact pentaglotref01_Over.mono _ _ _)
      | (with_reducible exact LeO.refl _)
      | (with_reducible exact LeO.none _)
      | (with_reducible refine LeO.ite ?_ ?_)
      | (with_reducible refine LeO.bind ?_ (fun _ => ?_))
      | exact pentaglotref01_Over.mono _ _ _
      | exact LeO.none _
      | refine LeO.ite ?_ ?_
      | refine LeO.bind ?_ (fun _ => ?_)

/-! DEFS pentaglotlaw01_AlphabetWord -/
def pentaglotlaw01_AlphabetWord.j0 : Nat → List (S42) → ByteArray → Bool → Option (Bool)
  | 0, _, _, _ => none
  | k + 1, x0, x1, x13 => if x13 = true then ((pentaglotlaw01_awake.f k).bind fun t150 => (some t150)) else ((alphabet_IsWord.f x0 x1).bind fun t151 => ((pentaglotref01_IsWord.f k x0 x1).bind fun t152 => (some (t151 == t152))))
def pentaglotlaw01_AlphabetWord.f (k : Nat) (l0 : List (S42)) (a1 : ByteArray) : Option (Bool) := (pentaglotlaw01_awake.f k).bind fun t145 => (if t145 = true then ((pentaglotlaw01_few.f k l0 (([a1] : List ByteArray))).bind fun t149 => (pentaglotlaw01_AlphabetWord.j0 k l0 a1 (!t149))) else (pentaglotlaw01_AlphabetWord.j0 k l0 a1 true))
theorem pentaglotlaw01_AlphabetWord.mono_l : ∀ k, (∀ y0 y1 y2, LeO (pentaglotlaw01_AlphabetWord.j0 k y0 y1 y2) (pentaglotlaw01_AlphabetWord.j0 (k + 1) y0 y1 y2))
  | 0 => fun _ _ _ r h => by simp [pentaglotlaw01_AlphabetWord.j0] at h
  | k + 1 => by
    have ih0 := pentaglotlaw01_AlphabetWord.mono_l k
    · intro y0 y1 y2
      unfold pentaglotlaw01_AlphabetWord.j0
      repeat' first
      | (with_reducible exact ih0 _ _ _)
      | (with_reducible exact pentaglotlaw01_awake.mono _)
      | (with_reducible exact pentaglotlaw01_few.mono _ _ _)
      | (with_reducible exact pentaglotref01_IsWord.mono _ _ _)
      | (with_reducible exact LeO.refl _)
      | (with_reducible exact LeO.none _)
      | (with_reducible refine LeO.ite ?_ ?_)
      | (with_reducible refine LeO.bind ?_ (fun _ => ?_))
      | exact ih0 _ _ _
      | exact pentaglotlaw01_awake.mono _
      | exact pentaglotlaw01_few.mono _ _ _
      | exact pentaglotref01_IsWord.mono _ _ _
      | exact LeO.none _
      | refine LeO.ite ?_ ?_
      | refine LeO.bind ?_ (fun _ => ?_)
theorem pentaglotlaw01_AlphabetWord.mono : ∀ a0 a1 k, LeO (pentaglotlaw01_AlphabetWord.f k a0 a1) (pentaglotlaw01_AlphabetWord.f (k + 1) a0 a1) := by
  intro a0 a1 k
  have ih0 := pentaglotlaw01_AlphabetWord.mono_l k
  unfold pentaglotlaw01_AlphabetWord.f
  repeat' first
      | (with_reducible exact ih0 _ _ _)
      | (with_reducible exact pentaglotlaw01_awake.mono _)
      | (with_reducible exact pentaglotlaw01_few.mono _ _ _)
      | (with_reducible exact pentaglotref01_IsWord.mono _ _ _)
      | (with_reducible exact LeO.refl _)
      | (with_reducible exact LeO.none _)
      | (with_reducible refine LeO.ite ?_ ?_)
      | (with_reducible refine LeO.bind ?_ (fun _ => ?_))
      | exact ih0 _ _ _
      | exact pentaglotlaw01_awake.mono _
      | exact pentaglotlaw01_few.mono _ _ _
      | exact pentaglotref01_IsWord.mono _ _ _
      | exact LeO.none _
      | refine LeO.ite ?_ ?_
      | refine LeO.bind ?_ (fun _ => ?_)

/-! DEFS pentaglotlaw01_AlphabetJoins -/
def pentaglotlaw01_AlphabetJoins.j0 : Nat → List (S42) → ByteArray → ByteArray → Bool → Option (Bool)
  | 0, _, _, _, _ => none
  | k + 1, x0, x1, x2, x27 => if x27 = true then ((pentaglotlaw01_awake.f k).bind fun t160 => (some t160)) else ((alphabet_IsWord.f x0 x1).bind fun t161 => (if t161 = true then ((alphabet_IsWord.f x0 x2).bind fun t162 => (if t162 = true then (if x1.size ≤ 70368744177664 then (if x2.size ≤ 70368744177664 then (if x1.size + x2.size ≤ 9223372036854775807 then ((alphabet_IsWord.f x0 (x1 ++ x2)).bind fun t169 => (some (t169 == (decide ((wrap64 (((rns x1).length : Int) + ((rns x2).length : Int))) ≤ 40))))) else (none)) else (none)) else (none)) else (if x1.size + x2.size ≤ 9223372036854775807 then ((alphabet_IsWord.f x0 (x1 ++ x2)).bind fun t170 => (some (t170 == false))) else (none)))) else (if x1.size + x2.size ≤ 9223372036854775807 then ((alphabet_IsWord.f x0 (x1 ++ x2)).bind fun t171 => (some (t171 == false))) else (none))))
def pentaglotlaw01_AlphabetJoins.f (k : Nat) (l0 : List (S42)) (a1 : ByteArray) (a2 : ByteArray) : Option (Bool) := (pentaglotlaw01_awake.f k).bind fun t153 => (if t153 = true then ((pentaglotlaw01_few.f k l0 (([a1, a2] : List ByteArray))).bind fun t157 => (if t157 = true then ((pentaglotref01_UTF8.f k a1).bind fun t158 => (if t158 = true then ((pentaglotref01_UTF8.f k a2).bind fun t159 => (pentaglotlaw01_AlphabetJoins.j0 k l0 a1 a2 (!t159))) else (pentaglotlaw01_AlphabetJoins.j0 k l0 a1 a2 true))) else (pentaglotlaw01_AlphabetJoins.j0 k l0 a1 a2 true))) else (pentaglotlaw01_AlphabetJoins.j0 k l0 a1 a2 true))
theorem pentaglotlaw01_AlphabetJoins.mono_l : ∀ k, (∀ y0 y1 y2 y3, LeO (pentaglotlaw01_AlphabetJoins.j0 k y0 y1 y2 y3) (pentaglotlaw01_AlphabetJoins.j0 (k + 1) y0 y1 y2 y3))
  | 0 => fun _ _ _ _ r h => by simp [pentaglotlaw01_AlphabetJoins.j0] at h
  | k + 1 => by
    have ih0 := pentaglotlaw01_AlphabetJoins.mono_l k
    · intro y0 y1 y2 y3
      unfold pentaglotlaw01_AlphabetJoins.j0
      repeat' first
      | (with_reducible exact ih0 _ _ _ _)
      | (with_reducible exact pentaglotlaw01_awake.mono _)
      | (with_reducible exact pentaglotlaw01_few.mono _ _ _)
      | (with_reducible exact pentaglotref01_UTF8.mono _ _)
      | (with_reducible exact LeO.refl _)
      | (with_reducible exact LeO.none _)
      | (with_reducible refine LeO.ite ?_ ?_)
      | (with_reducible refine LeO.bind ?_ (fun _ => ?_))
      | exact ih0 _ _ _ _
      | exact pentaglotlaw01_awake.mono _
      | exact pentaglotlaw01_few.mono _ _ _
      | exact pentaglotref01_UTF8.mono _ _
      | exact LeO.none _
      | refine LeO.ite ?_ ?_
      | refine LeO.bind ?_ (fun _ => ?_)
theorem pentaglotlaw01_AlphabetJoins.mono : ∀ a0 a1 a2 k, LeO (pentaglotlaw01_AlphabetJoins.f k a0 a1 a2) (pentaglotlaw01_AlphabetJoins.f (k + 1) a0 a1 a2) := by
  intro a0 a1 a2 k
  have ih0 := pentaglotlaw01_AlphabetJoins.mono_l k
  unfold pentaglotlaw01_AlphabetJoins.f
  repeat' first
      | (with_reducible exact ih0 _ _ _ _)
      | (with_reducible exact pentaglotlaw01_awake.mono _)
      | (with_reducible exact pentaglotlaw01_few.mono _ _ _)
      | (with_reducible exact pentaglotref01_UTF8.mono _ _)
      | (with_reducible exact LeO.refl _)
      | (with_reducible exact LeO.none _)
      | (with_reducible refine LeO.ite ?_ ?_)
      | (with_reducible refine LeO.bind ?_ (fun _ => ?_))
      | exact ih0 _ _ _ _
      | exact pentaglotlaw01_awake.mono _
      | exact pentaglotlaw01_few.mono _ _ _
      | exact pentaglotref01_UTF8.mono _ _
      | exact LeO.none _
      | refine LeO.ite ?_ ?_
      | refine LeO.bind ?_ (fun _ => ?_)

/-! DEFS pentaglotref01_before -/
def pentaglotref01_before.j0 : Nat → Int → Int → Int → Int → Bool → Option (Bool)
  | 0, _, _, _, _, _ => none
  | k + 1, x1, x2, x7, x8, x20 => if x20 = true then (some (decide (x7 < x8))) else (if x7 ≥ 0 then (some (decide (x7 ≥ 0))) else (if x8 ≥ 0 then (some (decide (x7 ≥ 0))) else (some (decide (x1 < x2)))))
def pentaglotref01_before.f (k : Nat) (l0 : List (S42)) (a1 : Int) (a2 : Int) : Option (Bool) := (pentaglotref01_Index.f k l0 a1).bind fun t172 => ((pentaglotref01_Index.f k l0 a2).bind fun t173 => (if t172 ≥ 0 then (pentaglotref01_before.j0 k a1 a2 t172 t173 (decide (t173 ≥ 0))) else (pentaglotref01_before.j0 k a1 a2 t172 t173 false)))
theorem pentaglotref01_before.mono_l : ∀ k, (∀ y0 y1 y2 y3 y4, LeO (pentaglotref01_before.j0 k y0 y1 y2 y3 y4) (pentaglotref01_before.j0 (k + 1) y0 y1 y2 y3 y4))
  | 0 => fun _ _ _ _ _ r h => by simp [pentaglotref01_before.j0] at h
  | k + 1 => by
    have ih0 := pentaglotref01_before.mono_l k
    · intro y0 y1 y2 y3 y4
      unfold pentaglotref01_before.j0
      repeat' first
      | (with_reducible exact ih0 _ _ _ _ _)
      | (with_reducible exact pentaglotref01_Index.mono _ _ _)
      | (with_reducible exact LeO.refl _)
      | (with_reducible exact LeO.none _)
      | (with_reducible refine LeO.ite ?_ ?_)
      | (with_reducible refine LeO.bind ?_ (fun _ => ?_))
      | exact ih0 _ _ _ _ _
      | exact pentaglotref01_Index.mono _ _ _
      | exact LeO.none _
      | refine LeO.ite ?_ ?_
      | refine LeO.bind ?_ (fun _ => ?_)
theorem pentaglotref01_before.mono : ∀ a0 a1 a2 k, LeO (pentaglotref01_before.f k a0 a1 a2) (pentaglotref01_before.f (k + 1) a0 a1 a2) := by
  intro a0 a1 a2 k
  have ih0 := pentaglotref01_before.mono_l k
  unfold pentaglotref01_before.f
  repeat' first
      | (with_reducible exact ih0 _ _ _ _ _)
      | (with_reducible exact pentaglotref01_Index.mono _ _ _)
      | (with_reducible exact LeO.refl _)
      | (with_reducible exact LeO.none _)
      | (with_reducible refine LeO.ite ?_ ?_)
      | (with_reducible refine LeO.bind ?_ (fun _ => ?_))
      | exact ih0 _ _ _ _ _
      | exact pentaglotref01_Index.mono _ _ _
      | exact LeO.none _
      | refine LeO.ite ?_ ?_
      | refine LeO.bind ?_ (fun _ => ?_)

/-! DEFS pentaglotref01_Compare -/
mutual
def pentaglotref01_Compare.l0 : Nat → List (S42) → List Int → List Int → Int → Option (Int)
  | 0, _, _, _, _ => none
  | k + 1, x0, x7, x8, x9 => if x9 < (x7.length : Int) then (pentaglotref01_Compare.j1 k x0 x7 x8 x9 (decide (x9 < (x8.length : Int)))) else (pentaglotref01_Compare.j1 k x0 x7 x8 x9 false)
def pentaglotref01_Compare.j1 : Nat → List (S42) → List Int → List Int → Int → Bool → Option (Int)
  | 0, _, _, _, _, _ => none
  | k + 1, x0, x7, x8, x9, x23 => if x23 = true then (if 0 ≤ x9 then (if x9 < (x7.length : Int) then (if x9 < (x8.length : Int) then (if (rd x7 x9) = (rd x8 x9) then (pentaglotref01_Compare.l0 k x0 x7 x8 (wrap64 (x9 + 1))) else ((pentaglotref01_before.f k x0 (rd x7 x9) (rd x8 x9)).bind fun t184 => (if t184 = true then (some (-1)) else (some 1)))) else (none)) else (none)) else (none)) else (if (x7.length : Int) < (x8.length : Int) then (some (-1)) else (if (x7.length : Int) > (x8.length : Int) then (some 1) else (some 0)))
end
def pentaglotref01_Compare.f (k : Nat) (l0 : List (S42)) (a1 : ByteArray) (a2 : ByteArray) : Option (Int) := if a1.size ≤ 70368744177664 then (if a2.size ≤ 70368744177664 then (pentaglotref01_Compare.l0 k l0 (rns a1) (rns a2) 0) else (none)) else (none)
theorem pentaglotref01_Compare.mono_l : ∀ k, (∀ y0 y1 y2 y3, LeO (pentaglotref01_Compare.l0 k y0 y1 y2 y3) (pentaglotref01_Compare.l0 (k + 1) y0 y1 y2 y3)) ∧ (∀ y0 y1 y2 y3 y4, LeO (pentaglotref01_Compare.j1 k y0 y1 y2 y3 y4) (pentaglotref01_Compare.j1 (k + 1) y0 y1 y2 y3 y4))
  | 0 => ⟨fun _ _ _ _ r h => by simp [pentaglotref01_Compare.l0] at h, fun _ _ _ _ _ r h => by simp [pentaglotref01_Compare.j1] at h⟩
  | k + 1 => by
    obtain ⟨ih0, ih1⟩ := pentaglotref01_Compare.mono_l k
    refine ⟨?_, ?_⟩
    · intro y0 y1 y2 y3
      unfold pentaglotref01_Compare.l0
      repeat' first
      | (with_reducible exact ih0 _ _ _ _)
      | (with_reducible exact ih1 _ _ _ _ _)
      | (with_reducible exact pentaglotref01_before.mono _ _ _ _)
      | (with_reducible exact LeO.refl _)
      | (with_reducible exact LeO.none _)
      | (with_reducible refine LeO.ite ?_ ?_)
      | (with_reducible refine LeO.bind ?_ (fun _ => ?_))
      | exact ih0 _ _ _ _
      | exact ih1 _ _ _ _ _
      | exact pentaglotref01_before.mono _ _ _ _
      | exact LeO.none _
      | refine LeO.ite ?_ ?_
      | refine LeO.bind ?_ (fun _ => ?_)
    · intro y0 y1 y2 y3 y4
      unfold pentaglotref01_Compare.j1
      repeat' first
      | (with_reducible exact ih0 _ _ _ _)
      | (with_reducible exact ih1 _ _ _ _ _)
      | (with_reducible exact pentaglotref01_before.mono _ _ _ _)
      | (with_reducible exact LeO.refl _)
      | (with_reducible exact LeO.none _)
      | (with_reducible refine LeO.ite ?_ ?_)
      | (with_reducible refine LeO.bind ?_ (fun _ => ?_))
      | exact ih0 _ _ _ _
      | exact ih1 _ _ _ _ _
      | exact pentaglotref01_before.mono _ _ _ _
      | exact LeO.none _
      | refine LeO.ite ?_ ?_
      | refine LeO.bind ?_ (fun _ => ?_)
theorem pentaglotref01_Compare.mono : ∀ a0 a1 a2 k, LeO (pentaglotref01_Compare.f k a0 a1 a2) (pentaglotref01_Compare.f (k + 1) a0 a1 a2) := by
  intro a0 a1 a2 k
  obtain ⟨ih0, ih1⟩ := pentaglotref01_Compare.mono_l k
  unfold pentaglotref01_Compare.f
  repeat' first
      | (with_reducible exact ih0 _ _ _ _)
      | (with_reducible exact ih1 _ _ _ _ _)
      | (with_reducible exact pentaglotref01_before.mono _ _ _ _)
      | (with_reducible exact LeO.refl _)
      | (with_reducible exact LeO.none _)
      | (with_reducible refine LeO.ite ?_ ?_)
      | (with_reducible refine LeO.bind ?_ (fun _ => ?_))
      | exact ih0 _ _ _ _
      | exact ih1 _ _ _ _ _
      | exact pentaglotref01_before.mono _ _ _ _
      | exact LeO.none _
      | refine LeO.ite ?_ ?_
      | refine LeO.bind ?_ (fun _ => ?_)

/-! DEFS pentaglotlaw01_AlphabetCompare -/
def pentaglotlaw01_AlphabetCompare.j0 : Nat → List (S42) → ByteArray → ByteArray → Bool → Option (Bool)
  | 0, _, _, _, _ => none
  | k + 1, x0, x1, x2, x16 => if x16 = true then ((pentaglotlaw01_awake.f k).bind fun t190 => (some t190)) else ((alphabet_Compare.f k x0 x1 x2).bind fun t191 => ((pentaglotref01_Compare.f k x0 x1 x2).bind fun t192 => (some (t191 == t192))))
def pentaglotlaw01_AlphabetCompare.f (k : Nat) (l0 : List (S42)) (a1 : ByteArray) (a2 : ByteArray) : Option (Bool) := (pentaglotlaw01_awake.f k).bind fun t185 => (if t185 = true then ((pentaglotlaw01_few.f k l0 (([a1, a2] : List ByteArray))).bind fun t189 => (pentaglotlaw01_AlphabetCompare.j0 k l0 a1 a2 (!t189))) else (pentaglotlaw01_AlphabetCompare.j0 k l0 a1 a2 true))
theorem pentaglotlaw01_AlphabetCompare.mono_l : ∀ k, (∀ y0 y1 y2 y3, LeO (pentaglotlaw01_AlphabetCompare.j0 k y0 y1 y2 y3) (pentaglotlaw01_AlphabetCompare.j0 (k + 1) y0 y1 y2 y3))
  | 0 => fun _ _ _ _ r h => by simp [pentaglotlaw01_AlphabetCompare.j0] at h
  | k + 1 => by
    have ih0 := pentaglotlaw01_AlphabetCompare.mono_l k
    · intro y0 y1 y2 y3
      unfold pentaglotlaw01_AlphabetCompare.j0
      repeat' first
      | (with_reducible exact ih0 _ _ _ _)
      | (with_reducible exact alphabet_Compare.mono _ _ _ _)
      | (with_reducible exact pentaglotlaw01_awake.mono _)
      | (with_reducible exact pentaglotlaw01_few.mono _ _ _)
      | (with_reducible exact pentaglotref01_Compare.mono _ _ _ _)
      | (with_reducible exact LeO.refl _)
      | (with_reducible exact LeO.none _)
      | (with_reducible refine LeO.ite ?_ ?_)
      | (with_reducible refine LeO.bind ?_ (fun _ => ?_))
      | exact ih0 _ _ _ _
      | exact alphabet_Compare.mono _ _ _ _
      | exact pentaglotlaw01_awake.mono _
      | exact pentaglotlaw01_few.mono _ _ _
      | exact pentaglotref01_Compare.mono _ _ _ _
      | exact LeO.none _
      | refine LeO.ite ?_ ?_
      | refine LeO.bind ?_ (fun _ => ?_)
theorem pentaglotlaw01_AlphabetCompare.mono : ∀ a0 a1 a2 k, LeO (pentaglotlaw01_AlphabetCompare.f k a0 a1 a2) (pentaglotlaw01_AlphabetCompare.f (k + 1) a0 a1 a2) := by
  intro a0 a1 a2 k
  have ih0 := pentaglotlaw01_AlphabetCompare.mono_l k
  unfold pentaglotlaw01_AlphabetCompare.f
  repeat' first
      | (with_reducible exact ih0 _ _ _ _)
      | (with_reducible exact alphabet_Compare.mono _ _ _ _)
      | (with_reducible exact pentaglotlaw01_awake.mono _)
      | (with_reducible exact pentaglotlaw01_few.mono _ _ _)
      | (with_reducible exact pentaglotref01_Compare.mono _ _ _ _)
      | (with_reducible exact LeO.refl _)
      | (with_reducible exact LeO.none _)
      | (with_reducible refine LeO.ite ?_ ?_)
      | (with_reducible refine LeO.bind ?_ (fun _ => ?_))
      | exact ih0 _ _ _ _
      | exact alphabet_Compare.mono _ _ _ _
      | exact pentaglotlaw01_awake.mono _
      | exact pentaglotlaw01_few.mono _ _ _
      | exact pentaglotref01_Compare.mono _ _ _ _
      | exact LeO.none _
      | refine LeO.ite ?_ ?_
      | refine LeO.bind ?_ (fun _ => ?_)

/-! DEFS pentaglotlaw01_AlphabetOrder -/
def pentaglotlaw01_AlphabetOrder.j0 : Nat → List (S42) → ByteArray → ByteArray → ByteArray → Bool → Option (Bool)
  | 0, _, _, _, _, _ => none
  | k + 1, x0, x1, x2, x3, x31 => if x31 = true then ((pentaglotlaw01_awake.f k).bind fun t200 => (some t200)) else ((alphabet_Compare.f k x0 x1 x2).bind fun t201 => ((alphabet_Compare.f k x0 x2 x3).bind fun t202 => ((alphabet_Compare.f k x0 x2 x1).bind fun t203 => (if t203 = (wrap64 (-t201)) then (if ((t201 == 0) != (x1.toList == x2.toList)) = true then (some false) else (if t201 < (-1) then (some false) else (if t201 > 1 then (some false) else (if t201 > 0 then (some true) else (if t202 > 0 then (some true) else ((alphabet_Compare.f k x0 x1 x3).bind fun t204 => (some (decide (t204 ≤ 0))))))))) else (some false)))))
def pentaglotlaw01_AlphabetOrder.f (k : Nat) (l0 : List (S42)) (a1 : ByteArray) (a2 : ByteArray) (a3 : ByteArray) : Option (Bool) := (pentaglotlaw01_awake.f k).bind fun t193 => (if t193 = true then ((pentaglotlaw01_few.f k l0 (([a1, a2, a3] : List ByteArray))).bind fun t197 => (if t197 = true then ((pentaglotref01_UTF8.f k a1).bind fun t198 => (if t198 = true then ((pentaglotref01_UTF8.f k a2).bind fun t199 => (pentaglotlaw01_AlphabetOrder.j0 k l0 a1 a2 a3 (!t199))) else (pentaglotlaw01_AlphabetOrder.j0 k l0 a1 a2 a3 true))) else (pentaglotlaw01_AlphabetOrder.j0 k l0 a1 a2 a3 true))) else (pentaglotlaw01_AlphabetOrder.j0 k l0 a1 a2 a3 true))
theorem pentaglotlaw01_AlphabetOrder.mono_l : ∀ k, (∀ y0 y1 y2 y3 y4, LeO (pentaglotlaw01_AlphabetOrder.j0 k y0 y1 y2 y3 y4) (pentaglotlaw01_AlphabetOrder.j0 (k + 1) y0 y1 y2 y3 y4))
  | 0 => fun _ _ _ _ _ r h => by simp [pentaglotlaw01_AlphabetOrder.j0] at h
  | k + 1 => by
    have ih0 := pentaglotlaw01_AlphabetOrder.mono_l k
    · intro y0 y1 y2 y3 y4
      unfold pentaglotlaw01_AlphabetOrder.j0
      repeat' first
      | (with_reducible exact ih0 _ _ _ _ _)
      | (with_reducible exact alphabet_Compare.mono _ _ _ _)
      | (with_reducible exact pentaglotlaw01_awake.mono _)
      | (with_reducible exact pentaglotlaw01_few.mono _ _ _)
      | (with_reducible exact pentaglotref01_UTF8.mono _ _)
      | (with_reducible exact LeO.refl _)
      | (with_reducible exact LeO.none _)
      | (with_reducible refine LeO.ite ?_ ?_)
      | (with_reducible refine LeO.bind ?_ (fun _ => ?_))
      | exact ih0 _ _ _ _ _
      | exact alphabet_Compare.mono _ _ _ _
      | exact pentaglotlaw01_awake.mono _
      | exact pentaglotlaw01_few.mono _ _ _
      | exact pentaglotref01_UTF8.mono _ _
      | exact LeO.none _
      | refine LeO.ite ?_ ?_
      | refine LeO.bind ?_ (fun _ => ?_)
theorem pentaglotlaw01_AlphabetOrder.mono : ∀ a0 a1 a2 a3 k, LeO (pentaglotlaw01_AlphabetOrder.f k a0 a1 a2 a3) (pentaglotlaw01_AlphabetOrder.f (k + 1) a0 a1 a2 a3) := by
  intro a0 a1 a2 a3 k
  have ih0 := pentaglotlaw01_AlphabetOrder.mono_l k
  unfold pentaglotlaw01_AlphabetOrder.f
  repeat' first
      | (with_reducible exact ih0 _ _ _ _ _)
      | (with_reducible exact alphabet_Compare.mono _ _ _ _)
      | (with_reducible exact pentaglotlaw01_awake.mono _)
      | (with_reducible exact pentaglotlaw01_few.mono _ _ _)
      | (with_reducible exact pentaglotref01_UTF8.mono _ _)
      | (with_reducible exact LeO.refl _)
      | (with_reducible exact LeO.none _)
      | (with_reducible refine LeO.ite ?_ ?_)
      | (with_reducible refine LeO.bind ?_ (fun _ => ?_))
      | exact ih0 _ _ _ _ _
      | exact alphabet_Compare.mono _ _ _ _
      | exact pentaglotlaw01_awake.mono _
      | exact pentaglotlaw01_few.mono _ _ _
      | exact pentaglotref01_UTF8.mono _ _
      | exact LeO.none _
      | refine LeO.ite ?_ ?_
      | refine LeO.bind ?_ (fun _ => ?_)

/-! DEFS pentaglotref01_Same -/
def pentaglotref01_Same.l0 : Nat → List ByteArray → List ByteArray → Int → Int → Option (Bool)
  | 0, _, _, _, _ => none
  | k + 1, x0, x1, x12, x13 => if x13 < x12 then (if 0 ≤ x13 then (if x13 < (x0.length : Int) then (if x13 < (x1.length : Int) then (if (rdOf ByteArray.empty x0 x13).toList = (rdOf ByteArray.empty x1 x13).toList then (pentaglotref01_Same.l0 k x0 x1 x12 (wrap64 (x13 + 1))) else (some false)) else (none)) else (none)) else (none)) else (some true)
def pentaglotref01_Same.f (k : Nat) (l0 : List ByteArray) (l1 : List ByteArray) : Option (Bool) := if (l0.length : Int) = (l1.length : Int) then (pentaglotref01_Same.l0 k l0 l1 (l0.length : Int) 0) else (some false)
theorem pentaglotref01_Same.mono_l : ∀ k, (∀ y0 y1 y2 y3, LeO (pentaglotref01_Same.l0 k y0 y1 y2 y3) (pentaglotref01_Same.l0 (k + 1) y0 y1 y2 y3))
  | 0 => fun _ _ _ _ r h => by simp [pentaglotref01_Same.l0] at h
  | k + 1 => by
    have ih0 := pentaglotref01_Same.mono_l k
    · intro y0 y1 y2 y3
      unfold pentaglotref01_Same.l0
      repeat' first
      | (with_reducible exact ih0 _ _ _ _)
      | (with_reducible exact LeO.refl _)
      | (with_reducible exact LeO.none _)
      | (with_reducible refine LeO.ite ?_ ?_)
      | (with_reducible refine LeO.bind ?_ (fun _ => ?_))
      | exact ih0 _ _ _ _
      | exact LeO.none _
      | refine LeO.ite ?_ ?_
      | refine LeO.bind ?_ (fun _ => ?_)
theorem pentaglotref01_Same.mono : ∀ a0 a1 k, LeO (pentaglotref01_Same.f k a0 a1) (pentaglotref01_Same.f (k + 1) a0 a1) := by
  intro a0 a1 k
  have ih0 := pentaglotref01_Same.mono_l k
  unfold pentaglotref01_Same.f
  repeat' first
      | (with_reducible exact ih0 _ _ _ _)
      | (with_reducible exact LeO.refl _)
      | (with_reducible exact LeO.none _)
      | (with_reducible refine LeO.ite ?_ ?_)
      | (with_reducible refine LeO.bind ?_ (fun _ => ?_))
      | exact ih0 _ _ _ _
      | exact LeO.none _
      | refine LeO.ite ?_ ?_
      | refine LeO.bind ?_ (fun _ => ?_)

/-! DEFS pentaglotref01_Words -/
mutual
def pentaglotref01_Words.j0 : Nat → List (S42) → Int → Bool → Option (List ByteArray)
  | 0, _, _, _ => none
  | k + 1, x0, x1, x22 => if x22 = true then (some ([] : List ByteArray)) else (pentaglotref01_Words.l0 k x0 x1 (([(⟨#[]⟩ : ByteArray)] : List ByteArray)) 0)
def pentaglotref01_Words.l0 : Nat → List (S42) → Int → List ByteArray → Int → Option (List ByteArray)
  | 0, _, _, _, _ => none
  | k + 1, x0, x1, x5, x6 => if x6 < x1 then (pentaglotref01_Words.l1 k x0 x1 x6 (([] : List ByteArray)) x5 (x5.length : Int) 0) else (some x5)
def pentaglotref01_Words.l1 : Nat → List (S42) → Int → Int → List ByteArray → List ByteArray → Int → Int → Option (List ByteArray)
  | 0, _, _, _, _, _, _, _ => none
  | k + 1, x0, x1, x6, x7, x30, x31, x32 => if x32 < x31 then (if 0 ≤ x32 then (if x32 < (x30.length : Int) then (pentaglotref01_Words.l2 k x0 x1 x6 x7 (rdOf ByteArray.empty x30 x32) x30 x31 x32 x0 (x0.length : Int) 0) else (none)) else (none)) else (if (x7.length : Int) > 256 then (some ([] : List ByteArray)) else (pentaglotref01_Words.l0 k x0 x1 x7 (wrap64 (x6 + 1))))
def pentaglotref01_Words.l2 : Nat → List (S42) → Int → Int → List ByteArray → ByteArray → List ByteArray → Int → Int → List (S42) → Int → Int → Option (List ByteArray)
  | 0, _, _, _, _, _, _, _, _, _, _, _ => none
  | k + 1, x0, x1, x6, x7, x9, x30, x31, x32, x36, x37, x38 => if x38 < x37 then (if 0 ≤ x38 then (if x38 < (x36.length : Int) then (if x9.size + (Utf8.encode ((rd_T42 x36 x38).f0)).size ≤ 9223372036854775807 then (if x7.length < 8796093022208 then (pentaglotref01_Words.l2 k x0 x1 x6 (x7 ++ [x9 ++ (Utf8.encode ((rd_T42 x36 x38).f0))]) x9 x30 x31 x32 x36 x37 (wrap64 (x38 + 1))) else (none)) else (none)) else (none)) else (none)) else (pentaglotref01_Words.l1 k x0 x1 x6 x7 x30 x31 (wrap64 (x32 + 1)))
end
def pentaglotref01_Words.f (k : Nat) (l0 : List (S42)) (a1 : Int) : Option (List ByteArray) := (pentaglotref01_Valid.f k l0).bind fun t207 => (if t207 = true then (if a1 < 0 then (pentaglotref01_Words.j0 k l0 a1 true) else (pentaglotref01_Words.j0 k l0 a1 (decide (a1 > 40)))) else (pentaglotref01_Words.j0 k l0 a1 true))
theorem pentaglotref01_Words.mono_l : ∀ k, (∀ y0 y1 y2, LeO (pentaglotref01_Words.j0 k y0 y1 y2) (pentaglotref01_Words.j0 (k + 1) y0 y1 y2)) ∧ (∀ y0 y1 y2 y3, LeO (pentaglotref01_Words.l0 k y0 y1 y2 y3) (pentaglotref01_Words.l0 (k + 1) y0 y1 y2 y3)) ∧ (∀ y0 y1 y2 y3 y4 y5 y6, LeO (pentaglotref01_Words.l1 k y0 y1 y2 y3 y4 y5 y6) (pentaglotref01_Words.l1 (k + 1) y0 y1 y2 y3 y4 y5 y6)) ∧ (∀ y0 y1 y2 y3 y4 y5 y6 y7 y8 y9 y10, LeO (pentaglotref01_Words.l2 k y0 y1 y2 y3 y4 y5 y6 y7 y8 y9 y10) (pentaglotref01_Words.l2 (k + 1) y0 y1 y2 y3 y4 y5 y6 y7 y8 y9 y10))
  | 0 => ⟨fun _ _ _ r h => by simp [pentaglotref01_Words.j0] at h, fun _ _ _ _ r h => by simp [pentaglotref01_Words.l0] at h, fun _ _ _ _ _ _ _ r h => by simp [pentaglotref01_Words.l1] at h, fun _ _ _ _ _ _ _ _ _ _ _ r h => by simp [pentaglotref01_Words.l2] at h⟩
  | k + 1 => by
    obtain ⟨ih0, ih1, ih2, ih3⟩ := pentaglotref01_Words.mono_l k
    refine ⟨?_, ?_, ?_, ?_⟩
    · intro y0 y1 y2
      unfold pentaglotref01_Words.j0
      repeat' first
      | (with_reducible exact ih0 _ _ _)
      | (with_reducible exact ih1 _ _ _ _)
      | (with_reducible exact ih2 _ _ _ _ _ _ _)
      | (with_reducible exact ih3 _ _ _ _ _ _ _ _ _ _ _)
      | (with_reducible exact pentaglotref01_Valid.mono _ _)
      | (with_reducible exact LeO.refl _)
      | (with_reducible exact LeO.none _)
      | (with_reducible refine LeO.ite ?_ ?_)
      | (with_reducible refine LeO.bind ?_ (fun _ => ?_))
      | exact ih0 _ _ _
      | exact ih1 _ _ _ _
      | exact ih2 _ _ _ _ _ _ _
      | exact ih3 _ _ _ _ _ _ _ _ _ _ _
      | exact pentaglotref01_Valid.mono _ _
      | exact LeO.none _
      | refine LeO.ite ?_ ?_
      | refine LeO.bind ?_ (fun _ => ?_)
    · intro y0 y1 y2 y3
      unfold pentaglotref01_Words.l0
      repeat' first
      | (with_reducible exact ih0 _ _ _)
      | (with_reducible exact ih1 _ _ _ _)
      | (with_reducible exact ih2 _ _ _ _ _ _ _)
      | (with_reducible exact ih3 _ _ _ _ _ _ _ _ _ _ _)
      | (with_reducible exact pentaglotref01_Valid.mono _ _)
      | (with_reducible exact LeO.refl _)
      | (with_reducible exact LeO.none _)
      | (with_reducible refine LeO.ite ?_ ?_)
      | (with_reducible refine LeO.bind ?_ (fun _ => ?_))
      | exact ih0 _ _ _
      | exact ih1 _ _ _ _
      | exact ih2 _ _ _ _ _ _ _
      | exact ih3 _ _ _ _ _ _ _ _ _ _ _
      | exact pentaglotref01_Valid.mono _ _
      | exact LeO.none _
      | refine LeO.ite ?_ ?_
      | refine LeO.bind ?_ (fun _ => ?_)
    · intro y0 y1 y2 y3 y4 y5 y6
      unfold pentaglotref01_Words.l1
      repeat' first
      | (with_reducible exact ih0 _ _ _)
      | (with_reducible exact ih1 _ _ _ _)
      | (with_reducible exact ih2 _ _ _ _ _ _ _)
      | (with_reducible exact ih3 _ _ _ _ _ _ _ _ _ _ _)
      | (with_reducible exact pentaglotref01_Valid.mono _ _)
      | (with_reducible exact LeO.refl _)
      | (with_reducible exact LeO.none _)
      | (with_reducible refine LeO.ite ?_ ?_)
      | (with_reducible refine LeO.bind ?_ (fun _ => ?_))
      | exact ih0 _ _ _
      | exact ih1 _ _ _ _
      | exact ih2 _ _ _ _ _ _ _
      | exact ih3 _ _ _ _ _ _ _ _ _ _ _
      | exact pentaglotref01_Valid.mono _ _
      | exact LeO.none _
      | refine LeO.ite ?_ ?_
      | refine LeO.bind ?_ (fun _ => ?_)
    · intro y0 y1 y2 y3 y4 y5 y6 y7 y8 y9 y10
      unfold pentaglotref01_Words.l2
      repeat' first
      | (with_reducible exact ih0 _ _ _)
      | (with_reducible exact ih1 _ _ _ _)
      | (with_reducible exact ih2 _ _ _ _ _ _ _)
      | (with_reducible exact ih3 _ _ _ _ _ _ _ _ _ _ _)
      | (with_reducible exact pentaglotref01_Valid.mono _ _)
      | (with_reducible exact LeO.refl _)
      | (with_reducible exact LeO.none _)
      | (with_reducible refine LeO.ite ?_ ?_)
      | (with_reducible refine LeO.bind ?_ (fun _ => ?_))
      | exact ih0 _ _ _
      | exact ih1 _ _ _ _
      | exact ih2 _ _ _ _ _ _ _
      | exact ih3 _ _ _ _ _ _ _ _ _ _ _
      | exact pentaglotref01_Valid.mono _ _
      | exact LeO.none _
      | refine LeO.ite ?_ ?_
      | refine LeO.bind ?_ (fun _ => ?_)
theorem pentaglotref01_Words.mono : ∀ a0 a1 k, LeO (pentaglotref01_Words.f k a0 a1) (pentaglotref01_Words.f (k + 1) a0 a1) := by
  intro a0 a1 k
  obtain ⟨ih0, ih1, ih2, ih3⟩ := pentaglotref01_Words.mono_l k
  unfold pentaglotref01_Words.f
  repeat' first
      | (with_reducible exact ih0 _ _ _)
      | (with_reducible exact ih1 _ _ _ _)
      | (with_reducible exact ih2 _ _ _ _ _ _ _)
      | (with_reducible exact ih3 _ _ _ _ _ _ _ _ _ _ _)
      | (with_reducible exact pentaglotref01_Valid.mono _ _)
      | (with_reducible exact LeO.refl _)
      | (with_reducible exact LeO.none _)
      | (with_reducible refine LeO.ite ?_ ?_)
      | (with_reducible refine LeO.bind ?_ (fun _ => ?_))
      | exact ih0 _ _ _
      | exact ih1 _ _ _ _
      | exact ih2 _ _ _ _ _ _ _
      | exact ih3 _ _ _ _ _ _ _ _ _ _ _
      | exact pentaglotref01_Valid.mono _ _
      | exact LeO.none _
      | refine LeO.ite ?_ ?_
      | refine LeO.bind ?_ (fun _ => ?_)

/-! DEFS pentaglotlaw01_AlphabetWords -/
def pentaglotlaw01_AlphabetWords.j0 : Nat → List (S42) → Int → Bool → Option (Bool)
  | 0, _, _, _ => none
  | k + 1, x0, x1, x11 => if x11 = true then ((pentaglotlaw01_awake.f k).bind fun t222 => (some t222)) else ((alphabet_Words.f k x0 x1).bind fun t223 => ((pentaglotref01_Words.f k x0 x1).bind fun t226 => ((pentaglotref01_Same.f k t223 t226).bind fun t229 => (some t229))))
def pentaglotlaw01_AlphabetWords.f (k : Nat) (l0 : List (S42)) (a1 : Int) : Option (Bool) := (pentaglotlaw01_awake.f k).bind fun t220 => (if t220 = true then ((pentaglotlaw01_few.f k l0 ([] : List ByteArray)).bind fun t221 => (pentaglotlaw01_AlphabetWords.j0 k l0 a1 (!t221))) else (pentaglotlaw01_AlphabetWords.j0 k l0 a1 true))
theorem pentaglotlaw01_AlphabetWords.mono_l : ∀ k, (∀ y0 y1 y2, LeO (pentaglotlaw01_AlphabetWords.j0 k y0 y1 y2) (pentaglotlaw01_AlphabetWords.j0 (k + 1) y0 y1 y2))
  | 0 => fun _ _ _ r h => by simp [pentaglotlaw01_AlphabetWords.j0] at h
  | k + 1 => by
    have ih0 := pentaglotlaw01_AlphabetWords.mono_l k
    · intro y0 y1 y2
      unfold pentaglotlaw01_AlphabetWords.j0
      repeat' first
      | (with_reducible exact ih0 _ _ _)
      | (with_reducible exact alphabet_Words.mono _ _ _)
      | (with_reducible exact pentaglotlaw01_awake.mono _)
      | (with_reducible exact pentaglotlaw01_few.mono _ _ _)
      | (with_reducible exact pentaglotref01_Same.mono _ _ _)
      | (with_reducible exact pentaglotref01_Words.mono _ _ _)
      | (with_reducible exact LeO.refl _)
      | (with_reducible exact LeO.none _)
      | (with_reducible refine LeO.ite ?_ ?_)
      | (with_reducible refine LeO.bind ?_ (fun _ => ?_))
      | exact ih0 _ _ _
      | exact alphabet_Words.mono _ _ _
      | exact pentaglotlaw01_awake.mono _
      | exact pentaglotlaw01_few.mono _ _ _
      | exact pentaglotref01_Same.mono _ _ _
      | exact pentaglotref01_Words.mono _ _ _
      | exact LeO.none _
      | refine LeO.ite ?_ ?_
      | refine LeO.bind ?_ (fun _ => ?_)
theorem pentaglotlaw01_AlphabetWords.mono : ∀ a0 a1 k, LeO (pentaglotlaw01_AlphabetWords.f k a0 a1) (pentaglotlaw01_AlphabetWords.f (k + 1) a0 a1) := by
  intro a0 a1 k
  have ih0 := pentaglotlaw01_AlphabetWords.mono_l k
  unfold pentaglotlaw01_AlphabetWords.f
  repeat' first
      | (with_reducible exact ih0 _ _ _)
      | (with_reducible exact alphabet_Words.mono _ _ _)
      | (with_reducible exact pentaglotlaw01_awake.mono _)
      | (with_reducible exact pentaglotlaw01_few.mono _ _ _)
      | (with_reducible exact pentaglotref01_Same.mono _ _ _)
      | (with_reducible exact pentaglotref01_Words.mono _ _ _)
      | (with_reducible exact LeO.refl _)
      | (with_reducible exact LeO.none _)
      | (with_reducible refine LeO.ite ?_ ?_)
      | (with_reducible refine LeO.bind ?_ (fun _ => ?_))
      | exact ih0 _ _ _
      | exact alphabet_Words.mono _ _ _
      | exact pentaglotlaw01_awake.mono _
      | exact pentaglotlaw01_few.mono _ _ _
      | exact pentaglotref01_Same.mono _ _ _
      | exact pentaglotref01_Words.mono _ _ _
      | exact LeO.none _
      | refine LeO.ite ?_ ?_
      | refine LeO.bind ?_ (fun _ => ?_)

/-! DEFS pentaglotlaw01_AlphabetAscends -/
mutual
def pentaglotlaw01_AlphabetAscends.j0 : Nat → List (S42) → Int → ByteArray → Bool → Option (Bool)
  | 0, _, _, _, _ => none
  | k + 1, x0, x1, x2, x18 => if x18 = true then ((pentaglotlaw01_awake.f k).bind fun t235 => (some t235)) else ((alphabet_Words.f k x0 x1).bind fun t236 => (pentaglotlaw01_AlphabetAscends.l0 k x0 x1 x2 t236 false 0))
def pentaglotlaw01_AlphabetAscends.l0 : Nat → List (S42) → Int → ByteArray → List ByteArray → Bool → Int → Option (Bool)
  | 0, _, _, _, _, _, _ => none
  | k + 1, x0, x1, x2, x7, x8, x9 => if x9 < (x7.length : Int) then (if 0 ≤ x9 then ((alphabet_IsWord.f x0 (rdOf ByteArray.empty x7 x9)).bind fun t244 => (if t244 = true then (if (rdOf ByteArray.empty x7 x9).size ≤ 70368744177664 then (if ((rns (rdOf ByteArray.empty x7 x9)).length : Int) = x1 then (if x9 > 0 then (if 0 ≤ (wrap64 (x9 - 1)) then (if (wrap64 (x9 - 1)) < (x7.length : Int) then ((alphabet_Compare.f k x0 (rdOf ByteArray.empty x7 (wrap64 (x9 - 1))) (rdOf ByteArray.empty x7 x9)).bind fun t251 => (if t251 = (-1) then (if x8 = true then (pentaglotlaw01_AlphabetAscends.l0 k x0 x1 x2 x7 true (wrap64 (x9 + 1))) else (pentaglotlaw01_AlphabetAscends.l0 k x0 x1 x2 x7 ((rdOf ByteArray.empty x7 x9).toList == x2.toList) (wrap64 (x9 + 1)))) else (some false))) else (none)) else (none)) else (if x8 = true then (pentaglotlaw01_AlphabetAscends.l0 k x0 x1 x2 x7 true (wrap64 (x9 + 1))) else (pentaglotlaw01_AlphabetAscends.l0 k x0 x1 x2 x7 ((rdOf ByteArray.empty x7 x9).toList == x2.toList) (wrap64 (x9 + 1))))) else (some false)) else (none)) else (some false))) else (none)) else (if (x7.length : Int) = 0 then (some true) else ((alphabet_IsWord.f x0 x2).bind fun t239 => (if t239 = true then (if x2.size ≤ 70368744177664 then (some (x8 == (((rns x2).length : Int) == x1))) else (none)) else (some (x8 == false)))))
end
def pentaglotlaw01_AlphabetAscends.f (k : Nat) (l0 : List (S42)) (a1 : Int) (a2 : ByteArray) : Option (Bool) := (pentaglotlaw01_awake.f k).bind fun t230 => (if t230 = true then ((pentaglotlaw01_few.f k l0 (([a2] : List ByteArray))).bind fun t234 => (pentaglotlaw01_AlphabetAscends.j0 k l0 a1 a2 (!t234))) else (pentaglotlaw01_AlphabetAscends.j0 k l0 a1 a2 true))
theorem pentaglotlaw01_AlphabetAscends.mono_l : ∀ k, (∀ y0 y1 y2 y3, LeO (pentaglotlaw01_AlphabetAscends.j0 k y0 y1 y2 y3) (pentaglotlaw01_AlphabetAscends.j0 (k + 1) y0 y1 y2 y3)) ∧ (∀ y0 y1 y2 y3 y4 y5, LeO (pentaglotlaw01_AlphabetAscends.l0 k y0 y1 y2 y3 y4 y5) (pentaglotlaw01_AlphabetAscends.l0 (k + 1) y0 y1 y2 y3 y4 y5))
  | 0 => ⟨fun _ _ _ _ r h => by simp [pentaglotlaw01_AlphabetAscends.j0] at h, fun _ _ _ _ _ _ r h => by simp [pentaglotlaw01_AlphabetAscends.l0] at h⟩
  | k + 1 => by
    obtain ⟨ih0, ih1⟩ := pentaglotlaw01_AlphabetAscends.mono_l k
    refine ⟨?_, ?_⟩
    · intro y0 y1 y2 y3
      unfold pentaglotlaw01_AlphabetAscends.j0
      repeat' first
      | (with_reducible exact ih0 _ _ _ _)
      | (with_reducible exact ih1 _ _ _ _ _ _)
      | (with_reducible exact alphabet_Compare.mono _ _ _ _)
      | (with_reducible exact alphabet_Words.mono _ _ _)
      | (with_reducible exact pentaglotlaw01_awake.mono _)
      | (with_reducible exact pentaglotlaw01_few.mono _ _ _)
      | (with_reducible exact LeO.refl _)
      | (with_reducible exact LeO.none _)
      | (with_reducible refine LeO.ite ?_ ?_)
      | (with_reducible refine LeO.bind ?_ (fun _ => ?_))
      | exact ih0 _ _ _ _
      | exact ih1 _ _ _ _ _ _
      | exact alphabet_Compare.mono _ _ _ _
      | exact alphabet_Words.mono _ _ _
      | exact pentaglotlaw01_awake.mono _
      | exact pentaglotlaw01_few.mono _ _ _
      | exact LeO.none _
      | refine LeO.ite ?_ ?_
      | refine LeO.bind ?_ (fun _ => ?_)
    · intro y0 y1 y2 y3 y4 y5
      unfold pentaglotlaw01_AlphabetAscends.l0
      repeat' first
      | (with_reducible exact ih0 _ _ _ _)
      | (with_reducible exact ih1 _ _ _ _ _ _)
      | (with_reducible exact alphabet_Compare.mono _ _ _ _)
      | (with_reducible exact alphabet_Words.mono _ _ _)
      | (with_reducible exact pentaglotlaw01_awake.mono _)
      | (with_reducible exact pentaglotlaw01_few.mono _ _ _)
      | (with_reducible exact LeO.refl _)
      | (with_reducible exact LeO.none _)
      | (with_reducible refine LeO.ite ?_ ?_)
      | (with_reducible refine LeO.bind ?_ (fun _ => ?_))
      | exact ih0 _ _ _ _
      | exact ih1 _ _ _ _ _ _
      | exact alphabet_Compare.mono _ _ _ _
      | exact alphabet_Words.mono _ _ _
      | exact pentaglotlaw01_awake.mono _
      | exact pentaglotlaw01_few.mono _ _ _
      | exact LeO.none _
      | refine LeO.ite ?_ ?_
      | refine LeO.bind ?_ (fun _ => ?_)
theorem pentaglotlaw01_AlphabetAscends.mono : ∀ a0 a1 a2 k, LeO (pentaglotlaw01_AlphabetAscends.f k a0 a1 a2) (pentaglotlaw01_AlphabetAscends.f (k + 1) a0 a1 a2) := by
  intro a0 a1 a2 k
  obtain ⟨ih0, ih1⟩ := pentaglotlaw01_AlphabetAscends.mono_l k
  unfold pentaglotlaw01_AlphabetAscends.f
  repeat' first
      | (with_reducible exact ih0 _ _ _ _)
      | (with_reducible exact ih1 _ _ _ _ _ _)
      | (with_reducible exact alphabet_Compare.mono _ _ _ _)
      | (with_reducible exact alphabet_Words.mono _ _ _)
      | (with_reducible exact pentaglotlaw01_awake.mono _)
      | (with_reducible exact pentaglotlaw01_few.mono _ _ _)
      | (with_reducible exact LeO.refl _)
      | (with_reducible exact LeO.none _)
      | (with_reducible refine LeO.ite ?_ ?_)
      | (with_reducible refine LeO.bind ?_ (fun _ => ?_))
      | exact ih0 _ _ _ _
      | exact ih1 _ _ _ _ _ _
      | exact alphabet_Compare.mono _ _ _ _
      | exact alphabet_Words.mono _ _ _
      | exact pentaglotlaw01_awake.mono _
      | exact pentaglotlaw01_few.mono _ _ _
      | exact LeO.none _
      | refine LeO.ite ?_ ?_
      | refine LeO.bind ?_ (fun _ => ?_)

/-! DEFS alphabet_Classes -/

/-! DEFS pentaglotref01_Classes -/
def pentaglotref01_Classes.f (k : Nat) (l0 : List (S42)) (a1 : Int) : Option (Int) := (pentaglotref01_Index.f k l0 a1).bind fun t254 => (if t254 < 0 then (some 0) else (if 0 ≤ t254 then (if t254 < (l0.length : Int) then (some ((rd_T42 l0 t254).f1)) else (none)) else (none)))
theorem pentaglotref01_Classes.mono : ∀ a0 a1 k, LeO (pentaglotref01_Classes.f k a0 a1) (pentaglotref01_Classes.f (k + 1) a0 a1) := by
  intro a0 a1 k
  unfold pentaglotref01_Classes.f
  repeat' first
      | (with_reducible exact pentaglotref01_Index.mono _ _ _)
      | (with_reducible exact LeO.refl _)
      | (with_reducible exact LeO.none _)
      | (with_reducible refine LeO.ite ?_ ?_)
      | (with_reducible refine LeO.bind ?_ (fun _ => ?_))
      | exact pentaglotref01_Index.mono _ _ _
      | exact LeO.none _
      | refine LeO.ite ?_ ?_
      | refine LeO.bind ?_ (fun _ => ?_)

/-! DEFS pentaglotlaw01_AlphabetIndex -/
def pentaglotlaw01_AlphabetIndex.j0 : Nat → List (S42) → Int → Bool → Option (Bool)
  | 0, _, _, _ => none
  | k + 1, x0, x1, x11 => if x11 = true then ((pentaglotlaw01_awake.f k).bind fun t258 => (some t258)) else ((alphabet_Index.f x0 x1).bind fun t259 => ((pentaglotref01_Index.f k x0 x1).bind fun t260 => (if t259 = t260 then ((alphabet_Classes.f x0 x1).bind fun t261 => ((pentaglotref01_Classes.f k x0 x1).bind fun t262 => (some (t261 == t262)))) else (some false))))
def pentaglotlaw01_AlphabetIndex.f (k : Nat) (l0 : List (S42)) (a1 : Int) : Option (Bool) := (pentaglotlaw01_awake.f k).bind fun t256 => (if t256 = true then ((pentaglotlaw01_few.f k l0 ([] : List ByteArray)).bind fun t257 => (pentaglotlaw01_AlphabetIndex.j0 k l0 a1 (!t257))) else (pentaglotlaw01_AlphabetIndex.j0 k l0 a1 true))
theorem pentaglotlaw01_AlphabetIndex.mono_l : ∀ k, (∀ y0 y1 y2, LeO (pentaglotlaw01_AlphabetIndex.j0 k y0 y1 y2) (pentaglotlaw01_AlphabetIndex.j0 (k + 1) y0 y1 y2))
  | 0 => fun _ _ _ r h => by simp [pentaglotlaw01_AlphabetIndex.j0] at h
  | k + 1 => by
    have ih0 := pentaglotlaw01_AlphabetIndex.mono_l k
    · intro y0 y1 y2
      unfold pentaglotlaw01_AlphabetIndex.j0
      repeat' first
      | (with_reducible exact ih0 _ _ _)
      | (with_reducible exact pentaglotlaw01_awake.mono _)
      | (with_reducible exact pentaglotlaw01_few.mono _ _ _)
      | (with_reducible exact pentaglotref01_Classes.mono _ _ _)
      | (with_reducible exact pentaglotref01_Index.mono _ _ _)
      | (with_reducible exact LeO.refl _)
      | (with_reducible exact LeO.none _)
      | (with_reducible refine LeO.ite ?_ ?_)
      | (with_reducible refine LeO.bind ?_ (fun _ => ?_))
      | exact ih0 _ _ _
      | exact pentaglotlaw01_awake.mono _
      | exact pentaglotlaw01_few.mono _ _ _
      | exact pentaglotref01_Classes.mono _ _ _
      | exact pentaglotref01_Index.mono _ _ _
      | exact LeO.none _
      | refine LeO.ite ?_ ?_
      | refine LeO.bind ?_ (fun _ => ?_)
theorem pentaglotlaw01_AlphabetIndex.mono : ∀ a0 a1 k, LeO (pentaglotlaw01_AlphabetIndex.f k a0 a1) (pentaglotlaw01_AlphabetIndex.f (k + 1) a0 a1) := by
  intro a0 a1 k
  have ih0 := pentaglotlaw01_AlphabetIndex.mono_l k
  unfold pentaglotlaw01_AlphabetIndex.f
  repeat' first
      | (with_reducible exact ih0 _ _ _)
      | (with_reducible exact pentaglotlaw01_awake.mono _)
      | (with_reducible exact pentaglotlaw01_few.mono _ _ _)
      | (with_reducible exact pentaglotref01_Classes.mono _ _ _)
      | (with_reducible exact pentaglotref01_Index.mono _ _ _)
      | (with_reducible exact LeO.refl _)
      | (with_reducible exact LeO.none _)
      | (with_reducible refine LeO.ite ?_ ?_)
      | (with_reducible refine LeO.bind ?_ (fun _ => ?_))
      | exact ih0 _ _ _
      | exact pentaglotlaw01_awake.mono _
      | exact pentaglotlaw01_few.mono _ _ _
      | exact pentaglotref01_Classes.mono _ _ _
      | exact pentaglotref01_Index.mono _ _ _
      | exact LeO.none _
      | refine LeO.ite ?_ ?_
      | refine LeO.bind ?_ (fun _ => ?_)

/-! DEFS pentaglotlaw01_AlphabetLetters -/
def pentaglotlaw01_AlphabetLetters.j0 : Nat → List (S42) → Int → Bool → Option (Bool)
  | 0, _, _, _ => none
  | k + 1, x0, x1, x21 => if x21 = true then ((pentaglotlaw01_awake.f k).bind fun t265 => (some t265)) else (if 0 ≤ x1 then (if x1 < (x0.length : Int) then ((alphabet_Index.f x0 ((rd_T42 x0 x1).f0)).bind fun t267 => (if t267 = x1 then ((alphabet_Classes.f x0 ((rd_T42 x0 x1).f0)).bind fun t269 => (some (t269 == ((rd_T42 x0 x1).f1)))) else (some false))) else (none)) else (none))
def pentaglotlaw01_AlphabetLetters.f (k : Nat) (l0 : List (S42)) (a1 : Int) : Option (Bool) := (pentaglotlaw01_awake.f k).bind fun t263 => (if t263 = true then (if a1 < 0 then (pentaglotlaw01_AlphabetLetters.j0 k l0 a1 true) else (if a1 ≥ (l0.length : Int) then (pentaglotlaw01_AlphabetLetters.j0 k l0 a1 true) else ((alphabet_Valid.f k l0).bind fun t264 => (pentaglotlaw01_AlphabetLetters.j0 k l0 a1 (!t264))))) else (pentaglotlaw01_AlphabetLetters.j0 k l0 a1 true))
theorem pentaglotlaw01_AlphabetLetters.mono_l : ∀ k, (∀ y0 y1 y2, LeO (pentaglotlaw01_AlphabetLetters.j0 k y0 y1 y2) (pentaglotlaw01_AlphabetLetters.j0 (k + 1) y0 y1 y2))
  | 0 => fun _ _ _ r h => by simp [pentaglotlaw01_AlphabetLetters.j0] at h
  | k + 1 => by
    have ih0 := pentaglotlaw01_AlphabetLetters.mono_l k
    · intro y0 y1 y2
      unfold pentaglotlaw01_AlphabetLetters.j0
      repeat' first
      | (with_reducible exact ih0 _ _ _)
      | (with_reducible exact alphabet_Valid.mono _ _)
      | (with_reducible exact pentaglotlaw01_awake.mono _)
      | (with_reducible exact LeO.refl _)
      | (with_reducible exact LeO.none _)
      | (with_reducible refine LeO.ite ?_ ?_)
      | (with_reducible refine LeO.bind ?_ (fun _ => ?_))
      | exact ih0 _ _ _
      | exact alphabet_Valid.mono _ _
      | exact pentaglotlaw01_awake.mono _
      | exact LeO.none _
      | refine LeO.ite ?_ ?_
      | refine LeO.bind ?_ (fun _ => ?_)
theorem pentaglotlaw01_AlphabetLetters.mono : ∀ a0 a1 k, LeO (pentaglotlaw01_AlphabetLetters.f k a0 a1) (pentaglotlaw01_AlphabetLetters.f (k + 1) a0 a1) := by
  intro a0 a1 k
  have ih0 := pentaglotlaw01_AlphabetLetters.mono_l k
  unfold pentaglotlaw01_AlphabetLetters.f
  repeat' first
      | (with_reducible exact ih0 _ _ _)
      | (with_reducible exact alphabet_Valid.mono _ _)
      | (with_reducible exact pentaglotlaw01_awake.mono _)
      | (with_reducible exact LeO.refl _)
      | (with_reducible exact LeO.none _)
      | (with_reducible refine LeO.ite ?_ ?_)
      | (with_reducible refine LeO.bind ?_ (fun _ => ?_))
      | exact ih0 _ _ _
      | exact alphabet_Valid.mono _ _
      | exact pentaglotlaw01_awake.mono _
      | exact LeO.none _
      | refine LeO.ite ?_ ?_
      | refine LeO.bind ?_ (fun _ => ?_)

/-! DEFS pentaglotref01_Partner -/
def pentaglotref01_Partner.l0 : Nat → List (S42) → Int → Int → List (S42) → Int → Int → Option (Int × Bool)
  | 0, _, _, _, _, _, _ => none
  | k + 1, x0, x2, x8, x16, x17, x18 => if x18 < x17 then (if 0 ≤ x18 then (if x18 < (x16.length : Int) then (if 0 ≤ x8 then (if x8 < (x0.length : Int) then (if ((rd_T42 x16 x18).f1) = (Go.bits .xor .u32 ((rd_T42 x0 x8).f1) x2) then (some ((rd_T42 x16 x18).f0, true)) else (pentaglotref01_Partner.l0 k x0 x2 x8 x16 x17 (wrap64 (x18 + 1)))) else (none)) else (none)) else (none)) else (none)) else (some (0, false))
def pentaglotref01_Partner.f (k : Nat) (l0 : List (S42)) (a1 : Int) (a2 : Int) : Option (Int × Bool) := (pentaglotref01_Index.f k l0 a1).bind fun t271 => (if t271 < 0 then (some (0, false)) else (pentaglotref01_Partner.l0 k l0 a2 t271 l0 (l0.length : Int) 0))
theorem pentaglotref01_Partner.mono_l : ∀ k, (∀ y0 y1 y2 y3 y4 y5, LeO (pentaglotref01_Partner.l0 k y0 y1 y2 y3 y4 y5) (pentaglotref01_Partner.l0 (k + 1) y0 y1 y2 y3 y4 y5))
  | 0 => fun _ _ _ _ _ _ r h => by simp [pentaglotref01_Partner.l0] at h
  | k + 1 => by
    have ih0 := pentaglotref01_Partner.mono_l k
    · intro y0 y1 y2 y3 y4 y5
      unfold pentaglotref01_Partner.l0
      repeat' first
      | (with_reducible exact ih0 _ _ _ _ _ _)
      | (with_reducible exact pentaglotref01_Index.mono _ _ _)
      | (with_reducible exact LeO.refl _)
      | (with_reducible exact LeO.none _)
      | (with_reducible refine LeO.ite ?_ ?_)
      | (with_reducible refine LeO.bind ?_ (fun _ => ?_))
      | exact ih0 _ _ _ _ _ _
      | exact pentaglotref01_Index.mono _ _ _
      | exact LeO.none _
      | refine LeO.ite ?_ ?_
      | refine LeO.bind ?_ (fun _ => ?_)
theorem pentaglotref01_Partner.mono : ∀ a0 a1 a2 k, LeO (pentaglotref01_Partner.f k a0 a1 a2) (pentaglotref01_Partner.f (k + 1) a0 a1 a2) := by
  intro a0 a1 a2 k
  have ih0 := pentaglotref01_Partner.mono_l k
  unfold pentaglotref01_Partner.f
  repeat' first
      | (with_reducible exact ih0 _ _ _ _ _ _)
      | (with_reducible exact pentaglotref01_Index.mono _ _ _)
      | (with_reducible exact LeO.refl _)
      | (with_reducible exact LeO.none _)
      | (with_reducible refine LeO.ite ?_ ?_)
      | (with_reducible refine LeO.bind ?_ (fun _ => ?_))
      | exact ih0 _ _ _ _ _ _
      | exact pentaglotref01_Index.mono _ _ _
      | exact LeO.none _
      | refine LeO.ite ?_ ?_
      | refine LeO.bind ?_ (fun _ => ?_)

/-! DEFS pentaglotlaw01_AlphabetPartner -/
mutual
def pentaglotlaw01_AlphabetPartner.j0 : Nat → List (S42) → Int → Int → Bool → Option (Bool)
  | 0, _, _, _, _ => none
  | k + 1, x0, x1, x2, x19 => if x19 = true then ((pentaglotlaw01_awake.f k).bind fun t277 => (some t277)) else ((alphabet_Partner.f k x0 x1 x2).bind fun bt278 => ((pentaglotref01_Partner.f k x0 x1 x2).bind fun bt280 => (if bt278.1 = bt280.1 then (pentaglotlaw01_AlphabetPartner.j1 k x0 x1 x2 bt278.1 bt278.2 (bt278.2 != bt280.2)) else (pentaglotlaw01_AlphabetPartner.j1 k x0 x1 x2 bt278.1 bt278.2 true))))
def pentaglotlaw01_AlphabetPartner.j1 : Nat → List (S42) → Int → Int → Int → Bool → Bool → Option (Bool)
  | 0, _, _, _, _, _, _ => none
  | k + 1, x0, x1, x2, x7, x8, x42 => if x42 = true then (some false) else (if x8 = true then ((pentaglotref01_Valid.f k x0).bind fun t282 => (pentaglotlaw01_AlphabetPartner.j2 k x0 x1 x2 x7 (!t282))) else (pentaglotlaw01_AlphabetPartner.j2 k x0 x1 x2 x7 true))
def pentaglotlaw01_AlphabetPartner.j2 : Nat → List (S42) → Int → Int → Int → Bool → Option (Bool)
  | 0, _, _, _, _, _ => none
  | k + 1, x0, x1, x2, x7, x49 => if x49 = true then (some true) else ((alphabet_Partner.f k x0 x7 x2).bind fun bt283 => (if bt283.2 = true then ((alphabet_Classes.f x0 bt283.1).bind fun t285 => ((alphabet_Classes.f x0 x1).bind fun t286 => (some (t285 == t286)))) else (some false)))
end
def pentaglotlaw01_AlphabetPartner.f (k : Nat) (l0 : List (S42)) (a1 : Int) (a2 : Int) : Option (Bool) := (pentaglotlaw01_awake.f k).bind fun t275 => (if t275 = true then ((pentaglotlaw01_few.f k l0 ([] : List ByteArray)).bind fun t276 => (pentaglotlaw01_AlphabetPartner.j0 k l0 a1 a2 (!t276))) else (pentaglotlaw01_AlphabetPartner.j0 k l0 a1 a2 true))
theorem pentaglotlaw01_AlphabetPartner.mono_l : ∀ k, (∀ y0 y1 y2 y3, LeO (pentaglotlaw01_AlphabetPartner.j0 k y0 y1 y2 y3) (pentaglotlaw01_AlphabetPartner.j0 (k + 1) y0 y1 y2 y3)) ∧ (∀ y0 y1 y2 y3 y4 y5, LeO (pentaglotlaw01_AlphabetPartner.j1 k y0 y1 y2 y3 y4 y5) (pentaglotlaw01_AlphabetPartner.j1 (k + 1) y0 y1 y2 y3 y4 y5)) ∧ (∀ y0 y1 y2 y3 y4, LeO (pentaglotlaw01_AlphabetPartner.j2 k y0 y1 y2 y3 y4) (pentaglotlaw01_AlphabetPartner.j2 (k + 1) y0 y1 y2 y3 y4))
  | 0 => ⟨fun _ _ _ _ r h => by simp [pentaglotlaw01_AlphabetPartner.j0] at h, fun _ _ _ _ _ _ r h => by simp [pentaglotlaw01_AlphabetPartner.j1] at h, fun _ _ _ _ _ r h => by simp [pentaglotlaw01_AlphabetPartner.j2] at h⟩
  | k + 1 => by
    obtain ⟨ih0, ih1, ih2⟩ := pentaglotlaw01_AlphabetPartner.mono_l k
    refine ⟨?_, ?_, ?_⟩
    · intro y0 y1 y2 y3
      unfold pentaglotlaw01_AlphabetPartner.j0
      repeat' first
      | (with_reducible exact ih0 _ _ _ _)
      | (with_reducible exact ih1 _ _ _ _ _ _)
      | (with_reducible exact ih2 _ _ _ _ _)
      | (with_reducible exact alphabet_Partner.mono _ _ _ _)
      | (with_reducible exact pentaglotlaw01_awake.mono _)
      | (with_reducible exact pentaglotlaw01_few.mono _ _ _)
      | (with_reducible exact pentaglotref01_Partner.mono _ _ _ _)
      | (with_reducible exact pentaglotref01_Valid.mono _ _)
      | (with_reducible exact LeO.refl _)
      | (with_reducible exact LeO.none _)
      | (with_reducible refine LeO.ite ?_ ?_)
      | (with_reducible refine LeO.bind ?_ (fun _ => ?_))
      | exact ih0 _ _ _ _
      | exact ih1 _ _ _ _ _ _
      | exact ih2 _ _ _ _ _
      | exact alphabet_Partner.mono _ _ _ _
      | exact pentaglotlaw01_awake.mono _
      | exact pentaglotlaw01_few.mono _ _ _
      | exact pentaglotref01_Partner.mono _ _ _ _
      | exact pentaglotref01_Valid.mono _ _
      | exact LeO.none _
      | refine LeO.ite ?_ ?_
      | refine LeO.bind ?_ (fun _ => ?_)
    · intro y0 y1 y2 y3 y4 y5
      unfold pentaglotlaw01_AlphabetPartner.j1
      repeat' first
      | (with_reducible exact ih0 _ _ _ _)
      | (with_reducible exact ih1 _ _ _ _ _ _)
      | (with_reducible exact ih2 _ _ _ _ _)
      | (with_reducible exact alphabet_Partner.mono _ _ _ _)
      | (with_reducible exact pentaglotlaw01_awake.mono _)
      | (with_reducible exact pentaglotlaw01_few.mono _ _ _)
      | (with_reducible exact pentaglotref01_Partner.mono _ _ _ _)
      | (with_reducible exact pentaglotref01_Valid.mono _ _)
      | (with_reducible exact LeO.refl _)
      | (with_reducible exact LeO.none _)
      | (with_reducible refine LeO.ite ?_ ?_)
      | (with_reducible refine LeO.bind ?_ (fun _ => ?_))
      | exact ih0 _ _ _ _
      | exact ih1 _ _ _ _ _ _
      | exact ih2 _ _ _ _ _
      | exact alphabet_Partner.mono _ _ _ _
      | exact pentaglotlaw01_awake.mono _
      | exact pentaglotlaw01_few.mono _ _ _
      | exact pentaglotref01_Partner.mono _ _ _ _
      | exact pentaglotref01_Valid.mono _ _
      | exact LeO.none _
      | refine LeO.ite ?_ ?_
      | refine LeO.bind ?_ (fun _ => ?_)
    · intro y0 y1 y2 y3 y4
      unfold pentaglotlaw01_AlphabetPartner.j2
      repeat' first
      | (with_reducible exact ih0 _ _ _ _)
      | (with_reducible exact ih1 _ _ _ _ _ _)
      | (with_reducible exact ih2 _ _ _ _ _)
      | (with_reducible exact alphabet_Partner.mono _ _ _ _)
      | (with_reducible exact pentaglotlaw01_awake.mono _)
      | (with_reducible exact pentaglotlaw01_few.mono _ _ _)
      | (with_reducible exact pentaglotref01_Partner.mono _ _ _ _)
      | (with_reducible exact pentaglotref01_Valid.mono _ _)
      | (with_reducible exact LeO.refl _)
      | (with_reducible exact LeO.none _)
      | (with_reducible refine LeO.ite ?_ ?_)
      | (with_reducible refine LeO.bind ?_ (fun _ => ?_))
      | exact ih0 _ _ _ _
      | exact ih1 _ _ _ _ _ _
      | exact ih2 _ _ _ _ _
      | exact alphabet_Partner.mono _ _ _ _
      | exact pentaglotlaw01_awake.mono _
      | exact pentaglotlaw01_few.mono _ _ _
      | exact pentaglotref01_Partner.mono _ _ _ _
      | exact pentaglotref01_Valid.mono _ _
      | exact LeO.none _
      | refine LeO.ite ?_ ?_
      | refine LeO.bind ?_ (fun _ => ?_)
theorem pentaglotlaw01_AlphabetPartner.mono : ∀ a0 a1 a2 k, LeO (pentaglotlaw01_AlphabetPartner.f k a0 a1 a2) (pentaglotlaw01_AlphabetPartner.f (k + 1) a0 a1 a2) := by
  intro a0 a1 a2 k
  obtain ⟨ih0, ih1, ih2⟩ := pentaglotlaw01_AlphabetPartner.mono_l k
  unfold pentaglotlaw01_AlphabetPartner.f
  repeat' first
      | (with_reducible exact ih0 _ _ _ _)
      | (with_reducible exact ih1 _ _ _ _ _ _)
      | (with_reducible exact ih2 _ _ _ _ _)
      | (with_reducible exact alphabet_Partner.mono _ _ _ _)
      | (with_reducible exact pentaglotlaw01_awake.mono _)
      | (with_reducible exact pentaglotlaw01_few.mono _ _ _)
      | (with_reducible exact pentaglotref01_Partner.mono _ _ _ _)
      | (with_reducible exact pentaglotref01_Valid.mono _ _)
      | (with_reducible exact LeO.refl _)
      | (with_reducible exact LeO.none _)
      | (with_reducible refine LeO.ite ?_ ?_)
      | (with_reducible refine LeO.bind ?_ (fun _ => ?_))
      | exact ih0 _ _ _ _
      | exact ih1 _ _ _ _ _ _
      | exact ih2 _ _ _ _ _
      | exact alphabet_Partner.mono _ _ _ _
      | exact pentaglotlaw01_awake.mono _
      | exact pentaglotlaw01_few.mono _ _ _
      | exact pentaglotref01_Partner.mono _ _ _ _
      | exact pentaglotref01_Valid.mono _ _
      | exact LeO.none _
      | refine LeO.ite ?_ ?_
      | refine LeO.bind ?_ (fun _ => ?_)

/-! DEFS pentaglotref01_Runes -/
def pentaglotref01_Runes.f (l0 : List Int) (l1 : List Int) : Option (Bool) := if (strOfRunes l0).toList = (strOfRunes l1).toList then (some ((l0.length : Int) == (l1.length : Int))) else (some false)

/-! DEFS alphabet_Select -/
def alphabet_Select.l0 : Nat → Int → List Int → List (S42) → Int → Int → Option (List Int)
  | 0, _, _, _, _, _ => none
  | k + 1, x1, x5, x8, x9, x10 => if x10 < x9 then (if 0 ≤ x10 then (if x10 < (x8.length : Int) then (if (Go.bits .and .u32 ((rd_T42 x8 x10).f1) x1) = x1 then (if x5.length < 35184372088832 then (alphabet_Select.l0 k x1 (x5 ++ [(rd_T42 x8 x10).f0]) x8 x9 (wrap64 (x10 + 1))) else (none)) else (alphabet_Select.l0 k x1 x5 x8 x9 (wrap64 (x10 + 1)))) else (none)) else (none)) else (some x5)
def alphabet_Select.f (k : Nat) (l0 : List (S42)) (a1 : Int) : Option (List Int) := alphabet_Select.l0 k a1 ([] : List Int) l0 (l0.length : Int) 0
theorem alphabet_Select.mono_l : ∀ k, (∀ y0 y1 y2 y3 y4, LeO (alphabet_Select.l0 k y0 y1 y2 y3 y4) (alphabet_Select.l0 (k + 1) y0 y1 y2 y3 y4))
  | 0 => fun _ _ _ _ _ r h => by simp [alphabet_Select.l0] at h
  | k + 1 => by
    have ih0 := alphabet_Select.mono_l k
    · intro y0 y1 y2 y3 y4
      unfold alphabet_Select.l0
      repeat' first
      | (with_reducible exact ih0 _ _ _ _ _)
      | (with_reducible exact LeO.refl _)
      | (with_reducible exact LeO.none _)
      | (with_reducible refine LeO.ite ?_ ?_)
      | (with_reducible refine LeO.bind ?_ (fun _ => ?_))
      | exact ih0 _ _ _ _ _
      | exact LeO.none _
      | refine LeO.ite ?_ ?_
      | refine LeO.bind ?_ (fun _ => ?_)
theorem alphabet_Select.mono : ∀ a0 a1 k, LeO (alphabet_Select.f k a0 a1) (alphabet_Select.f (k + 1) a0 a1) := by
  intro a0 a1 k
  have ih0 := alphabet_Select.mono_l k
  unfold alphabet_Select.f
  repeat' first
      | (with_reducible exact ih0 _ _ _ _ _)
      | (with_reducible exact LeO.refl _)
      | (with_reducible exact LeO.none _)
      | (with_reducible refine LeO.ite ?_ ?_)
      | (with_reducible refine LeO.bind ?_ (fun _ => ?_))
      | exact ih0 _ _ _ _ _
      | exact LeO.none _
      | refine LeO.ite ?_ ?_
      | refine LeO.bind ?_ (fun _ => ?_)

/-! DEFS pentaglotref01_Has -/
def pentaglotref01_Has.f (a0 : Int) (a1 : Int) : Option (Bool) := some ((Go.bits .and .u32 a0 a1) == a1)

/-! DEFS pentaglotref01_Select -/
def pentaglotref01_Select.l0 : Nat → Int → List Int → List (S42) → Int → Int → Option (List Int)
  | 0, _, _, _, _, _ => none
  | k + 1, x1, x5, x9, x10, x11 => if x11 < x10 then (if 0 ≤ x11 then (if x11 < (x9.length : Int) then ((pentaglotref01_Has.f ((rd_T42 x9 x11).f1) x1).bind fun t297 => (if t297 = true then (if x5.length < 35184372088832 then (pentaglotref01_Select.l0 k x1 (x5 ++ [(rd_T42 x9 x11).f0]) x9 x10 (wrap64 (x11 + 1))) else (none)) else (pentaglotref01_Select.l0 k x1 x5 x9 x10 (wrap64 (x11 + 1))))) else (none)) else (none)) else (some x5)
def pentaglotref01_Select.f (k : Nat) (l0 : List (S42)) (a1 : Int) : Option (List Int) := pentaglotref01_Select.l0 k a1 (([] : List Int)) l0 (l0.length : Int) 0
theorem pentaglotref01_Select.mono_l : ∀ k, (∀ y0 y1 y2 y3 y4, LeO (pentaglotref01_Select.l0 k y0 y1 y2 y3 y4) (pentaglotref01_Select.l0 (k + 1) y0 y1 y2 y3 y4))
  | 0 => fun _ _ _ _ _ r h => by simp [pentaglotref01_Select.l0] at h
  | k + 1 => by
    have ih0 := pentaglotref01_Select.mono_l k
    · intro y0 y1 y2 y3 y4
      unfold pentaglotref01_Select.l0
      repeat' first
      | (with_reducible exact ih0 _ _ _ _ _)
      | (with_reducible exact LeO.refl _)
      | (with_reducible exact LeO.none _)
      | (with_reducible refine LeO.ite ?_ ?_)
      | (with_reducible refine LeO.bind ?_ (fun _ => ?_))
      | exact ih0 _ _ _ _ _
      | exact LeO.none _
      | refine LeO.ite ?_ ?_
      | refine LeO.bind ?_ (fun _ => ?_)
theorem pentaglotref01_Select.mono : ∀ a0 a1 k, LeO (pentaglotref01_Select.f k a0 a1) (pentaglotref01_Select.f (k + 1) a0 a1) := by
  intro a0 a1 k
  have ih0 := pentaglotref01_Select.mono_l k
  unfold pentaglotref01_Select.f
  repeat' first
      | (with_reducible exact ih0 _ _ _ _ _)
      | (with_reducible exact LeO.refl _)
      | (with_reducible exact LeO.none _)
      | (with_reducible refine LeO.ite ?_ ?_)
      | (with_reducible refine LeO.bind ?_ (fun _ => ?_))
      | exact ih0 _ _ _ _ _
      | exact LeO.none _
      | refine LeO.ite ?_ ?_
      | refine LeO.bind ?_ (fun _ => ?_)

/-! DEFS pentaglotlaw01_AlphabetSelect -/
def pentaglotlaw01_AlphabetSelect.j0 : Nat → List (S42) → Int → Bool → Option (Bool)
  | 0, _, _, _ => none
  | k + 1, x0, x1, x11 => if x11 = true then ((pentaglotlaw01_awake.f k).bind fun t303 => (some t303)) else ((alphabet_Select.f k x0 x1).bind fun t304 => ((pentaglotref01_Select.f k x0 x1).bind fun t307 => ((pentaglotref01_Runes.f t304 t307).bind fun t310 => (some t310))))
def pentaglotlaw01_AlphabetSelect.f (k : Nat) (l0 : List (S42)) (a1 : Int) : Option (Bool) := (pentaglotlaw01_awake.f k).bind fun t301 => (if t301 = true then ((pentaglotlaw01_few.f k l0 ([] : List ByteArray)).bind fun t302 => (pentaglotlaw01_AlphabetSelect.j0 k l0 a1 (!t302))) else (pentaglotlaw01_AlphabetSelect.j0 k l0 a1 true))
theorem pentaglotlaw01_AlphabetSelect.mono_l : ∀ k, (∀ y0 y1 y2, LeO (pentaglotlaw01_AlphabetSelect.j0 k y0 y1 y2) (pentaglotlaw01_AlphabetSelect.j0 (k + 1) y0 y1 y2))
  | 0 => fun _ _ _ r h => by simp [pentaglotlaw01_AlphabetSelect.j0] at h
  | k + 1 => by
    have ih0 := pentaglotlaw01_AlphabetSelect.mono_l k
    · intro y0 y1 y2
      unfold pentaglotlaw01_AlphabetSelect.j0
      repeat' first
      | (with_reducible exact ih0 _ _ _)
      | (with_reducible exact alphabet_Select.mono _ _ _)
      | (with_reducible exact pentaglotlaw01_awake.mono _)
      | (with_reducible exact pentaglotlaw01_few.mono _ _ _)
      | (with_reducible exact pentaglotref01_Select.mono _ _ _)
      | (with_reducible exact LeO.refl _)
      | (with_reducible exact LeO.none _)
      | (with_reducible refine LeO.ite ?_ ?_)
      | (with_reducible refine LeO.bind ?_ (fun _ => ?_))
      | exact ih0 _ _ _
      | exact alphabet_Select.mono _ _ _
      | exact pentaglotlaw01_awake.mono _
      | exact pentaglotlaw01_few.mono _ _ _
      | exact pentaglotref01_Select.mono _ _ _
      | exact LeO.none _
      | refine LeO.ite ?_ ?_
      | refine LeO.bind ?_ (fun _ => ?_)
theorem pentaglotlaw01_AlphabetSelect.mono : ∀ a0 a1 k, LeO (pentaglotlaw01_AlphabetSelect.f k a0 a1) (pentaglotlaw01_AlphabetSelect.f (k + 1) a0 a1) := by
  intro a0 a1 k
  have ih0 := pentaglotlaw01_AlphabetSelect.mono_l k
  unfold pentaglotlaw01_AlphabetSelect.f
  repeat' first
      | (with_reducible exact ih0 _ _ _)
      | (with_reducible exact alphabet_Select.mono _ _ _)
      | (with_reducible exact pentaglotlaw01_awake.mono _)
      | (with_reducible exact pentaglotlaw01_few.mono _ _ _)
      | (with_reducible exact pentaglotref01_Select.mono _ _ _)
      | (with_reducible exact LeO.refl _)
      | (with_reducible exact LeO.none _)
      | (with_reducible refine LeO.ite ?_ ?_)
      | (with_reducible refine LeO.bind ?_ (fun _ => ?_))
      | exact ih0 _ _ _
      | exact alphabet_Select.mono _ _ _
      | exact pentaglotlaw01_awake.mono _
      | exact pentaglotlaw01_few.mono _ _ _
      | exact pentaglotref01_Select.mono _ _ _
      | exact LeO.none _
      | refine LeO.ite ?_ ?_
      | refine LeO.bind ?_ (fun _ => ?_)

/-! DEFS slices_swapRangeCmpFunc_string -/
namespace Stb
/-- The element at a place. -/
def el {α : Type} [Inhabited α] (xs : List α) (i : Nat) : α := xs.getD i default
variable {α : Type} [Inhabited α]
theorem el_set (xs : List α) (i j : Nat) (v : α) (h : i < xs.length) : el (xs.set i v) j = if i = j then v else el xs j := by
  unfold el
  simp only [List.getD, List.getElem?_set]
  by_cases e : i = j
  · subst e; rw [if_pos rfl, if_pos h, if_pos rfl]; rfl
  · rw [if_neg e, if_neg e]
theorem el_get {xs : List α} {i : Nat} (h : i < xs.length) : el xs i = xs[i] := by simp [el, List.getD, h]
theorem el_ext {xs ys : List α} (h : xs.length = ys.length) (k : ∀ i, i < xs.length → el xs i = el ys i) : xs = ys := by
  apply List.ext_getElem h
  intro i h1 h2
  have := k i h1
  rwa [el_get h1, el_get h2] at this
/-- Two places exchanged. -/
def swp (xs : List α) (i j : Nat) : List α := (xs.set i (el xs j)).set j (el xs i)
theorem swp_len (xs : List α) (i j : Nat) : (swp xs i j).length = xs.length := by simp [swp]
theorem swp_el (xs : List α) {i j : Nat} (t : Nat) (hi : i < xs.length) (hj : j < xs.length) : el (swp xs i j) t = if t = j then el xs i else if t = i then el xs j else el xs t := by
  unfold swp
  rw [el_set _ _ _ _ (by simpa using hj), el_set _ _ _ _ hi]
  by_cases e : t = j
  · rw [if_pos e.symm, if_pos e]
  · rw [if_neg (fun h => e h.symm), if_neg e]
    by_cases e2 : t = i
    · rw [if_pos e2.symm, if_pos e2]
    · rw [if_neg (fun h => e2 h.symm), if_neg e2]
theorem perm_set_swap : ∀ (xs : List α) (i j : Nat), i < xs.length → j < xs.length → (swp xs i j).Perm xs := by
  intro xs i j hi hj
  have key : ∀ (xs : List α) (i j : Nat), i < j → j < xs.length → (swp xs i j).Perm xs := by
    intro xs i j hij hj
    have hi : i < xs.length := Nat.lt_trans hij hj
    have e : xs = xs.take i ++ el xs i :: ((xs.drop (i + 1)).take (j - i - 1) ++ el xs j :: xs.drop (j + 1)) := by
      rw [el_get hi, el_get hj]
      have h1 : (xs.drop (i + 1)).take (j - i - 1) ++ xs[j] :: xs.drop (j + 1) = xs.drop (i + 1) := by
        have h2 := List.take_append_drop (j - i - 1) (xs.drop (i + 1))
        rw [List.drop_drop, show i + 1 + (j - i - 1) = j by omega, List.drop_eq_getElem_cons hj] at h2
        exact h2
      rw [h1, ← List.drop_eq_getElem_cons hi, List.take_append_drop]
    have e2 : swp xs i j = xs.take i ++ el xs j :: ((xs.drop (i + 1)).take (j - i - 1) ++ el xs i :: xs.drop (j + 1)) := by
      apply el_ext
      · have := congrArg List.length e
        rw [swp_len]
        simp only [List.length_append, List.length_cons] at this ⊢
        omega
      · intro t ht
        rw [swp_len] at ht
        rw [swp_el xs t hi hj]
        have lt : (xs.take i).length = i := by rw [List.length_take]; omega
        have lm : ((xs.drop (i + 1)).take (j - i - 1)).length = j - i - 1 := by rw [List.length_take, List.length_drop]; omega
        have g : ∀ (u v : α), el (xs.take i ++ u :: ((xs.drop (i + 1)).take (j - i - 1) ++ v :: xs.drop (j + 1))) t = if t = j then v else if t = i then u else el xs t := by
          intro u v
          unfold el
          simp only [List.getD]
          by_cases c1 : t < i
          · rw [List.getElem?_append_left (by omega), List.getElem?_take, if_pos c1, if_neg (by omega), if_neg (by omega)]
          · rw [List.getElem?_append_right (by omega), lt]
            by_cases c2 : t = i
            · subst c2; rw [Nat.sub_self, if_neg (by omega), if_pos rfl]; rfl
            · obtain ⟨q, hq⟩ : ∃ q, t - i = q + 1 := ⟨t - i - 1, by omega⟩
              rw [hq, List.getElem?_cons_succ]
              by_cases c3 : t < j
              · rw [List.getElem?_append_left (by omega), List.getElem?_take, if_pos (by omega), List.getElem?_drop, show i + 1 + q = t by omega, if_neg (by omega), if_neg c2]
              · rw [List.getElem?_append_right (by omega), lm]
                by_cases c4 : t = j
                · rw [if_pos c4, show q - (j - i - 1) = 0 by omega]; rfl
                · obtain ⟨q2, hq2⟩ : ∃ q2, q - (j - i - 1) = q2 + 1 := ⟨q - (j - i - 1) - 1, by omega⟩
                  rw [hq2, List.getElem?_cons_succ, List.getElem?_drop, if_neg c4, if_neg c2, show j + 1 + q2 = t by omega]
        rw [g]
    rw [e2]
    conv => rhs; rw [e]
    refine List.Perm.append_left _ ?_
    refine (List.Perm.cons _ List.perm_middle).trans ?_
    refine (List.Perm.swap _ _ _).trans ?_
    exact List.Perm.cons _ List.perm_middle.symm
  rcases Nat.lt_trichotomy i j with h | h | h
  · exact key xs i j h hj
  · subst h
    have : swp xs i i = xs := el_ext (swp_len _ _ _) (fun t _ => by rw [swp_el xs t hi hi]; split <;> simp_all)
    rw [this]
  · have e : swp xs i j = swp xs j i := el_ext (by rw [swp_len, swp_len]) (fun t _ => by
      rw [swp_el xs t hi hj, swp_el xs t hj hi]
      by_cases c1 : t = j
      · rw [if_pos c1]
        by_cases c2 : t = i
        · rw [if_pos c2, ← c1, ← c2]
        · rw [if_neg c2, if_pos c1]
      · rw [if_neg c1]
        by_cases c2 : t = i
        · rw [if_pos c2, if_pos c2]
        · rw [if_neg c2, if_neg c2, if_neg c1])
    rw [e]
    exact key xs j i h hi
/-- The places from a to b are shuffled among themselves, all others are as they were. -/
structure Sh (a b : Nat) (xs ys : List α) : Prop where
  perm : ys.Perm xs
  out : ∀ t, t < a ∨ b ≤ t → el ys t = el xs t
  inn : ∀ t, a ≤ t → t < b → ∃ s, a ≤ s ∧ s < b ∧ el ys t = el xs s
theorem Sh.len {a b : Nat} {xs ys : List α} (h : Sh a b xs ys) : ys.length = xs.length := h.perm.length_eq
theorem Sh.refl (a b : Nat) (xs : List α) : Sh a b xs xs := ⟨List.Perm.refl _, fun _ _ => rfl, fun t h1 h2 => ⟨t, h1, h2, rfl⟩⟩
theorem Sh.trans {a b : Nat} {xs ys zs : List α} (h : Sh a b xs ys) (k : Sh a b ys zs) : Sh a b xs zs :=
  ⟨k.perm.trans h.perm, fun t ht => (k.out t ht).trans (h.out t ht), fun t h1 h2 => by
    obtain ⟨s, s1, s2, e⟩ := k.inn t h1 h2
    obtain ⟨u, u1, u2, e2⟩ := h.inn s s1 s2
    exact ⟨u, u1, u2, e.trans e2⟩⟩
theorem Sh.mono {a b a' b' : Nat} {xs ys : List α} (h : Sh a b xs ys) (ha : a' ≤ a) (hb : b ≤ b') : Sh a' b' xs ys :=
  ⟨h.perm, fun t ht => h.out t (by omega), fun t h1 h2 => by
    by_cases c : a ≤ t ∧ t < b
    · obtain ⟨s, s1, s2, e⟩ := h.inn t c.1 c.2
      exact ⟨s, by omega, by omega, e⟩
    · exact ⟨t, h1, h2, h.out t (by omega)⟩⟩
theorem Sh.swp {a b : Nat} (xs : List α) {i j : Nat} (hb : b ≤ xs.length) (i1 : a ≤ i) (i2 : i < b) (j1 : a ≤ j) (j2 : j < b) : Sh a b xs (swp xs i j) :=
  ⟨perm_set_swap xs i j (by omega) (by omega), fun t ht => by rw [swp_el xs t (by omega) (by omega), if_neg (by omega), if_neg (by omega)], fun t h1 h2 => by
    rw [swp_el xs t (by omega) (by omega)]
    split
    · exact ⟨i, i1, i2, rfl⟩
    · split
      · exact ⟨j, j1, j2, rfl⟩
      · exact ⟨t, h1, h2, rfl⟩⟩
/-! ### the order -/
variable (cf : α → α → Int) (tag : α → Nat)
def Rt (x y : α) : Prop := cf x y < 0 ∨ (cf x y = 0 ∧ tag x < tag y)
structure Cmp (cf : α → α → Int) : Prop where
  anti : ∀ x y, cf y x = -cf x y
  trans : ∀ x y z, cf x y ≤ 0 → cf y z ≤ 0 → cf x z ≤ 0
variable {cf} {tag}
theorem Rt.le {β : Type} {cf : β → β → Int} {tag : β → Nat} {x y : β} (h : Rt cf tag x y) : cf x y ≤ 0 := by rcases h with h | h <;> omega
theorem Rt.trans {β : Type} {cf : β → β → Int} {tag : β → Nat} (C : Cmp cf) {x y z : β} (h : Rt cf tag x y) (k : Rt cf tag y z) : Rt cf tag x z := by
  have h1 := C.trans x y z h.le k.le
  rcases Int.lt_or_eq_of_le h1 with e | e
  · exact .inl e
  · refine .inr ⟨e, ?_⟩
    have e2 : cf z x ≤ 0 := by rw [C.anti x z, e]; decide
    have h3 := C.trans z x y e2 h.le
    have h4 := C.trans y z x k.le e2
    rw [C.anti y z] at h3
    rw [C.anti x y] at h4
    have h5 := h.le
    have h6 := k.le
    rcases h with h | h
    · omega
    · rcases k with k | k <;> omega
theorem Rt.of_ge {β : Type} {cf : β → β → Int} {tag : β → Nat} (C : Cmp cf) {x y : β} (h : ¬ cf y x < 0) (ht : tag x < tag y) : Rt cf tag x y := by
  have := C.anti x y
  by_cases e : cf x y < 0
  · exact .inl e
  · exact .inr ⟨by omega, ht⟩
/-- Ascending from a to b. -/
def Asc (cf : α → α → Int) (tag : α → Nat) (xs : List α) (a b : Nat) : Prop := ∀ i j, a ≤ i → i < j → j < b → Rt cf tag (el xs i) (el xs j)
/-- The tags from a to m are less than those from m to b. -/
def Tags (tag : α → Nat) (xs : List α) (a m b : Nat) : Prop := ∀ i j, a ≤ i → i < m → m ≤ j → j < b → tag (el xs i) < tag (el xs j)
theorem Asc.sub {xs : List α} {a b a' b' : Nat} (h : Asc cf tag xs a b) (ha : a ≤ a') (hb : b' ≤ b) : Asc cf tag xs a' b' := fun i j h1 h2 h3 => h i j (by omega) h2 (by omega)
theorem Asc.join {xs : List α} {a m b : Nat} (h : Asc cf tag xs a m) (k : Asc cf tag xs m b) (hc : ∀ i j, a ≤ i → i < m → m ≤ j → j < b → Rt cf tag (el xs i) (el xs j)) : Asc cf tag xs a b := fun i j h1 h2 h3 => by
  by_cases c : j < m
  · exact h i j h1 h2 c
  · by_cases c2 : i < m
    · exact hc i j h1 c2 (by omega) h3
    · exact k i j (by omega) h2 h3
/-! ### exchanges in a row -/
/-- 'for k := a; k < a + n; k++ { swap(k, k + 1) }' -/
def shl (xs : List α) (a : Nat) : Nat → List α
  | 0 => xs
  | n + 1 => swp (shl xs a n) (a + n) (a + n + 1)
theorem shl_len (xs : List α) (a : Nat) : ∀ n, (shl xs a n).length = xs.length
  | 0 => rfl
  | n + 1 => by rw [shl, swp_len, shl_len xs a n]
theorem shl_el (xs : List α) (a : Nat) : ∀ n, a + n < xs.length → ∀ t, el (shl xs a n) t = if t < a then el xs t else if t < a + n then el xs (t + 1) else if t = a + n then el xs a else el xs t
  | 0, h, t => by
    unfold shl
    by_cases c1 : t < a
    · rw [if_pos c1]
    · rw [if_neg c1, if_neg (by omega)]
      by_cases c2 : t = a + 0
      · rw [if_pos c2, c2]; rfl
      · rw [if_neg c2]
  | n + 1, h, t => by
    have ih := shl_el xs a n (by omega)
    rw [shl, swp_el _ t (by rw [shl_len]; omega) (by rw [shl_len]; omega), ih (a + n), ih (a + n + 1), ih t]
    by_cases c1 : t = a + n + 1
    · rw [if_pos c1, if_neg (by omega), if_neg (by omega), if_pos rfl, if_neg (by omega), if_neg (by omega), if_pos (by omega)]
    · rw [if_neg c1]
      by_cases c2 : t = a + n
      · rw [if_pos c2, if_neg (by omega), if_neg (by omega), if_neg (by omega), if_neg (by omega), if_pos (by omega), c2]
      · rw [if_neg c2]
        by_cases c3 : t < a
        · rw [if_pos c3, if_pos c3]
        · rw [if_neg c3, if_neg c3]
          by_cases c4 : t < a + n
          · rw [if_pos c4, if_pos (by omega)]
          · rw [if_neg c4, if_neg c2, if_neg (by omega), if_neg (by omega)]
theorem shl_sh (xs : List α) (a b : Nat) (hb : b ≤ xs.length) : ∀ n, a + n < b → Sh a b xs (shl xs a n)
  | 0, _ => Sh.refl _ _ _
  | n + 1, h => (shl_sh xs a b hb n (by omega)).trans (Sh.swp _ (by rw [shl_len]; exact hb) (by omega) (by omega) (by omega) (by omega))
/-- 'for k := m; k > m - n; k-- { swap(k, k - 1) }' -/
def shr (xs : List α) (m : Nat) : Nat → List α
  | 0 => xs
  | n + 1 => swp (shr xs m n) (m - n) (m - n - 1)
theorem shr_len (xs : List α) (m : Nat) : ∀ n, (shr xs m n).length = xs.length
  | 0 => rfl
  | n + 1 => by rw [shr, swp_len, shr_len xs m n]
theorem shr_el (xs : List α) (m : Nat) (hm : m < xs.length) : ∀ n, n ≤ m → ∀ t, el (shr xs m n) t = if t < m - n then el xs t else if t = m - n then el xs m else if t ≤ m then el xs (t - 1) else el xs t
  | 0, h, t => by
    unfold shr
    by_cases c1 : t < m - 0
    · rw [if_pos c1]
    · rw [if_neg c1]
      by_cases c2 : t = m - 0
      · rw [if_pos c2, c2]; rfl
      · rw [if_neg c2, if_neg (by omega)]
  | n + 1, h, t => by
    have ih := shr_el xs m hm n (by omega)
    rw [shr, swp_el _ t (by rw [shr_len]; omega) (by rw [shr_len]; omega), ih (m - n), ih (m - n - 1), ih t]
    by_cases c1 : t = m - n - 1
    · rw [if_pos c1, if_neg (by omega), if_pos rfl, if_neg (by omega), if_pos (by omega)]
    · rw [if_neg c1]
      by_cases c2 : t = m - n
      · rw [if_pos c2, if_pos (by omega), if_neg (by omega), if_neg (by omega), if_pos (by omega), show t - 1 = m - n - 1 by omega]
      · rw [if_neg c2]
        by_cases c3 : t < m - (n + 1)
        · rw [if_pos (by omega), if_pos c3]
        · rw [if_neg (show ¬ t < m - n by omega), if_neg c2, if_neg c3, if_neg (show ¬ t = m - (n + 1) by omega)]
theorem shr_sh (xs : List α) (a m : Nat) (hm : m < xs.length) : ∀ n, a + n ≤ m → Sh a (m + 1) xs (shr xs m n)
  | 0, _ => Sh.refl _ _ _
  | n + 1, h => (shr_sh xs a m hm n (by omega)).trans (Sh.swp _ (by rw [shr_len]; omega) (by omega) (by omega) (by omega) (by omega))
/-- swapRange: 'for i := 0; i < n; i++ { swap(a + i, b + i) }' -/
def swr (xs : List α) (a b : Nat) : Nat → List α
  | 0 => xs
  | n + 1 => swp (swr xs a b n) (a + n) (b + n)
theorem swr_len (xs : List α) (a b : Nat) : ∀ n, (swr xs a b n).length = xs.length
  | 0 => rfl
  | n + 1 => by rw [swr, swp_len, swr_len xs a b n]
theorem swr_el (xs : List α) (a b N : Nat) (hab : a + N ≤ b) (hb : b + N ≤ xs.length) : ∀ n, n ≤ N → ∀ t, el (swr xs a b n) t = if a ≤ t ∧ t < a + n then el xs (t - a + b) else if b ≤ t ∧ t < b + n then el xs (t - b + a) else el xs t
  | 0, h, t => by
    unfold swr
    rw [if_neg (by omega), if_neg (by omega)]
  | n + 1, h, t => by
    have ih := swr_el xs a b N hab hb n (by omega)
    rw [swr, swp_el _ t (by rw [swr_len]; omega) (by rw [swr_len]; omega), ih (a + n), ih (b + n), ih t]
    by_cases c1 : t = b + n
    · rw [if_pos c1, if_neg (show ¬ (a ≤ a + n ∧ a + n < a + n) by omega), if_neg (show ¬ (b ≤ a + n ∧ a + n < b + n) by omega), if_neg (show ¬ (a ≤ t ∧ t < a + (n + 1)) by omega), if_pos (show b ≤ t ∧ t < b + (n + 1) by omega), show t - b + a = a + n by omega]
    · rw [if_neg c1]
      by_cases c2 : t = a + n
      · rw [if_pos c2, if_neg (show ¬ (a ≤ b + n ∧ b + n < a + n) by omega), if_neg (show ¬ (b ≤ b + n ∧ b + n < b + n) by omega), if_pos (show a ≤ t ∧ t < a + (n + 1) by omega), show t - a + b = b + n by omega]
      · rw [if_neg c2]
        by_cases c3 : a ≤ t ∧ t < a + n
        · rw [if_pos c3, if_pos (show a ≤ t ∧ t < a + (n + 1) by omega)]
        · rw [if_neg c3, if_neg (show ¬ (a ≤ t ∧ t < a + (n + 1)) by omega)]
          by_cases c4 : b ≤ t ∧ t < b + n
          · rw [if_pos c4, if_pos (show b ≤ t ∧ t < b + (n + 1) by omega)]
          · rw [if_neg c4, if_neg (show ¬ (b ≤ t ∧ t < b + (n + 1)) by omega)]
theorem swr_sh (xs : List α) (a b lo hi N : Nat) (hab : a + N ≤ b) (hl : lo ≤ a) (hh : b + N ≤ hi) (hb : hi ≤ xs.length) : ∀ n, n ≤ N → Sh lo hi xs (swr xs a b n)
  | 0, _ => Sh.refl _ _ _
  | n + 1, h => (swr_sh xs a b lo hi N hab hl hh hb n (by omega)).trans (Sh.swp _ (by rw [swr_len]; exact hb) (by omega) (by omega) (by omega) (by omega))
/-- rotate, from the state (i, j): the parts of lengths i and j that meet at m still change places. -/
def rot (m : Nat) : Nat → List α → Nat → Nat → List α
  | 0, xs, _, _ => xs
  | k + 1, xs, i, j => if i = j then swr xs (m - i) m i else if i > j then rot m k (swr xs (m - i) m j) (i - j) j else rot m k (swr xs (m - i) (m + j - i) i) i (j - i)
theorem rot_eq (m k : Nat) (xs : List α) (i j : Nat) : rot m (k + 1) xs i j = if i = j then swr xs (m - i) m i else if i > j then rot m k (swr xs (m - i) m j) (i - j) j else rot m k (swr xs (m - i) (m + j - i) i) i (j - i) := rfl
theorem rot_el (m : Nat) : ∀ (k : Nat) (xs : List α) (p i j : Nat), i + j ≤ k → 0 < i → 0 < j → p + i = m → m + j ≤ xs.length → ∀ t,
    el (rot m k xs i j) t = if p ≤ t ∧ t < p + j then el xs (t + i) else if p + j ≤ t ∧ t < m + j then el xs (t - j) else el xs t
  | 0, xs, p, i, j, h, hi, hj, him, hl, t => by omega
  | k + 1, xs, p, i, j, h, hi, hj, him, hl, t => by
    have e1 : m - i = p := by omega
    have e2 : m + j - i = p + j := by omega
    unfold rot
    rw [e1, e2]
    clear e1 e2
    by_cases c : i = j
    · subst c
      rw [if_pos rfl, swr_el xs p m i (by omega) (by omega) i (Nat.le_refl _) t]
      by_cases c1 : p ≤ t ∧ t < p + i
      · rw [if_pos c1, if_pos c1, show t - p + m = t + i by omega]
      · rw [if_neg c1, if_neg c1]
        by_cases c2 : m ≤ t ∧ t < m + i
        · rw [if_pos c2, if_pos (show p + i ≤ t ∧ t < m + i by omega), show t - m + p = t - i by omega]
        · rw [if_neg c2, if_neg (show ¬ (p + i ≤ t ∧ t < m + i) by omega)]
    · rw [if_neg c]
      by_cases g : i > j
      · rw [if_pos g]
        have E := swr_el xs p m j (by omega) (by omega) j (Nat.le_refl _)
        obtain ⟨q, rfl⟩ : ∃ q, i = q + j := ⟨i - j, by omega⟩
        rw [Nat.add_sub_cancel, rot_el m k _ (p + j) q j (by omega) (by omega) hj (by omega) (by rw [swr_len]; exact hl) t, E (t + q), E (t - j), E t]
        clear E
        by_cases c1 : p ≤ t ∧ t < p + j
        · rw [if_pos c1, if_neg (show ¬ (p + j ≤ t ∧ t < p + j + j) by omega), if_neg (show ¬ (p + j + j ≤ t ∧ t < m + j) by omega), if_pos c1, show t - p + m = t + (q + j) by omega]
        · rw [if_neg c1, if_neg c1]
          by_cases c2 : p + j ≤ t ∧ t < m + j
          · rw [if_pos c2]
            by_cases c3 : p + j ≤ t ∧ t < p + j + j
            · rw [if_pos c3, if_neg (show ¬ (p ≤ t + q ∧ t + q < p + j) by omega), if_pos (show m ≤ t + q ∧ t + q < m + j by omega), show t + q - m + p = t - j by omega]
            · rw [if_neg c3, if_pos (show p + j + j ≤ t ∧ t < m + j by omega), if_neg (show ¬ (p ≤ t - j ∧ t - j < p + j) by omega), if_neg (show ¬ (m ≤ t - j ∧ t - j < m + j) by omega)]
          · rw [if_neg c2, if_neg (show ¬ (p + j ≤ t ∧ t < p + j + j) by omega), if_neg (show ¬ (p + j + j ≤ t ∧ t < m + j) by omega), if_neg (show ¬ (m ≤ t ∧ t < m + j) by omega)]
      · rw [if_neg g]
        have E := swr_el xs p (p + j) i (by omega) (by omega) i (Nat.le_refl _)
        obtain ⟨q, rfl⟩ : ∃ q, j = q + i := ⟨j - i, by omega⟩
        rw [Nat.add_sub_cancel, rot_el m k _ p i q (by omega) hi (by omega) him (by rw [swr_len]; omega) t, E (t + i), E (t - q), E t]
        clear E
        by_cases c1 : p ≤ t ∧ t < p + (q + i)
        · rw [if_pos c1]
          by_cases c3 : p ≤ t ∧ t < p + q
          · rw [if_pos c3, if_neg (show ¬ (p ≤ t + i ∧ t + i < p + i) by omega), if_neg (show ¬ (p + (q + i) ≤ t + i ∧ t + i < p + (q + i) + i) by omega)]
          · rw [if_neg c3, if_pos (show p + q ≤ t ∧ t < m + q by omega), if_pos (show p ≤ t - q ∧ t - q < p + i by omega), show t - q - p + (p + (q + i)) = t + i by omega]
        · rw [if_neg c1, if_neg (show ¬ (p ≤ t ∧ t < p + q) by omega), if_neg (show ¬ (p + q ≤ t ∧ t < m + q) by omega), if_neg (show ¬ (p ≤ t ∧ t < p + i) by omega)]
          by_cases c2 : p + (q + i) ≤ t ∧ t < m + (q + i)
          · rw [if_pos c2, if_pos (show p + (q + i) ≤ t ∧ t < p + (q + i) + i by omega), show t - (p + (q + i)) + p = t - (q + i) by omega]
          · rw [if_neg c2, if_neg (show ¬ (p + (q + i) ≤ t ∧ t < p + (q + i) + i) by omega)]
theorem rot_sh (m lo hi : Nat) : ∀ (k : Nat) (xs : List α) (p i j : Nat), i + j ≤ k → 0 < i → 0 < j → p + i = m → lo ≤ p → m + j ≤ hi → hi ≤ xs.length → Sh lo hi xs (rot m k xs i j)
  | 0, xs, p, i, j, h, hi, hj, hp, him, hl, hh => by omega
  | k + 1, xs, p, i, j, h, hi, hj, hp, him, hl, hh => by
    have e1 : m - i = p := by omega
    have e2 : m + j - i = p + j := by omega
    unfold rot
    rw [e1, e2]
    clear e1 e2
    by_cases c : i = j
    · subst c
      rw [if_pos rfl]
      exact swr_sh xs _ _ lo _ i (by omega) (by omega) (by omega) hh i (Nat.le_refl _)
    · rw [if_neg c]
      by_cases g : i > j
      · rw [if_pos g]
        obtain ⟨q, rfl⟩ : ∃ q, i = q + j := ⟨i - j, by omega⟩
        rw [Nat.add_sub_cancel]
        exact (swr_sh xs _ _ lo _ j (by omega) (by omega) (by omega) hh j (Nat.le_refl _)).trans (rot_sh m lo _ k _ (p + j) _ _ (by omega) (by omega) hj (by omega) (by omega) (by omega) (by rw [swr_len]; exact hh))
      · rw [if_neg g]
        obtain ⟨q, rfl⟩ : ∃ q, j = q + i := ⟨j - i, by omega⟩
        rw [Nat.add_sub_cancel]
        exact (swr_sh xs _ _ lo _ i (by omega) (by omega) (by omega) hh i (Nat.le_refl _)).trans (rot_sh m lo _ k _ p _ _ (by omega) hi (by omega) (by omega) (by omega) (by omega) (by rw [swr_len]; exact hh))
theorem rot_len (m : Nat) : ∀ (k : Nat) (xs : List α) (i j : Nat), (rot m k xs i j).length = xs.length
  | 0, xs, i, j => rfl
  | k + 1, xs, i, j => by
    unfold rot
    split
    · exact swr_len _ _ _ _
    · split
      · rw [rot_len m k, swr_len]
      · rw [rot_len m k, swr_len]
/-! ### what merging makes of two ascending parts -/
theorem merge_one_left (C : Cmp cf) {xs : List α} {a b n : Nat} (h1 : Asc cf tag xs (a + 1) b) (ht : Tags tag xs a (a + 1) b) (hib : a + 1 + n ≤ b) (hb : b ≤ xs.length) (hlo : ∀ h, a + 1 ≤ h → h < a + 1 + n → cf (el xs h) (el xs a) < 0) (hhi : ∀ h, a + 1 + n ≤ h → h < b → ¬ cf (el xs h) (el xs a) < 0) :
    Asc cf tag (shl xs a n) a b := by
  have E := shl_el xs a n (by omega)
  have E1 : ∀ t, a ≤ t → t < a + n → el (shl xs a n) t = el xs (t + 1) := fun t k1 k2 => by rw [E t, if_neg (by omega), if_pos k2]
  have E2 : el (shl xs a n) (a + n) = el xs a := by rw [E (a + n), if_neg (by omega), if_neg (by omega), if_pos rfl]
  have E3 : ∀ t, a + n < t → el (shl xs a n) t = el xs t := fun t k1 => by rw [E t, if_neg (by omega), if_neg (by omega), if_neg (by omega)]
  clear E
  intro u v u1 uv v1
  by_cases c1 : u < a + n
  · rw [E1 u u1 c1]
    by_cases c2 : v < a + n
    · rw [E1 v (by omega) c2]; exact h1 _ _ (by omega) (by omega) (by omega)
    · by_cases c3 : v = a + n
      · rw [c3, E2]; exact .inl (hlo _ (by omega) (by omega))
      · rw [E3 v (by omega)]; exact h1 _ _ (by omega) (by omega) (by omega)
  · rw [E3 v (by omega)]
    by_cases c2 : u = a + n
    · rw [c2, E2]; exact Rt.of_ge C (hhi _ (by omega) (by omega)) (ht _ _ (by omega) (by omega) (by omega) (by omega))
    · rw [E3 u (by omega)]; exact h1 _ _ (by omega) (by omega) (by omega)
theorem merge_one_right (C : Cmp cf) {xs : List α} {a n i : Nat} (h1 : Asc cf tag xs a (i + n)) (ht : Tags tag xs a (i + n) (i + n + 1)) (hi : a ≤ i) (hb : i + n < xs.length) (hlo : ∀ h, a ≤ h → h < i → ¬ cf (el xs (i + n)) (el xs h) < 0) (hhi : ∀ h, i ≤ h → h < i + n → cf (el xs (i + n)) (el xs h) < 0) :
    Asc cf tag (shr xs (i + n) n) a (i + n + 1) := by
  have E := shr_el xs (i + n) hb n (by omega)
  rw [Nat.add_sub_cancel] at E
  have E1 : ∀ t, t < i → el (shr xs (i + n) n) t = el xs t := fun t k1 => by rw [E t, if_pos k1]
  have E2 : el (shr xs (i + n) n) i = el xs (i + n) := by rw [E i, if_neg (by omega), if_pos rfl]
  have E3 : ∀ t, i < t → t ≤ i + n → el (shr xs (i + n) n) t = el xs (t - 1) := fun t k1 k2 => by rw [E t, if_neg (by omega), if_neg (by omega), if_pos k2]
  clear E
  intro u v u1 uv v1
  by_cases c1 : u < i
  · rw [E1 u c1]
    by_cases c2 : v < i
    · rw [E1 v c2]; exact h1 _ _ (by omega) (by omega) (by omega)
    · by_cases c3 : v = i
      · rw [c3, E2]; exact Rt.of_ge C (hlo _ (by omega) (by omega)) (ht _ _ (by omega) (by omega) (by omega) (by omega))
      · rw [E3 v (by omega) (by omega)]; exact h1 _ _ (by omega) (by omega) (by omega)
  · rw [E3 v (by omega) (by omega)]
    by_cases c2 : u = i
    · rw [c2, E2]; exact .inl (hhi _ (by omega) (by omega))
    · rw [E3 u (by omega) (by omega)]; exact h1 _ _ (by omega) (by omega) (by omega)
/-- What the search of symMerge finds, and what stands where behind the rotation. -/
structure Cut (cf : α → α → Int) (tag : α → Nat) (ys : List α) (a s mid e b : Nat) : Prop where
  l1 : Asc cf tag ys a s
  r1 : Asc cf tag ys s mid
  l2 : Asc cf tag ys mid e
  r2 : Asc cf tag ys e b
  t1 : Tags tag ys a s mid
  t2 : Tags tag ys mid e b
  lt : ∀ i j, a ≤ i → i < mid → mid ≤ j → j < b → Rt cf tag (el ys i) (el ys j)
theorem cut_made (C : Cmp cf) {xs ys : List α} {a m b mid s e s0 r0 : Nat} (ha : a < m) (hmid : mid = (a + b) / 2) (he : e + s = mid + m)
    (hs0 : (m > mid ∧ s0 + b = mid + m ∧ r0 = mid) ∨ (m ≤ mid ∧ s0 = a ∧ r0 = m)) (h1 : s0 ≤ s) (h2 : s ≤ r0)
    (hlo : ∀ c, s0 ≤ c → c < s → ¬ cf (el xs (mid + m - 1 - c)) (el xs c) < 0) (hhi : ∀ c, s ≤ c → c < r0 → cf (el xs (mid + m - 1 - c)) (el xs c) < 0)
    (hA : Asc cf tag xs a m) (hB : Asc cf tag xs m b) (hT : Tags tag xs a m b)
    (E : ∀ t, el ys t = if s ≤ t ∧ t < mid then el xs (t + (m - s)) else if mid ≤ t ∧ t < e then el xs (t - (e - m)) else el xs t) : Cut cf tag ys a s mid e b := by
  have hsm : s ≤ m := by omega
  have hse : m ≤ e := by omega
  have heb : e ≤ b := by omega
  have has : a ≤ s := by omega
  have hsmid : s ≤ mid := by omega
  have hmide : mid ≤ e := by omega
  -- where the four parts come from
  have eL1 : ∀ t, t < s → el ys t = el xs t := fun t h => by rw [E t, if_neg (by omega), if_neg (by omega)]
  have eR1 : ∀ t, s ≤ t → t < mid → el ys t = el xs (t + (m - s)) := fun t h k => by rw [E t, if_pos ⟨h, k⟩]
  have eL2 : ∀ t, mid ≤ t → t < e → el ys t = el xs (t - (e - m)) := fun t h k => by rw [E t, if_neg (by omega), if_pos ⟨h, k⟩]
  have eR2 : ∀ t, e ≤ t → el ys t = el xs t := fun t h => by rw [E t, if_neg (by omega), if_neg (by omega)]
  -- the two facts at the cut
  have k1 : ∀ i j, a ≤ i → i < s → e ≤ j → j < b → Rt cf tag (el xs i) (el xs j) := fun i j i1 i2 j1 j2 => by
    have hss : s0 < s := by omega
    have h0 := hlo (s - 1) (by omega) (by omega)
    rw [show mid + m - 1 - (s - 1) = e by omega] at h0
    have h3 := Rt.of_ge (tag := tag) C h0 (hT (s - 1) e (by omega) (by omega) (by omega) (by omega))
    have h4 : Rt cf tag (el xs i) (el xs e) := by
      by_cases c : i = s - 1
      · rw [c]; exact h3
      · exact (hA i (s - 1) i1 (by omega) (by omega)).trans C h3
    by_cases c : j = e
    · rw [c]; exact h4
    · exact h4.trans C (hB e j (by omega) (by omega) j2)
  have k2 : ∀ i j, m ≤ i → i < e → s ≤ j → j < m → Rt cf tag (el xs i) (el xs j) := fun i j i1 i2 j1 j2 => by
    have hsr : s < r0 := by omega
    have h0 := hhi s (Nat.le_refl _) hsr
    rw [show mid + m - 1 - s = e - 1 by omega] at h0
    have h3 : Rt cf tag (el xs (e - 1)) (el xs s) := .inl h0
    have h4 : Rt cf tag (el xs i) (el xs s) := by
      by_cases c : i = e - 1
      · rw [c]; exact h3
      · exact (hB i (e - 1) i1 (by omega) (by omega)).trans C h3
    by_cases c : j = s
    · rw [c]; exact h4
    · exact h4.trans C (hA s j (by omega) (by omega) j2)
  refine ⟨fun i j i1 ij j1 => ?_, fun i j i1 ij j1 => ?_, fun i j i1 ij j1 => ?_, fun i j i1 ij j1 => ?_, fun i j i1 i2 j1 j2 => ?_, fun i j i1 i2 j1 j2 => ?_, fun i j i1 i2 j1 j2 => ?_⟩
  · rw [eL1 i (by omega), eL1 j j1]; exact hA i j i1 ij (by omega)
  · rw [eR1 i i1 (by omega), eR1 j (by omega) j1]; exact hB _ _ (by omega) (by omega) (by omega)
  · rw [eL2 i i1 (by omega), eL2 j (by omega) j1]; exact hA _ _ (by omega) (by omega) (by omega)
  · rw [eR2 i i1, eR2 j (by omega)]; exact hB _ _ (by omega) (by omega) (by omega)
  · rw [eL1 i i2, eR1 j j1 j2]; exact hT _ _ i1 (by omega) (by omega) (by omega)
  · rw [eL2 i i1 i2, eR2 j j1]; exact hT _ _ (by omega) (by omega) (by omega) (by omega)
  · by_cases c1 : i < s
    · rw [eL1 i c1]
      by_cases c2 : j < e
      · rw [eL2 j j1 c2]; exact hA _ _ i1 (by omega) (by omega)
      · rw [eR2 j (by omega)]; exact k1 i j i1 c1 (by omega) j2
    · rw [eR1 i (by omega) i2]
      by_cases c2 : j < e
      · rw [eL2 j j1 c2]; exact k2 _ _ (by omega) (by omega) (by omega) (by omega)
      · rw [eR2 j (by omega)]; exact hB _ _ (by omega) (by omega) (by omega)
/-- The two halves shuffled into order each. -/
theorem cut_joined {ys zs vs : List α} {a mid b : Nat} (hlt : ∀ i j, a ≤ i → i < mid → mid ≤ j → j < b → Rt cf tag (el ys i) (el ys j)) (h1 : Sh a mid ys zs) (a1 : Asc cf tag zs a mid) (h2 : Sh mid b zs vs) (a2 : Asc cf tag vs mid b) : Asc cf tag vs a b := by
  refine Asc.join (m := mid) (fun i j i1 ij j1 => ?_) a2 (fun i j i1 i2 j1 j2 => ?_)
  · rw [h2.out i (by omega), h2.out j (by omega)]; exact a1 i j i1 ij j1
  · rw [h2.out i (by omega)]
    obtain ⟨u, u1, u2, e1⟩ := h1.inn i i1 i2
    obtain ⟨v, v1, v2, e2⟩ := h2.inn j j1 j2
    rw [e1, e2, h1.out v (by omega)]
    exact hlt u v u1 u2 v1 v2
/-! ### what is stably sorted is one list -/
theorem one_sorted {β : Type} {r : β → β → Prop} (hr : ∀ x y, r x y → ¬ r y x) : ∀ (xs ys : List β), xs.Perm ys → xs.Pairwise r → ys.Pairwise r → xs = ys
  | [], ys, h, _, _ => by rw [List.nil_perm.1 h]
  | x :: xs, [], h, _, _ => absurd h (by simp)
  | x :: xs, y :: ys, h, h1, h2 => by
    have hxy : x = y := by
      rcases List.mem_cons.1 (h.mem_iff.1 (List.mem_cons_self)) with e | hx
      · exact e
      · rcases List.mem_cons.1 (h.mem_iff.2 (List.mem_cons_self)) with e | hy
        · exact e.symm
        · exact absurd ((List.pairwise_cons.1 h1).1 y hy) (hr _ _ ((List.pairwise_cons.1 h2).1 x hx))
    subst hxy
    rw [one_sorted hr xs ys (h.cons_inv) (List.pairwise_cons.1 h1).2 (List.pairwise_cons.1 h2).2]
/-- The place behind the last element that is not greater than w, looked for from the right. -/
def posR (c : α → α → Int) (w : α) (out : List α) : Nat → Nat
  | 0 => 0
  | n + 1 => if c (el out n) w > 0 then posR c w out n else n + 1
theorem posR_le (c : α → α → Int) (w : α) (out : List α) : ∀ n, posR c w out n ≤ n
  | 0 => Nat.le_refl _
  | n + 1 => by unfold posR; split; exact Nat.le_succ_of_le (posR_le c w out n); exact Nat.le_refl _
theorem posR_hi (c : α → α → Int) (w : α) (out : List α) : ∀ n j, posR c w out n ≤ j → j < n → c (el out j) w > 0
  | 0, j, h1, h2 => by omega
  | n + 1, j, h1, h2 => by
    unfold posR at h1
    split at h1
    · rename_i hc
      by_cases e : j = n
      · rw [e]; exact hc
      · exact posR_hi c w out n j h1 (by omega)
    · omega
theorem posR_lo (c : α → α → Int) (w : α) (out : List α) : ∀ n, 0 < posR c w out n → c (el out (posR c w out n - 1)) w ≤ 0
  | 0, h => by simp [posR] at h
  | n + 1, h => by
    unfold posR at h ⊢
    split
    · rename_i hc
      rw [if_pos hc] at h
      exact posR_lo c w out n h
    · rename_i hc
      simp only [Nat.add_sub_cancel]
      omega
def insB (c : α → α → Int) (w : α) (out : List α) : List α := out.take (posR c w out out.length) ++ w :: out.drop (posR c w out out.length)
def isortA (c : α → α → Int) : List α → List α → List α
  | out, [] => out
  | out, w :: ws => isortA c (insB c w out) ws
/-- The stable sort: each word is put behind the last one that is not greater. -/
def isort (c : α → α → Int) (ws : List α) : List α := isortA c [] ws
theorem insB_perm (c : α → α → Int) (w : α) (out : List α) : (insB c w out).Perm (w :: out) := by
  unfold insB
  refine List.perm_middle.trans (List.Perm.cons _ ?_)
  rw [List.take_append_drop]
theorem isortA_perm (c : α → α → Int) : ∀ (ws out : List α), (isortA c out ws).Perm (out ++ ws)
  | [], out => by simp [isortA]
  | w :: ws, out => by
    unfold isortA
    refine (isortA_perm c ws _).trans ?_
    refine ((insB_perm c w out).append_right ws).trans ?_
    simpa using List.perm_middle.symm
theorem el_map {β : Type} [Inhabited β] (f : α → β) (out : List α) {n : Nat} (h : n < out.length) : el (out.map f) n = f (el out n) := by
  rw [el_get (by simpa using h), el_get h]; simp
theorem posR_map {β : Type} [Inhabited β] (c : β → β → Int) (f : α → β) (w : α) (out : List α) : ∀ n, n ≤ out.length → posR (fun x y => c (f x) (f y)) w out n = posR c (f w) (out.map f) n
  | 0, _ => rfl
  | n + 1, h => by
    unfold posR
    rw [el_map f out (by omega), posR_map c f w out n (by omega)]
theorem insB_map {β : Type} [Inhabited β] (c : β → β → Int) (f : α → β) (w : α) (out : List α) : (insB (fun x y => c (f x) (f y)) w out).map f = insB c (f w) (out.map f) := by
  unfold insB
  rw [posR_map c f w out _ (Nat.le_refl _), List.length_map, List.map_append, List.map_cons, List.map_take, List.map_drop]
theorem isortA_map {β : Type} [Inhabited β] (c : β → β → Int) (f : α → β) : ∀ (ws out : List α), (isortA (fun x y => c (f x) (f y)) out ws).map f = isortA c (out.map f) (ws.map f)
  | [], out => rfl
  | w :: ws, out => by
    unfold isortA
    rw [isortA_map c f ws, insB_map]
    rfl
theorem pw_get {r : α → α → Prop} {xs : List α} (h : xs.Pairwise r) {i j : Nat} (hij : i < j) (hj : j < xs.length) : r (el xs i) (el xs j) := by
  rw [el_get (by omega), el_get hj]
  exact List.pairwise_iff_getElem.1 h i j _ _ hij
theorem Rt.anti {β : Type} {cf : β → β → Int} {tag : β → Nat} (C : Cmp cf) {x y : β} (h : Rt cf tag x y) : ¬ Rt cf tag y x := fun k => by
  have h0 := C.anti x y
  have h1 := C.anti x x
  rcases h with h | h <;> rcases k with k | k <;> omega
theorem insB_asc (C : Cmp cf) (w : α) (out : List α) (h : out.Pairwise (Rt cf tag)) (ht : ∀ x ∈ out, tag x < tag w) : (insB cf w out).Pairwise (Rt cf tag) := by
  have hp := posR_le cf w out out.length
  have hhi := posR_hi cf w out out.length
  have hlo := posR_lo cf w out out.length
  unfold insB
  generalize posR cf w out out.length = p at *
  rw [List.pairwise_append]
  refine ⟨h.sublist (List.take_sublist _ _), List.pairwise_cons.2 ⟨fun y hy => ?_, h.sublist (List.drop_sublist _ _)⟩, fun x hx y hy => ?_⟩
  · obtain ⟨j, hj, rfl⟩ := List.mem_iff_getElem.1 hy
    rw [List.length_drop] at hj
    have := hhi (p + j) (by omega) (by omega)
    rw [el_get (by omega)] at this
    rw [List.getElem_drop]
    have h2 := C.anti out[p + j] w
    exact .inl (by omega)
  · obtain ⟨i, hi, rfl⟩ := List.mem_iff_getElem.1 hx
    rw [List.length_take] at hi
    have hip : i < p := by omega
    rw [List.getElem_take]
    have hlast : Rt cf tag (el out (p - 1)) w := by
      have h3 := hlo (by omega)
      have h5 := ht (el out (p - 1)) (by rw [el_get (by omega)]; exact List.getElem_mem _)
      rcases Int.lt_or_eq_of_le h3 with e | e
      · exact .inl e
      · exact .inr ⟨e, h5⟩
    have hxw : Rt cf tag out[i] w := by
      by_cases e : i = p - 1
      · have : out[i] = el out (p - 1) := by rw [el_get (by omega)]; congr 1
        rw [this]; exact hlast
      · have := pw_get h (i := i) (j := p - 1) (by omega) (by omega)
        rw [el_get (by omega)] at this
        exact this.trans C hlast
    rcases List.mem_cons.1 hy with rfl | hy
    · exact hxw
    · obtain ⟨j, hj, rfl⟩ := List.mem_iff_getElem.1 hy
      rw [List.length_drop] at hj
      rw [List.getElem_drop]
      have := pw_get h (i := i) (j := p + j) (by omega) (by omega)
      rwa [el_get (by omega), el_get (by omega)] at this
/-- The words, each with its number. -/
def tagL {β : Type} : List β → Nat → List (β × Nat)
  | [], _ => []
  | w :: ws, n => (w, n) :: tagL ws (n + 1)
theorem tagL_fst {β : Type} : ∀ (ws : List β) (n : Nat), (tagL ws n).map Prod.fst = ws
  | [], _ => rfl
  | w :: ws, n => by rw [tagL, List.map_cons, tagL_fst ws]
theorem tagL_len {β : Type} (ws : List β) (n : Nat) : (tagL ws n).length = ws.length := by have := congrArg List.length (tagL_fst ws n); simpa using this
theorem tagL_get {β : Type} [Inhabited β] : ∀ (ws : List β) (n i : Nat), i < ws.length → (el (tagL ws n) i).2 = n + i
  | w :: ws, n, 0, h => rfl
  | w :: ws, n, i + 1, h => by
    have := tagL_get ws (n + 1) i (by simpa using h)
    have e : el (tagL (w :: ws) n) (i + 1) = el (tagL ws (n + 1)) i := rfl
    rw [e, this]; omega
theorem isortA_asc {β : Type} [Inhabited β] {c : β → β → Int} (C : Cmp c) : ∀ (ws : List β) (n : Nat) (out : List (β × Nat)), out.Pairwise (Rt (fun x y : β × Nat => c x.1 y.1) Prod.snd) → (∀ x ∈ out, x.2 < n) → (isortA (fun x y : β × Nat => c x.1 y.1) out (tagL ws n)).Pairwise (Rt (fun x y : β × Nat => c x.1 y.1) Prod.snd)
  | [], n, out, h, ht => h
  | w :: ws, n, out, h, ht => by
    rw [tagL, isortA]
    refine isortA_asc C ws (n + 1) _ (insB_asc ⟨fun x y => C.anti x.1 y.1, fun x y z => C.trans x.1 y.1 z.1⟩ (w, n) out h (fun x hx => ht x hx)) (fun x hx => ?_)
    rcases List.mem_cons.1 ((insB_perm _ _ _).mem_iff.1 hx) with e | hx
    · rw [e]; exact Nat.lt_succ_self n
    · exact Nat.lt_succ_of_lt (ht x hx)
/-- What holds the words each once, ascending, equal ones by their number, is the stable sort. -/
theorem stable_one {β : Type} [Inhabited β] {c : β → β → Int} (C : Cmp c) (ws : List β) (ys : List (β × Nat)) (hp : ys.Perm (tagL ws 0)) (hs : ys.Pairwise (Rt (fun x y : β × Nat => c x.1 y.1) Prod.snd)) : ys.map Prod.fst = isort c ws := by
  have h1 := isortA_asc C ws 0 [] List.Pairwise.nil (by simp)
  have h2 := isortA_perm (fun x y : β × Nat => c x.1 y.1) (tagL ws 0) []
  have e : ys = isortA (fun x y : β × Nat => c x.1 y.1) [] (tagL ws 0) := one_sorted (fun x y h => h.anti ⟨fun x y => C.anti x.1 y.1, fun x y z => C.trans x.1 y.1 z.1⟩) _ _ (hp.trans (by simpa using h2.symm)) hs h1
  rw [e]
  have := isortA_map c Prod.fst (tagL ws 0) []
  rw [tagL_fst] at this
  exact this
theorem isort_perm (c : α → α → Int) (ws : List α) : (isort c ws).Perm ws := by simpa [isort] using isortA_perm c ws []
theorem isort_len (c : α → α → Int) (ws : List α) : (isort c ws).length = ws.length := (isort_perm c ws).length_eq
theorem isort_sorted {c : α → α → Int} (C : Cmp c) (ws : List α) : (isort c ws).Pairwise (fun x y => c x y ≤ 0) := by
  have h1 := isortA_asc C ws 0 [] List.Pairwise.nil (by simp)
  have e : isort c ws = (isortA (fun x y : α × Nat => c x.1 y.1) [] (tagL ws 0)).map Prod.fst := by
    rw [isortA_map c Prod.fst (tagL ws 0) [], tagL_fst]; rfl
  rw [e, List.pairwise_map]
  exact h1.imp (fun h => h.le)
theorem lt_of_le_lt {β : Type} {cf : β → β → Int} (C : Cmp cf) {x y z : β} (h : cf x y ≤ 0) (k : cf y z < 0) : cf x z < 0 := by
  have h1 := C.trans x y z h (by omega)
  rcases Int.lt_or_eq_of_le h1 with e | e
  · exact e
  · exfalso
    have e2 : cf z x ≤ 0 := by rw [C.anti x z, e]; decide
    have h3 := C.trans z x y e2 h
    rw [C.anti y z] at h3
    omega
theorem lt_of_lt_le {β : Type} {cf : β → β → Int} (C : Cmp cf) {x y z : β} (h : cf x y < 0) (k : cf y z ≤ 0) : cf x z < 0 := by
  have h1 := C.trans x y z (by omega) k
  rcases Int.lt_or_eq_of_le h1 with e | e
  · exact e
  · exfalso
    have e2 : cf z x ≤ 0 := by rw [C.anti x z, e]; decide
    have h3 := C.trans y z x k e2
    rw [C.anti x y] at h3
    omega
/-- One round of the insertion sort. -/
theorem ins_step (C : Cmp cf) {xs ys : List α} {a i b j n : Nat} (S : Sh a i xs ys) (A : Asc cf tag ys a i) (hb : i < b) (hbl : b ≤ xs.length) (ht : ∀ u v, a ≤ u → u < v → v < b → tag (el xs u) < tag (el xs v)) (hj : a ≤ j) (hjn : j + n = i)
    (hlo : j = a ∨ ¬ cf (el ys i) (el ys (j - 1)) < 0) (hhi : ∀ h, j ≤ h → h < i → cf (el ys i) (el ys h) < 0) : Sh a (i + 1) xs (shr ys i n) ∧ Asc cf tag (shr ys i n) a (i + 1) := by
  subst hjn
  have hl := S.len
  have ei : el ys (j + n) = el xs (j + n) := S.out _ (.inr (Nat.le_refl _))
  have T : Tags tag ys a (j + n) (j + n + 1) := fun u v u1 u2 v1 v2 => by
    obtain rfl : v = j + n := by omega
    obtain ⟨s, s1, s2, e⟩ := S.inn u u1 u2
    rw [e, ei]
    exact ht s _ s1 s2 hb
  refine ⟨(S.mono (Nat.le_refl _) (Nat.le_succ _)).trans (shr_sh ys a (j + n) (by omega) n (by omega)), merge_one_right C A T hj (by omega) (fun h h1 h2 => ?_) hhi⟩
  rcases hlo with e | e
  · omega
  · by_cases c : h = j - 1
    · rw [c]; exact e
    · have r1 := A h (j - 1) h1 (by omega) (by omega)
      have r2 : Rt cf tag (el ys (j - 1)) (el ys (j + n)) := Rt.of_ge C e (T _ _ (by omega) (by omega) (Nat.le_refl _) (Nat.lt_succ_self _))
      have r3 := (r1.trans C r2).le
      have r4 := C.anti (el ys h) (el ys (j + n))
      omega
/-- What comes before an element that is less is less; what comes behind one that is not less is not. -/
theorem asc_lt (C : Cmp cf) {xs : List α} {a b u h : Nat} {x : α} (A : Asc cf tag xs a b) (hu : a ≤ u) (huh : u ≤ h) (hh : h < b) (k : cf (el xs h) x < 0) : cf (el xs u) x < 0 := by
  by_cases e : u = h
  · rw [e]; exact k
  · exact lt_of_le_lt C (A u h hu (by omega) hh).le k
theorem asc_ge (C : Cmp cf) {xs : List α} {a b u h : Nat} {x : α} (A : Asc cf tag xs a b) (hh : a ≤ h) (huh : h ≤ u) (hu : u < b) (k : ¬ cf (el xs h) x < 0) : ¬ cf (el xs u) x < 0 := fun q => k (asc_lt C A hh huh hu q)
theorem asc_gt (C : Cmp cf) {xs : List α} {a b u h : Nat} {x : α} (A : Asc cf tag xs a b) (hh : a ≤ h) (huh : h ≤ u) (hu : u < b) (k : cf x (el xs h) < 0) : cf x (el xs u) < 0 := by
  by_cases e : h = u
  · rw [← e]; exact k
  · exact lt_of_lt_le C k (A h u hh (by omega) hu).le
theorem asc_le (C : Cmp cf) {xs : List α} {a b u h : Nat} {x : α} (A : Asc cf tag xs a b) (hu : a ≤ u) (huh : u ≤ h) (hh : h < b) (k : ¬ cf x (el xs h) < 0) : ¬ cf x (el xs u) < 0 := fun q => k (asc_gt C A hu huh hh q)
/-- The search of symMerge goes one way: from a place on the right one is less. -/
theorem cut_up (C : Cmp cf) {xs : List α} {a m b q c d : Nat} (A : Asc cf tag xs a m) (B : Asc cf tag xs m b) (hc : a ≤ c) (hcd : c ≤ d) (hd : d < m) (h1 : m + d ≤ q) (h2 : q < b + c) (k : cf (el xs (q - c)) (el xs c) < 0) : cf (el xs (q - d)) (el xs d) < 0 := by
  have k1 : cf (el xs (q - d)) (el xs c) < 0 := asc_lt C B (by omega) (by omega) (by omega) k
  exact asc_gt C A hc hcd hd k1
theorem cut_down (C : Cmp cf) {xs : List α} {a m b q c d : Nat} (A : Asc cf tag xs a m) (B : Asc cf tag xs m b) (hc : a ≤ c) (hcd : c ≤ d) (hd : d < m) (h1 : m + d ≤ q) (h2 : q < b + c) (k : ¬ cf (el xs (q - d)) (el xs d) < 0) : ¬ cf (el xs (q - c)) (el xs c) < 0 := fun h => k (cut_up C A B hc hcd hd h1 h2 h)
end Stb
/-! ### a row of strings in memory, each with a number that no program sees -/
abbrev Tg := ByteArray × Nat
def Sb (w : World) (g cap : Nat) (xs : List Tg) : Prop := ∃ cur : Array Value, w.heap[g]? = some (.cells cur 9 (0, 0)) ∧ cur.size = cap ∧ xs.length ≤ cap ∧ ∀ i, i < xs.length → cur[i]? = some (.string (Stb.el xs i).1)
theorem Sb.cell {w : World} {g cap : Nat} {xs : List Tg} (h : Sb w g cap xs) {i : Nat} (hi : i < xs.length) : w.cell? ⟨g, i, none⟩ = some (.string (Stb.el xs i).1) := by
  obtain ⟨cur, h1, _, _, h4⟩ := h
  rw [blk_cell h1 i]
  exact h4 i hi
theorem Sb.free {w : World} {g cap : Nat} {xs : List Tg} (h : Sb w g cap xs) (i : Nat) : w.frozen? ⟨g, i, none⟩ = false := by
  obtain ⟨cur, h1, _⟩ := h
  exact blk_frozen h1 i
theorem Sb.set {w : World} {g cap : Nat} {xs : List Tg} (h : Sb w g cap xs) {i : Nat} (hi : i < xs.length) (x : Tg) : Sb (w.setCell ⟨g, i, none⟩ (.string x.1)) g cap (xs.set i x) := by
  obtain ⟨cur, h1, h2, h3, h4⟩ := h
  refine ⟨cur.setIfInBounds i (.string x.1), blk_set h1 i _, by simpa using h2, by simpa using h3, fun j hj => ?_⟩
  rw [Stb.el_set _ _ _ _ hi]
  rw [List.length_set] at hj
  by_cases e : i = j
  · subst e
    rw [if_pos rfl]
    simp [h2, Nat.lt_of_lt_of_le hi h3]
  · rw [if_neg e, Array.getElem?_setIfInBounds_ne e]
    exact h4 j hj
theorem Sb.swp {w : World} {g cap : Nat} {xs : List Tg} (h : Sb w g cap xs) {i j : Nat} (hi : i < xs.length) (hj : j < xs.length) :
    Sb ((w.setCell ⟨g, i, none⟩ (.string (Stb.el xs j).1)).setCell ⟨g, j, none⟩ (.string (Stb.el xs i).1)) g cap (Stb.swp xs i j) :=
  (h.set hi (Stb.el xs j)).set (i := j) (by simpa using hj) (Stb.el xs i)
theorem Sb.drew {w : World} {g cap : Nat} {xs : List Tg} (h : Sb w g cap xs) : Sb w.drew g cap xs := h
theorem Sb.lt {w : World} {g cap : Nat} {xs : List Tg} (h : Sb w g cap xs) : g < w.heap.size := by
  obtain ⟨cur, h1, _⟩ := h
  exact (Array.getElem?_eq_some_iff.1 h1).1
theorem Sb.below {w w1 : World} {g cap : Nat} {xs : List Tg} (h : Sb w g cap xs) (hb : Below w.heap.size w w1) : Sb w1 g cap xs := by
  have hl := h.lt
  obtain ⟨cur, h1, h2⟩ := h
  exact ⟨cur, (hb.block g hl).trans h1, h2⟩
theorem sg_refl (w : World) (g : Nat) : w.grownBy w (some g) := ⟨rfl, rfl, rfl, Nat.le_refl _, fun _ _ _ => rfl⟩
theorem sg_trans {w w1 w2 : World} {g : Nat} (h : w.grownBy w1 (some g)) (k : w1.grownBy w2 (some g)) : w.grownBy w2 (some g) :=
  ⟨k.os.trans h.os, k.tape.trans h.tape, k.output.trans h.output, Nat.le_trans h.size k.size, fun i hi hn => (k.block i (Nat.lt_of_lt_of_le hi h.size) hn).trans (h.block i hi hn)⟩
theorem sg_set {w w1 : World} {g : Nat} (h : w.grownBy w1 (some g)) (i : Nat) (v : Value) : w.grownBy (w1.setCell ⟨g, i, none⟩ v) (some g) :=
  sg_trans h ⟨rfl, rfl, rfl, by simp [World.setCell], fun k _ hn => Below.heap_setCell _ _ _ _ (fun e => hn (by rw [e]))⟩
theorem sg_drew {w w1 : World} {g : Nat} (h : w.grownBy w1 (some g)) : w.grownBy w1.drew (some g) := ⟨h.os, h.tape, h.output, h.size, h.block⟩
theorem sg_below {w w1 w2 : World} {g : Nat} (h : w.grownBy w1 (some g)) (hb : Below w1.heap.size w1 w2) : w.grownBy w2 (some g) :=
  sg_trans h ⟨hb.os, hb.tape, hb.output, hb.size, fun k hk _ => hb.block k hk⟩
/-- What is asked of the comparison: it says 'cf' of any two of the strings, in whatever world the sort passes through. -/
def Cmps (w0 : World) (g bw : Nat) (xs : List Tg) (cf : Tg → Tg → Int) : Prop :=
  ∀ w1, w0.grownBy w1 (some g) → ∀ x y, x ∈ xs → y ∈ xs → Calls Tryd.prog 52 #[.string x.1, .string y.1, .pointer (some ⟨bw, 0, none⟩)] w1 fun e w2 => e = .returned (.int .i64 (cf x y)) ∧ Below w1.heap.size w1 w2
theorem Cmps.grown {w0 w1 : World} {g bw : Nat} {xs ys : List Tg} {cf : Tg → Tg → Int} (h : Cmps w0 g bw xs cf) (hg : w0.grownBy w1 (some g)) (hp : ys.Perm xs) : Cmps w1 g bw ys cf :=
  fun w2 h2 x y hx hy => h w2 (sg_trans hg h2) x y (hp.mem_iff.1 hx) (hp.mem_iff.1 hy)
theorem el_mem {xs : List Tg} {i : Nat} (h : i < xs.length) : Stb.el xs i ∈ xs := by rw [Stb.el_get h]; exact List.getElem_mem h
theorem sw_id {x : Int} (h0 : -1000000000 ≤ x) (h1 : x ≤ 1000000000) : wrap64 x = x := by unfold wrap64; omega
theorem sw_id2 {x : Int} (h0 : -1000000000 ≤ x) (h1 : x ≤ 1000000000) : IntKind.i64.wrap x = x := by rw [IntKind.wrap_i64]; omega
theorem sw_u {x : Int} (h0 : 0 ≤ x) (h1 : x ≤ 4000000000) : IntKind.u64.wrap x = x := by simp [IntKind.wrap, IntKind.bits, IntKind.signed]; omega
theorem sw_half {i j h : Nat} (hh : (i + j) / 2 = h) (hi : i ≤ 1000000) (hj : j ≤ 1000000) : wrap64 ((i : Int) + (j : Int)) = (i : Int) + (j : Int) ∧ IntKind.u64.wrap ((i : Int) + (j : Int)) / 2 = (h : Int) ∧ wrap64 (h : Int) = (h : Int) :=
  ⟨sw_id (by omega) (by omega), by rw [sw_u (by omega) (by omega)]; omega, sw_id (by omega) (by omega)⟩

/-! DEFS slices_insertionSortCmpFunc_string -/

/-! DEFS slices_rotateCmpFunc_string -/

/-! DEFS slices_symMergeCmpFunc_string -/
theorem cut_left {α : Type} [Inhabited α] {cf : α → α → Int} {tag : α → Nat} {ys : List α} {a s mid e b : Nat} (h : Stb.Cut cf tag ys a s mid e b) (k : a = s ∨ s = mid) : Stb.Asc cf tag ys a mid := by
  rcases k with rfl | rfl
  · exact h.r1
  · exact h.l1
theorem cut_right {α : Type} [Inhabited α] {cf : α → α → Int} {tag : α → Nat} {ys zs : List α} {a s mid e b : Nat} (h : Stb.Cut cf tag ys a s mid e b) (k : mid = e ∨ e = b) (hz : Stb.Sh a mid ys zs) : Stb.Asc cf tag zs mid b := by
  have : Stb.Asc cf tag ys mid b := by
    rcases k with rfl | rfl
    · exact h.r2
    · exact h.l2
  exact fun i j i1 ij j1 => by rw [hz.out i (.inr i1), hz.out j (.inr (by omega))]; exact this i j i1 ij j1

/-! DEFS slices_stableCmpFunc_string -/

/-! DEFS alphabet_Sort -/
/-! ### the comparison -/
theorem slc_wrap {x : Int} (h0 : -9223372036854775808 ≤ x) (h1 : x ≤ 9223372036854775807) : wrap64 x = x := by unfold wrap64; omega
def cmpC : List Int → List Int → Int
  | [], [] => 0
  | [], _ :: _ => -1
  | _ :: _, [] => 1
  | x :: xs, y :: ys => if x < y then -1 else if y < x then 1 else cmpC xs ys
theorem cmpC_nil (ys : List Int) : cmpC [] ys = if 0 < ys.length then -1 else 0 := by cases ys <;> simp [cmpC]
theorem slc_cmpInt (x y : Int) : cmp_Compare_int.f x y = some (if x < y then -1 else if x > y then 1 else 0) := by
  unfold cmp_Compare_int.f cmp_isNaN_int.f
  simp only [Option.bind_some, bne_self_eq_false, Bool.false_eq_true, if_false]
  split
  · rfl
  · split <;> rfl
theorem slc_loop (xs ys : List Int) (hx : (xs.length : Int) ≤ 9223372036854775806) : ∀ (d n k : Nat), xs.length - n = d → n ≤ xs.length → n ≤ ys.length → d < k →
    slices_Compare_int_int.l0 k xs ys xs (xs.length : Int) (n : Int) = some (cmpC (xs.drop n) (ys.drop n))
  | 0, n, k, hd, hn, hm, hk => by
    obtain ⟨k, rfl⟩ : ∃ m, k = m + 1 := ⟨k - 1, by omega⟩
    obtain rfl : n = xs.length := by omega
    simp only [slices_Compare_int_int.l0]
    rw [if_neg (by omega), List.drop_length, cmpC_nil, List.length_drop]
    by_cases h : (xs.length : Int) < (ys.length : Int)
    · rw [if_pos h, if_pos (by omega)]
    · rw [if_neg h, if_neg (by omega)]
  | d + 1, n, k, hd, hn, hm, hk => by
    obtain ⟨k, rfl⟩ : ∃ m, k = m + 1 := ⟨k - 1, by omega⟩
    have hlt : n < xs.length := by omega
    simp only [slices_Compare_int_int.l0]
    rw [if_pos (by omega), if_pos (by omega), if_pos (by omega), List.drop_eq_getElem_cons hlt]
    by_cases h : (n : Int) ≥ (ys.length : Int)
    · rw [if_pos h, List.drop_eq_nil_of_le (show ys.length ≤ n by omega)]; rfl
    · have hlt2 : n < ys.length := by omega
      have r1 : rd xs (n : Int) = xs[n] := by simp [rd, List.getD, List.getElem?_eq_getElem hlt]
      have r2 : rd ys (n : Int) = ys[n] := by simp [rd, List.getD, List.getElem?_eq_getElem hlt2]
      rw [if_neg h, if_pos (by omega), List.drop_eq_getElem_cons hlt2, r1, r2, slc_cmpInt]
      simp only [Option.bind_some, cmpC]
      by_cases c1 : xs[n] < ys[n]
      · rw [if_pos c1, if_pos c1, if_neg (by decide)]
      · rw [if_neg c1, if_neg c1]
        by_cases c2 : xs[n] > ys[n]
        · rw [if_pos c2, if_pos c2, if_neg (by decide)]
        · rw [if_neg c2, if_neg c2, if_pos rfl, slc_wrap (by omega) (by omega), show (n : Int) + 1 = ((n + 1 : Nat) : Int) by omega, slc_loop xs ys hx d (n + 1) k (by omega) (by omega) (by omega) (by omega)]
theorem cmpC_anti : ∀ xs ys, cmpC ys xs = -cmpC xs ys
  | [], [] => by simp [cmpC]
  | [], _ :: _ => by simp [cmpC]
  | _ :: _, [] => by simp [cmpC]
  | x :: xs, y :: ys => by
    have := cmpC_anti xs ys
    unfold cmpC
    by_cases a : x < y
    · have b : ¬ y < x := by omega
      simp [a, b]
    · by_cases b : y < x
      · simp [a, b]
      · simp [a, b, this]
theorem cmpC_trans : ∀ xs ys zs, cmpC xs ys ≤ 0 → cmpC ys zs ≤ 0 → cmpC xs zs ≤ 0
  | [], _, [], _, _ => by simp [cmpC]
  | [], _, _ :: _, _, _ => by simp [cmpC]
  | _ :: _, [], _, h, _ => by simp [cmpC] at h
  | _ :: _, _ :: _, [], _, h => by simp [cmpC] at h
  | x :: xs, y :: ys, z :: zs, h1, h2 => by
    have ih := cmpC_trans xs ys zs
    unfold cmpC at h1 h2 ⊢
    by_cases a : x < y
    · by_cases b : y < z
      · rw [if_pos (by omega)]; decide
      · rw [if_neg b] at h2
        by_cases c : z < y
        · rw [if_pos c] at h2; cases (show ¬ ((1 : Int) ≤ 0) by decide) h2
        · rw [if_pos (by omega)]; decide
    · rw [if_neg a] at h1
      by_cases a2 : y < x
      · rw [if_pos a2] at h1; cases (show ¬ ((1 : Int) ≤ 0) by decide) h1
      · rw [if_neg a2] at h1
        by_cases b : y < z
        · rw [if_pos (by omega)]; decide
        · rw [if_neg b] at h2
          by_cases c : z < y
          · rw [if_pos c] at h2; cases (show ¬ ((1 : Int) ≤ 0) by decide) h2
          · rw [if_neg c] at h2
            rw [if_neg (by omega), if_neg (by omega)]
            exact ih h1 h2
def cmpW (l : List S42) (s t : ByteArray) : Int := cmpC (weights l s) (weights l t)
theorem cmpW_cmp (l : List S42) : Stb.Cmp (cmpW l) := ⟨fun x y => cmpC_anti _ _, fun x y z => cmpC_trans _ _ _⟩
theorem slc_at {k : Nat} {xs ys : List Int} (h : xs.length < k) (hx : (xs.length : Int) ≤ 9223372036854775806) : slices_Compare_int_int.f k xs ys = some (cmpC xs ys) := by
  unfold slices_Compare_int_int.f
  have e := slc_loop xs ys hx xs.length 0 k (by omega) (by omega) (by omega) h
  rw [show ((0 : Nat) : Int) = 0 by rfl] at e
  rw [e]
  rfl
/-- All words are short enough to be compared in k rounds. -/
def okW (k : Nat) (l : List S42) (ws : List ByteArray) : Bool := okA l && (ws.all (fun s => okS l s && decide ((weights l s).length < k)) && decide (ws.length ≤ 40))
def alphabet_Sort.f (k : Nat) (l : List S42) (ws : List ByteArray) : Option (List ByteArray) := if okW k l ws = true then some (Stb.isort (cmpW l) ws) else none
theorem okW_mono {k : Nat} {l : List S42} {ws : List ByteArray} (h : okW k l ws = true) : okW (k + 1) l ws = true := by
  unfold okW at h ⊢
  simp only [Bool.and_eq_true, List.all_eq_true, decide_eq_true_eq] at h ⊢
  exact ⟨h.1, fun s hs => ⟨(h.2.1 s hs).1, Nat.lt_succ_of_lt (h.2.1 s hs).2⟩, h.2.2⟩
theorem alphabet_Sort.mono : ∀ l ws k, LeO (alphabet_Sort.f k l ws) (alphabet_Sort.f (k + 1) l ws) := by
  intro l ws k r h
  unfold alphabet_Sort.f at h ⊢
  by_cases c : okW k l ws = true
  · rw [if_pos c] at h
    rw [if_pos (okW_mono c)]
    exact h
  · rw [if_neg c] at h
    exact absurd h (by simp)

/-! DEFS pentaglotref01_Sort -/
mutual
def pentaglotref01_Sort.l0 : Nat → List (S42) → List ByteArray → List ByteArray → Int → Int → Option (List ByteArray)
  | 0, _, _, _, _, _ => none
  | k + 1, x0, x5, x11, x12, x13 => if x13 < x12 then (if 0 ≤ x13 then (if x13 < (x11.length : Int) then (pentaglotref01_Sort.l1 k x0 x5 (rdOf ByteArray.empty x11 x13) (x5.length : Int) x11 x12 x13) else (none)) else (none)) else (some x5)
def pentaglotref01_Sort.l1 : Nat → List (S42) → List ByteArray → ByteArray → Int → List ByteArray → Int → Int → Option (List ByteArray)
  | 0, _, _, _, _, _, _, _ => none
  | k + 1, x0, x5, x7, x8, x11, x12, x13 => if x8 > 0 then (if 0 ≤ (wrap64 (x8 - 1)) then (if (wrap64 (x8 - 1)) < (x5.length : Int) then ((pentaglotref01_Compare.f k x0 (rdOf ByteArray.empty x5 (wrap64 (x8 - 1))) x7).bind fun t316 => (if t316 > 0 then (pentaglotref01_Sort.l1 k x0 x5 x7 (wrap64 (x8 - 1)) x11 x12 x13) else ((some (([] : List ByteArray) : List ByteArray)).bind fun y317 => (if 0 ≤ x8 then (if x8 ≤ (x5.length : Int) then ((some (x5.take (x8 : Int).toNat : List ByteArray)).bind fun y320 => (if y317.length + y320.length < 8796093022208 then ((some (y317 ++ y320 : List ByteArray)).bind fun y324 => (if y324.length < 8796093022208 then ((some (y324 ++ [x7] : List ByteArray)).bind fun y327 => ((some (x5.drop (x8 : Int).toNat : List ByteArray)).bind fun y330 => (if y327.length + y330.length < 8796093022208 then (pentaglotref01_Sort.l0 k x0 (y327 ++ y330) x11 x12 (wrap64 (x13 + 1))) else (none)))) else (none))) else (none))) else (none)) else (none))))) else (none)) else (none)) else ((some (([] : List ByteArray) : List ByteArray)).bind fun y337 => (if 0 ≤ x8 then (if x8 ≤ (x5.length : Int) then ((some (x5.take (x8 : Int).toNat : List ByteArray)).bind fun y340 => (if y337.length + y340.length < 8796093022208 then ((some (y337 ++ y340 : List ByteArray)).bind fun y344 => (if y344.length < 8796093022208 then ((some (y344 ++ [x7] : List ByteArray)).bind fun y347 => ((some (x5.drop (x8 : Int).toNat : List ByteArray)).bind fun y350 => (if y347.length + y350.length < 8796093022208 then (pentaglotref01_Sort.l0 k x0 (y347 ++ y350) x11 x12 (wrap64 (x13 + 1))) else (none)))) else (none))) else (none))) else (none)) else (none)))
end
def pentaglotref01_Sort.f (k : Nat) (l0 : List (S42)) (l1 : List ByteArray) : Option (List ByteArray) := pentaglotref01_Sort.l0 k l0 (([] : List ByteArray)) l1 (l1.length : Int) 0
theorem pentaglotref01_Sort.mono_l : ∀ k, (∀ y0 y1 y2 y3 y4, LeO (pentaglotref01_Sort.l0 k y0 y1 y2 y3 y4) (pentaglotref01_Sort.l0 (k + 1) y0 y1 y2 y3 y4)) ∧ (∀ y0 y1 y2 y3 y4 y5 y6, LeO (pentaglotref01_Sort.l1 k y0 y1 y2 y3 y4 y5 y6) (pentaglotref01_Sort.l1 (k + 1) y0 y1 y2 y3 y4 y5 y6))
  | 0 => ⟨fun _ _ _ _ _ r h => by simp [pentaglotref01_Sort.l0] at h, fun _ _ _ _ _ _ _ r h => by simp [pentaglotref01_Sort.l1] at h⟩
  | k + 1 => by
    obtain ⟨ih0, ih1⟩ := pentaglotref01_Sort.mono_l k
    refine ⟨?_, ?_⟩
    · intro y0 y1 y2 y3 y4
      unfold pentaglotref01_Sort.l0
      repeat' first
      | (with_reducible exact ih0 _ _ _ _ _)
      | (with_reducible exact ih1 _ _ _ _ _ _ _)
      | (with_reducible exact pentaglotref01_Compare.mono _ _ _ _)
      | (with_reducible exact LeO.refl _)
      | (with_reducible exact LeO.none _)
      | (with_reducible refine LeO.ite ?_ ?_)
      | (with_reducible refine LeO.bind ?_ (fun _ => ?_))
      | exact ih0 _ _ _ _ _
      | exact ih1 _ _ _ _ _ _ _
      | exact pentaglotref01_Compare.mono _ _ _ _
      | exact LeO.none _
      | refine LeO.ite ?_ ?_
      | refine LeO.bind ?_ (fun _ => ?_)
    · intro y0 y1 y2 y3 y4 y5 y6
      unfold pentaglotref01_Sort.l1
      repeat' first
      | (with_reducible exact ih0 _ _ _ _ _)
      | (with_reducible exact ih1 _ _ _ _ _ _ _)
      | (with_reducible exact pentaglotref01_Compare.mono _ _ _ _)
      | (with_reducible exact LeO.refl _)
      | (with_reducible exact LeO.none _)
      | (with_reducible refine LeO.ite ?_ ?_)
      | (with_reducible refine LeO.bind ?_ (fun _ => ?_))
      | exact ih0 _ _ _ _ _
      | exact ih1 _ _ _ _ _ _ _
      | exact pentaglotref01_Compare.mono _ _ _ _
      | exact LeO.none _
      | refine LeO.ite ?_ ?_
      | refine LeO.bind ?_ (fun _ => ?_)
theorem pentaglotref01_Sort.mono : ∀ a0 a1 k, LeO (pentaglotref01_Sort.f k a0 a1) (pentaglotref01_Sort.f (k + 1) a0 a1) := by
  intro a0 a1 k
  obtain ⟨ih0, ih1⟩ := pentaglotref01_Sort.mono_l k
  unfold pentaglotref01_Sort.f
  repeat' first
      | (with_reducible exact ih0 _ _ _ _ _)
      | (with_reducible exact ih1 _ _ _ _ _ _ _)
      | (with_reducible exact pentaglotref01_Compare.mono _ _ _ _)
      | (with_reducible exact LeO.refl _)
      | (with_reducible exact LeO.none _)
      | (with_reducible refine LeO.ite ?_ ?_)
      | (with_reducible refine LeO.bind ?_ (fun _ => ?_))
      | exact ih0 _ _ _ _ _
      | exact ih1 _ _ _ _ _ _ _
      | exact pentaglotref01_Compare.mono _ _ _ _
      | exact LeO.none _
      | refine LeO.ite ?_ ?_
      | refine LeO.bind ?_ (fun _ => ?_)

/-! DEFS pentaglotlaw01_AlphabetSort -/
def pentaglotlaw01_AlphabetSort.j0 : Nat → List (S42) → List ByteArray → Bool → Option (Bool)
  | 0, _, _, _ => none
  | k + 1, x0, x1, x12 => if x12 = true then ((pentaglotlaw01_awake.f k).bind fun t359 => (some t359)) else ((alphabet_Sort.f k x0 x1).bind fun t360 => ((pentaglotref01_Sort.f k x0 x1).bind fun t363 => ((pentaglotref01_Same.f k t360 t363).bind fun t366 => (some t366))))
def pentaglotlaw01_AlphabetSort.f (k : Nat) (l0 : List (S42)) (l1 : List ByteArray) : Option (Bool) := (pentaglotlaw01_awake.f k).bind fun t357 => (if t357 = true then ((pentaglotlaw01_few.f k l0 l1).bind fun t358 => (pentaglotlaw01_AlphabetSort.j0 k l0 l1 (!t358))) else (pentaglotlaw01_AlphabetSort.j0 k l0 l1 true))
theorem pentaglotlaw01_AlphabetSort.mono_l : ∀ k, (∀ y0 y1 y2, LeO (pentaglotlaw01_AlphabetSort.j0 k y0 y1 y2) (pentaglotlaw01_AlphabetSort.j0 (k + 1) y0 y1 y2))
  | 0 => fun _ _ _ r h => by simp [pentaglotlaw01_AlphabetSort.j0] at h
  | k + 1 => by
    have ih0 := pentaglotlaw01_AlphabetSort.mono_l k
    · intro y0 y1 y2
      unfold pentaglotlaw01_AlphabetSort.j0
      repeat' first
      | (with_reducible exact ih0 _ _ _)
      | (with_reducible exact alphabet_Sort.mono _ _ _)
      | (with_reducible exact pentaglotlaw01_awake.mono _)
      | (with_reducible exact pentaglotlaw01_few.mono _ _ _)
      | (with_reducible exact pentaglotref01_Same.mono _ _ _)
      | (with_reducible exact pentaglotref01_Sort.mono _ _ _)
      | (with_reducible exact LeO.refl _)
      | (with_reducible exact LeO.none _)
      | (with_reducible refine LeO.ite ?_ ?_)
      | (with_reducible refine LeO.bind ?_ (fun _ => ?_))
      | exact ih0 _ _ _
      | exact alphabet_Sort.mono _ _ _
      | exact pentaglotlaw01_awake.mono _
      | exact pentaglotlaw01_few.mono _ _ _
      | exact pentaglotref01_Same.mono _ _ _
      | exact pentaglotref01_Sort.mono _ _ _
      | exact LeO.none _
      | refine LeO.ite ?_ ?_
      | refine LeO.bind ?_ (fun _ => ?_)
theorem pentaglotlaw01_AlphabetSort.mono : ∀ a0 a1 k, LeO (pentaglotlaw01_AlphabetSort.f k a0 a1) (pentaglotlaw01_AlphabetSort.f (k + 1) a0 a1) := by
  intro a0 a1 k
  have ih0 := pentaglotlaw01_AlphabetSort.mono_l k
  unfold pentaglotlaw01_AlphabetSort.f
  repeat' first
      | (with_reducible exact ih0 _ _ _)
      | (with_reducible exact alphabet_Sort.mono _ _ _)
      | (with_reducible exact pentaglotlaw01_awake.mono _)
      | (with_reducible exact pentaglotlaw01_few.mono _ _ _)
      | (with_reducible exact pentaglotref01_Same.mono _ _ _)
      | (with_reducible exact pentaglotref01_Sort.mono _ _ _)
      | (with_reducible exact LeO.refl _)
      | (with_reducible exact LeO.none _)
      | (with_reducible refine LeO.ite ?_ ?_)
      | (with_reducible refine LeO.bind ?_ (fun _ => ?_))
      | exact ih0 _ _ _
      | exact alphabet_Sort.mono _ _ _
      | exact pentaglotlaw01_awake.mono _
      | exact pentaglotlaw01_few.mono _ _ _
      | exact pentaglotref01_Same.mono _ _ _
      | exact pentaglotref01_Sort.mono _ _ _
      | exact LeO.none _
      | refine LeO.ite ?_ ?_
      | refine LeO.bind ?_ (fun _ => ?_)

/-! DEFS pentaglotlaw01_AlphabetSorted -/
mutual
def pentaglotlaw01_AlphabetSorted.j0 : Nat → List (S42) → List ByteArray → ByteArray → Bool → Option (Bool)
  | 0, _, _, _, _ => none
  | k + 1, x0, x1, x2, x23 => if x23 = true then ((pentaglotlaw01_awake.f k).bind fun t369 => (some t369)) else ((alphabet_Sort.f k x0 x1).bind fun t370 => (pentaglotlaw01_AlphabetSorted.l0 k x0 x1 x2 t370 0 0))
def pentaglotlaw01_AlphabetSorted.l0 : Nat → List (S42) → List ByteArray → ByteArray → List ByteArray → Int → Int → Option (Bool)
  | 0, _, _, _, _, _, _ => none
  | k + 1, x0, x1, x2, x7, x8, x9 => if x9 < (x7.length : Int) then (if x9 > 0 then (if 0 ≤ (wrap64 (x9 - 1)) then (if (wrap64 (x9 - 1)) < (x7.length : Int) then (if 0 ≤ x9 then ((alphabet_Compare.f k x0 (rdOf ByteArray.empty x7 (wrap64 (x9 - 1))) (rdOf ByteArray.empty x7 x9)).bind fun t375 => (pentaglotlaw01_AlphabetSorted.j2 k x0 x1 x2 x7 x8 x9 (decide (t375 > 0)))) else (none)) else (none)) else (none)) else (pentaglotlaw01_AlphabetSorted.j2 k x0 x1 x2 x7 x8 x9 false)) else (pentaglotlaw01_AlphabetSorted.l1 k x1 x2 x7 x8 0)
def pentaglotlaw01_AlphabetSorted.j2 : Nat → List (S42) → List ByteArray → ByteArray → List ByteArray → Int → Int → Bool → Option (Bool)
  | 0, _, _, _, _, _, _, _ => none
  | k + 1, x0, x1, x2, x7, x8, x9, x49 => if x49 = true then (some false) else (if 0 ≤ x9 then (if x9 < (x7.length : Int) then (if (rdOf ByteArray.empty x7 x9).toList = x2.toList then (pentaglotlaw01_AlphabetSorted.l0 k x0 x1 x2 x7 (wrap64 (x8 + 1)) (wrap64 (x9 + 1))) else (pentaglotlaw01_AlphabetSorted.l0 k x0 x1 x2 x7 x8 (wrap64 (x9 + 1)))) else (none)) else (none))
def pentaglotlaw01_AlphabetSorted.l1 : Nat → List ByteArray → ByteArray → List ByteArray → Int → Int → Option (Bool)
  | 0, _, _, _, _, _ => none
  | k + 1, x1, x2, x7, x8, x10 => if x10 < (x1.length : Int) then (if 0 ≤ x10 then (if (rdOf ByteArray.empty x1 x10).toList = x2.toList then (pentaglotlaw01_AlphabetSorted.l1 k x1 x2 x7 (wrap64 (x8 - 1)) (wrap64 (x10 + 1))) else (pentaglotlaw01_AlphabetSorted.l1 k x1 x2 x7 x8 (wrap64 (x10 + 1)))) else (none)) else (if x8 = 0 then (some ((x7.length : Int) == (x1.length : Int))) else (some false))
end
def pentaglotlaw01_AlphabetSorted.f (k : Nat) (l0 : List (S42)) (l1 : List ByteArray) (a2 : ByteArray) : Option (Bool) := (pentaglotlaw01_awake.f k).bind fun t367 => (if t367 = true then ((pentaglotlaw01_few.f k l0 l1).bind fun t368 => (if t368 = true then (pentaglotlaw01_AlphabetSorted.j0 k l0 l1 a2 (decide ((a2.size : Int) > 200))) else (pentaglotlaw01_AlphabetSorted.j0 k l0 l1 a2 true))) else (pentaglotlaw01_AlphabetSorted.j0 k l0 l1 a2 true))
theorem pentaglotlaw01_AlphabetSorted.mono_l : ∀ k, (∀ y0 y1 y2 y3, LeO (pentaglotlaw01_AlphabetSorted.j0 k y0 y1 y2 y3) (pentaglotlaw01_AlphabetSorted.j0 (k + 1) y0 y1 y2 y3)) ∧ (∀ y0 y1 y2 y3 y4 y5, LeO (pentaglotlaw01_AlphabetSorted.l0 k y0 y1 y2 y3 y4 y5) (pentaglotlaw01_AlphabetSorted.l0 (k + 1) y0 y1 y2 y3 y4 y5)) ∧ (∀ y0 y1 y2 y3 y4 y5 y6, LeO (pentaglotlaw01_AlphabetSorted.j2 k y0 y1 y2 y3 y4 y5 y6) (pentaglotlaw01_AlphabetSorted.j2 (k + 1) y0 y1 y2 y3 y4 y5 y6)) ∧ (∀ y0 y1 y2 y3 y4, LeO (pentaglotlaw01_AlphabetSorted.l1 k y0 y1 y2 y3 y4) (pentaglotlaw01_AlphabetSorted.l1 (k + 1) y0 y1 y2 y3 y4))
  | 0 => ⟨fun _ _ _ _ r h => by simp [pentaglotlaw01_AlphabetSorted.j0] at h, fun _ _ _ _ _ _ r h => by simp [pentaglotlaw01_AlphabetSorted.l0] at h, fun _ _ _ _ _ _ _ r h => by simp [pentaglotlaw01_AlphabetSorted.j2] at h, fun _ _ _ _ _ r h => by simp [pentaglotlaw01_AlphabetSorted.l1] at h⟩
  | k + 1 => by
    obtain ⟨ih0, ih1, ih2, ih3⟩ := pentaglotlaw01_AlphabetSorted.mono_l k
    refine ⟨?_, ?_, ?_, ?_⟩
    · intro y0 y1 y2 y3
      unfold pentaglotlaw01_AlphabetSorted.j0
      repeat' first
      | (with_reducible exact ih0 _ _ _ _)
      | (with_reducible exact ih1 _ _ _ _ _ _)
      | (with_reducible exact ih2 _ _ _ _ _ _ _)
      | (with_reducible exact ih3 _ _ _ _ _)
      | (with_reducible exact alphabet_Compare.mono _ _ _ _)
      | (with_reducible exact alphabet_Sort.mono _ _ _)
      | (with_reducible exact pentaglotlaw01_awake.mono _)
      | (with_reducible exact pentaglotlaw01_few.mono _ _ _)
      | (with_reducible exact LeO.refl _)
      | (with_reducible exact LeO.none _)
      | (with_reducible refine LeO.ite ?_ ?_)
      | (with_reducible refine LeO.bind ?_ (fun _ => ?_))
      | exact ih0 _ _ _ _
      | exact ih1 _ _ _ _ _ _
      | exact ih2 _ _ _ _ _ _ _
      | exact ih3 _ _ _ _ _
      | exact alphabet_Compare.mono _ _ _ _
      | exact alphabet_Sort.mono _ _ _
      | exact pentaglotlaw01_awake.mono _
      | exact pentaglotlaw01_few.mono _ _ _
      | exact LeO.none _
      | refine LeO.ite ?_ ?_
      | refine LeO.bind ?_ (fun _ => ?_)
    · intro y0 y1 y2 y3 y4 y5
      unfold pentaglotlaw01_AlphabetSorted.l0
      repeat' first
      | (with_reducible exact ih0 _ _ _ _)
      | (with_reducible exact ih1 _ _ _ _ _ _)
      | (with_reducible exact ih2 _ _ _ _ _ _ _)
      | (with_reducible exact ih3 _ _ _ _ _)
      | (with_reducible exact alphabet_Compare.mono _ _ _ _)
      | (with_reducible exact alphabet_Sort.mono _ _ _)
      | (with_reducible exact pentaglotlaw01_awake.mono _)
      | (with_reducible exact pentaglotlaw01_few.mono _ _ _)
      | (with_reducible exact LeO.refl _)
      | (with_reducible exact LeO.none _)
      | (with_reducible refine LeO.ite ?_ ?_)
      | (with_reducible refine LeO.bind ?_ (fun _ => ?_))
      | exact ih0 _ _ _ _
      | exact ih1 _ _ _ _ _ _
      | exact ih2 _ _ _ _ _ _ _
      | exact ih3 _ _ _ _ _
      | exact alphabet_Compare.mono _ _ _ _
      | exact alphabet_Sort.mono _ _ _
      | exact pentaglotlaw01_awake.mono _
      | exact pentaglotlaw01_few.mono _ _ _
      | exact LeO.none _
      | refine LeO.ite ?_ ?_
      | refine LeO.bind ?_ (fun _ => ?_)
    · intro y0 y1 y2 y3 y4 y5 y6
      unfold pentaglotlaw01_AlphabetSorted.j2
      repeat' first
      | (with_reducible exact ih0 _ _ _ _)
      | (with_reducible exact ih1 _ _ _ _ _ _)
      | (with_reducible exact ih2 _ _ _ _ _ _ _)
      | (with_reducible exact ih3 _ _ _ _ _)
      | (with_reducible exact alphabet_Compare.mono _ _ _ _)
      | (with_reducible exact alphabet_Sort.mono _ _ _)
      | (with_reducible exact pentaglotlaw01_awake.mono _)
      | (with_reducible exact pentaglotlaw01_few.mono _ _ _)
      | (with_reducible exact LeO.refl _)
      | (with_reducible exact LeO.none _)
      | (with_reducible refine LeO.ite ?_ ?_)
      | (with_reducible refine LeO.bind ?_ (fun _ => ?_))
      | exact ih0 _ _ _ _
      | exact ih1 _ _ _ _ _ _
      | exact ih2 _ _ _ _ _ _ _
      | exact ih3 _ _ _ _ _
      | exact alphabet_Compare.mono _ _ _ _
      | exact alphabet_Sort.mono _ _ _
      | exact pentaglotlaw01_awake.mono _
      | exact pentaglotlaw01_few.mono _ _ _
      | exact LeO.none _
      | refine LeO.ite ?_ ?_
      | refine LeO.bind ?_ (fun _ => ?_)
    · intro y0 y1 y2 y3 y4
      unfold pentaglotlaw01_AlphabetSorted.l1
      repeat' first
      | (with_reducible exact ih0 _ _ _ _)
      | (with_reducible exact ih1 _ _ _ _ _ _)
      | (with_reducible exact ih2 _ _ _ _ _ _ _)
      | (with_reducible exact ih3 _ _ _ _ _)
      | (with_reducible exact alphabet_Compare.mono _ _ _ _)
      | (with_reducible exact alphabet_Sort.mono _ _ _)
      | (with_reducible exact pentaglotlaw01_awake.mono _)
      | (with_reducible exact pentaglotlaw01_few.mono _ _ _)
      | (with_reducible exact LeO.refl _)
      | (with_reducible exact LeO.none _)
      | (with_reducible refine LeO.ite ?_ ?_)
      | (with_reducible refine LeO.bind ?_ (fun _ => ?_))
      | exact ih0 _ _ _ _
      | exact ih1 _ _ _ _ _ _
      | exact ih2 _ _ _ _ _ _ _
      | exact ih3 _ _ _ _ _
      | exact alphabet_Compare.mono _ _ _ _
      | exact alphabet_Sort.mono _ _ _
      | exact pentaglotlaw01_awake.mono _
      | exact pentaglotlaw01_few.mono _ _ _
      | exact LeO.none _
      | refine LeO.ite ?_ ?_
      | refine LeO.bind ?_ (fun _ => ?_)
theorem pentaglotlaw01_AlphabetSorted.mono : ∀ a0 a1 a2 k, LeO (pentaglotlaw01_AlphabetSorted.f k a0 a1 a2) (pentaglotlaw01_AlphabetSorted.f (k + 1) a0 a1 a2) := by
  intro a0 a1 a2 k
  obtain ⟨ih0, ih1, ih2, ih3⟩ := pentaglotlaw01_AlphabetSorted.mono_l k
  unfold pentaglotlaw01_AlphabetSorted.f
  repeat' first
      | (with_reducible exact ih0 _ _ _ _)
      | (with_reducible exact ih1 _ _ _ _ _ _)
      | (with_reducible exact ih2 _ _ _ _ _ _ _)
      | (with_reducible exact ih3 _ _ _ _ _)
      | (with_reducible exact alphabet_Compare.mono _ _ _ _)
      | (with_reducible exact alphabet_Sort.mono _ _ _)
      | (with_reducible exact pentaglotlaw01_awake.mono _)
      | (with_reducible exact pentaglotlaw01_few.mono _ _ _)
      | (with_reducible exact LeO.refl _)
      | (with_reducible exact LeO.none _)
      | (with_reducible refine LeO.ite ?_ ?_)
      | (with_reducible refine LeO.bind ?_ (fun _ => ?_))
      | exact ih0 _ _ _ _
      | exact ih1 _ _ _ _ _ _
      | exact ih2 _ _ _ _ _ _ _
      | exact ih3 _ _ _ _ _
      | exact alphabet_Compare.mono _ _ _ _
      | exact alphabet_Sort.mono _ _ _
      | exact pentaglotlaw01_awake.mono _
      | exact pentaglotlaw01_few.mono _ _ _
      | exact LeO.none _
      | refine LeO.ite ?_ ?_
      | refine LeO.bind ?_ (fun _ => ?_)

end Go.Proofs.YtpgeimihmkampaaDoor.C
