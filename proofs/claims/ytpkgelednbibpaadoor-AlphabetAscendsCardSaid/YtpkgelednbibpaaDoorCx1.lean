-- WRITTEN BY mkprint.py, a program of this session, over the kit's print of the given program. Not trusted: Lean checks it.
import Derived.Test.YtpkgelednbibpaaDoorCx0
namespace Go.Proofs.YtpkgelednbibpaaDoor.C
open Go.RowKit Go.Proofs.YtpkgelednbibpaaDoorW.PrintWords Go.Proofs.YtpkgelednbibpaaDoorW.PrintLast Go.Proofs.YtpkgelednbibpaaDoorW.PrintMore
attribute [local go_sem] max2_int min2_int max_two min_two max_three min_three max_four min_four   -- for this text's walks alone
set_option linter.unusedVariables false
set_option linter.unusedSimpArgs false

/-! DEFS utf8_ValidRune -/
def utf8_ValidRune.j0 : Nat → Int → Bool → Option (Bool)
  | 0, _, _ => none
  | k + 1, x0, x3 => if x3 = true then (some true) else (if 57343 < x0 then (if x0 ≤ 1114111 then (some true) else (some false)) else (some false))
def utf8_ValidRune.f (k : Nat) (a0 : Int) : Option (Bool) := if 0 ≤ a0 then (utf8_ValidRune.j0 k a0 (decide (a0 < 55296))) else (utf8_ValidRune.j0 k a0 false)
theorem utf8_ValidRune.mono_l : ∀ k, (∀ y0 y1, LeO (utf8_ValidRune.j0 k y0 y1) (utf8_ValidRune.j0 (k + 1) y0 y1))
  | 0 => fun _ _ r h => by simp [utf8_ValidRune.j0] at h
  | k + 1 => by
    have ih0 := utf8_ValidRune.mono_l k
    · intro y0 y1
      unfold utf8_ValidRune.j0
      repeat' first
      | (with_reducible exact ih0 _ _)
      | (with_reducible exact LeO.refl _)
      | (with_reducible exact LeO.none _)
      | (with_reducible refine LeO.ite ?_ ?_)
      | (with_reducible refine LeO.bind ?_ (fun _ => ?_))
      | exact ih0 _ _
      | exact LeO.none _
      | refine LeO.ite ?_ ?_
      | refine LeO.bind ?_ (fun _ => ?_)
theorem utf8_ValidRune.mono : ∀ a0 k, LeO (utf8_ValidRune.f k a0) (utf8_ValidRune.f (k + 1) a0) := by
  intro a0 k
  have ih0 := utf8_ValidRune.mono_l k
  unfold utf8_ValidRune.f
  repeat' first
      | (with_reducible exact ih0 _ _)
      | (with_reducible exact LeO.refl _)
      | (with_reducible exact LeO.none _)
      | (with_reducible refine LeO.ite ?_ ?_)
      | (with_reducible refine LeO.bind ?_ (fun _ => ?_))
      | exact ih0 _ _
      | exact LeO.none _
      | refine LeO.ite ?_ ?_
      | refine LeO.bind ?_ (fun _ => ?_)

/-! DEFS alphabet_indices -/
/-- The index of the first of the first m letters with a rune. -/
def firstIn (l : List S42) (m : Nat) (r : Int) : Option Int := Option.map (fun n : Nat => (n : Int)) ((l.take m).findIdx? (fun x => x.f0 == r))
/-- How many distinct runes the first m letters have. -/
def distinct (l : List S42) : Nat → Nat
  | 0 => 0
  | m + 1 => distinct l m + (if (firstIn l m (rd_T42 l m).f0).isSome then 0 else 1)
/-- A map of runes to numbers, of the call's own: what a look-up gives, and its size. -/
def Tb (w : World) (b n size : Nat) (f : Int → Option Int) : Prop :=
  ∃ D : DataW Unit, w.ownsMap Tryd.prog 21 (plainElem Tryd.prog 3) b n D ∧ Maps.Tidy D ∧ Maps.size D = size ∧ (∀ r : Int, Maps.has D (.int .i32 r) = (f r).isSome) ∧ ∀ r : Int, D.atKey (.int .i32 r) (.lit (.int .i64 0)) = .lit (.int .i64 ((f r).getD 0))
theorem Tb.kept {w w' : World} {b n m : Nat} {f : Int → Option Int} {row : Option Nat} (h : Tb w b n m f) (hg : w.grownBy w' row) (hne : some b ≠ row) : Tb w' b n m f := by
  obtain ⟨D, h1, h2, h3, h4, h5⟩ := h
  exact ⟨D, h1.kept hg hne, h2, h3, h4, h5⟩
theorem Tb.step {w w' : World} {b n m : Nat} {f : Int → Option Int} (h : Tb w b n m f) (hb : Below w.heap.size w w') : Tb w' b n m f := h.kept (grown_of_below hb none) (by simp)
theorem Tb.lt {w : World} {b n m : Nat} {f : Int → Option Int} (h : Tb w b n m f) : b < w.heap.size := by
  obtain ⟨D, h1, _⟩ := h
  exact h1.lt
theorem Tb.congr {w : World} {b n m m' : Nat} {f g : Int → Option Int} (h : Tb w b n m f) (e : ∀ x, f x = g x) (hm : m = m') : Tb w b n m' g := by
  have : f = g := funext e
  subst hm
  exact this ▸ h
theorem zeroI (w : World) : (zeroValue 3).run Tryd.prog w = .ok (.int .i64 0) w := by kernel_rfl
theorem keyR : Maps.Keyed Tryd.prog 21 := Maps.int_keyed Tryd.underlying21
theorem keyR_at {r : Int} (h : (Lit.int .i32 r).wf = true) : keyOf Tryd.prog 21 (.int .i32 r) = some (.int .i32 r) := Maps.keyOf_int_mk Tryd.underlying21 h
theorem Tb.look {w : World} {b n m : Nat} {f : Int → Option Int} (h : Tb w b n m f) {r : Int} (hr : (Lit.int .i32 r).wf = true) : (Instr.lookup 50 (.map (some b)) (.int .i32 r) true).run Tryd.prog w = .ok (.tuple #[.int .i64 ((f r).getD 0), .bool (f r).isSome]) w := by
  obtain ⟨D, h1, h2, h3, h4, h5⟩ := h
  obtain ⟨v, ps, hrun, hv⟩ := h1.look_ok keyR Tryd.underlying50 (zeroI w) (zd := .lit (.int .i64 0)) (zp := []) (plainElem_int Tryd.underlying3 (by decide)) (keyR_at hr)
  rw [h5 r] at hv
  obtain ⟨c, rfl, hc, _⟩ := plainElem_int_inv Tryd.underlying3 hv
  have := congrArg Prod.fst hc
  simp only [DataW.lit.injEq, Lit.int.injEq, true_and] at this
  rw [hrun, h4 r, this]
theorem Tb.length {w : World} {b n m : Nat} {f : Int → Option Int} (h : Tb w b n m f) (ty : TypeId) : (Builtin.len_ #[50] ty #[.map (some b)]).run Tryd.prog w = .ok (.int .i64 (m : Int)) w := by
  obtain ⟨D, h1, h2, h3, h4, h5⟩ := h
  rw [← h3]
  exact h1.len Tryd.underlying50 ty
theorem tb_made (w : World) : Tb (w.alloc (.map #[] 0)) w.heap.size 0 0 (fun _ => none) :=
  ⟨.map [], World.ownsMap_made _ _ _ _, Maps.tidy_empty, rfl, fun _ => rfl, fun _ => rfl⟩
theorem Tb.put {b n m : Nat} {f : Int → Option Int} {D : DataW Unit} {w1 : World} {r c : Int} (h2 : Maps.Tidy D) (h3 : Maps.size D = m) (h4 : ∀ r : Int, Maps.has D (.int .i32 r) = (f r).isSome) (h5 : ∀ r : Int, D.atKey (.int .i32 r) (.lit (.int .i64 0)) = .lit (.int .i64 ((f r).getD 0))) (hf : f r = none)
    (h1 : w1.ownsMap Tryd.prog 21 (plainElem Tryd.prog 3) b n (D.put (.int .i32 r) (.lit (.int .i64 c)))) : Tb w1 b n (m + 1) (fun x => if x = r then some c else f x) := by
  have hk : WideAt.IsKeyLit (.int .i32 r) := trivial
  refine ⟨_, h1, h2.put hk _, ?_, fun t => ?_, fun t => ?_⟩
  · rw [Maps.size_put h2, h4 r, hf, h3]
    simp
  · by_cases e : t = r
    · subst e
      rw [Maps.has_put_same h2.isMap hk]
      simp
    · rw [Maps.has_put_other (fun x => e (by injection x)), h4 t]
      simp [e]
  · by_cases e : t = r
    · subst e
      rw [Maps.atKey_put_same h2.isMap hk]
      simp
    · rw [Maps.atKey_put_other (fun x => e (by injection x)), h5 t]
      simp [e]
theorem firstIn_next {l : List S42} {m : Nat} (h : m < l.length) (hn : firstIn l m (rd_T42 l m).f0 = none) (x : Int) : (if x = (rd_T42 l m).f0 then some (m : Int) else firstIn l m x) = firstIn l (m + 1) x := by
  have hx : rd_T42 l m = l[m] := by simp [rd_T42, List.getD, List.getElem?_eq_getElem h]
  unfold firstIn at hn ⊢
  rw [hx] at hn ⊢
  rw [List.take_succ_eq_append_getElem h, List.findIdx?_append]
  by_cases e : x = l[m].f0
  · subst e
    rw [if_pos rfl]
    simp only [Option.map_eq_none_iff] at hn
    rw [hn]
    simp [List.findIdx?_cons, Nat.min_eq_left (Nat.le_of_lt h)]
  · rw [if_neg e]
    simp [List.findIdx?_cons, Ne.symm e]
theorem firstIn_stay {l : List S42} {m : Nat} (h : m < l.length) (hn : (firstIn l m (rd_T42 l m).f0).isSome = true) (x : Int) : firstIn l m x = firstIn l (m + 1) x := by
  have hx : rd_T42 l m = l[m] := by simp [rd_T42, List.getD, List.getElem?_eq_getElem h]
  unfold firstIn at hn ⊢
  rw [hx] at hn
  rw [List.take_succ_eq_append_getElem h, List.findIdx?_append]
  by_cases e : x = l[m].f0
  · subst e
    obtain ⟨v, hv⟩ := Option.isSome_iff_exists.mp hn
    obtain ⟨u, hu, _⟩ := Option.map_eq_some_iff.mp hv
    rw [hu]
    rfl
  · simp [List.findIdx?_cons, Ne.symm e]
theorem wf_small {x : Int} (h0 : 0 ≤ x) (h1 : x ≤ 1000) : (Lit.int .i64 x).wf = true := by
  have a : IntKind.i64.min = -9223372036854775808 := by decide
  have b : IntKind.i64.max = 9223372036854775807 := by decide
  simp only [Lit.wf, a, b]
  simp
  omega
def good (l : List S42) : Bool := l.all fun x => (Lit.int .i32 x.f0).wf
theorem good_at {l : List S42} (h : good l = true) {i : Int} (h0 : 0 ≤ i) (h1 : i < (l.length : Int)) : (Lit.int .i32 (rd_T42 l i).f0).wf = true := by
  have hj : i.toNat < l.length := by omega
  have := List.all_eq_true.mp h l[i.toNat] (List.getElem_mem hj)
  simpa [rd_T42, List.getD, List.getElem?_eq_getElem hj] using this
def okA (l : List S42) : Bool := good l && decide ((l.length : Int) ≤ 1000)
theorem okA_at {l : List S42} (h : okA l = true) : good l = true ∧ (l.length : Int) ≤ 1000 := by
  unfold okA at h
  simpa using h
def isLetter (l : List S42) (r : Int) : Bool := (firstIn l l.length r).isSome
def okS (l : List S42) (s : ByteArray) : Bool := okA l && decide (s.size ≤ 1000000)
theorem okS_at {l : List S42} {s : ByteArray} (h : okS l s = true) : (good l = true ∧ (l.length : Int) ≤ 1000) ∧ s.size ≤ 1000000 := by
  unfold okS at h
  have h1 : okA l = true ∧ s.size ≤ 1000000 := by simpa using h
  exact ⟨okA_at h1.1, h1.2⟩

/-! DEFS alphabet_Valid -/
def alphabet_Valid.l0 : Nat → List S42 → Int → Option Bool
  | 0, _, _ => none
  | k + 1, l, i => if i < (l.length : Int) then (if (rd_T42 l i).f0 ≤ 32 then some false else ((utf8_ValidRune.f k (rd_T42 l i).f0).bind fun t => (if t = true then alphabet_Valid.l0 k l (i + 1) else some false))) else (if good l = true then some ((distinct l l.length : Int) == (l.length : Int)) else none)
def alphabet_Valid.f (k : Nat) (l : List S42) : Option Bool := if (l.length : Int) < 1 then some false else (if (l.length : Int) > 64 then some false else alphabet_Valid.l0 k l 0)
theorem alphabet_Valid.mono_l : ∀ k l i, LeO (alphabet_Valid.l0 k l i) (alphabet_Valid.l0 (k + 1) l i)
  | 0, _, _ => fun r h => by simp [alphabet_Valid.l0] at h
  | k + 1, l, i => by
    have ih := alphabet_Valid.mono_l k
    unfold alphabet_Valid.l0
    repeat' first
      | (with_reducible exact LeO.refl _)
      | (with_reducible exact ih _ _)
      | (with_reducible exact utf8_ValidRune.mono _ _)
      | (with_reducible refine LeO.ite ?_ ?_)
      | (with_reducible refine LeO.bind ?_ (fun _ => ?_))
theorem alphabet_Valid.mono : ∀ l k, LeO (alphabet_Valid.f k l) (alphabet_Valid.f (k + 1) l) := by
  intro l k
  have ih := alphabet_Valid.mono_l k
  unfold alphabet_Valid.f
  repeat' first
      | (with_reducible exact LeO.refl _)
      | (with_reducible exact ih _ _)
      | (with_reducible refine LeO.ite ?_ ?_)

/-! DEFS utf8_word_string -/
def utf8_word_string.f (a0 : ByteArray) : Option (Int) := if 0 < (a0.size : Int) then (if 1 < (a0.size : Int) then (if 2 < (a0.size : Int) then (if 3 < (a0.size : Int) then (if 4 < (a0.size : Int) then (if 5 < (a0.size : Int) then (if 6 < (a0.size : Int) then (if 7 < (a0.size : Int) then (some (Go.bits .or .u64 (Go.bits .or .u64 (Go.bits .or .u64 (Go.bits .or .u64 (Go.bits .or .u64 (Go.bits .or .u64 (Go.bits .or .u64 (IntKind.u64.wrap (bt a0 0)) (IntKind.u64.wrap ((IntKind.u64.wrap (bt a0 1)) * 256))) (IntKind.u64.wrap ((IntKind.u64.wrap (bt a0 2)) * 65536))) (IntKind.u64.wrap ((IntKind.u64.wrap (bt a0 3)) * 16777216))) (IntKind.u64.wrap ((IntKind.u64.wrap (bt a0 4)) * 4294967296))) (IntKind.u64.wrap ((IntKind.u64.wrap (bt a0 5)) * 1099511627776))) (IntKind.u64.wrap ((IntKind.u64.wrap (bt a0 6)) * 281474976710656))) (IntKind.u64.wrap ((IntKind.u64.wrap (bt a0 7)) * 72057594037927936)))) else (none)) else (none)) else (none)) else (none)) else (none)) else (none)) else (none)) else (none)

/-! DEFS utf8_ValidString -/
def laysValid_ren : Go.Shelf.Ren := ⟨fun | 196 => 38 | 259 => 43 | n => n, fun | 9 => 9 | 4 => 4 | 3 => 3 | 5 => 5 | 12 => 12 | 119 => 58 | 0 => 0 | 46 => 62 | 139 => 61 | 138 => 60 | 53 => 66 | n => n, fun | 3 => 0 | 4 => 1 | n => n⟩
theorem laysValid : Go.Proofs.Lays.n196 Tryd.prog laysValid_ren :=
  { mixed := by kernel_rfl,
    f196 := Tryd.func38.trans (congrArg some (by kernel_rfl)),
    f259 := Tryd.func43.trans (congrArg some (by kernel_rfl)),
    t0 := Tryd.underlying0,
    a0 := Tryd.isAgg0,
    z0 := Tryd.sizeOf0,
    v0 := Tryd.zeroValue0,
    t3 := Tryd.underlying3,
    a3 := Tryd.isAgg3,
    z3 := Tryd.sizeOf3,
    v3 := Tryd.zeroValue3,
    t4 := Tryd.underlying4,
    a4 := Tryd.isAgg4,
    z4 := Tryd.sizeOf4,
    v4 := Tryd.zeroValue4,
    t5 := Tryd.underlying5,
    a5 := Tryd.isAgg5,
    z5 := Tryd.sizeOf5,
    v5 := Tryd.zeroValue5,
    t9 := Tryd.underlying9,
    a9 := Tryd.isAgg9,
    z9 := Tryd.sizeOf9,
    v9 := Tryd.zeroValue9,
    t12 := Tryd.underlying12,
    a12 := Tryd.isAgg12,
    z12 := Tryd.sizeOf12,
    v12 := Tryd.zeroValue12,
    t46 := Tryd.underlying62,
    a46 := Tryd.isAgg62,
    z46 := Tryd.sizeOf62,
    v46 := Tryd.zeroValue62,
    t53 := Tryd.underlying66,
    a53 := Tryd.isAgg66,
    z53 := Tryd.sizeOf66,
    v53 := Tryd.zeroValue66,
    t119 := Tryd.underlying58,
    a119 := Tryd.isAgg58,
    z119 := Tryd.sizeOf58,
    t138 := Tryd.underlying60,
    a138 := Tryd.isAgg60,
    z138 := Tryd.sizeOf60,
    v138 := Tryd.zeroValue60,
    t139 := Tryd.underlying61,
    a139 := Tryd.isAgg61,
    z139 := Tryd.sizeOf61,
    v139 := Tryd.zeroValue61,
    g3 := by kernel_rfl,
    g4 := by kernel_rfl }
/-- What the tables of unicode/utf8 hold. -/
def Glob (w : World) : Prop := Lib.Utf8Tabs (laysValid_ren.g 3) (laysValid_ren.g 4) w
theorem Glob.below {w w1 : World} (h : Glob w) (hb : Below w.heap.size w w1) : Glob w1 :=
  ⟨fun c hc => pw_cell_below hb (h.1 c hc), fun i hi => ⟨pw_cell_below hb (h.2 i hi).1, pw_cell_below hb (h.2 i hi).2⟩⟩
def utf8_ValidString.f (s : ByteArray) : Option Bool := if s.size ≤ 9223372036854775807 then some (Lib.validD s.data.toList) else none

/-! DEFS alphabet_IsWord -/
def alphabet_IsWord.f (l : List S42) (s : ByteArray) : Option Bool := if okS l s = true then some (Lib.validD s.data.toList && ((rns s).all (isLetter l) && decide (((rns s).length : Int) ≤ 40))) else none

/-! DEFS alphabet_Index -/
theorem firstIn_range {l : List S42} {m : Nat} (hm : m ≤ l.length) {r i : Int} (h : firstIn l m r = some i) : 0 ≤ i ∧ i < (m : Int) := by
  obtain ⟨n, hn, e⟩ := Option.map_eq_some_iff.mp h
  subst e
  have := (List.findIdx?_eq_some_iff_findIdx_eq.mp hn).1
  rw [List.length_take] at this
  exact ⟨by simp, by simp; omega⟩
def alphabet_Index.f (l : List S42) (r : Int) : Option Int := if okA l = true then (if (Lit.int .i32 r).wf = true then some ((firstIn l l.length r).getD (-1)) else none) else none
def alphabet_Classes.f (l : List S42) (r : Int) : Option Int := if okA l = true then (if (Lit.int .i32 r).wf = true then (match firstIn l l.length r with | some i => some (rd_T42 l i).f1 | none => some 0) else none) else none

/-! DEFS cmp_isNaN_int -/
def cmp_isNaN_int.f (a0 : Int) : Option (Bool) := some (a0 != a0)

/-! DEFS cmp_Compare_int -/
def cmp_Compare_int.f (a0 : Int) (a1 : Int) : Option (Int) := (cmp_isNaN_int.f a0).bind fun t101 => ((cmp_isNaN_int.f a1).bind fun t102 => (if t101 = true then (if t102 = true then (some 0) else (some (-1))) else (if t102 = true then (some 1) else (if a0 < a1 then (some (-1)) else (if a0 > a1 then (some 1) else (some 0))))))

/-! DEFS slices_Compare_int_int -/
def slices_Compare_int_int.l0 : Nat → List Int → List Int → List Int → Int → Int → Option (Int)
  | 0, _, _, _, _, _ => none
  | k + 1, x0, x1, x9, x10, x11 => if x11 < x10 then (if 0 ≤ x11 then (if x11 < (x9.length : Int) then (if x11 ≥ (x1.length : Int) then (some 1) else (if x11 < (x1.length : Int) then ((cmp_Compare_int.f (rd x9 x11) (rd x1 x11)).bind fun t105 => (if t105 = 0 then (slices_Compare_int_int.l0 k x0 x1 x9 x10 (wrap64 (x11 + 1))) else (some t105))) else (none))) else (none)) else (none)) else (if (x0.length : Int) < (x1.length : Int) then (some (-1)) else (some 0))
def slices_Compare_int_int.f (k : Nat) (l0 : List Int) (l1 : List Int) : Option (Int) := slices_Compare_int_int.l0 k l0 l1 l0 (l0.length : Int) 0
theorem slices_Compare_int_int.mono_l : ∀ k, (∀ y0 y1 y2 y3 y4, LeO (slices_Compare_int_int.l0 k y0 y1 y2 y3 y4) (slices_Compare_int_int.l0 (k + 1) y0 y1 y2 y3 y4))
  | 0 => fun _ _ _ _ _ r h => by simp [slices_Compare_int_int.l0] at h
  | k + 1 => by
    have ih0 := slices_Compare_int_int.mono_l k
    · intro y0 y1 y2 y3 y4
      unfold slices_Compare_int_int.l0
      repeat' first
      | (with_reducible exact ih0 _ _ _ _ _)
      | (with_reducible exact LeO.refl _)
      | (with_reducible exact LeO.none _)
      | (with_reducible refine LeO.ite ?_ ?_)
      | (with_reducible refine LeO.bind ?_ (fun _ => ?_))
      | exact ih0 _ _ _ _ _
      | exact LeO.none _
      | refine LeO.ite ?_ ?_
      | refine LeO.bind ?_ (fun _ => ?_)
theorem slices_Compare_int_int.mono : ∀ a0 a1 k, LeO (slices_Compare_int_int.f k a0 a1) (slices_Compare_int_int.f (k + 1) a0 a1) := by
  intro a0 a1 k
  have ih0 := slices_Compare_int_int.mono_l k
  unfold slices_Compare_int_int.f
  repeat' first
      | (with_reducible exact ih0 _ _ _ _ _)
      | (with_reducible exact LeO.refl _)
      | (with_reducible exact LeO.none _)
      | (with_reducible refine LeO.ite ?_ ?_)
      | (with_reducible refine LeO.bind ?_ (fun _ => ?_))
      | exact ih0 _ _ _ _ _
      | exact LeO.none _
      | refine LeO.ite ?_ ?_
      | refine LeO.bind ?_ (fun _ => ?_)

/-! DEFS alphabet_Compare -/
/-- The weight of a rune: its letter's index, or behind all letters. -/
def weight (l : List S42) (r : Int) : Int := (firstIn l l.length r).getD ((l.length : Int) + r)
def weights (l : List S42) (s : ByteArray) : List Int := (rns s).map (weight l)
def alphabet_Compare.f (k : Nat) (l : List S42) (s t : ByteArray) : Option Int := if okS l s = true then (if okS l t = true then slices_Compare_int_int.f k (weights l s) (weights l t) else none) else none
theorem alphabet_Compare.mono : ∀ l s t k, LeO (alphabet_Compare.f k l s t) (alphabet_Compare.f (k + 1) l s t) := by
  intro l s t k
  unfold alphabet_Compare.f
  repeat' first
      | (with_reducible exact LeO.refl _)
      | (with_reducible exact slices_Compare_int_int.mono _ _ _)
      | (with_reducible refine LeO.ite ?_ ?_)
theorem wInfo3 : (Tryd.prog.info? 3).map (fun i => (i.zero, i.size, i.bytes)) = some (some (.int .i64 0), 1, 8) := by kernel_rfl
theorem weight_small {l : List S42} {r i : Int} (hl : (l.length : Int) ≤ 1000) (h : firstIn l l.length r = some i) : 0 ≤ i ∧ i ≤ 1000 := by
  have := firstIn_range (Nat.le_refl _) h
  omega

/-! DEFS alphabet_Words -/
mutual
def alphabet_Words.j0 : Nat → List (S42) → Int → Bool → Option (List ByteArray)
  | 0, _, _, _ => none
  | k + 1, x0, x1, x21 => if x21 = true then (some ([] : List ByteArray)) else (alphabet_Words.l0 k x0 (([(⟨#[]⟩ : ByteArray)] : List ByteArray)) x1 0)
def alphabet_Words.l0 : Nat → List (S42) → List ByteArray → Int → Int → Option (List ByteArray)
  | 0, _, _, _, _ => none
  | k + 1, x0, x5, x23, x24 => if x24 < x23 then (if (wrap64 ((x5.length : Int) * (x0.length : Int))) > 256 then (some ([] : List ByteArray)) else (alphabet_Words.l1 k x0 ([] : List ByteArray) x23 x24 x5 (x5.length : Int) 0)) else (some x5)
def alphabet_Words.l1 : Nat → List (S42) → List ByteArray → Int → Int → List ByteArray → Int → Int → Option (List ByteArray)
  | 0, _, _, _, _, _, _, _ => none
  | k + 1, x0, x6, x23, x24, x32, x33, x34 => if x34 < x33 then (if 0 ≤ x34 then (if x34 < (x32.length : Int) then (alphabet_Words.l2 k x0 x6 (rdOf ByteArray.empty x32 x34) x23 x24 x32 x33 x34 x0 (x0.length : Int) 0) else (none)) else (none)) else (alphabet_Words.l0 k x0 x6 x23 (wrap64 (x24 + 1)))
def alphabet_Words.l2 : Nat → List (S42) → List ByteArray → ByteArray → Int → Int → List ByteArray → Int → Int → List (S42) → Int → Int → Option (List ByteArray)
  | 0, _, _, _, _, _, _, _, _, _, _, _ => none
  | k + 1, x0, x6, x8, x23, x24, x32, x33, x34, x38, x39, x40 => if x40 < x39 then (if 0 ≤ x40 then (if x40 < (x38.length : Int) then (if x8.size + (Utf8.encode ((rd_T42 x38 x40).f0)).size ≤ 9223372036854775807 then (if x6.length < 8796093022208 then (alphabet_Words.l2 k x0 (x6 ++ [x8 ++ (Utf8.encode ((rd_T42 x38 x40).f0))]) x8 x23 x24 x32 x33 x34 x38 x39 (wrap64 (x40 + 1))) else (none)) else (none)) else (none)) else (none)) else (alphabet_Words.l1 k x0 x6 x23 x24 x32 x33 (wrap64 (x34 + 1)))
end
def alphabet_Words.f (k : Nat) (l0 : List (S42)) (a1 : Int) : Option (List ByteArray) := (alphabet_Valid.f k l0).bind fun t106 => (if t106 = true then (if a1 < 0 then (alphabet_Words.j0 k l0 a1 true) else (alphabet_Words.j0 k l0 a1 (decide (a1 > 40)))) else (alphabet_Words.j0 k l0 a1 true))
theorem alphabet_Words.mono_l : ∀ k, (∀ y0 y1 y2, LeO (alphabet_Words.j0 k y0 y1 y2) (alphabet_Words.j0 (k + 1) y0 y1 y2)) ∧ (∀ y0 y1 y2 y3, LeO (alphabet_Words.l0 k y0 y1 y2 y3) (alphabet_Words.l0 (k + 1) y0 y1 y2 y3)) ∧ (∀ y0 y1 y2 y3 y4 y5 y6, LeO (alphabet_Words.l1 k y0 y1 y2 y3 y4 y5 y6) (alphabet_Words.l1 (k + 1) y0 y1 y2 y3 y4 y5 y6)) ∧ (∀ y0 y1 y2 y3 y4 y5 y6 y7 y8 y9 y10, LeO (alphabet_Words.l2 k y0 y1 y2 y3 y4 y5 y6 y7 y8 y9 y10) (alphabet_Words.l2 (k + 1) y0 y1 y2 y3 y4 y5 y6 y7 y8 y9 y10))
  | 0 => ⟨fun _ _ _ r h => by simp [alphabet_Words.j0] at h, fun _ _ _ _ r h => by simp [alphabet_Words.l0] at h, fun _ _ _ _ _ _ _ r h => by simp [alphabet_Words.l1] at h, fun _ _ _ _ _ _ _ _ _ _ _ r h => by simp [alphabet_Words.l2] at h⟩
  | k + 1 => by
    obtain ⟨ih0, ih1, ih2, ih3⟩ := alphabet_Words.mono_l k
    refine ⟨?_, ?_, ?_, ?_⟩
    · intro y0 y1 y2
      unfold alphabet_Words.j0
      repeat' first
      | (with_reducible exact ih0 _ _ _)
      | (with_reducible exact ih1 _ _ _ _)
      | (with_reducible exact ih2 _ _ _ _ _ _ _)
      | (with_reducible exact ih3 _ _ _ _ _ _ _ _ _ _ _)
      | (with_reducible exact alphabet_Valid.mono _ _)
      | (with_reducible exact LeO.refl _)
      | (with_reducible exact LeO.none _)
      | (with_reducible refine LeO.ite ?_ ?_)
      | (with_reducible refine LeO.bind ?_ (fun _ => ?_))
      | exact ih0 _ _ _
      | exact ih1 _ _ _ _
      | exact ih2 _ _ _ _ _ _ _
      | exact ih3 _ _ _ _ _ _ _ _ _ _ _
      | exact alphabet_Valid.mono _ _
      | exact LeO.none _
      | refine LeO.ite ?_ ?_
      | refine LeO.bind ?_ (fun _ => ?_)
    · intro y0 y1 y2 y3
      unfold alphabet_Words.l0
      repeat' first
      | (with_reducible exact ih0 _ _ _)
      | (with_reducible exact ih1 _ _ _ _)
      | (with_reducible exact ih2 _ _ _ _ _ _ _)
      | (with_reducible exact ih3 _ _ _ _ _ _ _ _ _ _ _)
      | (with_reducible exact alphabet_Valid.mono _ _)
      | (with_reducible exact LeO.refl _)
      | (with_reducible exact LeO.none _)
      | (with_reducible refine LeO.ite ?_ ?_)
      | (with_reducible refine LeO.bind ?_ (fun _ => ?_))
      | exact ih0 _ _ _
      | exact ih1 _ _ _ _
      | exact ih2 _ _ _ _ _ _ _
      | exact ih3 _ _ _ _ _ _ _ _ _ _ _
      | exact alphabet_Valid.mono _ _
      | exact LeO.none _
      | refine LeO.ite ?_ ?_
      | refine LeO.bind ?_ (fun _ => ?_)
    · intro y0 y1 y2 y3 y4 y5 y6
      unfold alphabet_Words.l1
      repeat' first
      | (with_reducible exact ih0 _ _ _)
      | (with_reducible exact ih1 _ _ _ _)
      | (with_reducible exact ih2 _ _ _ _ _ _ _)
      | (with_reducible exact ih3 _ _ _ _ _ _ _ _ _ _ _)
      | (with_reducible exact alphabet_Valid.mono _ _)
      | (with_reducible exact LeO.refl _)
      | (with_reducible exact LeO.none _)
      | (with_reducible refine LeO.ite ?_ ?_)
      | (with_reducible refine LeO.bind ?_ (fun _ => ?_))
      | exact ih0 _ _ _
      | exact ih1 _ _ _ _
      | exact ih2 _ _ _ _ _ _ _
      | exact ih3 _ _ _ _ _ _ _ _ _ _ _
      | exact alphabet_Valid.mono _ _
      | exact LeO.none _
      | refine LeO.ite ?_ ?_
      | refine LeO.bind ?_ (fun _ => ?_)
    · intro y0 y1 y2 y3 y4 y5 y6 y7 y8 y9 y10
      unfold alphabet_Words.l2
      repeat' first
      | (with_reducible exact ih0 _ _ _)
      | (with_reducible exact ih1 _ _ _ _)
      | (with_reducible exact ih2 _ _ _ _ _ _ _)
      | (with_reducible exact ih3 _ _ _ _ _ _ _ _ _ _ _)
      | (with_reducible exact alphabet_Valid.mono _ _)
      | (with_reducible exact LeO.refl _)
      | (with_reducible exact LeO.none _)
      | (with_reducible refine LeO.ite ?_ ?_)
      | (with_reducible refine LeO.bind ?_ (fun _ => ?_))
      | exact ih0 _ _ _
      | exact ih1 _ _ _ _
      | exact ih2 _ _ _ _ _ _ _
      | exact ih3 _ _ _ _ _ _ _ _ _ _ _
      | exact alphabet_Valid.mono _ _
      | exact LeO.none _
      | refine LeO.ite ?_ ?_
      | refine LeO.bind ?_ (fun _ => ?_)
theorem alphabet_Words.mono : ∀ a0 a1 k, LeO (alphabet_Words.f k a0 a1) (alphabet_Words.f (k + 1) a0 a1) := by
  intro a0 a1 k
  obtain ⟨ih0, ih1, ih2, ih3⟩ := alphabet_Words.mono_l k
  unfold alphabet_Words.f
  repeat' first
      | (with_reducible exact ih0 _ _ _)
      | (with_reducible exact ih1 _ _ _ _)
      | (with_reducible exact ih2 _ _ _ _ _ _ _)
      | (with_reducible exact ih3 _ _ _ _ _ _ _ _ _ _ _)
      | (with_reducible exact alphabet_Valid.mono _ _)
      | (with_reducible exact LeO.refl _)
      | (with_reducible exact LeO.none _)
      | (with_reducible refine LeO.ite ?_ ?_)
      | (with_reducible refine LeO.bind ?_ (fun _ => ?_))
      | exact ih0 _ _ _
      | exact ih1 _ _ _ _
      | exact ih2 _ _ _ _ _ _ _
      | exact ih3 _ _ _ _ _ _ _ _ _ _ _
      | exact alphabet_Valid.mono _ _
      | exact LeO.none _
      | refine LeO.ite ?_ ?_
      | refine LeO.bind ?_ (fun _ => ?_)

/-! DEFS alphabet_Partner -/
def alphabet_Partner.l0 : Nat → List S42 → Int → Int → Option (Int × Bool)
  | 0, _, _, _ => none
  | k + 1, l, want, i => if i < (l.length : Int) then (if (rd_T42 l i).f1 = want then some ((rd_T42 l i).f0, true) else alphabet_Partner.l0 k l want (i + 1)) else some (0, false)
def alphabet_Partner.f (k : Nat) (l : List S42) (r : Int) (toggle : Int) : Option (Int × Bool) := if okA l = true then (if (Lit.int .i32 r).wf = true then (match firstIn l l.length r with | some i => alphabet_Partner.l0 k l (Go.bits .xor .u32 (rd_T42 l i).f1 toggle) 0 | none => some (0, false)) else none) else none
theorem alphabet_Partner.mono_l : ∀ k l want i, LeO (alphabet_Partner.l0 k l want i) (alphabet_Partner.l0 (k + 1) l want i)
  | 0, _, _, _ => fun r h => by simp [alphabet_Partner.l0] at h
  | k + 1, l, want, i => by
    have ih := alphabet_Partner.mono_l k
    unfold alphabet_Partner.l0
    repeat' first
      | (with_reducible exact LeO.refl _)
      | (with_reducible exact ih _ _ _)
      | (with_reducible refine LeO.ite ?_ ?_)
theorem alphabet_Partner.mono : ∀ l r t k, LeO (alphabet_Partner.f k l r t) (alphabet_Partner.f (k + 1) l r t) := by
  intro l r t k
  have ih := alphabet_Partner.mono_l k
  unfold alphabet_Partner.f
  refine LeO.ite (LeO.ite ?_ (LeO.refl _)) (LeO.refl _)
  split
  · exact ih _ _ _
  · exact LeO.refl _

/-! DEFS pentaglotlaw01_awake -/
def pentaglotlaw01_awake.f (k : Nat)  : Option (Bool) := (some (([(⟨98, 2⟩ : S42), (⟨97, 9⟩ : S42), (⟨101, 5⟩ : S42)] : List (S42)) : List (S42))).bind fun y116 => ((alphabet_Partner.f k y116 97 12).bind fun bt119 => ((alphabet_Valid.f k y116).bind fun t121 => (if t121 = true then ((alphabet_Index.f y116 101).bind fun t122 => (if t122 = 2 then ((alphabet_Compare.f k y116 (⟨#[98, 97]⟩ : ByteArray) (⟨#[98, 101]⟩ : ByteArray)).bind fun t123 => (if t123 = (-1) then ((alphabet_Compare.f k y116 (⟨#[98, 97]⟩ : ByteArray) (⟨#[98, 122]⟩ : ByteArray)).bind fun t124 => (if t124 = (-1) then (if bt119.1 = 101 then (if bt119.2 = true then ((alphabet_IsWord.f y116 (⟨#[97, 98, 98, 97]⟩ : ByteArray)).bind fun t125 => (if t125 = true then ((alphabet_IsWord.f y116 (⟨#[97, 98, 99]⟩ : ByteArray)).bind fun t126 => (if t126 = true then (some false) else ((alphabet_Words.f k y116 2).bind fun t127 => (some ((t127.length : Int) == 9))))) else (some false))) else (some false)) else (some false)) else (some false))) else (some false))) else (some false))) else (some false))))
theorem pentaglotlaw01_awake.mono : ∀ k, LeO (pentaglotlaw01_awake.f k ) (pentaglotlaw01_awake.f (k + 1) ) := by
  intro  k
  unfold pentaglotlaw01_awake.f
  repeat' first
      | (with_reducible exact alphabet_Compare.mono _ _ _ _)
      | (with_reducible exact alphabet_Partner.mono _ _ _ _)
      | (with_reducible exact alphabet_Valid.mono _ _)
      | (with_reducible exact alphabet_Words.mono _ _ _)
      | (with_reducible exact LeO.refl _)
      | (with_reducible exact LeO.none _)
      | (with_reducible refine LeO.ite ?_ ?_)
      | (with_reducible refine LeO.bind ?_ (fun _ => ?_))
      | exact alphabet_Compare.mono _ _ _ _
      | exact alphabet_Partner.mono _ _ _ _
      | exact alphabet_Valid.mono _ _
      | exact alphabet_Words.mono _ _ _
      | exact LeO.none _
      | refine LeO.ite ?_ ?_
      | refine LeO.bind ?_ (fun _ => ?_)

/-! DEFS pentaglotlaw01_few -/
def pentaglotlaw01_few.l0 : Nat → List (S42) → List ByteArray → Int → Option (Bool)
  | 0, _, _, _ => none
  | k + 1, x0, x1, x5 => if x5 < (x1.length : Int) then (if 0 ≤ x5 then (if ((rdOf ByteArray.empty x1 x5).size : Int) > 200 then (some false) else (pentaglotlaw01_few.l0 k x0 x1 (wrap64 (x5 + 1)))) else (none)) else (if (x0.length : Int) ≤ 70 then (some (decide ((x1.length : Int) ≤ 40))) else (some false))
def pentaglotlaw01_few.f (k : Nat) (l0 : List (S42)) (l1 : List ByteArray) : Option (Bool) := pentaglotlaw01_few.l0 k l0 l1 0
theorem pentaglotlaw01_few.mono_l : ∀ k, (∀ y0 y1 y2, LeO (pentaglotlaw01_few.l0 k y0 y1 y2) (pentaglotlaw01_few.l0 (k + 1) y0 y1 y2))
  | 0 => fun _ _ _ r h => by simp [pentaglotlaw01_few.l0] at h
  | k + 1 => by
    have ih0 := pentaglotlaw01_few.mono_l k
    · intro y0 y1 y2
      unfold pentaglotlaw01_few.l0
      repeat' first
      | (with_reducible exact ih0 _ _ _)
      | (with_reducible exact LeO.refl _)
      | (with_reducible exact LeO.none _)
      | (with_reducible refine LeO.ite ?_ ?_)
      | (with_reducible refine LeO.bind ?_ (fun _ => ?_))
      | exact ih0 _ _ _
      | exact LeO.none _
      | refine LeO.ite ?_ ?_
      | refine LeO.bind ?_ (fun _ => ?_)
theorem pentaglotlaw01_few.mono : ∀ a0 a1 k, LeO (pentaglotlaw01_few.f k a0 a1) (pentaglotlaw01_few.f (k + 1) a0 a1) := by
  intro a0 a1 k
  have ih0 := pentaglotlaw01_few.mono_l k
  unfold pentaglotlaw01_few.f
  repeat' first
      | (with_reducible exact ih0 _ _ _)
      | (with_reducible exact LeO.refl _)
      | (with_reducible exact LeO.none _)
      | (with_reducible refine LeO.ite ?_ ?_)
      | (with_reducible refine LeO.bind ?_ (fun _ => ?_))
      | exact ih0 _ _ _
      | exact LeO.none _
      | refine LeO.ite ?_ ?_
      | refine LeO.bind ?_ (fun _ => ?_)

/-! DEFS pentaglotref01_Index -/
def pentaglotref01_Index.l0 : Nat → List (S42) → Int → Int → Option (Int)
  | 0, _, _, _ => none
  | k + 1, x0, x1, x5 => if x5 < (x0.length : Int) then (if 0 ≤ x5 then (if ((rd_T42 x0 x5).f0) = x1 then (some x5) else (pentaglotref01_Index.l0 k x0 x1 (wrap64 (x5 + 1)))) else (none)) else (some (-1))
def pentaglotref01_Index.f (k : Nat) (l0 : List (S42)) (a1 : Int) : Option (Int) := pentaglotref01_Index.l0 k l0 a1 0
theorem pentaglotref01_Index.mono_l : ∀ k, (∀ y0 y1 y2, LeO (pentaglotref01_Index.l0 k y0 y1 y2) (pentaglotref01_Index.l0 (k + 1) y0 y1 y2))
  | 0 => fun _ _ _ r h => by simp [pentaglotref01_Index.l0] at h
  | k + 1 => by
    have ih0 := pentaglotref01_Index.mono_l k
    · intro y0 y1 y2
      unfold pentaglotref01_Index.l0
      repeat' first
      | (with_reducible exact ih0 _ _ _)
      | (with_reducible exact LeO.refl _)
      | (with_reducible exact LeO.none _)
      | (with_reducible refine LeO.ite ?_ ?_)
      | (with_reducible refine LeO.bind ?_ (fun _ => ?_))
      | exact ih0 _ _ _
      | exact LeO.none _
      | refine LeO.ite ?_ ?_
      | refine LeO.bind ?_ (fun _ => ?_)
theorem pentaglotref01_Index.mono : ∀ a0 a1 k, LeO (pentaglotref01_Index.f k a0 a1) (pentaglotref01_Index.f (k + 1) a0 a1) := by
  intro a0 a1 k
  have ih0 := pentaglotref01_Index.mono_l k
  unfold pentaglotref01_Index.f
  repeat' first
      | (with_reducible exact ih0 _ _ _)
      | (with_reducible exact LeO.refl _)
      | (with_reducible exact LeO.none _)
      | (with_reducible refine LeO.ite ?_ ?_)
      | (with_reducible refine LeO.bind ?_ (fun _ => ?_))
      | exact ih0 _ _ _
      | exact LeO.none _
      | refine LeO.ite ?_ ?_
      | refine LeO.bind ?_ (fun _ => ?_)

/-! DEFS pentaglotref01_Good -/
def pentaglotref01_Good.f (a0 : Int) : Option (Bool) := if a0 > 32 then (if a0 ≤ 1114111 then (if a0 < 55296 then (some true) else (some (decide (a0 > 57343)))) else (some false)) else (some false)

/-! DEFS pentaglotref01_Valid -/
mutual
def pentaglotref01_Valid.j0 : Nat → List (S42) → Bool → Option (Bool)
  | 0, _, _ => none
  | k + 1, x0, x11 => if x11 = true then (some false) else (pentaglotref01_Valid.l0 k x0 0)
def pentaglotref01_Valid.l0 : Nat → List (S42) → Int → Option (Bool)
  | 0, _, _ => none
  | k + 1, x0, x3 => if x3 < (x0.length : Int) then (if 0 ≤ x3 then ((pentaglotref01_Good.f ((rd_T42 x0 x3).f0)).bind fun t133 => (if t133 = true then ((pentaglotref01_Index.f k x0 ((rd_T42 x0 x3).f0)).bind fun t135 => (if t135 = x3 then (pentaglotref01_Valid.l0 k x0 (wrap64 (x3 + 1))) else (some false))) else (some false))) else (none)) else (some true)
end
def pentaglotref01_Valid.f (k : Nat) (l0 : List (S42)) : Option (Bool) := if (l0.length : Int) < 1 then (pentaglotref01_Valid.j0 k l0 true) else (pentaglotref01_Valid.j0 k l0 (decide ((l0.length : Int) > 64)))
theorem pentaglotref01_Valid.mono_l : ∀ k, (∀ y0 y1, LeO (pentaglotref01_Valid.j0 k y0 y1) (pentaglotref01_Valid.j0 (k + 1) y0 y1)) ∧ (∀ y0 y1, LeO (pentaglotref01_Valid.l0 k y0 y1) (pentaglotref01_Valid.l0 (k + 1) y0 y1))
  | 0 => ⟨fun _ _ r h => by simp [pentaglotref01_Valid.j0] at h, fun _ _ r h => by simp [pentaglotref01_Valid.l0] at h⟩
  | k + 1 => by
    obtain ⟨ih0, ih1⟩ := pentaglotref01_Valid.mono_l k
    refine ⟨?_, ?_⟩
    · intro y0 y1
      unfold pentaglotref01_Valid.j0
      repeat' first
      | (with_reducible exact ih0 _ _)
      | (with_reducible exact ih1 _ _)
      | (with_reducible exact pentaglotref01_Index.mono _ _ _)
      | (with_reducible exact LeO.refl _)
      | (with_reducible exact LeO.none _)
      | (with_reducible refine LeO.ite ?_ ?_)
      | (with_reducible refine LeO.bind ?_ (fun _ => ?_))
      | exact ih0 _ _
      | exact ih1 _ _
      | exact pentaglotref01_Index.mono _ _ _
      | exact LeO.none _
      | refine LeO.ite ?_ ?_
      | refine LeO.bind ?_ (fun _ => ?_)
    · intro y0 y1
      unfold pentaglotref01_Valid.l0
      repeat' first
      | (with_reducible exact ih0 _ _)
      | (with_reducible exact ih1 _ _)
      | (with_reducible exact pentaglotref01_Index.mono _ _ _)
      | (with_reducible exact LeO.refl _)
      | (with_reducible exact LeO.none _)
      | (with_reducible refine LeO.ite ?_ ?_)
      | (with_reducible refine LeO.bind ?_ (fun _ => ?_))
      | exact ih0 _ _
      | exact ih1 _ _
      | exact pentaglotref01_Index.mono _ _ _
      | exact LeO.none _
      | refine LeO.ite ?_ ?_
      | refine LeO.bind ?_ (fun _ => ?_)
theorem pentaglotref01_Valid.mono : ∀ a0 k, LeO (pentaglotref01_Valid.f k a0) (pentaglotref01_Valid.f (k + 1) a0) := by
  intro a0 k
  obtain ⟨ih0, ih1⟩ := pentaglotref01_Valid.mono_l k
  unfold pentaglotref01_Valid.f
  repeat' first
      | (with_reducible exact ih0 _ _)
      | (with_reducible exact ih1 _ _)
      | (with_reducible exact pentaglotref01_Index.mono _ _ _)
      | (with_reducible exact LeO.refl _)
      | (with_reducible exact LeO.none _)
      | (with_reducible refine LeO.ite ?_ ?_)
      | (with_reducible refine LeO.bind ?_ (fun _ => ?_))
      | exact ih0 _ _
      | exact ih1 _ _
      | exact pentaglotref01_Index.mono _ _ _
      | exact LeO.none _
      | refine LeO.ite ?_ ?_
      | refine LeO.bind ?_ (fun _ => ?_)

/-! DEFS pentaglotlaw01_AlphabetValid -/
def pentaglotlaw01_AlphabetValid.j0 : Nat → List (S42) → Bool → Option (Bool)
  | 0, _, _ => none
  | k + 1, x0, x9 => if x9 = true then ((pentaglotlaw01_awake.f k).bind fun t138 => (some t138)) else ((alphabet_Valid.f k x0).bind fun t139 => ((pentaglotref01_Valid.f k x0).bind fun t140 => (some (t139 == t140))))
def pentaglotlaw01_AlphabetValid.f (k : Nat) (l0 : List (S42)) : Option (Bool) := (pentaglotlaw01_awake.f k).bind fun t136 => (if t136 = true then ((pentaglotlaw01_few.f k l0 ([] : List ByteArray)).bind fun t137 => (pentaglotlaw01_AlphabetValid.j0 k l0 (!t137))) else (pentaglotlaw01_AlphabetValid.j0 k l0 true))
theorem pentaglotlaw01_AlphabetValid.mono_l : ∀ k, (∀ y0 y1, LeO (pentaglotlaw01_AlphabetValid.j0 k y0 y1) (pentaglotlaw01_AlphabetValid.j0 (k + 1) y0 y1))
  | 0 => fun _ _ r h => by simp [pentaglotlaw01_AlphabetValid.j0] at h
  | k + 1 => by
    have ih0 := pentaglotlaw01_AlphabetValid.mono_l k
    · intro y0 y1
      unfold pentaglotlaw01_AlphabetValid.j0
      repeat' first
      | (with_reducible exact ih0 _ _)
      | (with_reducible exact alphabet_Valid.mono _ _)
      | (with_reducible exact pentaglotlaw01_awake.mono _)
      | (with_reducible exact pentaglotlaw01_few.mono _ _ _)
      | (with_reducible exact pentaglotref01_Valid.mono _ _)
      | (with_reducible exact LeO.refl _)
      | (with_reducible exact LeO.none _)
      | (with_reducible refine LeO.ite ?_ ?_)
      | (with_reducible refine LeO.bind ?_ (fun _ => ?_))
      | exact ih0 _ _
      | exact alphabet_Valid.mono _ _
      | exact pentaglotlaw01_awake.mono _
      | exact pentaglotlaw01_few.mono _ _ _
      | exact pentaglotref01_Valid.mono _ _
      | exact LeO.none _
      | refine LeO.ite ?_ ?_
      | refine LeO.bind ?_ (fun _ => ?_)
theorem pentaglotlaw01_AlphabetValid.mono : ∀ a0 k, LeO (pentaglotlaw01_AlphabetValid.f k a0) (pentaglotlaw01_AlphabetValid.f (k + 1) a0) := by
  intro a0 k
  have ih0 := pentaglotlaw01_AlphabetValid.mono_l k
  unfold pentaglotlaw01_AlphabetValid.f
  repeat' first
      | (with_reducible exact ih0 _ _)
      | (with_reducible exact alphabet_Valid.mono _ _)
      | (with_reducible exact pentaglotlaw01_awake.mono _)
      | (with_reducible exact pentaglotlaw01_few.mono _ _ _)
      | (with_reducible exact pentaglotref01_Valid.mono _ _)
      | (with_reducible exact LeO.refl _)
      | (with_reducible exact LeO.none _)
      | (with_reducible refine LeO.ite ?_ ?_)
      | (with_reducible refine LeO.bind ?_ (fun _ => ?_))
      | exact ih0 _ _
      | exact alphabet_Valid.mono _ _
      | exact pentaglotlaw01_awake.mono _
      | exact pentaglotlaw01_few.mono _ _ _
      | exact pentaglotref01_Valid.mono _ _
      | exact LeO.none _
      | refine LeO.ite ?_ ?_
      | refine LeO.bind ?_ (fun _ => ?_)

/-! DEFS pentaglotref01_UTF8 -/

/-! DEFS pentaglotref01_Over -/
def refOver.l0 (k : Nat) (l : List S42) : List Int → Option Bool
  | [] => some true
  | x :: xs => (pentaglotref01_Index.f k l x).bind fun t => if t < 0 then some false else refOver.l0 k l xs
def pentaglotref01_Over.f (k : Nat) (l : List S42) (s : ByteArray) : Option Bool := if s.size ≤ 1000000 then ((pentaglotref01_UTF8.f k s).bind fun t => if t = true then refOver.l0 k l (rns s) else some false) else none
theorem refOver.mono_l (k : Nat) (l : List S42) : ∀ xs, LeO (refOver.l0 k l xs) (refOver.l0 (k + 1) l xs)
  | [] => LeO.refl _
  | x :: xs => by
    have ih := refOver.mono_l k l xs
    unfold refOver.l0
    repeat' first
      | (with_reducible exact LeO.refl _)
      | (with_reducible exact ih)
      | (with_reducible exact pentaglotref01_Index.mono _ _ _)
      | (with_reducible refine LeO.ite ?_ ?_)
      | (with_reducible refine LeO.bind ?_ (fun _ => ?_))
theorem pentaglotref01_Over.mono : ∀ l s k, LeO (pentaglotref01_Over.f k l s) (pentaglotref01_Over.f (k + 1) l s) := by
  intro l s k
  unfold pentaglotref01_Over.f
  repeat' first
      | (with_reducible exact LeO.refl _)
      | (with_reducible exact refOver.mono_l _ _ _)
      | (with_reducible exact pentaglotref01_UTF8.mono _ _)
      | (with_reducible refine LeO.ite ?_ ?_)
      | (with_reducible refine LeO.bind ?_ (fun _ => ?_))

/-! DEFS pentaglotref01_IsWord -/
def pentaglotref01_IsWord.f (k : Nat) (l0 : List (S42)) (a1 : ByteArray) : Option (Bool) := (pentaglotref01_Over.f k l0 a1).bind fun t141 => (if t141 = true then (if a1.size ≤ 70368744177664 then (some (decide (((rns a1).length : Int) ≤ 40))) else (none)) else (some false))
theorem pentaglotref01_IsWord.mono : ∀ a0 a1 k, LeO (pentaglotref01_IsWord.f k a0 a1) (pentaglotref01_IsWord.f (k + 1) a0 a1) := by
  intro a0 a1 k
  unfold pentaglotref01_IsWord.f
  repeat' first
      | (with_reducible exact pentaglotref01_Over.mono _ _ _)
      | (with_reducible exact LeO.refl _)
      | (with_reducible exact LeO.none _)
      | (with_reducible refine LeO.ite ?_ ?_)
      | (with_reducible refine LeO.bind ?_ (fun _ => ?_))
      | exact pentaglotref01_Over.mono _ _ _
      | exact LeO.none _
      | refine LeO.ite ?_ ?_
      | refine LeO.bind ?_ (fun _ => ?_)

/-! DEFS pentaglotlaw01_AlphabetWord -/
def pentaglotlaw01_AlphabetWord.j0 : Nat → List (S42) → ByteArray → Bool → Option (Bool)
  | 0, _, _, _ => none
  | k + 1, x0, x1, x13 => if x13 = true then ((pentaglotlaw01_awake.f k).bind fun t150 => (some t150)) else ((alphabet_IsWord.f x0 x1).bind fun t151 => ((pentaglotref01_IsWord.f k x0 x1).bind fun t152 => (some (t151 == t152))))
def pentaglotlaw01_AlphabetWord.f (k : Nat) (l0 : List (S42)) (a1 : ByteArray) : Option (Bool) := (pentaglotlaw01_awake.f k).bind fun t145 => (if t145 = true then ((pentaglotlaw01_few.f k l0 (([a1] : List ByteArray))).bind fun t149 => (pentaglotlaw01_AlphabetWord.j0 k l0 a1 (!t149))) else (pentaglotlaw01_AlphabetWord.j0 k l0 a1 true))
theorem pentaglotlaw01_AlphabetWord.mono_l : ∀ k, (∀ y0 y1 y2, LeO (pentaglotlaw01_AlphabetWord.j0 k y0 y1 y2) (pentaglotlaw01_AlphabetWord.j0 (k + 1) y0 y1 y2))
  | 0 => fun _ _ _ r h => by simp [pentaglotlaw01_AlphabetWord.j0] at h
  | k + 1 => by
    have ih0 := pentaglotlaw01_AlphabetWord.mono_l k
    · intro y0 y1 y2
      unfold pentaglotlaw01_AlphabetWord.j0
      repeat' first
      | (with_reducible exact ih0 _ _ _)
      | (with_reducible exact pentaglotlaw01_awake.mono _)
      | (with_reducible exact pentaglotlaw01_few.mono _ _ _)
      | (with_reducible exact pentaglotref01_IsWord.mono _ _ _)
      | (with_reducible exact LeO.refl _)
      | (with_reducible exact LeO.none _)
      | (with_reducible refine LeO.ite ?_ ?_)
      | (with_reducible refine LeO.bind ?_ (fun _ => ?_))
      | exact ih0 _ _ _
      | exact pentaglotlaw01_awake.mono _
      | exact pentaglotlaw01_few.mono _ _ _
      | exact pentaglotref01_IsWord.mono _ _ _
      | exact LeO.none _
      | refine LeO.ite ?_ ?_
      | refine LeO.bind ?_ (fun _ => ?_)
theorem pentaglotlaw01_AlphabetWord.mono : ∀ a0 a1 k, LeO (pentaglotlaw01_AlphabetWord.f k a0 a1) (pentaglotlaw01_AlphabetWord.f (k + 1) a0 a1) := by
  intro a0 a1 k
  have ih0 := pentaglotlaw01_AlphabetWord.mono_l k
  unfold pentaglotlaw01_AlphabetWord.f
  repeat' first
      | (with_reducible exact ih0 _ _ _)
      | (with_reducible exact pentaglotlaw01_awake.mono _)
      | (with_reducible exact pentaglotlaw01_few.mono _ _ _)
      | (with_reducible exact pentaglotref01_IsWord.mono _ _ _)
      | (with_reducible exact LeO.refl _)
      | (with_reducible exact LeO.none _)
      | (with_reducible refine LeO.ite ?_ ?_)
      | (with_reducible refine LeO.bind ?_ (fun _ => ?_))
      | exact ih0 _ _ _
      | exact pentaglotlaw01_awake.mono _
      | exact pentaglotlaw01_few.mono _ _ _
      | exact pentaglotref01_IsWord.mono _ _ _
      | exact LeO.none _
      | refine LeO.ite ?_ ?_
      | refine LeO.bind ?_ (fun _ => ?_)

/-! DEFS pentaglotlaw01_AlphabetJoins -/
def pentaglotlaw01_AlphabetJoins.j0 : Nat → List (S42) → ByteArray → ByteArray → Bool → Option (Bool)
  | 0, _, _, _, _ => none
  | k + 1, x0, x1, x2, x27 => if x27 = true then ((pentaglotlaw01_awake.f k).bind fun t160 => (some t160)) else ((alphabet_IsWord.f x0 x1).bind fun t161 => (if t161 = true then ((alphabet_IsWord.f x0 x2).bind fun t162 => (if t162 = true then (if x1.size ≤ 70368744177664 then (if x2.size ≤ 70368744177664 then (if x1.size + x2.size ≤ 9223372036854775807 then ((alphabet_IsWord.f x0 (x1 ++ x2)).bind fun t169 => (some (t169 == (decide ((wrap64 (((rns x1).length : Int) + ((rns x2).length : Int))) ≤ 40))))) else (none)) else (none)) else (none)) else (if x1.size + x2.size ≤ 9223372036854775807 then ((alphabet_IsWord.f x0 (x1 ++ x2)).bind fun t170 => (some (t170 == false))) else (none)))) else (if x1.size + x2.size ≤ 9223372036854775807 then ((alphabet_IsWord.f x0 (x1 ++ x2)).bind fun t171 => (some (t171 == false))) else (none))))
def pentaglotlaw01_AlphabetJoins.f (k : Nat) (l0 : List (S42)) (a1 : ByteArray) (a2 : ByteArray) : Option (Bool) := (pentaglotlaw01_awake.f k).bind fun t153 => (if t153 = true then ((pentaglotlaw01_few.f k l0 (([a1, a2] : List ByteArray))).bind fun t157 => (if t157 = true then ((pentaglotref01_UTF8.f k a1).bind fun t158 => (if t158 = true then ((pentaglotref01_UTF8.f k a2).bind fun t159 => (pentaglotlaw01_AlphabetJoins.j0 k l0 a1 a2 (!t159))) else (pentaglotlaw01_AlphabetJoins.j0 k l0 a1 a2 true))) else (pentaglotlaw01_AlphabetJoins.j0 k l0 a1 a2 true))) else (pentaglotlaw01_AlphabetJoins.j0 k l0 a1 a2 true))
theorem pentaglotlaw01_AlphabetJoins.mono_l : ∀ k, (∀ y0 y1 y2 y3, LeO (pentaglotlaw01_AlphabetJoins.j0 k y0 y1 y2 y3) (pentaglotlaw01_AlphabetJoins.j0 (k + 1) y0 y1 y2 y3))
  | 0 => fun _ _ _ _ r h => by simp [pentaglotlaw01_AlphabetJoins.j0] at h
  | k + 1 => by
    have ih0 := pentaglotlaw01_AlphabetJoins.mono_l k
    · intro y0 y1 y2 y3
      unfold pentaglotlaw01_AlphabetJoins.j0
      repeat' first
      | (with_reducible exact ih0 _ _ _ _)
      | (with_reducible exact pentaglotlaw01_awake.mono _)
      | (with_reducible exact pentaglotlaw01_few.mono _ _ _)
      | (with_reducible exact pentaglotref01_UTF8.mono _ _)
      | (with_reducible exact LeO.refl _)
      | (with_reducible exact LeO.none _)
      | (with_reducible refine LeO.ite ?_ ?_)
      | (with_reducible refine LeO.bind ?_ (fun _ => ?_))
      | exact ih0 _ _ _ _
      | exact pentaglotlaw01_awake.mono _
      | exact pentaglotlaw01_few.mono _ _ _
      | exact pentaglotref01_UTF8.mono _ _
      | exact LeO.none _
      | refine LeO.ite ?_ ?_
      | refine LeO.bind ?_ (fun _ => ?_)
theorem pentaglotlaw01_AlphabetJoins.mono : ∀ a0 a1 a2 k, LeO (pentaglotlaw01_AlphabetJoins.f k a0 a1 a2) (pentaglotlaw01_AlphabetJoins.f (k + 1) a0 a1 a2) := by
  intro a0 a1 a2 k
  have ih0 := pentaglotlaw01_AlphabetJoins.mono_l k
  unfold pentaglotlaw01_AlphabetJoins.f
  repeat' first
      | (with_reducible exact ih0 _ _ _ _)
      | (with_reducible exact pentaglotlaw01_awake.mono _)
      | (with_reducible exact pentaglotlaw01_few.mono _ _ _)
      | (with_reducible exact pentaglotref01_UTF8.mono _ _)
      | (with_reducible exact LeO.refl _)
      | (with_reducible exact LeO.none _)
      | (with_reducible refine LeO.ite ?_ ?_)
      | (with_reducible refine LeO.bind ?_ (fun _ => ?_))
      | exact ih0 _ _ _ _
      | exact pentaglotlaw01_awake.mono _
      | exact pentaglotlaw01_few.mono _ _ _
      | exact pentaglotref01_UTF8.mono _ _
      | exact LeO.none _
      | refine LeO.ite ?_ ?_
      | refine LeO.bind ?_ (fun _ => ?_)

/-! DEFS pentaglotref01_before -/
def pentaglotref01_before.j0 : Nat → Int → Int → Int → Int → Bool → Option (Bool)
  | 0, _, _, _, _, _ => none
  | k + 1, x1, x2, x7, x8, x20 => if x20 = true then (some (decide (x7 < x8))) else (if x7 ≥ 0 then (some (decide (x7 ≥ 0))) else (if x8 ≥ 0 then (some (decide (x7 ≥ 0))) else (some (decide (x1 < x2)))))
def pentaglotref01_before.f (k : Nat) (l0 : List (S42)) (a1 : Int) (a2 : Int) : Option (Bool) := (pentaglotref01_Index.f k l0 a1).bind fun t172 => ((pentaglotref01_Index.f k l0 a2).bind fun t173 => (if t172 ≥ 0 then (pentaglotref01_before.j0 k a1 a2 t172 t173 (decide (t173 ≥ 0))) else (pentaglotref01_before.j0 k a1 a2 t172 t173 false)))
theorem pentaglotref01_before.mono_l : ∀ k, (∀ y0 y1 y2 y3 y4, LeO (pentaglotref01_before.j0 k y0 y1 y2 y3 y4) (pentaglotref01_before.j0 (k + 1) y0 y1 y2 y3 y4))
  | 0 => fun _ _ _ _ _ r h => by simp [pentaglotref01_before.j0] at h
  | k + 1 => by
    have ih0 := pentaglotref01_before.mono_l k
    · intro y0 y1 y2 y3 y4
      unfold pentaglotref01_before.j0
      repeat' first
      | (with_reducible exact ih0 _ _ _ _ _)
      | (with_reducible exact pentaglotref01_Index.mono _ _ _)
      | (with_reducible exact LeO.refl _)
      | (with_reducible exact LeO.none _)
      | (with_reducible refine LeO.ite ?_ ?_)
      | (with_reducible refine LeO.bind ?_ (fun _ => ?_))
      | exact ih0 _ _ _ _ _
      | exact pentaglotref01_Index.mono _ _ _
      | exact LeO.none _
      | refine LeO.ite ?_ ?_
      | refine LeO.bind ?_ (fun _ => ?_)
theorem pentaglotref01_before.mono : ∀ a0 a1 a2 k, LeO (pentaglotref01_before.f k a0 a1 a2) (pentaglotref01_before.f (k + 1) a0 a1 a2) := by
  intro a0 a1 a2 k
  have ih0 := pentaglotref01_before.mono_l k
  unfold pentaglotref01_before.f
  repeat' first
      | (with_reducible exact ih0 _ _ _ _ _)
      | (with_reducible exact pentaglotref01_Index.mono _ _ _)
      | (with_reducible exact LeO.refl _)
      | (with_reducible exact LeO.none _)
      | (with_reducible refine LeO.ite ?_ ?_)
      | (with_reducible refine LeO.bind ?_ (fun _ => ?_))
      | exact ih0 _ _ _ _ _
      | exact pentaglotref01_Index.mono _ _ _
      | exact LeO.none _
      | refine LeO.ite ?_ ?_
      | refine LeO.bind ?_ (fun _ => ?_)

/-! DEFS pentaglotref01_Compare -/
mutual
def pentaglotref01_Compare.l0 : Nat → List (S42) → List Int → List Int → Int → Option (Int)
  | 0, _, _, _, _ => none
  | k + 1, x0, x7, x8, x9 => if x9 < (x7.length : Int) then (pentaglotref01_Compare.j1 k x0 x7 x8 x9 (decide (x9 < (x8.length : Int)))) else (pentaglotref01_Compare.j1 k x0 x7 x8 x9 false)
def pentaglotref01_Compare.j1 : Nat → List (S42) → List Int → List Int → Int → Bool → Option (Int)
  | 0, _, _, _, _, _ => none
  | k + 1, x0, x7, x8, x9, x23 => if x23 = true then (if 0 ≤ x9 then (if x9 < (x7.length : Int) then (if x9 < (x8.length : Int) then (if (rd x7 x9) = (rd x8 x9) then (pentaglotref01_Compare.l0 k x0 x7 x8 (wrap64 (x9 + 1))) else ((pentaglotref01_before.f k x0 (rd x7 x9) (rd x8 x9)).bind fun t184 => (if t184 = true then (some (-1)) else (some 1)))) else (none)) else (none)) else (none)) else (if (x7.length : Int) < (x8.length : Int) then (some (-1)) else (if (x7.length : Int) > (x8.length : Int) then (some 1) else (some 0)))
end
def pentaglotref01_Compare.f (k : Nat) (l0 : List (S42)) (a1 : ByteArray) (a2 : ByteArray) : Option (Int) := if a1.size ≤ 70368744177664 then (if a2.size ≤ 70368744177664 then (pentaglotref01_Compare.l0 k l0 (rns a1) (rns a2) 0) else (none)) else (none)
theorem pentaglotref01_Compare.mono_l : ∀ k, (∀ y0 y1 y2 y3, LeO (pentaglotref01_Compare.l0 k y0 y1 y2 y3) (pentaglotref01_Compare.l0 (k + 1) y0 y1 y2 y3)) ∧ (∀ y0 y1 y2 y3 y4, LeO (pentaglotref01_Compare.j1 k y0 y1 y2 y3 y4) (pentaglotref01_Compare.j1 (k + 1) y0 y1 y2 y3 y4))
  | 0 => ⟨fun _ _ _ _ r h => by simp [pentaglotref01_Compare.l0] at h, fun _ _ _ _ _ r h => by simp [pentaglotref01_Compare.j1] at h⟩
  | k + 1 => by
    obtain ⟨ih0, ih1⟩ := pentaglotref01_Compare.mono_l k
    refine ⟨?_, ?_⟩
    · intro y0 y1 y2 y3
      unfold pentaglotref01_Compare.l0
      repeat' first
      | (with_reducible exact ih0 _ _ _ _)
      | (with_reducible exact ih1 _ _ _ _ _)
      | (with_reducible exact pentaglotref01_before.mono _ _ _ _)
      | (with_reducible exact LeO.refl _)
      | (with_reducible exact LeO.none _)
      | (with_reducible refine LeO.ite ?_ ?_)
      | (with_reducible refine LeO.bind ?_ (fun _ => ?_))
      | exact ih0 _ _ _ _
      | exact ih1 _ _ _ _ _
      | exact pentaglotref01_before.mono _ _ _ _
      | exact LeO.none _
      | refine LeO.ite ?_ ?_
      | refine LeO.bind ?_ (fun _ => ?_)
    · intro y0 y1 y2 y3 y4
      unfold pentaglotref01_Compare.j1
      repeat' first
      | (with_reducible exact ih0 _ _ _ _)
      | (with_reducible exact ih1 _ _ _ _ _)
      | (with_reducible exact pentaglotref01_before.mono _ _ _ _)
      | (with_reducible exact LeO.refl _)
      | (with_reducible exact LeO.none _)
      | (with_reducible refine LeO.ite ?_ ?_)
      | (with_reducible refine LeO.bind ?_ (fun _ => ?_))
      | exact ih0 _ _ _ _
      | exact ih1 _ _ _ _ _
      | exact pentaglotref01_before.mono _ _ _ _
      | exact LeO.none _
      | refine LeO.ite ?_ ?_
      | refine LeO.bind ?_ (fun _ => ?_)
theorem pentaglotref01_Compare.mono : ∀ a0 a1 a2 k, LeO (pentaglotref01_Compare.f k a0 a1 a2) (pentaglotref01_Compare.f (k + 1) a0 a1 a2) := by
  intro a0 a1 a2 k
  obtain ⟨ih0, ih1⟩ := pentaglotref01_Compare.mono_l k
  unfold pentaglotref01_Compare.f
  repeat' first
      | (with_reducible exact ih0 _ _ _ _)
      | (with_reducible exact ih1 _ _ _ _ _)
      | (with_reducible exact pentaglotref01_before.mono _ _ _ _)
      | (with_reducible exact LeO.refl _)
      | (with_reducible exact LeO.none _)
      | (with_reducible refine LeO.ite ?_ ?_)
      | (with_reducible refine LeO.bind ?_ (fun _ => ?_))
      | exact ih0 _ _ _ _
      | exact ih1 _ _ _ _ _
      | exact pentaglotref01_before.mono _ _ _ _
      | exact LeO.none _
      | refine LeO.ite ?_ ?_
      | refine LeO.bind ?_ (fun _ => ?_)

/-! DEFS pentaglotlaw01_AlphabetCompare -/
def pentaglotlaw01_AlphabetCompare.j0 : Nat → List (S42) → ByteArray → ByteArray → Bool → Option (Bool)
  | 0, _, _, _, _ => none
  | k + 1, x0, x1, x2, x16 => if x16 = true then ((pentaglotlaw01_awake.f k).bind fun t190 => (some t190)) else ((alphabet_Compare.f k x0 x1 x2).bind fun t191 => ((pentaglotref01_Compare.f k x0 x1 x2).bind fun t192 => (some (t191 == t192))))
def pentaglotlaw01_AlphabetCompare.f (k : Nat) (l0 : List (S42)) (a1 : ByteArray) (a2 : ByteArray) : Option (Bool) := (pentaglotlaw01_awake.f k).bind fun t185 => (if t185 = true then ((pentaglotlaw01_few.f k l0 (([a1, a2] : List ByteArray))).bind fun t189 => (pentaglotlaw01_AlphabetCompare.j0 k l0 a1 a2 (!t189))) else (pentaglotlaw01_AlphabetCompare.j0 k l0 a1 a2 true))
theorem pentaglotlaw01_AlphabetCompare.mono_l : ∀ k, (∀ y0 y1 y2 y3, LeO (pentaglotlaw01_AlphabetCompare.j0 k y0 y1 y2 y3) (pentaglotlaw01_AlphabetCompare.j0 (k + 1) y0 y1 y2 y3))
  | 0 => fun _ _ _ _ r h => by simp [pentaglotlaw01_AlphabetCompare.j0] at h
  | k + 1 => by
    have ih0 := pentaglotlaw01_AlphabetCompare.mono_l k
    · intro y0 y1 y2 y3
      unfold pentaglotlaw01_AlphabetCompare.j0
      repeat' first
      | (with_reducible exact ih0 _ _ _ _)
      | (with_reducible exact alphabet_Compare.mono _ _ _ _)
      | (with_reducible exact pentaglotlaw01_awake.mono _)
      | (with_reducible exact pentaglotlaw01_few.mono _ _ _)
      | (with_reducible exact pentaglotref01_Compare.mono _ _ _ _)
      | (with_reducible exact LeO.refl _)
      | (with_reducible exact LeO.none _)
      | (with_reducible refine LeO.ite ?_ ?_)
      | (with_reducible refine LeO.bind ?_ (fun _ => ?_))
      | exact ih0 _ _ _ _
      | exact alphabet_Compare.mono _ _ _ _
      | exact pentaglotlaw01_awake.mono _
      | exact pentaglotlaw01_few.mono _ _ _
      | exact pentaglotref01_Compare.mono _ _ _ _
      | exact LeO.none _
      | refine LeO.ite ?_ ?_
      | refine LeO.bind ?_ (fun _ => ?_)
theorem pentaglotlaw01_AlphabetCompare.mono : ∀ a0 a1 a2 k, LeO (pentaglotlaw01_AlphabetCompare.f k a0 a1 a2) (pentaglotlaw01_AlphabetCompare.f (k + 1) a0 a1 a2) := by
  intro a0 a1 a2 k
  have ih0 := pentaglotlaw01_AlphabetCompare.mono_l k
  unfold pentaglotlaw01_AlphabetCompare.f
  repeat' first
      | (with_reducible exact ih0 _ _ _ _)
      | (with_reducible exact alphabet_Compare.mono _ _ _ _)
      | (with_reducible exact pentaglotlaw01_awake.mono _)
      | (with_reducible exact pentaglotlaw01_few.mono _ _ _)
      | (with_reducible exact pentaglotref01_Compare.mono _ _ _ _)
      | (with_reducible exact LeO.refl _)
      | (with_reducible exact LeO.none _)
      | (with_reducible refine LeO.ite ?_ ?_)
      | (with_reducible refine LeO.bind ?_ (fun _ => ?_))
      | exact ih0 _ _ _ _
      | exact alphabet_Compare.mono _ _ _ _
      | exact pentaglotlaw01_awake.mono _
      | exact pentaglotlaw01_few.mono _ _ _
      | exact pentaglotref01_Compare.mono _ _ _ _
      | exact LeO.none _
      | refine LeO.ite ?_ ?_
      | refine LeO.bind ?_ (fun _ => ?_)

/-! DEFS pentaglotlaw01_AlphabetOrder -/
def pentaglotlaw01_AlphabetOrder.j0 : Nat → List (S42) → ByteArray → ByteArray → ByteArray → Bool → Option (Bool)
  | 0, _, _, _, _, _ => none
  | k + 1, x0, x1, x2, x3, x31 => if x31 = true then ((pentaglotlaw01_awake.f k).bind fun t200 => (some t200)) else ((alphabet_Compare.f k x0 x1 x2).bind fun t201 => ((alphabet_Compare.f k x0 x2 x3).bind fun t202 => ((alphabet_Compare.f k x0 x2 x1).bind fun t203 => (if t203 = (wrap64 (-t201)) then (if ((t201 == 0) != (x1.toList == x2.toList)) = true then (some false) else (if t201 < (-1) then (some false) else (if t201 > 1 then (some false) else (if t201 > 0 then (some true) else (if t202 > 0 then (some true) else ((alphabet_Compare.f k x0 x1 x3).bind fun t204 => (some (decide (t204 ≤ 0))))))))) else (some false)))))
def pentaglotlaw01_AlphabetOrder.f (k : Nat) (l0 : List (S42)) (a1 : ByteArray) (a2 : ByteArray) (a3 : ByteArray) : Option (Bool) := (pentaglotlaw01_awake.f k).bind fun t193 => (if t193 = true then ((pentaglotlaw01_few.f k l0 (([a1, a2, a3] : List ByteArray))).bind fun t197 => (if t197 = true then ((pentaglotref01_UTF8.f k a1).bind fun t198 => (if t198 = true then ((pentaglotref01_UTF8.f k a2).bind fun t199 => (pentaglotlaw01_AlphabetOrder.j0 k l0 a1 a2 a3 (!t199))) else (pentaglotlaw01_AlphabetOrder.j0 k l0 a1 a2 a3 true))) else (pentaglotlaw01_AlphabetOrder.j0 k l0 a1 a2 a3 true))) else (pentaglotlaw01_AlphabetOrder.j0 k l0 a1 a2 a3 true))
theorem pentaglotlaw01_AlphabetOrder.mono_l : ∀ k, (∀ y0 y1 y2 y3 y4, LeO (pentaglotlaw01_AlphabetOrder.j0 k y0 y1 y2 y3 y4) (pentaglotlaw01_AlphabetOrder.j0 (k + 1) y0 y1 y2 y3 y4))
  | 0 => fun _ _ _ _ _ r h => by simp [pentaglotlaw01_AlphabetOrder.j0] at h
  | k + 1 => by
    have ih0 := pentaglotlaw01_AlphabetOrder.mono_l k
    · intro y0 y1 y2 y3 y4
      unfold pentaglotlaw01_AlphabetOrder.j0
      repeat' first
      | (with_reducible exact ih0 _ _ _ _ _)
      | (with_reducible exact alphabet_Compare.mono _ _ _ _)
      | (with_reducible exact pentaglotlaw01_awake.mono _)
      | (with_reducible exact pentaglotlaw01_few.mono _ _ _)
      | (with_reducible exact pentaglotref01_UTF8.mono _ _)
      | (with_reducible exact LeO.refl _)
      | (with_reducible exact LeO.none _)
      | (with_reducible refine LeO.ite ?_ ?_)
      | (with_reducible refine LeO.bind ?_ (fun _ => ?_))
      | exact ih0 _ _ _ _ _
      | exact alphabet_Compare.mono _ _ _ _
      | exact pentaglotlaw01_awake.mono _
      | exact pentaglotlaw01_few.mono _ _ _
      | exact pentaglotref01_UTF8.mono _ _
      | exact LeO.none _
      | refine LeO.ite ?_ ?_
      | refine LeO.bind ?_ (fun _ => ?_)
theorem pentaglotlaw01_AlphabetOrder.mono : ∀ a0 a1 a2 a3 k, LeO (pentaglotlaw01_AlphabetOrder.f k a0 a1 a2 a3) (pentaglotlaw01_AlphabetOrder.f (k + 1) a0 a1 a2 a3) := by
  intro a0 a1 a2 a3 k
  have ih0 := pentaglotlaw01_AlphabetOrder.mono_l k
  unfold pentaglotlaw01_AlphabetOrder.f
  repeat' first
      | (with_reducible exact ih0 _ _ _ _ _)
      | (with_reducible exact alphabet_Compare.mono _ _ _ _)
      | (with_reducible exact pentaglotlaw01_awake.mono _)
      | (with_reducible exact pentaglotlaw01_few.mono _ _ _)
      | (with_reducible exact pentaglotref01_UTF8.mono _ _)
      | (with_reducible exact LeO.refl _)
      | (with_reducible exact LeO.none _)
      | (with_reducible refine LeO.ite ?_ ?_)
      | (with_reducible refine LeO.bind ?_ (fun _ => ?_))
      | exact ih0 _ _ _ _ _
      | exact alphabet_Compare.mono _ _ _ _
      | exact pentaglotlaw01_awake.mono _
      | exact pentaglotlaw01_few.mono _ _ _
      | exact pentaglotref01_UTF8.mono _ _
      | exact LeO.none _
      | refine LeO.ite ?_ ?_
      | refine LeO.bind ?_ (fun _ => ?_)

/-! DEFS pentaglotref01_Same -/
def pentaglotref01_Same.l0 : Nat → List ByteArray → List ByteArray → Int → Int → Option (Bool)
  | 0, _, _, _, _ => none
  | k + 1, x0, x1, x12, x13 => if x13 < x12 then (if 0 ≤ x13 then (if x13 < (x0.length : Int) then (if x13 < (x1.length : Int) then (if (rdOf ByteArray.empty x0 x13).toList = (rdOf ByteArray.empty x1 x13).toList then (pentaglotref01_Same.l0 k x0 x1 x12 (wrap64 (x13 + 1))) else (some false)) else (none)) else (none)) else (none)) else (some true)
def pentaglotref01_Same.f (k : Nat) (l0 : List ByteArray) (l1 : List ByteArray) : Option (Bool) := if (l0.length : Int) = (l1.length : Int) then (pentaglotref01_Same.l0 k l0 l1 (l0.length : Int) 0) else (some false)
theorem pentaglotref01_Same.mono_l : ∀ k, (∀ y0 y1 y2 y3, LeO (pentaglotref01_Same.l0 k y0 y1 y2 y3) (pentaglotref01_Same.l0 (k + 1) y0 y1 y2 y3))
  | 0 => fun _ _ _ _ r h => by simp [pentaglotref01_Same.l0] at h
  | k + 1 => by
    have ih0 := pentaglotref01_Same.mono_l k
    · intro y0 y1 y2 y3
      unfold pentaglotref01_Same.l0
      repeat' first
      | (with_reducible exact ih0 _ _ _ _)
      | (with_reducible exact LeO.refl _)
      | (with_reducible exact LeO.none _)
      | (with_reducible refine LeO.ite ?_ ?_)
      | (with_reducible refine LeO.bind ?_ (fun _ => ?_))
      | exact ih0 _ _ _ _
      | exact LeO.none _
      | refine LeO.ite ?_ ?_
      | refine LeO.bind ?_ (fun _ => ?_)
theorem pentaglotref01_Same.mono : ∀ a0 a1 k, LeO (pentaglotref01_Same.f k a0 a1) (pentaglotref01_Same.f (k + 1) a0 a1) := by
  intro a0 a1 k
  have ih0 := pentaglotref01_Same.mono_l k
  unfold pentaglotref01_Same.f
  repeat' first
      | (with_reducible exact ih0 _ _ _ _)
      | (with_reducible exact LeO.refl _)
      | (with_reducible exact LeO.none _)
      | (with_reducible refine LeO.ite ?_ ?_)
      | (with_reducible refine LeO.bind ?_ (fun _ => ?_))
      | exact ih0 _ _ _ _
      | exact LeO.none _
      | refine LeO.ite ?_ ?_
      | refine LeO.bind ?_ (fun _ => ?_)

/-! DEFS pentaglotref01_Words -/
mutual
def pentaglotref01_Words.j0 : Nat → List (S42) → Int → Bool → Option (List ByteArray)
  | 0, _, _, _ => none
  | k + 1, x0, x1, x22 => if x22 = true then (some ([] : List ByteArray)) else (pentaglotref01_Words.l0 k x0 x1 (([(⟨#[]⟩ : ByteArray)] : List ByteArray)) 0)
def pentaglotref01_Words.l0 : Nat → List (S42) → Int → List ByteArray → Int → Option (List ByteArray)
  | 0, _, _, _, _ => none
  | k + 1, x0, x1, x5, x6 => if x6 < x1 then (pentaglotref01_Words.l1 k x0 x1 x6 (([] : List ByteArray)) x5 (x5.length : Int) 0) else (some x5)
def pentaglotref01_Words.l1 : Nat → List (S42) → Int → Int → List ByteArray → List ByteArray → Int → Int → Option (List ByteArray)
  | 0, _, _, _, _, _, _, _ => none
  | k + 1, x0, x1, x6, x7, x30, x31, x32 => if x32 < x31 then (if 0 ≤ x32 then (if x32 < (x30.length : Int) then (pentaglotref01_Words.l2 k x0 x1 x6 x7 (rdOf ByteArray.empty x30 x32) x30 x31 x32 x0 (x0.length : Int) 0) else (none)) else (none)) else (if (x7.length : Int) > 256 then (some ([] : List ByteArray)) else (pentaglotref01_Words.l0 k x0 x1 x7 (wrap64 (x6 + 1))))
def pentaglotref01_Words.l2 : Nat → List (S42) → Int → Int → List ByteArray → ByteArray → List ByteArray → Int → Int → List (S42) → Int → Int → Option (List ByteArray)
  | 0, _, _, _, _, _, _, _, _, _, _, _ => none
  | k + 1, x0, x1, x6, x7, x9, x30, x31, x32, x36, x37, x38 => if x38 < x37 then (if 0 ≤ x38 then (if x38 < (x36.length : Int) then (if x9.size + (Utf8.encode ((rd_T42 x36 x38).f0)).size ≤ 9223372036854775807 then (if x7.length < 8796093022208 then (pentaglotref01_Words.l2 k x0 x1 x6 (x7 ++ [x9 ++ (Utf8.encode ((rd_T42 x36 x38).f0))]) x9 x30 x31 x32 x36 x37 (wrap64 (x38 + 1))) else (none)) else (none)) else (none)) else (none)) else (pentaglotref01_Words.l1 k x0 x1 x6 x7 x30 x31 (wrap64 (x32 + 1)))
end
def pentaglotref01_Words.f (k : Nat) (l0 : List (S42)) (a1 : Int) : Option (List ByteArray) := (pentaglotref01_Valid.f k l0).bind fun t207 => (if t207 = true then (if a1 < 0 then (pentaglotref01_Words.j0 k l0 a1 true) else (pentaglotref01_Words.j0 k l0 a1 (decide (a1 > 40)))) else (pentaglotref01_Words.j0 k l0 a1 true))
theorem pentaglotref01_Words.mono_l : ∀ k, (∀ y0 y1 y2, LeO (pentaglotref01_Words.j0 k y0 y1 y2) (pentaglotref01_Words.j0 (k + 1) y0 y1 y2)) ∧ (∀ y0 y1 y2 y3, LeO (pentaglotref01_Words.l0 k y0 y1 y2 y3) (pentaglotref01_Words.l0 (k + 1) y0 y1 y2 y3)) ∧ (∀ y0 y1 y2 y3 y4 y5 y6, LeO (pentaglotref01_Words.l1 k y0 y1 y2 y3 y4 y5 y6) (pentaglotref01_Words.l1 (k + 1) y0 y1 y2 y3 y4 y5 y6)) ∧ (∀ y0 y1 y2 y3 y4 y5 y6 y7 y8 y9 y10, LeO (pentaglotref01_Words.l2 k y0 y1 y2 y3 y4 y5 y6 y7 y8 y9 y10) (pentaglotref01_Words.l2 (k + 1) y0 y1 y2 y3 y4 y5 y6 y7 y8 y9 y10))
  | 0 => ⟨fun _ _ _ r h => by simp [pentaglotref01_Words.j0] at h, fun _ _ _ _ r h => by simp [pentaglotref01_Words.l0] at h, fun _ _ _ _ _ _ _ r h => by simp [pentaglotref01_Words.l1] at h, fun _ _ _ _ _ _ _ _ _ _ _ r h => by simp [pentaglotref01_Words.l2] at h⟩
  | k + 1 => by
    obtain ⟨ih0, ih1, ih2, ih3⟩ := pentaglotref01_Words.mono_l k
    refine ⟨?_, ?_, ?_, ?_⟩
    · intro y0 y1 y2
      unfold pentaglotref01_Words.j0
      repeat' first
      | (with_reducible exact ih0 _ _ _)
      | (with_reducible exact ih1 _ _ _ _)
      | (with_reducible exact ih2 _ _ _ _ _ _ _)
      | (with_reducible exact ih3 _ _ _ _ _ _ _ _ _ _ _)
      | (with_reducible exact pentaglotref01_Valid.mono _ _)
      | (with_reducible exact LeO.refl _)
      | (with_reducible exact LeO.none _)
      | (with_reducible refine LeO.ite ?_ ?_)
      | (with_reducible refine LeO.bind ?_ (fun _ => ?_))
      | exact ih0 _ _ _
      | exact ih1 _ _ _ _
      | exact ih2 _ _ _ _ _ _ _
      | exact ih3 _ _ _ _ _ _ _ _ _ _ _
      | exact pentaglotref01_Valid.mono _ _
      | exact LeO.none _
      | refine LeO.ite ?_ ?_
      | refine LeO.bind ?_ (fun _ => ?_)
    · intro y0 y1 y2 y3
      unfold pentaglotref01_Words.l0
      repeat' first
      | (with_reducible exact ih0 _ _ _)
      | (with_reducible exact ih1 _ _ _ _)
      | (with_reducible exact ih2 _ _ _ _ _ _ _)
      | (with_reducible exact ih3 _ _ _ _ _ _ _ _ _ _ _)
      | (with_reducible exact pentaglotref01_Valid.mono _ _)
      | (with_reducible exact LeO.refl _)
      | (with_reducible exact LeO.none _)
      | (with_reducible refine LeO.ite ?_ ?_)
      | (with_reducible refine LeO.bind ?_ (fun _ => ?_))
      | exact ih0 _ _ _
      | exact ih1 _ _ _ _
      | exact ih2 _ _ _ _ _ _ _
      | exact ih3 _ _ _ _ _ _ _ _ _ _ _
      | exact pentaglotref01_Valid.mono _ _
      | exact LeO.none _
      | refine LeO.ite ?_ ?_
      | refine LeO.bind ?_ (fun _ => ?_)
    · intro y0 y1 y2 y3 y4 y5 y6
      unfold pentaglotref01_Words.l1
      repeat' first
      | (with_reducible exact ih0 _ _ _)
      | (with_reducible exact ih1 _ _ _ _)
      | (with_reducible exact ih2 _ _ _ _ _ _ _)
      | (with_reducible exact ih3 _ _ _ _ _ _ _ _ _ _ _)
      | (with_reducible exact pentaglotref01_Valid.mono _ _)
      | (with_reducible exact LeO.refl _)
      | (with_reducible exact LeO.none _)
      | (with_reducible refine LeO.ite ?_ ?_)
      | (with_reducible refine LeO.bind ?_ (fun _ => ?_))
      | exact ih0 _ _ _
      | exact ih1 _ _ _ _
      | exact ih2 _ _ _ _ _ _ _
      | exact ih3 _ _ _ _ _ _ _ _ _ _ _
      | exact pentaglotref01_Valid.mono _ _
      | exact LeO.none _
      | refine LeO.ite ?_ ?_
      | refine LeO.bind ?_ (fun _ => ?_)
    · intro y0 y1 y2 y3 y4 y5 y6 y7 y8 y9 y10
      unfold pentaglotref01_Words.l2
      repeat' first
      | (with_reducible exact ih0 _ _ _)
      | (with_reducible exact ih1 _ _ _ _)
      | (with_reducible exact ih2 _ _ _ _ _ _ _)
      | (with_reducible exact ih3 _ _ _ _ _ _ _ _ _ _ _)
      | (with_reducible exact pentaglotref01_Valid.mono _ _)
      | (with_reducible exact LeO.refl _)
      | (with_reducible exact LeO.none _)
      | (with_reducible refine LeO.ite ?_ ?_)
      | (with_reducible refine LeO.bind ?_ (fun _ => ?_))
      | exact ih0 _ _ _
      | exact ih1 _ _ _ _
      | exact ih2 _ _ _ _ _ _ _
      | exact ih3 _ _ _ _ _ _ _ _ _ _ _
      | exact pentaglotref01_Valid.mono _ _
      | exact LeO.none _
      | refine LeO.ite ?_ ?_
      | refine LeO.bind ?_ (fun _ => ?_)
theorem pentaglotref01_Words.mono : ∀ a0 a1 k, LeO (pentaglotref01_Words.f k a0 a1) (pentaglotref01_Words.f (k + 1) a0 a1) := by
  intro a0 a1 k
  obtain ⟨ih0, ih1, ih2, ih3⟩ := pentaglotref01_Words.mono_l k
  unfold pentaglotref01_Words.f
  repeat' first
      | (with_reducible exact ih0 _ _ _)
      | (with_reducible exact ih1 _ _ _ _)
      | (with_reducible exact ih2 _ _ _ _ _ _ _)
      | (with_reducible exact ih3 _ _ _ _ _ _ _ _ _ _ _)
      | (with_reducible exact pentaglotref01_Valid.mono _ _)
      | (with_reducible exact LeO.refl _)
      | (with_reducible exact LeO.none _)
      | (with_reducible refine LeO.ite ?_ ?_)
      | (with_reducible refine LeO.bind ?_ (fun _ => ?_))
      | exact ih0 _ _ _
      | exact ih1 _ _ _ _
      | exact ih2 _ _ _ _ _ _ _
      | exact ih3 _ _ _ _ _ _ _ _ _ _ _
      | exact pentaglotref01_Valid.mono _ _
      | exact LeO.none _
      | refine LeO.ite ?_ ?_
      | refine LeO.bind ?_ (fun _ => ?_)

/-! DEFS pentaglotlaw01_AlphabetWords -/
def pentaglotlaw01_AlphabetWords.j0 : Nat → List (S42) → Int → Bool → Option (Bool)
  | 0, _, _, _ => none
  | k + 1, x0, x1, x11 => if x11 = true then ((pentaglotlaw01_awake.f k).bind fun t222 => (some t222)) else ((alphabet_Words.f k x0 x1).bind fun t223 => ((pentaglotref01_Words.f k x0 x1).bind fun t226 => ((pentaglotref01_Same.f k t223 t226).bind fun t229 => (some t229))))
def pentaglotlaw01_AlphabetWords.f (k : Nat) (l0 : List (S42)) (a1 : Int) : Option (Bool) := (pentaglotlaw01_awake.f k).bind fun t220 => (if t220 = true then ((pentaglotlaw01_few.f k l0 ([] : List ByteArray)).bind fun t221 => (pentaglotlaw01_AlphabetWords.j0 k l0 a1 (!t221))) else (pentaglotlaw01_AlphabetWords.j0 k l0 a1 true))
theorem pentaglotlaw01_AlphabetWords.mono_l : ∀ k, (∀ y0 y1 y2, LeO (pentaglotlaw01_AlphabetWords.j0 k y0 y1 y2) (pentaglotlaw01_AlphabetWords.j0 (k + 1) y0 y1 y2))
  | 0 => fun _ _ _ r h => by simp [pentaglotlaw01_AlphabetWords.j0] at h
  | k + 1 => by
    have ih0 := pentaglotlaw01_AlphabetWords.mono_l k
    · intro y0 y1 y2
      unfold pentaglotlaw01_AlphabetWords.j0
      repeat' first
      | (with_reducible exact ih0 _ _ _)
      | (with_reducible exact alphabet_Words.mono _ _ _)
      | (with_reducible exact pentaglotlaw01_awake.mono _)
      | (with_reducible exact pentaglotlaw01_few.mono _ _ _)
      | (with_reducible exact pentaglotref01_Same.mono _ _ _)
      | (with_reducible exact pentaglotref01_Words.mono _ _ _)
      | (with_reducible exact LeO.refl _)
      | (with_reducible exact LeO.none _)
      | (with_reducible refine LeO.ite ?_ ?_)
      | (with_reducible refine LeO.bind ?_ (fun _ => ?_))
      | exact ih0 _ _ _
      | exact alphabet_Words.mono _ _ _
      | exact pentaglotlaw01_awake.mono _
      | exact pentaglotlaw01_few.mono _ _ _
      | exact pentaglotref01_Same.mono _ _ _
      | exact pentaglotref01_Words.mono _ _ _
      | exact LeO.none _
      | refine LeO.ite ?_ ?_
      | refine LeO.bind ?_ (fun _ => ?_)
theorem pentaglotlaw01_AlphabetWords.mono : ∀ a0 a1 k, LeO (pentaglotlaw01_AlphabetWords.f k a0 a1) (pentaglotlaw01_AlphabetWords.f (k + 1) a0 a1) := by
  intro a0 a1 k
  have ih0 := pentaglotlaw01_AlphabetWords.mono_l k
  unfold pentaglotlaw01_AlphabetWords.f
  repeat' first
      | (with_reducible exact ih0 _ _ _)
      | (with_reducible exact alphabet_Words.mono _ _ _)
      | (with_reducible exact pentaglotlaw01_awake.mono _)
      | (with_reducible exact pentaglotlaw01_few.mono _ _ _)
      | (with_reducible exact pentaglotref01_Same.mono _ _ _)
      | (with_reducible exact pentaglotref01_Words.mono _ _ _)
      | (with_reducible exact LeO.refl _)
      | (with_reducible exact LeO.none _)
      | (with_reducible refine LeO.ite ?_ ?_)
      | (with_reducible refine LeO.bind ?_ (fun _ => ?_))
      | exact ih0 _ _ _
      | exact alphabet_Words.mono _ _ _
      | exact pentaglotlaw01_awake.mono _
      | exact pentaglotlaw01_few.mono _ _ _
      | exact pentaglotref01_Same.mono _ _ _
      | exact pentaglotref01_Words.mono _ _ _
      | exact LeO.none _
      | refine LeO.ite ?_ ?_
      | refine LeO.bind ?_ (fun _ => ?_)

/-! DEFS pentaglotlaw01_AlphabetAscends -/
mutual
def pentaglotlaw01_AlphabetAscends.j0 : Nat → List (S42) → Int → ByteArray → Bool → Option (Bool)
  | 0, _, _, _, _ => none
  | k + 1, x0, x1, x2, x18 => if x18 = true then ((pentaglotlaw01_awake.f k).bind fun t235 => (some t235)) else ((alphabet_Words.f k x0 x1).bind fun t236 => (pentaglotlaw01_AlphabetAscends.l0 k x0 x1 x2 t236 false 0))
def pentaglotlaw01_AlphabetAscends.l0 : Nat → List (S42) → Int → ByteArray → List ByteArray → Bool → Int → Option (Bool)
  | 0, _, _, _, _, _, _ => none
  | k + 1, x0, x1, x2, x7, x8, x9 => if x9 < (x7.length : Int) then (if 0 ≤ x9 then ((alphabet_IsWord.f x0 (rdOf ByteArray.empty x7 x9)).bind fun t244 => (if t244 = true then (if (rdOf ByteArray.empty x7 x9).size ≤ 70368744177664 then (if ((rns (rdOf ByteArray.empty x7 x9)).length : Int) = x1 then (if x9 > 0 then (if 0 ≤ (wrap64 (x9 - 1)) then (if (wrap64 (x9 - 1)) < (x7.length : Int) then ((alphabet_Compare.f k x0 (rdOf ByteArray.empty x7 (wrap64 (x9 - 1))) (rdOf ByteArray.empty x7 x9)).bind fun t251 => (if t251 = (-1) then (if x8 = true then (pentaglotlaw01_AlphabetAscends.l0 k x0 x1 x2 x7 true (wrap64 (x9 + 1))) else (pentaglotlaw01_AlphabetAscends.l0 k x0 x1 x2 x7 ((rdOf ByteArray.empty x7 x9).toList == x2.toList) (wrap64 (x9 + 1)))) else (some false))) else (none)) else (none)) else (if x8 = true then (pentaglotlaw01_AlphabetAscends.l0 k x0 x1 x2 x7 true (wrap64 (x9 + 1))) else (pentaglotlaw01_AlphabetAscends.l0 k x0 x1 x2 x7 ((rdOf ByteArray.empty x7 x9).toList == x2.toList) (wrap64 (x9 + 1))))) else (some false)) else (none)) else (some false))) else (none)) else (if (x7.length : Int) = 0 then (some true) else ((alphabet_IsWord.f x0 x2).bind fun t239 => (if t239 = true then (if x2.size ≤ 70368744177664 then (some (x8 == (((rns x2).length : Int) == x1))) else (none)) else (some (x8 == false)))))
end
def pentaglotlaw01_AlphabetAscends.f (k : Nat) (l0 : List (S42)) (a1 : Int) (a2 : ByteArray) : Option (Bool) := (pentaglotlaw01_awake.f k).bind fun t230 => (if t230 = true then ((pentaglotlaw01_few.f k l0 (([a2] : List ByteArray))).bind fun t234 => (pentaglotlaw01_AlphabetAscends.j0 k l0 a1 a2 (!t234))) else (pentaglotlaw01_AlphabetAscends.j0 k l0 a1 a2 true))
theorem pentaglotlaw01_AlphabetAscends.mono_l : ∀ k, (∀ y0 y1 y2 y3, LeO (pentaglotlaw01_AlphabetAscends.j0 k y0 y1 y2 y3) (pentaglotlaw01_AlphabetAscends.j0 (k + 1) y0 y1 y2 y3)) ∧ (∀ y0 y1 y2 y3 y4 y5, LeO (pentaglotlaw01_AlphabetAscends.l0 k y0 y1 y2 y3 y4 y5) (pentaglotlaw01_AlphabetAscends.l0 (k + 1) y0 y1 y2 y3 y4 y5))
  | 0 => ⟨fun _ _ _ _ r h => by simp [pentaglotlaw01_AlphabetAscends.j0] at h, fun _ _ _ _ _ _ r h => by simp [pentaglotlaw01_AlphabetAscends.l0] at h⟩
  | k + 1 => by
    obtain ⟨ih0, ih1⟩ := pentaglotlaw01_AlphabetAscends.mono_l k
    refine ⟨?_, ?_⟩
    · intro y0 y1 y2 y3
      unfold pentaglotlaw01_AlphabetAscends.j0
      repeat' first
      | (with_reducible exact ih0 _ _ _ _)
      | (with_reducible exact ih1 _ _ _ _ _ _)
      | (with_reducible exact alphabet_Compare.mono _ _ _ _)
      | (with_reducible exact alphabet_Words.mono _ _ _)
      | (with_reducible exact pentaglotlaw01_awake.mono _)
      | (with_reducible exact pentaglotlaw01_few.mono _ _ _)
      | (with_reducible exact LeO.refl _)
      | (with_reducible exact LeO.none _)
      | (with_reducible refine LeO.ite ?_ ?_)
      | (with_reducible refine LeO.bind ?_ (fun _ => ?_))
      | exact ih0 _ _ _ _
      | exact ih1 _ _ _ _ _ _
      | exact alphabet_Compare.mono _ _ _ _
      | exact alphabet_Words.mono _ _ _
      | exact pentaglotlaw01_awake.mono _
      | exact pentaglotlaw01_few.mono _ _ _
      | exact LeO.none _
      | refine LeO.ite ?_ ?_
      | refine LeO.bind ?_ (fun _ => ?_)
    · intro y0 y1 y2 y3 y4 y5
      unfold pentaglotlaw01_AlphabetAscends.l0
      repeat' first
      | (with_reducible exact ih0 _ _ _ _)
      | (with_reducible exact ih1 _ _ _ _ _ _)
      | (with_reducible exact alphabet_Compare.mono _ _ _ _)
      | (with_reducible exact alphabet_Words.mono _ _ _)
      | (with_reducible exact pentaglotlaw01_awake.mono _)
      | (with_reducible exact pentaglotlaw01_few.mono _ _ _)
      | (with_reducible exact LeO.refl _)
      | (with_reducible exact LeO.none _)
      | (with_reducible refine LeO.ite ?_ ?_)
      | (with_reducible refine LeO.bind ?_ (fun _ => ?_))
      | exact ih0 _ _ _ _
      | exact ih1 _ _ _ _ _ _
      | exact alphabet_Compare.mono _ _ _ _
      | exact alphabet_Words.mono _ _ _
      | exact pentaglotlaw01_awake.mono _
      | exact pentaglotlaw01_few.mono _ _ _
      | exact LeO.none _
      | refine LeO.ite ?_ ?_
      | refine LeO.bind ?_ (fun _ => ?_)
theorem pentaglotlaw01_AlphabetAscends.mono : ∀ a0 a1 a2 k, LeO (pentaglotlaw01_AlphabetAscends.f k a0 a1 a2) (pentaglotlaw01_AlphabetAscends.f (k + 1) a0 a1 a2) := by
  intro a0 a1 a2 k
  obtain ⟨ih0, ih1⟩ := pentaglotlaw01_AlphabetAscends.mono_l k
  unfold pentaglotlaw01_AlphabetAscends.f
  repeat' first
      | (with_reducible exact ih0 _ _ _ _)
      | (with_reducible exact ih1 _ _ _ _ _ _)
      | (with_reducible exact alphabet_Compare.mono _ _ _ _)
      | (with_reducible exact alphabet_Words.mono _ _ _)
      | (with_reducible exact pentaglotlaw01_awake.mono _)
      | (with_reducible exact pentaglotlaw01_few.mono _ _ _)
      | (with_reducible exact LeO.refl _)
      | (with_reducible exact LeO.none _)
      | (with_reducible refine LeO.ite ?_ ?_)
      | (with_reducible refine LeO.bind ?_ (fun _ => ?_))
      | exact ih0 _ _ _ _
      | exact ih1 _ _ _ _ _ _
      | exact alphabet_Compare.mono _ _ _ _
      | exact alphabet_Words.mono _ _ _
      | exact pentaglotlaw01_awake.mono _
      | exact pentaglotlaw01_few.mono _ _ _
      | exact LeO.none _
      | refine LeO.ite ?_ ?_
      | refine LeO.bind ?_ (fun _ => ?_)

/-! DEFS alphabet_Classes -/

/-! DEFS pentaglotref01_Classes -/
def pentaglotref01_Classes.f (k : Nat) (l0 : List (S42)) (a1 : Int) : Option (Int) := (pentaglotref01_Index.f k l0 a1).bind fun t254 => (if t254 < 0 then (some 0) else (if 0 ≤ t254 then (if t254 < (l0.length : Int) then (some ((rd_T42 l0 t254).f1)) else (none)) else (none)))
theorem pentaglotref01_Classes.mono : ∀ a0 a1 k, LeO (pentaglotref01_Classes.f k a0 a1) (pentaglotref01_Classes.f (k + 1) a0 a1) := by
  intro a0 a1 k
  unfold pentaglotref01_Classes.f
  repeat' first
      | (with_reducible exact pentaglotref01_Index.mono _ _ _)
      | (with_reducible exact LeO.refl _)
      | (with_reducible exact LeO.none _)
      | (with_reducible refine LeO.ite ?_ ?_)
      | (with_reducible refine LeO.bind ?_ (fun _ => ?_))
      | exact pentaglotref01_Index.mono _ _ _
      | exact LeO.none _
      | refine LeO.ite ?_ ?_
      | refine LeO.bind ?_ (fun _ => ?_)

/-! DEFS pentaglotlaw01_AlphabetIndex -/
def pentaglotlaw01_AlphabetIndex.j0 : Nat → List (S42) → Int → Bool → Option (Bool)
  | 0, _, _, _ => none
  | k + 1, x0, x1, x11 => if x11 = true then ((pentaglotlaw01_awake.f k).bind fun t258 => (some t258)) else ((alphabet_Index.f x0 x1).bind fun t259 => ((pentaglotref01_Index.f k x0 x1).bind fun t260 => (if t259 = t260 then ((alphabet_Classes.f x0 x1).bind fun t261 => ((pentaglotref01_Classes.f k x0 x1).bind fun t262 => (some (t261 == t262)))) else (some false))))
def pentaglotlaw01_AlphabetIndex.f (k : Nat) (l0 : List (S42)) (a1 : Int) : Option (Bool) := (pentaglotlaw01_awake.f k).bind fun t256 => (if t256 = true then ((pentaglotlaw01_few.f k l0 ([] : List ByteArray)).bind fun t257 => (pentaglotlaw01_AlphabetIndex.j0 k l0 a1 (!t257))) else (pentaglotlaw01_AlphabetIndex.j0 k l0 a1 true))
theorem pentaglotlaw01_AlphabetIndex.mono_l : ∀ k, (∀ y0 y1 y2, LeO (pentaglotlaw01_AlphabetIndex.j0 k y0 y1 y2) (pentaglotlaw01_AlphabetIndex.j0 (k + 1) y0 y1 y2))
  | 0 => fun _ _ _ r h => by simp [pentaglotlaw01_AlphabetIndex.j0] at h
  | k + 1 => by
    have ih0 := pentaglotlaw01_AlphabetIndex.mono_l k
    · intro y0 y1 y2
      unfold pentaglotlaw01_AlphabetIndex.j0
      repeat' first
      | (with_reducible exact ih0 _ _ _)
      | (with_reducible exact pentaglotlaw01_awake.mono _)
      | (with_reducible exact pentaglotlaw01_few.mono _ _ _)
      | (with_reducible exact pentaglotref01_Classes.mono _ _ _)
      | (with_reducible exact pentaglotref01_Index.mono _ _ _)
      | (with_reducible exact LeO.refl _)
      | (with_reducible exact LeO.none _)
      | (with_reducible refine LeO.ite ?_ ?_)
      | (with_reducible refine LeO.bind ?_ (fun _ => ?_))
      | exact ih0 _ _ _
      | exact pentaglotlaw01_awake.mono _
      | exact pentaglotlaw01_few.mono _ _ _
      | exact pentaglotref01_Classes.mono _ _ _
      | exact pentaglotref01_Index.mono _ _ _
      | exact LeO.none _
      | refine LeO.ite ?_ ?_
      | refine LeO.bind ?_ (fun _ => ?_)
theorem pentaglotlaw01_AlphabetIndex.mono : ∀ a0 a1 k, LeO (pentaglotlaw01_AlphabetIndex.f k a0 a1) (pentaglotlaw01_AlphabetIndex.f (k + 1) a0 a1) := by
  intro a0 a1 k
  have ih0 := pentaglotlaw01_AlphabetIndex.mono_l k
  unfold pentaglotlaw01_AlphabetIndex.f
  repeat' first
      | (with_reducible exact ih0 _ _ _)
      | (with_reducible exact pentaglotlaw01_awake.mono _)
      | (with_reducible exact pentaglotlaw01_few.mono _ _ _)
      | (with_reducible exact pentaglotref01_Classes.mono _ _ _)
      | (with_reducible exact pentaglotref01_Index.mono _ _ _)
      | (with_reducible exact LeO.refl _)
      | (with_reducible exact LeO.none _)
      | (with_reducible refine LeO.ite ?_ ?_)
      | (with_reducible refine LeO.bind ?_ (fun _ => ?_))
      | exact ih0 _ _ _
      | exact pentaglotlaw01_awake.mono _
      | exact pentaglotlaw01_few.mono _ _ _
      | exact pentaglotref01_Classes.mono _ _ _
      | exact pentaglotref01_Index.mono _ _ _
      | exact LeO.none _
      | refine LeO.ite ?_ ?_
      | refine LeO.bind ?_ (fun _ => ?_)

/-! DEFS pentaglotlaw01_AlphabetLetters -/
def pentaglotlaw01_AlphabetLetters.j0 : Nat → List (S42) → Int → Bool → Option (Bool)
  | 0, _, _, _ => none
  | k + 1, x0, x1, x21 => if x21 = true then ((pentaglotlaw01_awake.f k).bind fun t265 => (some t265)) else (if 0 ≤ x1 then (if x1 < (x0.length : Int) then ((alphabet_Index.f x0 ((rd_T42 x0 x1).f0)).bind fun t267 => (if t267 = x1 then ((alphabet_Classes.f x0 ((rd_T42 x0 x1).f0)).bind fun t269 => (some (t269 == ((rd_T42 x0 x1).f1)))) else (some false))) else (none)) else (none))
def pentaglotlaw01_AlphabetLetters.f (k : Nat) (l0 : List (S42)) (a1 : Int) : Option (Bool) := (pentaglotlaw01_awake.f k).bind fun t263 => (if t263 = true then (if a1 < 0 then (pentaglotlaw01_AlphabetLetters.j0 k l0 a1 true) else (if a1 ≥ (l0.length : Int) then (pentaglotlaw01_AlphabetLetters.j0 k l0 a1 true) else ((alphabet_Valid.f k l0).bind fun t264 => (pentaglotlaw01_AlphabetLetters.j0 k l0 a1 (!t264))))) else (pentaglotlaw01_AlphabetLetters.j0 k l0 a1 true))
theorem pentaglotlaw01_AlphabetLetters.mono_l : ∀ k, (∀ y0 y1 y2, LeO (pentaglotlaw01_AlphabetLetters.j0 k y0 y1 y2) (pentaglotlaw01_AlphabetLetters.j0 (k + 1) y0 y1 y2))
  | 0 => fun _ _ _ r h => by simp [pentaglotlaw01_AlphabetLetters.j0] at h
  | k + 1 => by
    have ih0 := pentaglotlaw01_AlphabetLetters.mono_l k
    · intro y0 y1 y2
      unfold pentaglotlaw01_AlphabetLetters.j0
      repeat' first
      | (with_reducible exact ih0 _ _ _)
      | (with_reducible exact alphabet_Valid.mono _ _)
      | (with_reducible exact pentaglotlaw01_awake.mono _)
      | (with_reducible exact LeO.refl _)
      | (with_reducible exact LeO.none _)
      | (with_reducible refine LeO.ite ?_ ?_)
      | (with_reducible refine LeO.bind ?_ (fun _ => ?_))
      | exact ih0 _ _ _
      | exact alphabet_Valid.mono _ _
      | exact pentaglotlaw01_awake.mono _
      | exact LeO.none _
      | refine LeO.ite ?_ ?_
      | refine LeO.bind ?_ (fun _ => ?_)
theorem pentaglotlaw01_AlphabetLetters.mono : ∀ a0 a1 k, LeO (pentaglotlaw01_AlphabetLetters.f k a0 a1) (pentaglotlaw01_AlphabetLetters.f (k + 1) a0 a1) := by
  intro a0 a1 k
  have ih0 := pentaglotlaw01_AlphabetLetters.mono_l k
  unfold pentaglotlaw01_AlphabetLetters.f
  repeat' first
      | (with_reducible exact ih0 _ _ _)
      | (with_reducible exact alphabet_Valid.mono _ _)
      | (with_reducible exact pentaglotlaw01_awake.mono _)
      | (with_reducible exact LeO.refl _)
      | (with_reducible exact LeO.none _)
      | (with_reducible refine LeO.ite ?_ ?_)
      | (with_reducible refine LeO.bind ?_ (fun _ => ?_))
      | exact ih0 _ _ _
      | exact alphabet_Valid.mono _ _
      | exact pentaglotlaw01_awake.mono _
      | exact LeO.none _
      | refine LeO.ite ?_ ?_
      | refine LeO.bind ?_ (fun _ => ?_)

/-! DEFS pentaglotref01_Partner -/
def pentaglotref01_Partner.l0 : Nat → List (S42) → Int → Int → List (S42) → Int → Int → Option (Int × Bool)
  | 0, _, _, _, _, _, _ => none
  | k + 1, x0, x2, x8, x16, x17, x18 => if x18 < x17 then (if 0 ≤ x18 then (if x18 < (x16.length : Int) then (if 0 ≤ x8 then (if x8 < (x0.length : Int) then (if ((rd_T42 x16 x18).f1) = (Go.bits .xor .u32 ((rd_T42 x0 x8).f1) x2) then (some ((rd_T42 x16 x18).f0, true)) else (pentaglotref01_Partner.l0 k x0 x2 x8 x16 x17 (wrap64 (x18 + 1)))) else (none)) else (none)) else (none)) else (none)) else (some (0, false))
def pentaglotref01_Partner.f (k : Nat) (l0 : List (S42)) (a1 : Int) (a2 : Int) : Option (Int × Bool) := (pentaglotref01_Index.f k l0 a1).bind fun t271 => (if t271 < 0 then (some (0, false)) else (pentaglotref01_Partner.l0 k l0 a2 t271 l0 (l0.length : Int) 0))
theorem pentaglotref01_Partner.mono_l : ∀ k, (∀ y0 y1 y2 y3 y4 y5, LeO (pentaglotref01_Partner.l0 k y0 y1 y2 y3 y4 y5) (pentaglotref01_Partner.l0 (k + 1) y0 y1 y2 y3 y4 y5))
  | 0 => fun _ _ _ _ _ _ r h => by simp [pentaglotref01_Partner.l0] at h
  | k + 1 => by
    have ih0 := pentaglotref01_Partner.mono_l k
    · intro y0 y1 y2 y3 y4 y5
      unfold pentaglotref01_Partner.l0
      repeat' first
      | (with_reducible exact ih0 _ _ _ _ _ _)
      | (with_reducible exact pentaglotref01_Index.mono _ _ _)
      | (with_reducible exact LeO.refl _)
      | (with_reducible exact LeO.none _)
      | (with_reducible refine LeO.ite ?_ ?_)
      | (with_reducible refine LeO.bind ?_ (fun _ => ?_))
      | exact ih0 _ _ _ _ _ _
      | exact pentaglotref01_Index.mono _ _ _
      | exact LeO.none _
      | refine LeO.ite ?_ ?_
      | refine LeO.bind ?_ (fun _ => ?_)
theorem pentaglotref01_Partner.mono : ∀ a0 a1 a2 k, LeO (pentaglotref01_Partner.f k a0 a1 a2) (pentaglotref01_Partner.f (k + 1) a0 a1 a2) := by
  intro a0 a1 a2 k
  have ih0 := pentaglotref01_Partner.mono_l k
  unfold pentaglotref01_Partner.f
  repeat' first
      | (with_reducible exact ih0 _ _ _ _ _ _)
      | (with_reducible exact pentaglotref01_Index.mono _ _ _)
      | (with_reducible exact LeO.refl _)
      | (with_reducible exact LeO.none _)
      | (with_reducible refine LeO.ite ?_ ?_)
      | (with_reducible refine LeO.bind ?_ (fun _ => ?_))
      | exact ih0 _ _ _ _ _ _
      | exact pentaglotref01_Index.mono _ _ _
      | exact LeO.none _
      | refine LeO.ite ?_ ?_
      | refine LeO.bind ?_ (fun _ => ?_)

/-! DEFS pentaglotlaw01_AlphabetPartner -/
mutual
def pentaglotlaw01_AlphabetPartner.j0 : Nat → List (S42) → Int → Int → Bool → Option (Bool)
  | 0, _, _, _, _ => none
  | k + 1, x0, x1, x2, x19 => if x19 = true then ((pentaglotlaw01_awake.f k).bind fun t277 => (some t277)) else ((alphabet_Partner.f k x0 x1 x2).bind fun bt278 => ((pentaglotref01_Partner.f k x0 x1 x2).bind fun bt280 => (if bt278.1 = bt280.1 then (pentaglotlaw01_AlphabetPartner.j1 k x0 x1 x2 bt278.1 bt278.2 (bt278.2 != bt280.2)) else (pentaglotlaw01_AlphabetPartner.j1 k x0 x1 x2 bt278.1 bt278.2 true))))
def pentaglotlaw01_AlphabetPartner.j1 : Nat → List (S42) → Int → Int → Int → Bool → Bool → Option (Bool)
  | 0, _, _, _, _, _, _ => none
  | k + 1, x0, x1, x2, x7, x8, x42 => if x42 = true then (some false) else (if x8 = true then ((pentaglotref01_Valid.f k x0).bind fun t282 => (pentaglotlaw01_AlphabetPartner.j2 k x0 x1 x2 x7 (!t282))) else (pentaglotlaw01_AlphabetPartner.j2 k x0 x1 x2 x7 true))
def pentaglotlaw01_AlphabetPartner.j2 : Nat → List (S42) → Int → Int → Int → Bool → Option (Bool)
  | 0, _, _, _, _, _ => none
  | k + 1, x0, x1, x2, x7, x49 => if x49 = true then (some true) else ((alphabet_Partner.f k x0 x7 x2).bind fun bt283 => (if bt283.2 = true then ((alphabet_Classes.f x0 bt283.1).bind fun t285 => ((alphabet_Classes.f x0 x1).bind fun t286 => (some (t285 == t286)))) else (some false)))
end
def pentaglotlaw01_AlphabetPartner.f (k : Nat) (l0 : List (S42)) (a1 : Int) (a2 : Int) : Option (Bool) := (pentaglotlaw01_awake.f k).bind fun t275 => (if t275 = true then ((pentaglotlaw01_few.f k l0 ([] : List ByteArray)).bind fun t276 => (pentaglotlaw01_AlphabetPartner.j0 k l0 a1 a2 (!t276))) else (pentaglotlaw01_AlphabetPartner.j0 k l0 a1 a2 true))
theorem pentaglotlaw01_AlphabetPartner.mono_l : ∀ k, (∀ y0 y1 y2 y3, LeO (pentaglotlaw01_AlphabetPartner.j0 k y0 y1 y2 y3) (pentaglotlaw01_AlphabetPartner.j0 (k + 1) y0 y1 y2 y3)) ∧ (∀ y0 y1 y2 y3 y4 y5, LeO (pentaglotlaw01_AlphabetPartner.j1 k y0 y1 y2 y3 y4 y5) (pentaglotlaw01_AlphabetPartner.j1 (k + 1) y0 y1 y2 y3 y4 y5)) ∧ (∀ y0 y1 y2 y3 y4, LeO (pentaglotlaw01_AlphabetPartner.j2 k y0 y1 y2 y3 y4) (pentaglotlaw01_AlphabetPartner.j2 (k + 1) y0 y1 y2 y3 y4))
  | 0 => ⟨fun _ _ _ _ r h => by simp [pentaglotlaw01_AlphabetPartner.j0] at h, fun _ _ _ _ _ _ r h => by simp [pentaglotlaw01_AlphabetPartner.j1] at h, fun _ _ _ _ _ r h => by simp [pentaglotlaw01_AlphabetPartner.j2] at h⟩
  | k + 1 => by
    obtain ⟨ih0, ih1, ih2⟩ := pentaglotlaw01_AlphabetPartner.mono_l k
    refine ⟨?_, ?_, ?_⟩
    · intro y0 y1 y2 y3
      unfold pentaglotlaw01_AlphabetPartner.j0
      repeat' first
      | (with_reducible exact ih0 _ _ _ _)
      | (with_reducible exact ih1 _ _ _ _ _ _)
      | (with_reducible exact ih2 _ _ _ _ _)
      | (with_reducible exact alphabet_Partner.mono _ _ _ _)
      | (with_reducible exact pentaglotlaw01_awake.mono _)
      | (with_reducible exact pentaglotlaw01_few.mono _ _ _)
      | (with_reducible exact pentaglotref01_Partner.mono _ _ _ _)
      | (with_reducible exact pentaglotref01_Valid.mono _ _)
      | (with_reducible exact LeO.refl _)
      | (with_reducible exact LeO.none _)
      | (with_reducible refine LeO.ite ?_ ?_)
      | (with_reducible refine LeO.bind ?_ (fun _ => ?_))
      | exact ih0 _ _ _ _
      | exact ih1 _ _ _ _ _ _
      | exact ih2 _ _ _ _ _
      | exact alphabet_Partner.mono _ _ _ _
      | exact pentaglotlaw01_awake.mono _
      | exact pentaglotlaw01_few.mono _ _ _
      | exact pentaglotref01_Partner.mono _ _ _ _
      | exact pentaglotref01_Valid.mono _ _
      | exact LeO.none _
      | refine LeO.ite ?_ ?_
      | refine LeO.bind ?_ (fun _ => ?_)
    · intro y0 y1 y2 y3 y4 y5
      unfold pentaglotlaw01_AlphabetPartner.j1
      repeat' first
      | (with_reducible exact ih0 _ _ _ _)
      | (with_reducible exact ih1 _ _ _ _ _ _)
      | (with_reducible exact ih2 _ _ _ _ _)
      | (with_reducible exact alphabet_Partner.mono _ _ _ _)
      | (with_reducible exact pentaglotlaw01_awake.mono _)
      | (with_reducible exact pentaglotlaw01_few.mono _ _ _)
      | (with_reducible exact pentaglotref01_Partner.mono _ _ _ _)
      | (with_reducible exact pentaglotref01_Valid.mono _ _)
      | (with_reducible exact LeO.refl _)
      | (with_reducible exact LeO.none _)
      | (with_reducible refine LeO.ite ?_ ?_)
      | (with_reducible refine LeO.bind ?_ (fun _ => ?_))
      | exact ih0 _ _ _ _
      | exact ih1 _ _ _ _ _ _
      | exact ih2 _ _ _ _ _
      | exact alphabet_Partner.mono _ _ _ _
      | exact pentaglotlaw01_awake.mono _
      | exact pentaglotlaw01_few.mono _ _ _
      | exact pentaglotref01_Partner.mono _ _ _ _
      | exact pentaglotref01_Valid.mono _ _
      | exact LeO.none _
      | refine LeO.ite ?_ ?_
      | refine LeO.bind ?_ (fun _ => ?_)
    · intro y0 y1 y2 y3 y4
      unfold pentaglotlaw01_AlphabetPartner.j2
      repeat' first
      | (with_reducible exact ih0 _ _ _ _)
      | (with_reducible exact ih1 _ _ _ _ _ _)
      | (with_reducible exact ih2 _ _ _ _ _)
      | (with_reducible exact alphabet_Partner.mono _ _ _ _)
      | (with_reducible exact pentaglotlaw01_awake.mono _)
      | (with_reducible exact pentaglotlaw01_few.mono _ _ _)
      | (with_reducible exact pentaglotref01_Partner.mono _ _ _ _)
      | (with_reducible exact pentaglotref01_Valid.mono _ _)
      | (with_reducible exact LeO.refl _)
      | (with_reducible exact LeO.none _)
      | (with_reducible refine LeO.ite ?_ ?_)
      | (with_reducible refine LeO.bind ?_ (fun _ => ?_))
      | exact ih0 _ _ _ _
      | exact ih1 _ _ _ _ _ _
      | exact ih2 _ _ _ _ _
      | exact alphabet_Partner.mono _ _ _ _
      | exact pentaglotlaw01_awake.mono _
      | exact pentaglotlaw01_few.mono _ _ _
      | exact pentaglotref01_Partner.mono _ _ _ _
      | exact pentaglotref01_Valid.mono _ _
      | exact LeO.none _
      | refine LeO.ite ?_ ?_
      | refine LeO.bind ?_ (fun _ => ?_)
theorem pentaglotlaw01_AlphabetPartner.mono : ∀ a0 a1 a2 k, LeO (pentaglotlaw01_AlphabetPartner.f k a0 a1 a2) (pentaglotlaw01_AlphabetPartner.f (k + 1) a0 a1 a2) := by
  intro a0 a1 a2 k
  obtain ⟨ih0, ih1, ih2⟩ := pentaglotlaw01_AlphabetPartner.mono_l k
  unfold pentaglotlaw01_AlphabetPartner.f
  repeat' first
      | (with_reducible exact ih0 _ _ _ _)
      | (with_reducible exact ih1 _ _ _ _ _ _)
      | (with_reducible exact ih2 _ _ _ _ _)
      | (with_reducible exact alphabet_Partner.mono _ _ _ _)
      | (with_reducible exact pentaglotlaw01_awake.mono _)
      | (with_reducible exact pentaglotlaw01_few.mono _ _ _)
      | (with_reducible exact pentaglotref01_Partner.mono _ _ _ _)
      | (with_reducible exact pentaglotref01_Valid.mono _ _)
      | (with_reducible exact LeO.refl _)
      | (with_reducible exact LeO.none _)
      | (with_reducible refine LeO.ite ?_ ?_)
      | (with_reducible refine LeO.bind ?_ (fun _ => ?_))
      | exact ih0 _ _ _ _
      | exact ih1 _ _ _ _ _ _
      | exact ih2 _ _ _ _ _
      | exact alphabet_Partner.mono _ _ _ _
      | exact pentaglotlaw01_awake.mono _
      | exact pentaglotlaw01_few.mono _ _ _
      | exact pentaglotref01_Partner.mono _ _ _ _
      | exact pentaglotref01_Valid.mono _ _
      | exact LeO.none _
      | refine LeO.ite ?_ ?_
      | refine LeO.bind ?_ (fun _ => ?_)

/-! DEFS pentaglotref01_Runes -/
def pentaglotref01_Runes.f (l0 : List Int) (l1 : List Int) : Option (Bool) := if (strOfRunes l0).toList = (strOfRunes l1).toList then (some ((l0.length : Int) == (l1.length : Int))) else (some false)

/-! DEFS alphabet_Select -/
def alphabet_Select.l0 : Nat → Int → List Int → List (S42) → Int → Int → Option (List Int)
  | 0, _, _, _, _, _ => none
  | k + 1, x1, x5, x8, x9, x10 => if x10 < x9 then (if 0 ≤ x10 then (if x10 < (x8.length : Int) then (if (Go.bits .and .u32 ((rd_T42 x8 x10).f1) x1) = x1 then (if x5.length < 35184372088832 then (alphabet_Select.l0 k x1 (x5 ++ [(rd_T42 x8 x10).f0]) x8 x9 (wrap64 (x10 + 1))) else (none)) else (alphabet_Select.l0 k x1 x5 x8 x9 (wrap64 (x10 + 1)))) else (none)) else (none)) else (some x5)
def alphabet_Select.f (k : Nat) (l0 : List (S42)) (a1 : Int) : Option (List Int) := alphabet_Select.l0 k a1 ([] : List Int) l0 (l0.length : Int) 0
theorem alphabet_Select.mono_l : ∀ k, (∀ y0 y1 y2 y3 y4, LeO (alphabet_Select.l0 k y0 y1 y2 y3 y4) (alphabet_Select.l0 (k + 1) y0 y1 y2 y3 y4))
  | 0 => fun _ _ _ _ _ r h => by simp [alphabet_Select.l0] at h
  | k + 1 => by
    have ih0 := alphabet_Select.mono_l k
    · intro y0 y1 y2 y3 y4
      unfold alphabet_Select.l0
      repeat' first
      | (with_reducible exact ih0 _ _ _ _ _)
      | (with_reducible exact LeO.refl _)
      | (with_reducible exact LeO.none _)
      | (with_reducible refine LeO.ite ?_ ?_)
      | (with_reducible refine LeO.bind ?_ (fun _ => ?_))
      | exact ih0 _ _ _ _ _
      | exact LeO.none _
      | refine LeO.ite ?_ ?_
      | refine LeO.bind ?_ (fun _ => ?_)
theorem alphabet_Select.mono : ∀ a0 a1 k, LeO (alphabet_Select.f k a0 a1) (alphabet_Select.f (k + 1) a0 a1) := by
  intro a0 a1 k
  have ih0 := alphabet_Select.mono_l k
  unfold alphabet_Select.f
  repeat' first
      | (with_reducible exact ih0 _ _ _ _ _)
      | (with_reducible exact LeO.refl _)
      | (with_reducible exact LeO.none _)
      | (with_reducible refine LeO.ite ?_ ?_)
      | (with_reducible refine LeO.bind ?_ (fun _ => ?_))
      | exact ih0 _ _ _ _ _
      | exact LeO.none _
      | refine LeO.ite ?_ ?_
      | refine LeO.bind ?_ (fun _ => ?_)

/-! DEFS pentaglotref01_Has -/
def pentaglotref01_Has.f (a0 : Int) (a1 : Int) : Option (Bool) := some ((Go.bits .and .u32 a0 a1) == a1)

/-! DEFS pentaglotref01_Select -/
def pentaglotref01_Select.l0 : Nat → Int → List Int → List (S42) → Int → Int → Option (List Int)
  | 0, _, _, _, _, _ => none
  | k + 1, x1, x5, x9, x10, x11 => if x11 < x10 then (if 0 ≤ x11 then (if x11 < (x9.length : Int) then ((pentaglotref01_Has.f ((rd_T42 x9 x11).f1) x1).bind fun t297 => (if t297 = true then (if x5.length < 35184372088832 then (pentaglotref01_Select.l0 k x1 (x5 ++ [(rd_T42 x9 x11).f0]) x9 x10 (wrap64 (x11 + 1))) else (none)) else (pentaglotref01_Select.l0 k x1 x5 x9 x10 (wrap64 (x11 + 1))))) else (none)) else (none)) else (some x5)
def pentaglotref01_Select.f (k : Nat) (l0 : List (S42)) (a1 : Int) : Option (List Int) := pentaglotref01_Select.l0 k a1 (([] : List Int)) l0 (l0.length : Int) 0
theorem pentaglotref01_Select.mono_l : ∀ k, (∀ y0 y1 y2 y3 y4, LeO (pentaglotref01_Select.l0 k y0 y1 y2 y3 y4) (pentaglotref01_Select.l0 (k + 1) y0 y1 y2 y3 y4))
  | 0 => fun _ _ _ _ _ r h => by simp [pentaglotref01_Select.l0] at h
  | k + 1 => by
    have ih0 := pentaglotref01_Select.mono_l k
    · intro y0 y1 y2 y3 y4
      unfold pentaglotref01_Select.l0
      repeat' first
      | (with_reducible exact ih0 _ _ _ _ _)
      | (with_reducible exact LeO.refl _)
      | (with_reducible exact LeO.none _)
      | (with_reducible refine LeO.ite ?_ ?_)
      | (with_reducible refine LeO.bind ?_ (fun _ => ?_))
      | exact ih0 _ _ _ _ _
      | exact LeO.none _
      | refine LeO.ite ?_ ?_
      | refine LeO.bind ?_ (fun _ => ?_)
theorem pentaglotref01_Select.mono : ∀ a0 a1 k, LeO (pentaglotref01_Select.f k a0 a1) (pentaglotref01_Select.f (k + 1) a0 a1) := by
  intro a0 a1 k
  have ih0 := pentaglotref01_Select.mono_l k
  unfold pentaglotref01_Select.f
  repeat' first
      | (with_reducible exact ih0 _ _ _ _ _)
      | (with_reducible exact LeO.refl _)
      | (with_reducible exact LeO.none _)
      | (with_reducible refine LeO.ite ?_ ?_)
      | (with_reducible refine LeO.bind ?_ (fun _ => ?_))
      | exact ih0 _ _ _ _ _
      | exact LeO.none _
      | refine LeO.ite ?_ ?_
      | refine LeO.bind ?_ (fun _ => ?_)

/-! DEFS pentaglotlaw01_AlphabetSelect -/
def pentaglotlaw01_AlphabetSelect.j0 : Nat → List (S42) → Int → Bool → Option (Bool)
  | 0, _, _, _ => none
  | k + 1, x0, x1, x11 => if x11 = true then ((pentaglotlaw01_awake.f k).bind fun t303 => (some t303)) else ((alphabet_Select.f k x0 x1).bind fun t304 => ((pentaglotref01_Select.f k x0 x1).bind fun t307 => ((pentaglotref01_Runes.f t304 t307).bind fun t310 => (some t310))))
def pentaglotlaw01_AlphabetSelect.f (k : Nat) (l0 : List (S42)) (a1 : Int) : Option (Bool) := (pentaglotlaw01_awake.f k).bind fun t301 => (if t301 = true then ((pentaglotlaw01_few.f k l0 ([] : List ByteArray)).bind fun t302 => (pentaglotlaw01_AlphabetSelect.j0 k l0 a1 (!t302))) else (pentaglotlaw01_AlphabetSelect.j0 k l0 a1 true))
theorem pentaglotlaw01_AlphabetSelect.mono_l : ∀ k, (∀ y0 y1 y2, LeO (pentaglotlaw01_AlphabetSelect.j0 k y0 y1 y2) (pentaglotlaw01_AlphabetSelect.j0 (k + 1) y0 y1 y2))
  | 0 => fun _ _ _ r h => by simp [pentaglotlaw01_AlphabetSelect.j0] at h
  | k + 1 => by
    have ih0 := pentaglotlaw01_AlphabetSelect.mono_l k
    · intro y0 y1 y2
      unfold pentaglotlaw01_AlphabetSelect.j0
      repeat' first
      | (with_reducible exact ih0 _ _ _)
      | (with_reducible exact alphabet_Select.mono _ _ _)
      | (with_reducible exact pentaglotlaw01_awake.mono _)
      | (with_reducible exact pentaglotlaw01_few.mono _ _ _)
      | (with_reducible exact pentaglotref01_Select.mono _ _ _)
      | (with_reducible exact LeO.refl _)
      | (with_reducible exact LeO.none _)
      | (with_reducible refine LeO.ite ?_ ?_)
      | (with_reducible refine LeO.bind ?_ (fun _ => ?_))
      | exact ih0 _ _ _
      | exact alphabet_Select.mono _ _ _
      | exact pentaglotlaw01_awake.mono _
      | exact pentaglotlaw01_few.mono _ _ _
      | exact pentaglotref01_Select.mono _ _ _
      | exact LeO.none _
      | refine LeO.ite ?_ ?_
      | refine LeO.bind ?_ (fun _ => ?_)
theorem pentaglotlaw01_AlphabetSelect.mono : ∀ a0 a1 k, LeO (pentaglotlaw01_AlphabetSelect.f k a0 a1) (pentaglotlaw01_AlphabetSelect.f (k + 1) a0 a1) := by
  intro a0 a1 k
  have ih0 := pentaglotlaw01_AlphabetSelect.mono_l k
  unfold pentaglotlaw01_AlphabetSelect.f
  repeat' first
      | (with_reducible exact ih0 _ _ _)
      | (with_reducible exact alphabet_Select.mono _ _ _)
      | (with_reducible exact pentaglotlaw01_awake.mono _)
      | (with_reducible exact pentaglotlaw01_few.mono _ _ _)
      | (with_reducible exact pentaglotref01_Select.mono _ _ _)
      | (with_reducible exact LeO.refl _)
      | (with_reducible exact LeO.none _)
      | (with_reducible refine LeO.ite ?_ ?_)
      | (with_reducible refine LeO.bind ?_ (fun _ => ?_))
      | exact ih0 _ _ _
      | exact alphabet_Select.mono _ _ _
      | exact pentaglotlaw01_awake.mono _
      | exact pentaglotlaw01_few.mono _ _ _
      | exact pentaglotref01_Select.mono _ _ _
      | exact LeO.none _
      | refine LeO.ite ?_ ?_
      | refine LeO.bind ?_ (fun _ => ?_)

end Go.Proofs.YtpkgelednbibpaaDoor.C
