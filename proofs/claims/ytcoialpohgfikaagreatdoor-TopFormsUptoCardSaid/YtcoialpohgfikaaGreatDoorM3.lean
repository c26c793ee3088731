/- A part of the proof of TopForms, made short by a program. -/
import Derived.Test.YtcoialpohgfikaaGreatDoorM2
namespace Go.Proofs.YtcoialpohgfikaaGreatDoor.C
open Go.RowKit Go.Proofs.YtcoialpohgfikaaGreatDoorW.PrintWords Go.Proofs.YtcoialpohgfikaaGreatDoorW.PrintLast Go.Proofs.YtcoialpohgfikaaGreatDoorW.PrintMore
attribute [local go_sem] max2_int min2_int max_two min_two max_three min_three max_four min_four
set_option linter.unusedVariables false
set_option linter.unusedSimpArgs false
def idxFrom (id : ByteArray) : List S34 → Nat → Int
  | [], _ => -1
  | x :: xs, i => if x.f0.toList = id.toList then (i : Int) else idxFrom id xs (i + 1)
def lexicon_Index.f (l : List S34) (id : ByteArray) : Option Int := if (l.length : Int) ≤ 1000000 then some (idxFrom id l 0) else none
theorem eql32_nil (W : World) (n c : Nat) : (binOp .eql 32 (.slice none n c) (.slice none 0 0)).run Tryz.prog W = .ok (.bool true) W := by
  have h : ∀ d : Nat, (Op.equalIn (d + 1) 32 (.slice none n c) (.slice none 0 0)).run Tryz.prog W = .ok true W := fun d => by simp [Op.equalIn, run_underlying Tryz.underlying32]
  simp only [binOp]
  simp [Op.equal, Op.maxDepth, h 9999]
theorem eql32_some (W : World) (a : Addr) (n c : Nat) : (binOp .eql 32 (.slice (some a) n c) (.slice none 0 0)).run Tryz.prog W = .ok (.bool false) W := by
  have h : ∀ d : Nat, (Op.equalIn (d + 1) 32 (.slice (some a) n c) (.slice none 0 0)).run Tryz.prog W = .ok false W := fun d => by simp [Op.equalIn, run_underlying Tryz.underlying32]
  simp only [binOp]
  simp [Op.equal, Op.maxDepth, h 9999]
theorem wInfo65 : (Tryz.prog.info? 65).map (fun i => (i.zero, i.size, i.bytes)) = some (some (.agg #[.string ⟨#[]⟩, .string ⟨#[]⟩]), 2, 32) := by kernel_rfl
theorem C65_nil {w : World} {n : Nat} {ws : List S65} (h : Kd.C k65 w none n ws) : ws = [] := by
  obtain ⟨h1, h2, h3⟩ := h
  by_cases c : 0 < n
  · obtain ⟨a, e, _⟩ := h3 c
    exact absurd e (by simp)
  · exact List.eq_nil_of_length_eq_zero (by omega)
theorem mt_row65 (w : World) : Kd.R k65 65 (w.alloc (.cells #[] 65)) w.heap.size (fun _ => True) (.slice (some ⟨w.heap.size, 0, none⟩) 0 0) ([] : List S65) :=
  ⟨fun _ _ => trivial, [], ⟨rfl, .inr ⟨w.heap.size, 0, #[], rfl, Nat.le_refl _, blk_new w _, Nat.le_refl _, by decide, rfl, rfl⟩⟩, Reps.none _ _⟩
def api_Feature_72.f (ws : List S65) : Option (List S65) := if (ws.length : Int) ≤ 1000000 then some ws else none
def lexicon_Find.f (l : List S34) (id : ByteArray) : Option (ByteArray × ByteArray × ByteArray × ByteArray × List S65 × Bool) :=
  if (l.length : Int) ≤ 1000000 then (if 0 ≤ idxFrom id l 0 then (if ((rd_T34 l (idxFrom id l 0)).f4.length : Int) ≤ 1000000 then some ((rd_T34 l (idxFrom id l 0)).f0, (rd_T34 l (idxFrom id l 0)).f1, (rd_T34 l (idxFrom id l 0)).f2, (rd_T34 l (idxFrom id l 0)).f3, (rd_T34 l (idxFrom id l 0)).f4, true) else none) else some ((⟨#[]⟩ : ByteArray), (⟨#[]⟩ : ByteArray), (⟨#[]⟩ : ByteArray), (⟨#[]⟩ : ByteArray), ([] : List S65), false)) else none
theorem idxFrom_neg (id : ByteArray) : ∀ (l : List S34) (i : Nat), ¬ 0 ≤ idxFrom id l i → idxFrom id l i = -1
  | [], _, _ => rfl
  | x :: xs, i, h => by
    rw [idxFrom] at h ⊢
    split at h
    · omega
    · rename_i h1
      rw [if_neg h1]
      exact idxFrom_neg id xs (i + 1) h
theorem idxFrom_lt (id : ByteArray) : ∀ (l : List S34) (i : Nat), idxFrom id l i < ((i + l.length : Nat) : Int)
  | [], i => by rw [idxFrom]; omega
  | x :: xs, i => by
    rw [idxFrom]
    split
    · simp only [List.length_cons]; omega
    · have := idxFrom_lt id xs (i + 1)
      simp only [List.length_cons] at this ⊢; omega
theorem results_c1 {fn : Func} {p : Tmp} {ty : TypeId} (h : fn.results = #[.cell p ty]) (tmps : Array Value) (w : World) (g : Nat) (t : TypeId) (cs : Array Value) (fr : Nat × Nat) (d : TypeDesc)
    (hp : tmps.getD p undef = .pointer (some ⟨g, 0, none⟩)) (hg : w.heap[g]? = some (.cells cs t fr))
    (hd : (match d with | .struct _ | .array _ _ => true | _ => false) = true) (hu : Tryz.prog.underlying ty = some d) (hi : (Tryz.prog.info? ty).map (·.size) = some cs.size) :
    (results fn tmps).run Tryz.prog w = .ok (.agg cs) w := by
  have hp' : tmps[p]?.getD undef = .pointer (some ⟨g, 0, none⟩) := by simpa using hp
  simp [results, h, hp', asAddr, run_loadVar_row w g t ty cs fr d hg hu (by revert hd; cases d <;> simp) hi]
theorem blk_snd (w : World) (o o' : Obj) : ((w.alloc o).alloc o').heap[w.heap.size + 1]? = some o' := by
  have := blk_new (w.alloc o) o'
  rwa [World.size_alloc] at this
mutual
def feature_Subsumes.l0 : Nat → List (S65) → Int → List (S65) → Int → Int → Option (Bool)
  | 0, _, _, _, _, _ => none
  | k + 1, x1, x5, x8, x9, x10 => if x10 < x9 then (if 0 ≤ x10 then (if x10 < (x8.length : Int) then (feature_Subsumes.l1 k x1 x5 x8 x9 x10 ((rd_T65 x8 x10).f0) ((rd_T65 x8 x10).f1)) else (none)) else (none)) else (some true)
def feature_Subsumes.l1 : Nat → List (S65) → Int → List (S65) → Int → Int → ByteArray → ByteArray → Option (Bool)
  | 0, _, _, _, _, _, _, _ => none
  | k + 1, x1, x5, x8, x9, x10, x109000, x109001 => if x5 < (x1.length : Int) then (if 0 ≤ x5 then (if (Op.bytesLess (((rd_T65 x1 x5).f0).toList) x109000.toList) = true then (feature_Subsumes.l1 k x1 (wrap64 (x5 + 1)) x8 x9 x10 x109000 x109001) else (if x5 = (x1.length : Int) then (some false) else (if (!((((rd_T65 x1 x5).f0).toList) == x109000.toList) || (!((((rd_T65 x1 x5).f1).toList) == x109001.toList))) = true then (some false) else (feature_Subsumes.l0 k x1 (wrap64 (x5 + 1)) x8 x9 (wrap64 (x10 + 1)))))) else (none)) else (if x5 = (x1.length : Int) then (some false) else (if 0 ≤ x5 then (none) else (none)))
end
def feature_Subsumes.f (k : Nat) (l0 : List (S65)) (l1 : List (S65)) : Option (Bool) := feature_Subsumes.l0 k l1 0 l0 (l0.length : Int) 0
def rd_slots (xs : List (List S79)) (i : Int) : List S79 := xs.getD i.toNat ([] : List S79)
def matT (k : Nat) (fs : List S65) : List S140 → Option (List Int)
  | [] => some []
  | e :: es => (feature_Subsumes.f k e.f0 fs).bind fun b => (matT k fs es).bind fun ms => some (if b = true then e.f1 :: ms else ms)
def ents : List S79 → Nat → List S140
  | [], _ => []
  | x :: xs, i => ⟨x.f0, (i : Int)⟩ :: ents xs (i + 1)
def affOk (l : List S79) : Bool := decide (l.length ≤ 1000000) && l.all fun x => decide ((x.f0.length : Int) ≤ 1000000)
def paradigm_Chosen.f (k : Nat) (_a0 : ByteArray) (_l1 : List S55) (l2 : List (List S79)) (slot : Int) (fs : List S65) : Option Int :=
  if slot < 0 then some (-1) else (if (l2.length : Int) ≤ slot then some (-1) else (if affOk (rd_slots l2 slot) = true then ((matT k fs (ents (rd_slots l2 slot) 0)).bind fun ms => some (if ms.isEmpty = true then -1 else rd ms 0)) else none))
def feature_name.l0 : Nat → ByteArray → Int → Option (Bool)
  | 0, _, _ => none
  | k + 1, x0, x3 => if x3 < (x0.size : Int) then (if 0 ≤ x3 then (if (bt x0 x3) < 97 then (if (bt x0 x3) < 48 then (if (bt x0 x3) = 45 then (feature_name.l0 k x0 (wrap64 (x3 + 1))) else (some false)) else (if (bt x0 x3) > 57 then (if (bt x0 x3) = 45 then (feature_name.l0 k x0 (wrap64 (x3 + 1))) else (some false)) else (feature_name.l0 k x0 (wrap64 (x3 + 1))))) else (if (bt x0 x3) > 122 then (if (bt x0 x3) < 48 then (if (bt x0 x3) = 45 then (feature_name.l0 k x0 (wrap64 (x3 + 1))) else (some false)) else (if (bt x0 x3) > 57 then (if (bt x0 x3) = 45 then (feature_name.l0 k x0 (wrap64 (x3 + 1))) else (some false)) else (feature_name.l0 k x0 (wrap64 (x3 + 1))))) else (feature_name.l0 k x0 (wrap64 (x3 + 1))))) else (none)) else (some (x0.toList != ([] : List UInt8)))
def feature_name.f (k : Nat) (a0 : ByteArray) : Option (Bool) := feature_name.l0 k a0 0
def slices_Index_string_string.l0 : Nat → List ByteArray → ByteArray → Int → Int → Option (Int)
  | 0, _, _, _, _ => none
  | k + 1, x0, x1, x7, x8 => if x8 < x7 then (if 0 ≤ x8 then (if x8 < (x0.length : Int) then (if x1.toList = (rdOf ByteArray.empty x0 x8).toList then (some x8) else (slices_Index_string_string.l0 k x0 x1 x7 (wrap64 (x8 + 1)))) else (none)) else (none)) else (some (-1))
def slices_Index_string_string.f (k : Nat) (l0 : List ByteArray) (a1 : ByteArray) : Option (Int) := slices_Index_string_string.l0 k l0 a1 (l0.length : Int) 0
def slices_Contains_string_string.f (k : Nat) (l0 : List ByteArray) (a1 : ByteArray) : Option (Bool) := (slices_Index_string_string.f k l0 a1).bind fun t112 => (some (decide (t112 ≥ 0)))
mutual
def feature_dimensions.l0 : Nat → List (S55) → List (S55) → Int → Int → Option (Bool)
  | 0, _, _, _, _ => none
  | k + 1, x0, x12, x13, x14 => if x14 < x13 then (if 0 ≤ x14 then (if x14 < (x12.length : Int) then ((feature_name.f k ((rd_T55 x12 x14).f0)).bind fun t115 => (if t115 = true then (if (((rd_T55 x12 x14).f1).length : Int) < 1 then (feature_dimensions.j1 k x0 x14 x12 x13 x14 true ((rd_T55 x12 x14).f0) ((rd_T55 x12 x14).f1)) else (feature_dimensions.j1 k x0 x14 x12 x13 x14 (decide ((((rd_T55 x12 x14).f1).length : Int) > 8)) ((rd_T55 x12 x14).f0) ((rd_T55 x12 x14).f1))) else (feature_dimensions.j1 k x0 x14 x12 x13 x14 true ((rd_T55 x12 x14).f0) ((rd_T55 x12 x14).f1)))) else (none)) else (none)) else (some true)
def feature_dimensions.j1 : Nat → List (S55) → Int → List (S55) → Int → Int → Bool → ByteArray → List ByteArray → Option (Bool)
  | 0, _, _, _, _, _, _, _, _ => none
  | k + 1, x0, x3, x12, x13, x14, x34, x115000, x115001 => if x34 = true then (some false) else (feature_dimensions.l1 k x0 x3 x12 x13 x14 x115001 (x115001.length : Int) 0 x115000 x115001)
def feature_dimensions.l1 : Nat → List (S55) → Int → List (S55) → Int → Int → List ByteArray → Int → Int → ByteArray → List ByteArray → Option (Bool)
  | 0, _, _, _, _, _, _, _, _, _, _ => none
  | k + 1, x0, x3, x12, x13, x14, x36, x37, x38, x115000, x115001 => if x38 < x37 then (if 0 ≤ x38 then (if x38 < (x36.length : Int) then ((feature_name.f k (rdOf ByteArray.empty x36 x38)).bind fun t117 => (if t117 = true then (if x38 ≤ (x115001.length : Int) then ((slices_Contains_string_string.f k (x115001.take (x38 : Int).toNat) (rdOf ByteArray.empty x36 x38)).bind fun t119 => (if t119 = true then (some false) else (feature_dimensions.l1 k x0 x3 x12 x13 x14 x36 x37 (wrap64 (x38 + 1)) x115000 x115001))) else (none)) else (some false))) else (none)) else (none)) else (if 0 ≤ x3 then (if x3 ≤ (x0.length : Int) then ((some (x0.take (x3 : Int).toNat : List (S55))).bind fun y120 => (feature_dimensions.l2 k x0 x12 x13 x14 y120 (y120.length : Int) 0 x115000 x115001)) else (none)) else (none))
def feature_dimensions.l2 : Nat → List (S55) → List (S55) → Int → Int → List (S55) → Int → Int → ByteArray → List ByteArray → Option (Bool)
  | 0, _, _, _, _, _, _, _, _, _ => none
  | k + 1, x0, x12, x13, x14, x57, x58, x59, x115000, x115001 => if x59 < x58 then (if 0 ≤ x59 then (if x59 < (x57.length : Int) then (if ((rd_T55 x57 x59).f0).toList = x115000.toList then (some false) else (feature_dimensions.l2 k x0 x12 x13 x14 x57 x58 (wrap64 (x59 + 1)) x115000 x115001)) else (none)) else (none)) else (feature_dimensions.l0 k x0 x12 x13 (wrap64 (x14 + 1)))
end
def feature_dimensions.f (k : Nat) (l0 : List (S55)) : Option (Bool) := if (l0.length : Int) > 4 then (some false) else (feature_dimensions.l0 k l0 l0 (l0.length : Int) 0)
def cmp_isNaN_string.f (a0 : ByteArray) : Option (Bool) := some (a0.toList != a0.toList)
def cmp_Compare_string.f (a0 : ByteArray) (a1 : ByteArray) : Option (Int) := (cmp_isNaN_string.f a0).bind fun t126 => ((cmp_isNaN_string.f a1).bind fun t127 => (if t126 = true then (if t127 = true then (some 0) else (some (-1))) else (if t127 = true then (some 1) else (if (Op.bytesLess a0.toList a1.toList) = true then (some (-1)) else (if (Op.bytesLess a1.toList a0.toList) = true then (some 1) else (some 0))))))
def prodD : List S55 → Int → Int
  | [], n => n
  | d :: ds, n => prodD ds (wrap64 (n * (d.f1.length : Int)))
def paradigm_Count.f (k : Nat) (_a0 : ByteArray) (l1 : List S55) (_l2 : List (List S79)) : Option Int := (feature_dimensions.f k l1).bind fun b => some (if b = true then prodD l1 1 else 0)
def feature_Get.l0 : Nat → ByteArray → List (S65) → Int → Int → Option (ByteArray × Bool)
  | 0, _, _, _, _ => none
  | k + 1, x1, x8, x9, x10 => if x10 < x9 then (if 0 ≤ x10 then (if x10 < (x8.length : Int) then (if ((rd_T65 x8 x10).f0).toList = x1.toList then (some ((rd_T65 x8 x10).f1, true)) else (feature_Get.l0 k x1 x8 x9 (wrap64 (x10 + 1)))) else (none)) else (none)) else (some ((⟨#[]⟩ : ByteArray), false))
def feature_Get.f (k : Nat) (l0 : List (S65)) (a1 : ByteArray) : Option (ByteArray × Bool) := feature_Get.l0 k a1 l0 (l0.length : Int) 0
mutual
def paradigm_Number.j0 : Nat → List (S65) → Bool → ByteArray → List (S55) → List (List (S79)) → Option (Int)
  | 0, _, _, _, _, _ => none
  | k + 1, x1, x22, x131000, x131001, x131002 => if x22 = true then (some (-1)) else (paradigm_Number.l0 k x1 0 x131001 (x131001.length : Int) 0)
def paradigm_Number.l0 : Nat → List (S65) → Int → List (S55) → Int → Int → Option (Int)
  | 0, _, _, _, _, _ => none
  | k + 1, x1, x5, x24, x25, x26 => if x26 < x25 then (if 0 ≤ x26 then (if x26 < (x24.length : Int) then ((feature_Get.f k x1 ((rd_T55 x24 x26).f0)).bind fun bt134 => ((slices_Index_string_string.f k ((rd_T55 x24 x26).f1) bt134.1).bind fun t136 => (if bt134.2 = true then (if t136 < 0 then (some (-1)) else (paradigm_Number.l0 k x1 (wrap64 ((wrap64 (x5 * (((rd_T55 x24 x26).f1).length : Int))) + t136)) x24 x25 (wrap64 (x26 + 1)))) else (some (-1))))) else (none)) else (none)) else (paradigm_Number.l1 k x1 x5 1)
def paradigm_Number.l1 : Nat → List (S65) → Int → Int → Option (Int)
  | 0, _, _, _ => none
  | k + 1, x1, x5, x11 => if x11 < (x1.length : Int) then (if 0 ≤ (wrap64 (x11 - 1)) then (if (wrap64 (x11 - 1)) < (x1.length : Int) then (if 0 ≤ x11 then (if ((Op.bytesLess (((rd_T65 x1 (wrap64 (x11 - 1))).f0).toList) (((rd_T65 x1 x11).f0).toList)) = true) then (paradigm_Number.l1 k x1 x5 (wrap64 (x11 + 1))) else (some (-1))) else (none)) else (none)) else (none)) else (some x5)
end
def paradigm_Number.f (k : Nat) (a0_0 : ByteArray) (l0_1 : List (S55)) (l0_2 : List (List (S79))) (l1 : List (S65)) : Option (Int) := if (l1.length : Int) = (l0_1.length : Int) then ((paradigm_Count.f k a0_0 l0_1 l0_2).bind fun t131 => (paradigm_Number.j0 k l1 (t131 == 0) a0_0 l0_1 l0_2)) else (paradigm_Number.j0 k l1 true a0_0 l0_1 l0_2)
def feature_Valid.l0 : Nat → List (S65) → List (S65) → Int → Int → Option (Bool)
  | 0, _, _, _, _ => none
  | k + 1, x0, x5, x6, x7 => if x7 < x6 then (if 0 ≤ x7 then (if x7 < (x5.length : Int) then ((feature_name.f k ((rd_T65 x5 x7).f0)).bind fun t141 => (if t141 = true then ((feature_name.f k ((rd_T65 x5 x7).f1)).bind fun t142 => (if t142 = true then (if x7 > 0 then (if 0 ≤ (wrap64 (x7 - 1)) then (if (wrap64 (x7 - 1)) < (x0.length : Int) then (if ((Op.bytesLess (((rd_T65 x0 (wrap64 (x7 - 1))).f0).toList) (((rd_T65 x5 x7).f0).toList)) = true) then (feature_Valid.l0 k x0 x5 x6 (wrap64 (x7 + 1))) else (some false)) else (none)) else (none)) else (feature_Valid.l0 k x0 x5 x6 (wrap64 (x7 + 1)))) else (some false))) else (some false))) else (none)) else (none)) else (some (decide ((x0.length : Int) ≤ 8)))
def feature_Valid.f (k : Nat) (l0 : List (S65)) : Option (Bool) := feature_Valid.l0 k l0 l0 (l0.length : Int) 0
def uniG : Nat → List S65 → List S65 → List S65 → List S65 × Bool
  | 0, _, _, out => (out, true)
  | _ + 1, [], [], out => (out, true)
  | n + 1, a :: xs, [], out => uniG n xs [] (out ++ [a])
  | n + 1, [], b :: ys, out => uniG n [] ys (out ++ [b])
  | n + 1, a :: xs, b :: ys, out => if Op.bytesLess a.f0.toList b.f0.toList = true then uniG n xs (b :: ys) (out ++ [a]) else (if Op.bytesLess b.f0.toList a.f0.toList = true then uniG n (a :: xs) ys (out ++ [b]) else (if a.f1.toList = b.f1.toList then uniG n xs ys (out ++ [a]) else ([], false)))
def feature_Unify.f (a b : List S65) : Option (List S65 × Bool) := if (a.length : Int) ≤ 1000000 then (if (b.length : Int) ≤ 1000000 then some (uniG (a.length + b.length + 1) a b []) else none) else none
theorem rd65_at (l : List S65) (m : Nat) (h : m < l.length) : l[m] = rd_T65 l (m : Int) := by simp [rd_T65, List.getD, List.getElem?_eq_getElem h]
theorem make32 (q : Nat) (hq : (q : Int) ≤ 2000000) (W : World) : (Instr.makeSlice 32 (.int .i64 0) (.int .i64 q)).run Tryz.prog W = .ok (.slice (some ⟨W.heap.size, 0, none⟩) 0 q) (W.alloc (.cells (madeCells (Value.agg #[.string ⟨#[]⟩, .string ⟨#[]⟩]).cells (q * 2)) 65)) := by
  obtain ⟨i0, hi, hzz⟩ := Option.map_eq_some_iff.1 wInfo65
  simp only [Prod.mk.injEq] at hzz
  obtain ⟨hz0, hz1, hz2⟩ := hzz
  have := run_make (P := Tryz.prog) W 32 65 i0 _ Tryz.underlying32 hi hz0 .i64 .i64 (0 : Int) (q : Int) (by omega) (by omega) (by rw [hz2]; omega) (by omega)
  rwa [hz1, Int.toNat_natCast, Int.toNat_zero] at this
theorem made_row65 (w : World) (q : Nat) (hq : (q : Int) ≤ 2000000) : Kd.R k65 65 (w.alloc (.cells (madeCells (Value.agg #[.string ⟨#[]⟩, .string ⟨#[]⟩]).cells (q * 2)) 65)) w.heap.size (fun _ => True) (.slice (some ⟨w.heap.size, 0, none⟩) 0 q) ([] : List S65) :=
  ⟨fun _ _ => trivial, [], ⟨rfl, .inr ⟨w.heap.size, q, _, rfl, Nat.le_refl _, blk_new w _, Nat.zero_le _, by unfold maxLen; omega, by simp [madeCells]; rfl, rfl⟩⟩, Reps.none _ _⟩
def paradigm_Merge.f (k : Nat) (a0_0 : ByteArray) (l0_1 : List (S55)) (l0_2 : List (List (S79))) (l1 : List (S65)) (l2 : List (S65)) : Option ((List (S65)) × Bool) := (paradigm_Number.f k a0_0 l0_1 l0_2 l1).bind fun t145 => (if t145 < 0 then (some (([] : List (S65)), false)) else ((feature_Valid.f k l2).bind fun t146 => (if t146 = true then ((feature_Unify.f l1 l2).bind fun bt147 => (some (bt147.1, bt147.2))) else (some (([] : List (S65)), false)))))
def utf8_RuneCountInString.f (s : ByteArray) : Option Int := if s.size ≤ 1000000000000 then some ((rns s).length : Int) else none
def paradigm_Underlying.l0 : Nat → List (S65) → ByteArray → Int → Int → ByteArray → List (S55) → List (List (S79)) → Option (ByteArray × Int)
  | 0, _, _, _, _, _, _, _ => none
  | k + 1, x10, x12, x28, x29, x152000, x152001, x152002 => if x29 < x28 then ((paradigm_Chosen.f k x152000 x152001 x152002 x29 x10).bind fun t156 => (if t156 ≥ 0 then (if 0 ≤ x29 then (if x29 < (x152002.length : Int) then (if 0 ≤ t156 then (if t156 < ((rd_L11 x152002 x29).length : Int) then (if ((rd_T79 (rd_L11 x152002 x29) t156).f1).size + x12.size ≤ 9223372036854775807 then (if (((rd_T79 (rd_L11 x152002 x29) t156).f1) ++ x12).size + ((rd_T79 (rd_L11 x152002 x29) t156).f2).size ≤ 9223372036854775807 then (paradigm_Underlying.l0 k x10 ((((rd_T79 (rd_L11 x152002 x29) t156).f1) ++ x12) ++ ((rd_T79 (rd_L11 x152002 x29) t156).f2)) x28 (wrap64 (x29 + 1)) x152000 x152001 x152002) else (none)) else (none)) else (none)) else (none)) else (none)) else (none)) else (paradigm_Underlying.l0 k x10 x12 x28 (wrap64 (x29 + 1)) x152000 x152001 x152002))) else ((utf8_RuneCountInString.f x12).bind fun t160 => (if t160 > 40 then (some ((⟨#[]⟩ : ByteArray), 2)) else (some (x12, 0))))
def paradigm_Underlying.f (k : Nat) (a0_0 : ByteArray) (l0_1 : List (S55)) (l0_2 : List (List (S79))) (a1 : ByteArray) (l2 : List (S65)) (l3 : List (S65)) : Option (ByteArray × Int) := (paradigm_Merge.f k a0_0 l0_1 l0_2 l3 l2).bind fun bt152 => (if bt152.2 = true then (paradigm_Underlying.l0 k bt152.1 a1 (l0_2.length : Int) 0 a0_0 l0_1 l0_2) else (some ((⟨#[]⟩ : ByteArray), 1)))
def utf8_ValidRune.j0 : Nat → Int → Bool → Option (Bool)
  | 0, _, _ => none
  | k + 1, x0, x3 => if x3 = true then (some true) else (if 57343 < x0 then (if x0 ≤ 1114111 then (some true) else (some false)) else (some false))
def utf8_ValidRune.f (k : Nat) (a0 : Int) : Option (Bool) := if 0 ≤ a0 then (utf8_ValidRune.j0 k a0 (decide (a0 < 55296))) else (utf8_ValidRune.j0 k a0 false)
def rewrite_letters_has.l0 : Nat → Int → List (S48) → Int → Int → Option (Bool)
  | 0, _, _, _, _ => none
  | k + 1, x1, x7, x8, x9 => if x9 < x8 then (if 0 ≤ x9 then (if x9 < (x7.length : Int) then (if ((rd_T48 x7 x9).f0) = x1 then (some true) else (rewrite_letters_has.l0 k x1 x7 x8 (wrap64 (x9 + 1)))) else (none)) else (none)) else (some false)
def rewrite_letters_has.f (k : Nat) (l0 : List (S48)) (a1 : Int) : Option (Bool) := rewrite_letters_has.l0 k a1 l0 (l0.length : Int) 0
mutual
def rewrite_letters_admissible.j0 : Nat → List (S48) → Bool → Option (Bool)
  | 0, _, _ => none
  | k + 1, x0, x12 => if x12 = true then (some false) else (rewrite_letters_admissible.l0 k x0 x0 (x0.length : Int) 0)
def rewrite_letters_admissible.l0 : Nat → List (S48) → List (S48) → Int → Int → Option (Bool)
  | 0, _, _, _, _ => none
  | k + 1, x0, x13, x14, x15 => if x15 < x14 then (if 0 ≤ x15 then (if x15 < (x13.length : Int) then (if ((rd_T48 x13 x15).f0) ≤ 32 then (some false) else ((utf8_ValidRune.f k ((rd_T48 x13 x15).f0)).bind fun t165 => (if t165 = true then (if x15 ≤ (x0.length : Int) then ((rewrite_letters_has.f k (x0.take (x15 : Int).toNat) ((rd_T48 x13 x15).f0)).bind fun t170 => (if t170 = true then (some false) else (rewrite_letters_admissible.l0 k x0 x13 x14 (wrap64 (x15 + 1))))) else (none)) else (some false)))) else (none)) else (none)) else (some true)
end
def rewrite_letters_admissible.f (k : Nat) (l0 : List (S48)) : Option (Bool) := if (l0.length : Int) < 1 then (rewrite_letters_admissible.j0 k l0 true) else (rewrite_letters_admissible.j0 k l0 (decide ((l0.length : Int) > 65)))
def firstIn (l : List S48) (m : Nat) (r : Int) : Option Int := Option.map (fun n : Nat => (n : Int)) ((l.take m).findIdx? (fun x => x.f0 == r))
def distinct (l : List S48) : Nat → Nat
  | 0 => 0
  | m + 1 => distinct l m + (if (firstIn l m (rd_T48 l m).f0).isSome then 0 else 1)
def Tb (w : World) (b n size : Nat) (f : Int → Option Int) : Prop :=
  ∃ D : DataW Unit, w.ownsMap Tryz.prog 21 (plainElem Tryz.prog 3) b n D ∧ Maps.Tidy D ∧ Maps.size D = size ∧ (∀ r : Int, Maps.has D (.int .i32 r) = (f r).isSome) ∧ ∀ r : Int, D.atKey (.int .i32 r) (.lit (.int .i64 0)) = .lit (.int .i64 ((f r).getD 0))
theorem Tb.kept {w w' : World} {b n m : Nat} {f : Int → Option Int} {row : Option Nat} (h : Tb w b n m f) (hg : w.grownBy w' row) (hne : some b ≠ row) : Tb w' b n m f := by
  obtain ⟨D, h1, h2, h3, h4, h5⟩ := h
  exact ⟨D, h1.kept hg hne, h2, h3, h4, h5⟩
theorem Tb.step {w w' : World} {b n m : Nat} {f : Int → Option Int} (h : Tb w b n m f) (hb : Below w.heap.size w w') : Tb w' b n m f := h.kept (grown_of_below hb none) (by simp)
theorem Tb.lt {w : World} {b n m : Nat} {f : Int → Option Int} (h : Tb w b n m f) : b < w.heap.size := by
  obtain ⟨D, h1, _⟩ := h
  exact h1.lt
theorem Tb.congr {w : World} {b n m m' : Nat} {f g : Int → Option Int} (h : Tb w b n m f) (e : ∀ x, f x = g x) (hm : m = m') : Tb w b n m' g := by
  have : f = g := funext e
  subst hm
  exact this ▸ h
theorem zeroI (w : World) : (zeroValue 3).run Tryz.prog w = .ok (.int .i64 0) w := by kernel_rfl
theorem keyR : Maps.Keyed Tryz.prog 21 := Maps.int_keyed Tryz.underlying21
theorem keyR_at {r : Int} (h : (Lit.int .i32 r).wf = true) : keyOf Tryz.prog 21 (.int .i32 r) = some (.int .i32 r) := Maps.keyOf_int_mk Tryz.underlying21 h
theorem Tb.look {w : World} {b n m : Nat} {f : Int → Option Int} (h : Tb w b n m f) {r : Int} (hr : (Lit.int .i32 r).wf = true) : (Instr.lookup 124 (.map (some b)) (.int .i32 r) true).run Tryz.prog w = .ok (.tuple #[.int .i64 ((f r).getD 0), .bool (f r).isSome]) w := by
  obtain ⟨D, h1, h2, h3, h4, h5⟩ := h
  obtain ⟨v, ps, hrun, hv⟩ := h1.look_ok keyR Tryz.underlying124 (zeroI w) (zd := .lit (.int .i64 0)) (zp := []) (plainElem_int Tryz.underlying3 (by decide)) (keyR_at hr)
  rw [h5 r] at hv
  obtain ⟨c, rfl, hc, _⟩ := plainElem_int_inv Tryz.underlying3 hv
  have := congrArg Prod.fst hc
  simp only [DataW.lit.injEq, Lit.int.injEq, true_and] at this
  rw [hrun, h4 r, this]
theorem Tb.length {w : World} {b n m : Nat} {f : Int → Option Int} (h : Tb w b n m f) (ty : TypeId) : (Builtin.len_ #[124] ty #[.map (some b)]).run Tryz.prog w = .ok (.int .i64 (m : Int)) w := by
  obtain ⟨D, h1, h2, h3, h4, h5⟩ := h
  rw [← h3]
  exact h1.len Tryz.underlying124 ty
theorem tb_made (w : World) : Tb (w.alloc (.map #[] 0)) w.heap.size 0 0 (fun _ => none) :=
  ⟨.map [], World.ownsMap_made _ _ _ _, Maps.tidy_empty, rfl, fun _ => rfl, fun _ => rfl⟩
theorem Tb.put {b n m : Nat} {f : Int → Option Int} {D : DataW Unit} {w1 : World} {r c : Int} (h2 : Maps.Tidy D) (h3 : Maps.size D = m) (h4 : ∀ r : Int, Maps.has D (.int .i32 r) = (f r).isSome) (h5 : ∀ r : Int, D.atKey (.int .i32 r) (.lit (.int .i64 0)) = .lit (.int .i64 ((f r).getD 0))) (hf : f r = none)
    (h1 : w1.ownsMap Tryz.prog 21 (plainElem Tryz.prog 3) b n (D.put (.int .i32 r) (.lit (.int .i64 c)))) : Tb w1 b n (m + 1) (fun x => if x = r then some c else f x) := by
  have hk : WideAt.IsKeyLit (.int .i32 r) := trivial
  refine ⟨_, h1, h2.put hk _, ?_, fun t => ?_, fun t => ?_⟩
  · rw [Maps.size_put h2, h4 r, hf, h3]
    simp
  · by_cases e : t = r
    · subst e
      rw [Maps.has_put_same h2.isMap hk]
      simp
    · rw [Maps.has_put_other (fun x => e (by injection x)), h4 t]
      simp [e]
  · by_cases e : t = r
    · subst e
      rw [Maps.atKey_put_same h2.isMap hk]
      simp
    · rw [Maps.atKey_put_other (fun x => e (by injection x)), h5 t]
      simp [e]
theorem firstIn_next {l : List S48} {m : Nat} (h : m < l.length) (hn : firstIn l m (rd_T48 l m).f0 = none) (x : Int) : (if x = (rd_T48 l m).f0 then some (m : Int) else firstIn l m x) = firstIn l (m + 1) x := by
  have hx : rd_T48 l m = l[m] := by simp [rd_T48, List.getD, List.getElem?_eq_getElem h]
  unfold firstIn at hn ⊢
  rw [hx] at hn ⊢
  rw [List.take_succ_eq_append_getElem h, List.findIdx?_append]
  by_cases e : x = l[m].f0
  · subst e
    rw [if_pos rfl]
    simp only [Option.map_eq_none_iff] at hn
    rw [hn]
    simp [List.findIdx?_cons, Nat.min_eq_left (Nat.le_of_lt h)]
  · rw [if_neg e]
    simp [List.findIdx?_cons, Ne.symm e]
theorem firstIn_stay {l : List S48} {m : Nat} (h : m < l.length) (hn : (firstIn l m (rd_T48 l m).f0).isSome = true) (x : Int) : firstIn l m x = firstIn l (m + 1) x := by
  have hx : rd_T48 l m = l[m] := by simp [rd_T48, List.getD, List.getElem?_eq_getElem h]
  unfold firstIn at hn ⊢
  rw [hx] at hn
  rw [List.take_succ_eq_append_getElem h, List.findIdx?_append]
  by_cases e : x = l[m].f0
  · subst e
    obtain ⟨v, hv⟩ := Option.isSome_iff_exists.mp hn
    obtain ⟨u, hu, _⟩ := Option.map_eq_some_iff.mp hv
    rw [hu]
    rfl
  · simp [List.findIdx?_cons, Ne.symm e]
theorem wf_small {x : Int} (h0 : 0 ≤ x) (h1 : x ≤ 1000) : (Lit.int .i64 x).wf = true := by
  have a : IntKind.i64.min = -9223372036854775808 := by decide
  have b : IntKind.i64.max = 9223372036854775807 := by decide
  simp only [Lit.wf, a, b]
  simp
  omega
def good (l : List S48) : Bool := l.all fun x => (Lit.int .i32 x.f0).wf
theorem good_at {l : List S48} (h : good l = true) {i : Int} (h0 : 0 ≤ i) (h1 : i < (l.length : Int)) : (Lit.int .i32 (rd_T48 l i).f0).wf = true := by
  have hj : i.toNat < l.length := by omega
  have := List.all_eq_true.mp h l[i.toNat] (List.getElem_mem hj)
  simpa [rd_T48, List.getD, List.getElem?_eq_getElem hj] using this
def okA (l : List S48) : Bool := good l && decide ((l.length : Int) ≤ 1000)
theorem okA_at {l : List S48} (h : okA l = true) : good l = true ∧ (l.length : Int) ≤ 1000 := by
  unfold okA at h
  simpa using h
def isLetter (l : List S48) (r : Int) : Bool := (firstIn l l.length r).isSome
def okS (l : List S48) (s : ByteArray) : Bool := okA l && decide (s.size ≤ 1000000000)
theorem okS_at {l : List S48} {s : ByteArray} (h : okS l s = true) : (good l = true ∧ (l.length : Int) ≤ 1000) ∧ s.size ≤ 1000000000 := by
  unfold okS at h
  have h1 : okA l = true ∧ s.size ≤ 1000000000 := by simpa using h
  exact ⟨okA_at h1.1, h1.2⟩
def laysValid_ren : Go.Shelf.Ren := ⟨fun | 196 => 76 | 259 => 94 | n => n, fun | 9 => 9 | 4 => 4 | 3 => 3 | 5 => 5 | 12 => 12 | 119 => 167 | 0 => 0 | 46 => 132 | 139 => 170 | 138 => 169 | 53 => 161 | n => n, fun | 3 => 0 | 4 => 1 | n => n⟩
theorem laysValid : Go.Proofs.Lays.n196 Tryz.prog laysValid_ren :=
  { mixed := by kernel_rfl,
    f196 := Tryz.func76.trans (congrArg some (by kernel_rfl)),
    f259 := Tryz.func94.trans (congrArg some (by kernel_rfl)),
    t0 := Tryz.underlying0,
    a0 := Tryz.isAgg0,
    z0 := Tryz.sizeOf0,
    v0 := Tryz.zeroValue0,
    t3 := Tryz.underlying3,
    a3 := Tryz.isAgg3,
    z3 := Tryz.sizeOf3,
    v3 := Tryz.zeroValue3,
    t4 := Tryz.underlying4,
    a4 := Tryz.isAgg4,
    z4 := Tryz.sizeOf4,
    v4 := Tryz.zeroValue4,
    t5 := Tryz.underlying5,
    a5 := Tryz.isAgg5,
    z5 := Tryz.sizeOf5,
    v5 := Tryz.zeroValue5,
    t9 := Tryz.underlying9,
    a9 := Tryz.isAgg9,
    z9 := Tryz.sizeOf9,
    v9 := Tryz.zeroValue9,
    t12 := Tryz.underlying12,
    a12 := Tryz.isAgg12,
    z12 := Tryz.sizeOf12,
    v12 := Tryz.zeroValue12,
    t46 := Tryz.underlying132,
    a46 := Tryz.isAgg132,
    z46 := Tryz.sizeOf132,
    v46 := Tryz.zeroValue132,
    t53 := Tryz.underlying161,
    a53 := Tryz.isAgg161,
    z53 := Tryz.sizeOf161,
    v53 := Tryz.zeroValue161,
    t119 := Tryz.underlying167,
    a119 := Tryz.isAgg167,
    z119 := Tryz.sizeOf167,
    t138 := Tryz.underlying169,
    a138 := Tryz.isAgg169,
    z138 := Tryz.sizeOf169,
    v138 := Tryz.zeroValue169,
    t139 := Tryz.underlying170,
    a139 := Tryz.isAgg170,
    z139 := Tryz.sizeOf170,
    v139 := Tryz.zeroValue170,
    g3 := by kernel_rfl,
    g4 := by kernel_rfl }
def Glob (w : World) : Prop := Lib.Utf8Tabs (laysValid_ren.g 3) (laysValid_ren.g 4) w
theorem Glob.below {w w1 : World} (h : Glob w) (hb : Below w.heap.size w w1) : Glob w1 :=
  ⟨fun c hc => pw_cell_below hb (h.1 c hc), fun i hi => ⟨pw_cell_below hb (h.2 i hi).1, pw_cell_below hb (h.2 i hi).2⟩⟩
def utf8_ValidString.f (s : ByteArray) : Option Bool := if s.size ≤ 9223372036854775807 then some (Lib.validD s.data.toList) else none
def hasL (l : List S48) (r : Int) : Bool := l.any (fun x => x.f0 == r)
theorem has_l0 (l : List S48) (r : Int) (hl : (l.length : Int) ≤ 1000000000) : ∀ (n i : Nat), l.length ≤ i + n → i ≤ l.length → rewrite_letters_has.l0 (n + 1) r l (l.length : Int) (i : Int) = some ((l.drop i).any (fun x => x.f0 == r)) := by
  intro n
  induction n with
  | zero =>
    intro i h1 h2
    obtain rfl : i = l.length := by omega
    simp [rewrite_letters_has.l0]
  | succ n ih =>
    intro i h1 h2
    rw [rewrite_letters_has.l0]
    by_cases c : i < l.length
    · have c' : (i : Int) < (l.length : Int) := by omega
      have c0 : (0 : Int) ≤ (i : Int) := by omega
      have hx : (rd_T48 l (i : Int)) = l[i] := by simp [rd_T48, List.getD, List.getElem?_eq_getElem c]
      have hw : wrap64 ((i : Int) + 1) = ((i + 1 : Nat) : Int) := by unfold wrap64; omega
      rw [if_pos c', if_pos c0, if_pos c', hx, List.drop_eq_getElem_cons c, List.any_cons]
      by_cases e : l[i].f0 = r
      · rw [if_pos e]
        simp [e]
      · rw [if_neg e, hw, ih (i + 1) (by omega) (by omega)]
        simp [e]
    · have c' : ¬ (i : Int) < (l.length : Int) := by omega
      rw [if_neg c', List.drop_eq_nil_of_le (by omega)]
      rfl
theorem has_ok (l : List S48) (r : Int) (hl : (l.length : Int) ≤ 1000000000) : rewrite_letters_has.f (l.length + 1) l r = some (hasL l r) :=
  has_l0 l r hl l.length 0 (by omega) (by omega)
def consOK (l : List S48) (n : Nat) (s : ByteArray) : Bool := Lib.validD s.data.toList && ((rns s).all (hasL l) && decide (((rns s).length : Int) ≤ (n : Int)))
def rewrite_letters_isWord.f (l : List S48) (s : ByteArray) : Option Bool := if okS l s = true then some (consOK l 40 s) else none
def okRune (r : Int) : Bool := if 0 ≤ r then (if r < 55296 then true else (if 57343 < r then decide (r ≤ 1114111) else false)) else (if 57343 < r then decide (r ≤ 1114111) else false)
theorem vr_ok (k : Nat) (r : Int) : utf8_ValidRune.f (k + 1) r = some (okRune r) := by
  unfold utf8_ValidRune.f okRune
  simp only [utf8_ValidRune.j0]
  by_cases a : 0 ≤ r <;> by_cases b : r < 55296 <;> by_cases c : 57343 < r <;> by_cases d : r ≤ 1114111 <;> simp [a, b, c, d]
def propTo (l : List S48) : Nat → Bool
  | 0 => true
  | m + 1 => propTo l m && ((firstIn l m (rd_T48 l m).f0).isNone && (!decide ((rd_T48 l m).f0 ≤ 32) && okRune (rd_T48 l m).f0))
def proper (l : List S48) : Bool := propTo l l.length && decide ((l.length : Int) ≤ 65)
theorem propTo_not {l : List S48} {m : Nat} (h : propTo l m = false) : ∀ n, m ≤ n → propTo l n = false := by
  intro n hn
  induction n with
  | zero => obtain rfl : m = 0 := by omega
            exact h
  | succ n ih =>
    by_cases e : m = n + 1
    · exact e ▸ h
    · rw [propTo, ih (by omega), Bool.false_and]
theorem proper_not {l : List S48} {m : Nat} (hm : m < l.length) (h : propTo l (m + 1) = false) : proper l = false := by
  unfold proper
  rw [propTo_not h _ hm, Bool.false_and]
def overOK (f : Int → Option Int) (s : ByteArray) : Bool := Lib.validD s.data.toList && (rns s).all (fun r => (f r).isSome)
def overL (f : Int → Option Int) (s : ByteArray) : List Int := if overOK f s = true then (rns s).map (fun r => (f r).getD 0) else []
def smallP (p : List S91) : Bool := p.all fun x => decide (x.f1.size ≤ 1000000000)
def okP (l : List S48) (p : List S91) : Bool := proper l && (decide ((p.length : Int) ≤ 3) && p.all (fun x => overOK (firstIn l l.length) x.f1))
def pattern_Valid.f (l : List S48) (p : List S91) : Option Bool := if (okA l && smallP p) = true then some (okP l p) else none
def rewrite_Valid.g (l : List S48) (fr : Int) (tw : ByteArray) (le ri : List S91) : Bool := (fr == 0 || hasL l fr) && (consOK l 4 tw && (okP l le && okP l ri))
def rewrite_Valid.f (k : Nat) (l : List S48) (fr : Int) (tw : ByteArray) (le ri : List S91) (ini fin : Bool) : Option Bool := if (okS l tw && (smallP le && smallP ri)) = true then ((rewrite_letters_admissible.f k l).bind fun t => if t = true then some (rewrite_Valid.g l fr tw le ri) else some false) else none
mutual
def rewrite_result.l0 : Nat → List Int → List Int → List Int → List Int → Int → Int → ByteArray → List (S91) → List (S91) → Bool → Bool → Option (ByteArray)
  | 0, _, _, _, _, _, _, _, _, _, _, _ => none
  | k + 1, x1, x7, x8, x9, x10, x172000, x172001, x172002, x172003, x172004, x172005 => if x10 ≤ (x7.length : Int) then (if (x1.length : Int) > 0 then (if 0 < (x1.length : Int) then (rewrite_result.j1 k x1 x7 x8 x9 x10 ((rd x1 0) == x10) x172000 x172001 x172002 x172003 x172004 x172005) else (none)) else (rewrite_result.j1 k x1 x7 x8 x9 x10 false x172000 x172001 x172002 x172003 x172004 x172005)) else (some (strOfRunes x9))
def rewrite_result.j1 : Nat → List Int → List Int → List Int → List Int → Int → Bool → Int → ByteArray → List (S91) → List (S91) → Bool → Bool → Option (ByteArray)
  | 0, _, _, _, _, _, _, _, _, _, _, _, _ => none
  | k + 1, x1, x7, x8, x9, x10, x11, x172000, x172001, x172002, x172003, x172004, x172005 => if x11 = true then (if 1 ≤ (x1.length : Int) then ((some (x1.drop 1 : List Int)).bind fun y179 => (if x9.length + x8.length < 35184372088832 then ((some (x9 ++ x8 : List Int)).bind fun y184 => (if x10 < (x7.length : Int) then (if x172000 = 0 then (if 0 ≤ x10 then (if y184.length < 35184372088832 then (rewrite_result.l0 k y179 x7 x8 (y184 ++ [rd x7 x10]) (wrap64 (x10 + 1)) x172000 x172001 x172002 x172003 x172004 x172005) else (none)) else (none)) else (rewrite_result.l0 k y179 x7 x8 y184 (wrap64 (x10 + 1)) x172000 x172001 x172002 x172003 x172004 x172005)) else (rewrite_result.l0 k y179 x7 x8 y184 (wrap64 (x10 + 1)) x172000 x172001 x172002 x172003 x172004 x172005))) else (none))) else (none)) else (if x10 < (x7.length : Int) then (if 0 ≤ x10 then (if x9.length < 35184372088832 then (rewrite_result.l0 k x1 x7 x8 (x9 ++ [rd x7 x10]) (wrap64 (x10 + 1)) x172000 x172001 x172002 x172003 x172004 x172005) else (none)) else (none)) else (rewrite_result.l0 k x1 x7 x8 x9 (wrap64 (x10 + 1)) x172000 x172001 x172002 x172003 x172004 x172005))
end
def rewrite_result.f (k : Nat) (a0_0 : Int) (a0_1 : ByteArray) (l0_2 : List (S91)) (l0_3 : List (S91)) (a0_4 : Bool) (a0_5 : Bool) (l1 : List Int) (a2 : ByteArray) : Option (ByteArray) := if a2.size ≤ 70368744177664 then (if a0_1.size ≤ 70368744177664 then (rewrite_result.l0 k l1 (rns a2) (rns a0_1) ([] : List Int) 0 a0_0 a0_1 l0_2 l0_3 a0_4 a0_5) else (none)) else (none)
def pattern_read.f (l : List S48) (p : List S91) (s : ByteArray) : Option (List Int × Bool) := if (okS l s && smallP p) = true then some (if okP l p = true then (overL (firstIn l l.length) s, overOK (firstIn l l.length) s) else ([], false)) else none
theorem okP_proper {l : List S48} {p : List S91} (h : okP l p = true) : proper l = true := by
  unfold okP at h
  rw [Bool.and_eq_true] at h
  exact h.1
def pattern_closed.l0 : Nat → Int → List (S91) → Int → Int → Option (Int)
  | 0, _, _, _, _ => none
  | k + 1, x1, x7, x8, x9 => if x9 < x8 then (if 0 ≤ x9 then (if x9 < (x7.length : Int) then (if (rd_T91 x7 x9).f3 = true then (if (Go.bits .and .u8 (shr .u8 x1 x9) 1) = 1 then (if 0 ≤ (wrap64 (x9 + 1)) then (pattern_closed.l0 k (Go.bits .or .u8 x1 (shl .u8 1 (wrap64 (x9 + 1)))) x7 x8 (wrap64 (x9 + 1))) else (none)) else (pattern_closed.l0 k x1 x7 x8 (wrap64 (x9 + 1)))) else (pattern_closed.l0 k x1 x7 x8 (wrap64 (x9 + 1)))) else (none)) else (none)) else (some x1)
def pattern_closed.f (k : Nat) (l0 : List (S91)) (a1 : Int) : Option (Int) := pattern_closed.l0 k a1 l0 (l0.length : Int) 0
def admB (m : Int) (s : ByteArray) (ng : Bool) (r c : Int) : Bool := (if Go.bits .and .u32 c m = m then (if s.toList = [] then true else (rns s).any (fun x => x == r)) else false) != ng
def pattern_admits.f (a0_0 : Int) (a0_1 : ByteArray) (a0_2 : Bool) (a0_3 : Bool) (a1_0 : Int) (a1_1 : Int) : Option Bool := if a0_1.size ≤ 1000000000000 then some (admB a0_0 a0_1 a0_2 a1_0 a1_1) else none
def admF (p : List S91) (l : List S48) (j i : Nat) : Bool := admB (rd_T91 p j).f0 (rd_T91 p j).f1 (rd_T91 p j).f2 (rd_T48 l i).f0 (rd_T48 l i).f1
def TblR (w : World) (gt n q : Nat) (f : Nat → Nat → Bool) : Prop := ∀ j, j < q → ∃ g, w.cell? ⟨gt, j, none⟩ = some (.slice (some ⟨g, 0, none⟩) n n) ∧ ∀ i, i < n → w.cell? ⟨g, i, none⟩ = some (.bool (f j i))
theorem TblR.below {w w' : World} {gt n q : Nat} {f : Nat → Nat → Bool} (h : TblR w gt n q f) (hb : Below w.heap.size w w') : TblR w' gt n q f := fun j hj => by
  obtain ⟨g, h1, h2⟩ := h j hj
  exact ⟨g, pw_cell_below hb h1, fun i hi => pw_cell_below hb (h2 i hi)⟩
theorem closed_ends (p : List S91) (hp : (p.length : Int) ≤ 1000) : ∀ (n i : Nat) (x : Int), p.length ≤ i + n → ∃ r, pattern_closed.l0 (n + 1) x p (p.length : Int) (i : Int) = some r := by
  intro n
  induction n with
  | zero =>
    intro i x h
    rw [pattern_closed.l0, if_neg (by omega)]
    exact ⟨_, rfl⟩
  | succ n ih =>
    intro i x h
    rw [pattern_closed.l0]
    by_cases c : i < p.length
    · have c1 : (i : Int) < (p.length : Int) := by omega
      have c0 : (0 : Int) ≤ (i : Int) := by omega
      have hw : wrap64 ((i : Int) + 1) = ((i + 1 : Nat) : Int) := by unfold wrap64; omega
      rw [if_pos c1, if_pos c0, if_pos c1, hw]
      have c2 : (0 : Int) ≤ ((i + 1 : Nat) : Int) := by omega
      split
      · split
        · first | exact ih (i + 1) _ (by omega) | (rw [if_pos c2]; exact ih (i + 1) _ (by omega))
        · exact ih (i + 1) _ (by omega)
      · exact ih (i + 1) _ (by omega)
    · rw [if_neg (by omega)]
      exact ⟨_, rfl⟩
def closeP (p : List S91) (s : Int) : Int := (pattern_closed.f (p.length + 1) p s).getD 0
theorem closeP_ok (p : List S91) (s : Int) (hp : (p.length : Int) ≤ 1000) : pattern_closed.f (p.length + 1) p s = some (closeP p s) := by
  obtain ⟨r, hr⟩ := closed_ends p hp p.length 0 s (by omega)
  unfold closeP
  have : pattern_closed.f (p.length + 1) p s = some r := hr
  rw [this]
  rfl
def nextTo (p : List S91) (row : Nat → Bool) (s : Int) : Nat → Int
  | 0 => 0
  | m + 1 => if Go.bits .and .u8 (shr .u8 s m) 1 = 0 then nextTo p row s m else (if row m = true then (if (rd_T91 p m).f3 = true then Go.bits .or .u8 (nextTo p row s m) (shl .u8 1 m) else Go.bits .or .u8 (nextTo p row s m) (shl .u8 1 ((m : Int) + 1))) else nextTo p row s m)
def lens (p : List S91) (f : Nat → Nat → Bool) : List Int → Nat → Int → List Int → List Int
  | [], i, s, out => if Go.bits .and .u8 (s / 2 ^ min p.length 8) 1 = 1 then out ++ [(i : Int)] else out
  | x :: xs, i, s, out => if s = 0 then (if Go.bits .and .u8 (s / 2 ^ min p.length 8) 1 = 1 then out ++ [(i : Int)] else out) else lens p f xs (i + 1) (closeP p (nextTo p (fun j => f j x.toNat) s p.length)) (if Go.bits .and .u8 (s / 2 ^ min p.length 8) 1 = 1 then out ++ [(i : Int)] else out)
def okLet (l : List S48) (ls : List Int) : Bool := ls.all fun x => decide (0 ≤ x) && decide (x < (l.length : Int))
def lensOf (l : List S48) (p : List S91) (ls : List Int) : List Int := lens p (admF p l) ls 0 (closeP p 1) []
def pattern_lengths.f (l : List S48) (p : List S91) (ls : List Int) : Option (List Int) := if (okA l && (smallP p && (decide ((p.length : Int) ≤ 7) && (okLet l ls && decide ((ls.length : Int) ≤ 1000000000))))) = true then some (lensOf l p ls) else none
def pattern_Matches.f (l0 : List (S48)) (l1 : List (S91)) (a2 : ByteArray) : Option (Bool) := (pattern_read.f l0 l1 a2).bind fun bt197 => (if bt197.2 = true then ((pattern_lengths.f l0 l1 bt197.1).bind fun t201 => (if (t201.length : Int) > 0 then (if 0 ≤ (wrap64 ((t201.length : Int) - 1)) then (if (wrap64 ((t201.length : Int) - 1)) < (t201.length : Int) then (some ((rd t201 (wrap64 ((t201.length : Int) - 1))) == (bt197.1.length : Int))) else (none)) else (none)) else (some false))) else (some false))
theorem eql87_nil (W : World) (n c : Nat) : (binOp .eql 87 (.slice none n c) (.slice none 0 0)).run Tryz.prog W = .ok (.bool true) W := by
  have h : ∀ d : Nat, (Op.equalIn (d + 1) 87 (.slice none n c) (.slice none 0 0)).run Tryz.prog W = .ok true W := fun d => by simp [Op.equalIn, run_underlying Tryz.underlying87]
  simp only [binOp]
  simp [Op.equal, Op.maxDepth, h 9999]
theorem eql87_some (W : World) (a : Addr) (n c : Nat) : (binOp .eql 87 (.slice (some a) n c) (.slice none 0 0)).run Tryz.prog W = .ok (.bool false) W := by
  have h : ∀ d : Nat, (Op.equalIn (d + 1) 87 (.slice (some a) n c) (.slice none 0 0)).run Tryz.prog W = .ok false W := fun d => by simp [Op.equalIn, run_underlying Tryz.underlying87]
  simp only [binOp]
  simp [Op.equal, Op.maxDepth, h 9999]
theorem wInfo91 : (Tryz.prog.info? 91).map (fun i => (i.zero, i.size, i.bytes)) = some (some (.agg #[.int .u32 0, .string ⟨#[]⟩, .bool false, .bool false]), 4, 32) := by kernel_rfl
theorem C91_nil {w : World} {n : Nat} {ws : List S91} (h : Kd.C k91 w none n ws) : ws = [] := by
  obtain ⟨h1, h2, h3⟩ := h
  by_cases c : 0 < n
  · obtain ⟨a, e, _⟩ := h3 c
    exact absurd e (by simp)
  · exact List.eq_nil_of_length_eq_zero (by omega)
theorem mt_row91 (w : World) : Kd.R k91 91 (w.alloc (.cells #[] 91)) w.heap.size (fun _ => True) (.slice (some ⟨w.heap.size, 0, none⟩) 0 0) ([] : List S91) :=
  ⟨fun _ _ => trivial, [], ⟨rfl, .inr ⟨w.heap.size, 0, #[], rfl, Nat.le_refl _, blk_new w _, Nat.le_refl _, by decide, rfl, rfl⟩⟩, Reps.none _ _⟩
def api_Item_106.f (ws : List S91) : Option (List S91) := if (ws.length : Int) ≤ 1000000 then some ws else none
def api_Item_107.l0 : Nat → List (S91) → Int → Int → Option ((List (S91)))
  | 0, _, _, _ => none
  | k + 1, x0, x2, x3 => if x2 < x3 then (if 0 ≤ x3 then (if x3 < (x0.length : Int) then (if 0 ≤ x2 then (if x2 < (x0.length : Int) then (api_Item_107.l0 k ((x0.set (x2 : Int).toNat (⟨(rd_T91 x0 x3).f0, (rd_T91 x0 x3).f1, (rd_T91 x0 x3).f2, (rd_T91 x0 x3).f3⟩ : S91)).set (x3 : Int).toNat (⟨(rd_T91 x0 x2).f0, (rd_T91 x0 x2).f1, (rd_T91 x0 x2).f2, (rd_T91 x0 x2).f3⟩ : S91)) (wrap64 (x2 + 1)) (wrap64 (x3 - 1))) else (none)) else (none)) else (none)) else (none)) else (some x0)
def api_Item_107.f (k : Nat) (l0 : List (S91)) : Option ((List (S91))) := api_Item_107.l0 k l0 0 (wrap64 ((l0.length : Int) - 1))
def slices_Reverse_int_int.l0 : Nat → List Int → Int → Int → Option (List Int)
  | 0, _, _, _ => none
  | k + 1, x0, x2, x3 => if x2 < x3 then (if 0 ≤ x3 then (if x3 < (x0.length : Int) then (if 0 ≤ x2 then (if x2 < (x0.length : Int) then (slices_Reverse_int_int.l0 k ((x0.set (x2 : Int).toNat (rd x0 x3)).set (x3 : Int).toNat (rd x0 x2)) (wrap64 (x2 + 1)) (wrap64 (x3 - 1))) else (none)) else (none)) else (none)) else (none)) else (some x0)
def slices_Reverse_int_int.f (k : Nat) (l0 : List Int) : Option (List Int) := slices_Reverse_int_int.l0 k l0 0 (wrap64 ((l0.length : Int) - 1))
def pattern_Suffixes.f (k : Nat) (l0 : List (S48)) (l1 : List (S91)) (a2 : ByteArray) : Option (List Int) := (pattern_read.f l0 l1 a2).bind fun bt213 => (if bt213.2 = true then ((api_Item_106.f l1).bind fun t217 => ((api_Item_107.f k t217).bind fun t220 => ((slices_Reverse_int_int.f k bt213.1).bind fun t221 => ((pattern_lengths.f l0 t220 t221).bind fun t222 => (some t222))))) else (some ([] : List Int)))
def rewrite_follows.f (k : Nat) (l0 : List (S48)) (a1_0 : Int) (a1_1 : ByteArray) (l1_2 : List (S91)) (l1_3 : List (S91)) (a1_4 : Bool) (a1_5 : Bool) (a2 : ByteArray) : Option (Bool) := if a1_4 = true then ((pattern_Matches.f l0 l1_2 a2).bind fun t226 => (some t226)) else ((pattern_Suffixes.f k l0 l1_2 a2).bind fun t227 => (some (decide ((t227.length : Int) > 0))))
def pattern_Prefixes.f (l0 : List (S48)) (l1 : List (S91)) (a2 : ByteArray) : Option (List Int) := (pattern_read.f l0 l1 a2).bind fun bt230 => (if bt230.2 = true then ((pattern_lengths.f l0 l1 bt230.1).bind fun t234 => (some t234)) else (some ([] : List Int)))
def rewrite_precedes.f (l0 : List (S48)) (a1_0 : Int) (a1_1 : ByteArray) (l1_2 : List (S91)) (l1_3 : List (S91)) (a1_4 : Bool) (a1_5 : Bool) (a2 : ByteArray) : Option (Bool) := if a1_5 = true then ((pattern_Matches.f l0 l1_3 a2).bind fun t238 => (some t238)) else ((pattern_Prefixes.f l0 l1_3 a2).bind fun t239 => (some (decide ((t239.length : Int) > 0))))
mutual
def rewrite_Sites.j0 : Nat → List (S48) → ByteArray → Bool → Int → ByteArray → List (S91) → List (S91) → Bool → Bool → Option (List Int)
  | 0, _, _, _, _, _, _, _, _, _ => none
  | k + 1, x0, x2, x20, x243000, x243001, x243002, x243003, x243004, x243005 => if x20 = true then (some ([] : List Int)) else (if x2.size ≤ 70368744177664 then (rewrite_Sites.l0 k x0 (rns x2) ([] : List Int) 0 x243000 x243001 x243002 x243003 x243004 x243005) else (none))
def rewrite_Sites.l0 : Nat → List (S48) → List Int → List Int → Int → Int → ByteArray → List (S91) → List (S91) → Bool → Bool → Option (List Int)
  | 0, _, _, _, _, _, _, _, _, _, _ => none
  | k + 1, x0, x7, x8, x9, x243000, x243001, x243002, x243003, x243004, x243005 => if x9 ≤ (x7.length : Int) then (if x243000 = 0 then (rewrite_Sites.j2 k x0 x7 x8 x9 x9 x243000 x243001 x243002 x243003 x243004 x243005) else (if x9 = (x7.length : Int) then (rewrite_Sites.l0 k x0 x7 x8 (wrap64 (x9 + 1)) x243000 x243001 x243002 x243003 x243004 x243005) else (if 0 ≤ x9 then (if x9 < (x7.length : Int) then (if (rd x7 x9) = x243000 then (rewrite_Sites.j2 k x0 x7 x8 x9 (wrap64 (x9 + 1)) x243000 x243001 x243002 x243003 x243004 x243005) else (rewrite_Sites.l0 k x0 x7 x8 (wrap64 (x9 + 1)) x243000 x243001 x243002 x243003 x243004 x243005)) else (none)) else (none)))) else (some x8)
def rewrite_Sites.j2 : Nat → List (S48) → List Int → List Int → Int → Int → Int → ByteArray → List (S91) → List (S91) → Bool → Bool → Option (List Int)
  | 0, _, _, _, _, _, _, _, _, _, _, _ => none
  | k + 1, x0, x7, x8, x9, x10, x243000, x243001, x243002, x243003, x243004, x243005 => if 0 ≤ x9 then (if x9 ≤ (x7.length : Int) then ((rewrite_follows.f k x0 x243000 x243001 x243002 x243003 x243004 x243005 (strOfRunes (x7.take (x9 : Int).toNat))).bind fun t253 => (if t253 = true then (if 0 ≤ x10 then (if x10 ≤ (x7.length : Int) then ((rewrite_precedes.f x0 x243000 x243001 x243002 x243003 x243004 x243005 (strOfRunes (x7.drop (x10 : Int).toNat))).bind fun t258 => (if t258 = true then (if x8.length < 17592186044416 then (rewrite_Sites.l0 k x0 x7 (x8 ++ [x9]) (wrap64 (x9 + 1)) x243000 x243001 x243002 x243003 x243004 x243005) else (none)) else (rewrite_Sites.l0 k x0 x7 x8 (wrap64 (x9 + 1)) x243000 x243001 x243002 x243003 x243004 x243005))) else (none)) else (none)) else (rewrite_Sites.l0 k x0 x7 x8 (wrap64 (x9 + 1)) x243000 x243001 x243002 x243003 x243004 x243005))) else (none)) else (none)
end
def rewrite_Sites.f (k : Nat) (l0 : List (S48)) (a1_0 : Int) (a1_1 : ByteArray) (l1_2 : List (S91)) (l1_3 : List (S91)) (a1_4 : Bool) (a1_5 : Bool) (a2 : ByteArray) : Option (List Int) := (rewrite_Valid.f k l0 a1_0 a1_1 l1_2 l1_3 a1_4 a1_5).bind fun t243 => (if t243 = true then ((rewrite_letters_isWord.f l0 a2).bind fun t244 => (rewrite_Sites.j0 k l0 a2 (!t244) a1_0 a1_1 l1_2 l1_3 a1_4 a1_5)) else (rewrite_Sites.j0 k l0 a2 true a1_0 a1_1 l1_2 l1_3 a1_4 a1_5))
def rewrite_Apply.j0 : Nat → List (S48) → ByteArray → Bool → Int → ByteArray → List (S91) → List (S91) → Bool → Bool → Option (ByteArray × Int)
  | 0, _, _, _, _, _, _, _, _, _ => none
  | k + 1, x0, x2, x18, x263000, x263001, x263002, x263003, x263004, x263005 => if x18 = true then (some ((⟨#[]⟩ : ByteArray), 1)) else ((rewrite_Sites.f k x0 x263000 x263001 x263002 x263003 x263004 x263005 x2).bind fun t265 => ((rewrite_result.f k x263000 x263001 x263002 x263003 x263004 x263005 t265 x2).bind fun t268 => ((utf8_RuneCountInString.f t268).bind fun t269 => (if t269 > 40 then (some ((⟨#[]⟩ : ByteArray), 2)) else (some (t268, 0))))))
def rewrite_Apply.f (k : Nat) (l0 : List (S48)) (a1_0 : Int) (a1_1 : ByteArray) (l1_2 : List (S91)) (l1_3 : List (S91)) (a1_4 : Bool) (a1_5 : Bool) (a2 : ByteArray) : Option (ByteArray × Int) := (rewrite_Valid.f k l0 a1_0 a1_1 l1_2 l1_3 a1_4 a1_5).bind fun t263 => (if t263 = true then ((rewrite_letters_isWord.f l0 a2).bind fun t264 => (rewrite_Apply.j0 k l0 a2 (!t264) a1_0 a1_1 l1_2 l1_3 a1_4 a1_5)) else (rewrite_Apply.j0 k l0 a2 true a1_0 a1_1 l1_2 l1_3 a1_4 a1_5))
mutual
def rewrite_Trace.j0 : Nat → List (S48) → List (S89) → ByteArray → Bool → Option (List ByteArray × Int)
  | 0, _, _, _, _ => none
  | k + 1, x0, x1, x2, x28 => if x28 = true then (some (([] : List ByteArray), 1)) else (rewrite_Trace.l0 k x0 x1 x2 x1 (x1.length : Int) 0)
def rewrite_Trace.l0 : Nat → List (S48) → List (S89) → ByteArray → List (S89) → Int → Int → Option (List ByteArray × Int)
  | 0, _, _, _, _, _, _ => none
  | k + 1, x0, x1, x2, x29, x30, x31 => if x31 < x30 then (if 0 ≤ x31 then (if x31 < (x29.length : Int) then ((rewrite_Valid.f k x0 ((rd_T89 x29 x31).f0) ((rd_T89 x29 x31).f1) ((rd_T89 x29 x31).f2) ((rd_T89 x29 x31).f3) ((rd_T89 x29 x31).f4) ((rd_T89 x29 x31).f5)).bind fun t274 => (if t274 = true then (rewrite_Trace.l0 k x0 x1 x2 x29 x30 (wrap64 (x31 + 1))) else (some (([] : List ByteArray), 1)))) else (none)) else (none)) else (rewrite_Trace.l1 k x0 (([x2] : List ByteArray)) x1 (x1.length : Int) 0)
def rewrite_Trace.l1 : Nat → List (S48) → List ByteArray → List (S89) → Int → Int → Option (List ByteArray × Int)
  | 0, _, _, _, _, _ => none
  | k + 1, x0, x10, x42, x43, x44 => if x44 < x43 then (if 0 ≤ x44 then (if x44 < (x42.length : Int) then (if 0 ≤ (wrap64 ((x10.length : Int) - 1)) then (if (wrap64 ((x10.length : Int) - 1)) < (x10.length : Int) then ((rewrite_Apply.f k x0 ((rd_T89 x42 x44).f0) ((rd_T89 x42 x44).f1) ((rd_T89 x42 x44).f2) ((rd_T89 x42 x44).f3) ((rd_T89 x42 x44).f4) ((rd_T89 x42 x44).f5) (rdOf ByteArray.empty x10 (wrap64 ((x10.length : Int) - 1)))).bind fun bt281 => (if bt281.2 = 0 then (if x10.length < 8796093022208 then (rewrite_Trace.l1 k x0 (x10 ++ [bt281.1]) x42 x43 (wrap64 (x44 + 1))) else (none)) else (some (([] : List ByteArray), bt281.2)))) else (none)) else (none)) else (none)) else (none)) else (some (x10, 0))
end
def rewrite_Trace.f (k : Nat) (l0 : List (S48)) (l1 : List (S89)) (a2 : ByteArray) : Option (List ByteArray × Int) := if (l1.length : Int) > 64 then (rewrite_Trace.j0 k l0 l1 a2 true) else ((rewrite_letters_admissible.f k l0).bind fun t270 => (if t270 = true then ((rewrite_letters_isWord.f l0 a2).bind fun t271 => (rewrite_Trace.j0 k l0 l1 a2 (!t271))) else (rewrite_Trace.j0 k l0 l1 a2 true)))
def rewrite_Cascade.f (k : Nat) (l0 : List (S48)) (l1 : List (S89)) (a2 : ByteArray) : Option (ByteArray × Int) := (rewrite_Trace.f k l0 l1 a2).bind fun bt286 => (if bt286.2 = 0 then (if 0 ≤ (wrap64 ((bt286.1.length : Int) - 1)) then (if (wrap64 ((bt286.1.length : Int) - 1)) < (bt286.1.length : Int) then (some (rdOf ByteArray.empty bt286.1 (wrap64 ((bt286.1.length : Int) - 1)), 0)) else (none)) else (none)) else (some ((⟨#[]⟩ : ByteArray), bt286.2)))
def morphology_words_paradigm.l0 : Nat → ByteArray → List (S38) → Int → Int → Option (ByteArray × (List (S55)) × (List (List (S79))) × Bool)
  | 0, _, _, _, _ => none
  | k + 1, x1, x10, x11, x12 => if x12 < x11 then (if 0 ≤ x12 then (if x12 < (x10.length : Int) then (if ((rd_T38 x10 x12).f0).toList = x1.toList then (some ((rd_T38 x10 x12).f0, (rd_T38 x10 x12).f1, (rd_T38 x10 x12).f2, true)) else (morphology_words_paradigm.l0 k x1 x10 x11 (wrap64 (x12 + 1)))) else (none)) else (none)) else (some ((⟨#[]⟩ : ByteArray), ([] : List (S55)), ([] : List (List (S79))), false))
def morphology_words_paradigm.f (k : Nat) (l0_0 : List (S48)) (l0_1 : List (S89)) (l0_2 : List (S38)) (l0_3 : List (S34)) (a1 : ByteArray) : Option (ByteArray × (List (S55)) × (List (List (S79))) × Bool) := morphology_words_paradigm.l0 k a1 l0_2 (l0_2.length : Int) 0
def morphology_words_form.f (k : Nat) (l0_0 : List (S48)) (l0_1 : List (S89)) (l0_2 : List (S38)) (l0_3 : List (S34)) (a1_0 : ByteArray) (a1_1 : ByteArray) (a1_2 : ByteArray) (a1_3 : ByteArray) (l1_4 : List (S65)) (l2 : List (S65)) : Option (ByteArray × Bool) := if a1_3.toList = ([] : List UInt8) then ((rewrite_Cascade.f k l0_0 l0_1 a1_2).bind fun bt297 => (some (bt297.1, (bt297.2 == 0)))) else ((morphology_words_paradigm.f k l0_0 l0_1 l0_2 l0_3 a1_3).bind fun bt299 => ((paradigm_Underlying.f k bt299.1 bt299.2.1 bt299.2.2.1 a1_2 l1_4 l2).bind fun bt308 => (if bt308.2 = 0 then ((rewrite_Cascade.f k l0_0 l0_1 bt308.1).bind fun bt310 => (some (bt310.1, (bt310.2 == 0)))) else (some ((⟨#[]⟩ : ByteArray), false)))))
def alphabet_IsWord.f (l : List S48) (s : ByteArray) : Option Bool := if okS l s = true then some (Lib.validD s.data.toList && ((rns s).all (isLetter l) && decide (((rns s).length : Int) ≤ 40))) else none
def pentaglottop_awake06.f : Option Bool := some true
mutual
def pentaglottop_fewRules.l0 : Nat → List (S48) → List (S89) → Int → Int → Option (Bool)
  | 0, _, _, _, _ => none
  | k + 1, x0, x1, x2, x7 => if x7 < (x1.length : Int) then (if 0 ≤ x7 then (if (((rd_T89 x1 x7).f2).length : Int) > 3 then (pentaglottop_fewRules.j1 k x0 x1 x2 x7 true ((rd_T89 x1 x7).f0) ((rd_T89 x1 x7).f1) ((rd_T89 x1 x7).f2) ((rd_T89 x1 x7).f3) ((rd_T89 x1 x7).f4) ((rd_T89 x1 x7).f5)) else (if (((rd_T89 x1 x7).f3).length : Int) > 3 then (pentaglottop_fewRules.j1 k x0 x1 x2 x7 true ((rd_T89 x1 x7).f0) ((rd_T89 x1 x7).f1) ((rd_T89 x1 x7).f2) ((rd_T89 x1 x7).f3) ((rd_T89 x1 x7).f4) ((rd_T89 x1 x7).f5)) else (pentaglottop_fewRules.j1 k x0 x1 x2 x7 (decide ((((rd_T89 x1 x7).f1).size : Int) > 16)) ((rd_T89 x1 x7).f0) ((rd_T89 x1 x7).f1) ((rd_T89 x1 x7).f2) ((rd_T89 x1 x7).f3) ((rd_T89 x1 x7).f4) ((rd_T89 x1 x7).f5)))) else (none)) else (if (x0.length : Int) ≤ 6 then (some (decide ((x1.length : Int) ≤ x2))) else (some false))
def pentaglottop_fewRules.j1 : Nat → List (S48) → List (S89) → Int → Int → Bool → Int → ByteArray → List (S91) → List (S91) → Bool → Bool → Option (Bool)
  | 0, _, _, _, _, _, _, _, _, _, _, _ => none
  | k + 1, x0, x1, x2, x7, x36, x317000, x317001, x317002, x317003, x317004, x317005 => if x36 = true then (some false) else (pentaglottop_fewRules.l1 k x0 x1 x2 x7 0 x317000 x317001 x317002 x317003 x317004 x317005)
def pentaglottop_fewRules.l1 : Nat → List (S48) → List (S89) → Int → Int → Int → Int → ByteArray → List (S91) → List (S91) → Bool → Bool → Option (Bool)
  | 0, _, _, _, _, _, _, _, _, _, _, _ => none
  | k + 1, x0, x1, x2, x7, x9, x317000, x317001, x317002, x317003, x317004, x317005 => if x9 < (x317002.length : Int) then (if 0 ≤ x9 then (if (((rd_T91 x317002 x9).f1).size : Int) > 40 then (some false) else (pentaglottop_fewRules.l1 k x0 x1 x2 x7 (wrap64 (x9 + 1)) x317000 x317001 x317002 x317003 x317004 x317005)) else (none)) else (pentaglottop_fewRules.l2 k x0 x1 x2 x7 0 x317000 x317001 x317002 x317003 x317004 x317005)
def pentaglottop_fewRules.l2 : Nat → List (S48) → List (S89) → Int → Int → Int → Int → ByteArray → List (S91) → List (S91) → Bool → Bool → Option (Bool)
  | 0, _, _, _, _, _, _, _, _, _, _, _ => none
  | k + 1, x0, x1, x2, x7, x10, x317000, x317001, x317002, x317003, x317004, x317005 => if x10 < (x317003.length : Int) then (if 0 ≤ x10 then (if (((rd_T91 x317003 x10).f1).size : Int) > 40 then (some false) else (pentaglottop_fewRules.l2 k x0 x1 x2 x7 (wrap64 (x10 + 1)) x317000 x317001 x317002 x317003 x317004 x317005)) else (none)) else (pentaglottop_fewRules.l0 k x0 x1 x2 (wrap64 (x7 + 1)))
end
def pentaglottop_fewRules.f (k : Nat) (l0 : List (S48)) (l1 : List (S89)) (a2 : Int) : Option (Bool) := pentaglottop_fewRules.l0 k l0 l1 a2 0
mutual
def pentaglottop_fewWords.l0 : Nat → Int → List (S48) → List (S89) → List (S38) → List (S34) → Option (Bool)
  | 0, _, _, _, _, _ => none
  | k + 1, x3, x320000, x320001, x320002, x320003 => if x3 < (x320002.length : Int) then (pentaglottop_fewWords.l1 k x3 1 0 x320000 x320001 x320002 x320003) else (if (x320003.length : Int) ≤ 8 then (if (x320002.length : Int) ≤ 3 then (if (x320000.length : Int) ≤ 30 then ((pentaglottop_fewRules.f k ([] : List (S48)) x320001 4).bind fun t320 => (some t320)) else (some false)) else (some false)) else (some false))
def pentaglottop_fewWords.l1 : Nat → Int → Int → Int → List (S48) → List (S89) → List (S38) → List (S34) → Option (Bool)
  | 0, _, _, _, _, _, _, _ => none
  | k + 1, x3, x4, x5, x320000, x320001, x320002, x320003 => if 0 ≤ x3 then (if x3 < (x320002.length : Int) then (if x5 < (((rd_T38 x320002 x3).f1).length : Int) then (if x5 < 4 then (if 0 ≤ x5 then (pentaglottop_fewWords.l1 k x3 (wrap64 (x4 * (mn (((rd_T55 ((rd_T38 x320002 x3).f1) x5).f1).length : Int) 50))) (wrap64 (x5 + 1)) x320000 x320001 x320002 x320003) else (none)) else (if x4 > 40 then (some false) else (if (((rd_T38 x320002 x3).f1).length : Int) > 4 then (some false) else (if (((rd_T38 x320002 x3).f2).length : Int) > 6 then (some false) else (pentaglottop_fewWords.l0 k (wrap64 (x3 + 1)) x320000 x320001 x320002 x320003))))) else (if x4 > 40 then (some false) else (if (((rd_T38 x320002 x3).f1).length : Int) > 4 then (some false) else (if (((rd_T38 x320002 x3).f2).length : Int) > 6 then (some false) else (pentaglottop_fewWords.l0 k (wrap64 (x3 + 1)) x320000 x320001 x320002 x320003))))) else (none)) else (none)
end
def pentaglottop_fewWords.f (k : Nat) (l0_0 : List (S48)) (l0_1 : List (S89)) (l0_2 : List (S38)) (l0_3 : List (S34)) : Option (Bool) := pentaglottop_fewWords.l0 k 0 l0_0 l0_1 l0_2 l0_3
def alphabet_Valid.l0 : Nat → List S48 → Int → Option Bool
  | 0, _, _ => none
  | k + 1, l, i => if i < (l.length : Int) then (if (rd_T48 l i).f0 ≤ 32 then some false else ((utf8_ValidRune.f k (rd_T48 l i).f0).bind fun t => (if t = true then alphabet_Valid.l0 k l (i + 1) else some false))) else (if good l = true then some ((distinct l l.length : Int) == (l.length : Int)) else none)
def alphabet_Valid.f (k : Nat) (l : List S48) : Option Bool := if (l.length : Int) < 1 then some false else (if (l.length : Int) > 64 then some false else alphabet_Valid.l0 k l 0)
mutual
def paradigm_Valid.j0 : Nat → List (S48) → Bool → ByteArray → List (S55) → List (List (S79)) → Option (Bool)
  | 0, _, _, _, _, _ => none
  | k + 1, x0, x30, x329000, x329001, x329002 => if x30 = true then (some false) else (paradigm_Valid.l0 k x0 x329002 (x329002.length : Int) 0)
def paradigm_Valid.l0 : Nat → List (S48) → List (List (S79)) → Int → Int → Option (Bool)
  | 0, _, _, _, _ => none
  | k + 1, x0, x32, x33, x34 => if x34 < x33 then (if 0 ≤ x34 then (if x34 < (x32.length : Int) then (if ((rd_L11 x32 x34).length : Int) > 64 then (some false) else (paradigm_Valid.l1 k x0 x32 x33 x34 (rd_L11 x32 x34) ((rd_L11 x32 x34).length : Int) 0)) else (none)) else (none)) else (some true)
def paradigm_Valid.l1 : Nat → List (S48) → List (List (S79)) → Int → Int → List (S79) → Int → Int → Option (Bool)
  | 0, _, _, _, _, _, _, _ => none
  | k + 1, x0, x32, x33, x34, x41, x42, x43 => if x43 < x42 then (if 0 ≤ x43 then (if x43 < (x41.length : Int) then ((feature_Valid.f k ((rd_T79 x41 x43).f0)).bind fun t338 => (if t338 = true then ((alphabet_IsWord.f x0 ((rd_T79 x41 x43).f1)).bind fun t339 => (if t339 = true then ((alphabet_IsWord.f x0 ((rd_T79 x41 x43).f2)).bind fun t340 => (if t340 = true then (paradigm_Valid.l1 k x0 x32 x33 x34 x41 x42 (wrap64 (x43 + 1))) else (some false))) else (some false))) else (some false))) else (none)) else (none)) else (paradigm_Valid.l0 k x0 x32 x33 (wrap64 (x34 + 1)))
end
def paradigm_Valid.f (k : Nat) (l0 : List (S48)) (a1_0 : ByteArray) (l1_1 : List (S55)) (l1_2 : List (List (S79))) : Option (Bool) := (alphabet_Valid.f k l0).bind fun t329 => (if t329 = true then ((feature_Valid.f k (([(⟨a1_0, (⟨#[120]⟩ : ByteArray)⟩ : S65)] : List (S65)))).bind fun t333 => (if t333 = true then ((paradigm_Count.f k a1_0 l1_1 l1_2).bind fun t334 => (if t334 = 0 then (paradigm_Valid.j0 k l0 true a1_0 l1_1 l1_2) else (paradigm_Valid.j0 k l0 (decide ((l1_2.length : Int) > 8)) a1_0 l1_1 l1_2))) else (paradigm_Valid.j0 k l0 true a1_0 l1_1 l1_2))) else (paradigm_Valid.j0 k l0 true a1_0 l1_1 l1_2))
def lexicon_name.l0 : Nat → ByteArray → Int → Int → Option (Bool)
  | 0, _, _, _ => none
  | k + 1, x0, x6, x7 => if x7 < x6 then (if 0 ≤ x7 then (if x7 < (x0.size : Int) then (if (bt x0 x7) ≥ 97 then (if (bt x0 x7) ≤ 122 then (lexicon_name.l0 k x0 x6 (wrap64 (x7 + 1))) else (if (bt x0 x7) ≥ 48 then (if (bt x0 x7) ≤ 57 then (lexicon_name.l0 k x0 x6 (wrap64 (x7 + 1))) else (if (bt x0 x7) = 45 then (lexicon_name.l0 k x0 x6 (wrap64 (x7 + 1))) else (if ((bt x0 x7) = 95) then (lexicon_name.l0 k x0 x6 (wrap64 (x7 + 1))) else (some false)))) else (if (bt x0 x7) = 45 then (lexicon_name.l0 k x0 x6 (wrap64 (x7 + 1))) else (if ((bt x0 x7) = 95) then (lexicon_name.l0 k x0 x6 (wrap64 (x7 + 1))) else (some false))))) else (if (bt x0 x7) ≥ 48 then (if (bt x0 x7) ≤ 57 then (lexicon_name.l0 k x0 x6 (wrap64 (x7 + 1))) else (if (bt x0 x7) = 45 then (lexicon_name.l0 k x0 x6 (wrap64 (x7 + 1))) else (if ((bt x0 x7) = 95) then (lexicon_name.l0 k x0 x6 (wrap64 (x7 + 1))) else (some false)))) else (if (bt x0 x7) = 45 then (lexicon_name.l0 k x0 x6 (wrap64 (x7 + 1))) else (if ((bt x0 x7) = 95) then (lexicon_name.l0 k x0 x6 (wrap64 (x7 + 1))) else (some false))))) else (none)) else (none)) else (some (x0.toList != ([] : List UInt8)))
def lexicon_name.f (k : Nat) (a0 : ByteArray) : Option (Bool) := lexicon_name.l0 k a0 (a0.size : Int) 0
def isSeen (seen : List (List UInt8)) (x : List UInt8) : Bool := seen.any fun y => y == x
def lexBad (k : Nat) (a : List S48) (seen : List (List UInt8)) (x : S34) : Option Bool :=
  if isSeen seen x.f0.toList = true then some true else ((lexicon_name.f k x.f0).bind fun t1 => if t1 = false then some true else ((lexicon_name.f k x.f1).bind fun t2 => if t2 = false then some true else
    (((if x.f3.toList = [] then some true else lexicon_name.f k x.f3)).bind fun t3 => if t3 = false then some true else ((alphabet_IsWord.f a x.f2).bind fun t4 => if t4 = false then some true else ((feature_Valid.f k x.f4).bind fun t5 => some (!t5))))))
def lexGo (k : Nat) (a : List S48) : List (List UInt8) → List S34 → Option Bool
  | _, [] => some true
  | seen, x :: xs => if x.f0.size ≤ 140737488355328 then ((lexBad k a seen x).bind fun b => if b = true then some false else lexGo k a (x.f0.toList :: seen) xs) else none
def lexicon_Valid.f (k : Nat) (a : List S48) (l : List S34) : Option Bool := (alphabet_Valid.f k a).bind fun t => if t = false then some false else (if (l.length : Int) > 256 then some false else lexGo k a [] l)
def SeenIds (w : World) (b n : Nat) (f : List UInt8 → Bool) : Prop :=
  ∃ D : DataW Unit, w.ownsMap Tryz.prog 9 (plainElem Tryz.prog 4) b n D ∧ Maps.IsMap D ∧ ∀ s : ByteArray, D.atKey (.string s.data.toList) (.lit (.bool false)) = .lit (.bool (f s.toList))
theorem SeenIds.kept {w w' : World} {b n : Nat} {f : List UInt8 → Bool} {row : Option Nat} (h : SeenIds w b n f) (hg : w.grownBy w' row) (hne : some b ≠ row) : SeenIds w' b n f := by
  obtain ⟨D, h1, h2, h3⟩ := h
  exact ⟨D, h1.kept hg hne, h2, h3⟩
theorem SeenIds.step {w w' : World} {b n : Nat} {f : List UInt8 → Bool} (h : SeenIds w b n f) (hb : Below w.heap.size w w') : SeenIds w' b n f := h.kept (grown_of_below hb none) (by simp)
theorem idsLaw : Maps.Keyed Tryz.prog 9 := Maps.string_keyed Tryz.underlying9
theorem idsZero (w : World) : (zeroValue 4).run Tryz.prog w = .ok (.bool false) w := by kernel_rfl
theorem ids_inj {s t : ByteArray} (h : s.toList = t.toList) : s = t := by
  rw [ByteArray.toList_eq, ByteArray.toList_eq] at h
  cases s; cases t
  simp_all
mutual
def morphology_words_parts.j0 : Nat → Bool → List (S48) → List (S89) → List (S38) → List (S34) → Option (Bool)
  | 0, _, _, _, _, _ => none
  | k + 1, x25, x342000, x342001, x342002, x342003 => if x25 = true then (some false) else (morphology_words_parts.l0 k x342001 (x342001.length : Int) 0 x342000 x342001 x342002 x342003)
def morphology_words_parts.l0 : Nat → List (S89) → Int → Int → List (S48) → List (S89) → List (S38) → List (S34) → Option (Bool)
  | 0, _, _, _, _, _, _, _ => none
  | k + 1, x28, x29, x30, x342000, x342001, x342002, x342003 => if x30 < x29 then (if 0 ≤ x30 then (if x30 < (x28.length : Int) then ((rewrite_Valid.f k x342000 ((rd_T89 x28 x30).f0) ((rd_T89 x28 x30).f1) ((rd_T89 x28 x30).f2) ((rd_T89 x28 x30).f3) ((rd_T89 x28 x30).f4) ((rd_T89 x28 x30).f5)).bind fun t345 => (if t345 = true then (morphology_words_parts.l0 k x28 x29 (wrap64 (x30 + 1)) x342000 x342001 x342002 x342003) else (some false))) else (none)) else (none)) else (morphology_words_parts.l1 k x342002 (x342002.length : Int) 0 x342000 x342001 x342002 x342003)
def morphology_words_parts.l1 : Nat → List (S38) → Int → Int → List (S48) → List (S89) → List (S38) → List (S34) → Option (Bool)
  | 0, _, _, _, _, _, _, _ => none
  | k + 1, x43, x44, x45, x342000, x342001, x342002, x342003 => if x45 < x44 then (if 0 ≤ x45 then (if x45 < (x43.length : Int) then ((paradigm_Valid.f k x342000 ((rd_T38 x43 x45).f0) ((rd_T38 x43 x45).f1) ((rd_T38 x43 x45).f2)).bind fun t348 => (if t348 = true then (morphology_words_parts.l1 k x43 x44 (wrap64 (x45 + 1)) x342000 x342001 x342002 x342003) else (some false))) else (none)) else (none)) else ((lexicon_Valid.f k x342000 x342003).bind fun t349 => (some t349))
end
def morphology_words_parts.f (k : Nat) (l0_0 : List (S48)) (l0_1 : List (S89)) (l0_2 : List (S38)) (l0_3 : List (S34)) : Option (Bool) := (alphabet_Valid.f k l0_0).bind fun t342 => (if t342 = true then (if (l0_1.length : Int) > 64 then (morphology_words_parts.j0 k true l0_0 l0_1 l0_2 l0_3) else (morphology_words_parts.j0 k (decide ((l0_2.length : Int) > 32)) l0_0 l0_1 l0_2 l0_3)) else (morphology_words_parts.j0 k true l0_0 l0_1 l0_2 l0_3))
def hasPar (nm : ByteArray) (l : List S38) : Bool := l.any fun q => q.f0.toList == nm.toList
def firstPar (nm : ByteArray) : List S38 → Nat → Int
  | [], _ => -1
  | x :: xs, i => if x.f0.toList = nm.toList then (i : Int) else firstPar nm xs (i + 1)
theorem firstPar_has (nm : ByteArray) : ∀ (l : List S38) (i : Nat), decide (0 ≤ firstPar nm l i) = hasPar nm l
  | [], i => by simp [firstPar, hasPar]
  | x :: xs, i => by
    rw [firstPar]
    by_cases h : x.f0.toList = nm.toList
    · rw [if_pos h]
      have : hasPar nm (x :: xs) = true := by simp [hasPar, h]
      rw [this]
      exact decide_eq_true (by omega)
    · rw [if_neg h, firstPar_has nm xs (i + 1)]
      simp [hasPar, h]
def api_Paradigm_15.f (l : List S38) (nm : ByteArray) : Option Bool := if (l.length : Int) ≤ 1000000000 then some (hasPar nm l) else none
def hasFeat (nm : ByteArray) (l : List S65) : Bool := l.any fun q => q.f0.toList == nm.toList
def firstFeat (nm : ByteArray) : List S65 → Nat → Int
  | [], _ => -1
  | x :: xs, i => if x.f0.toList = nm.toList then (i : Int) else firstFeat nm xs (i + 1)
theorem firstFeat_has (nm : ByteArray) : ∀ (l : List S65) (i : Nat), decide (0 ≤ firstFeat nm l i) = hasFeat nm l
  | [], i => by simp [firstFeat, hasFeat]
  | x :: xs, i => by
    rw [firstFeat]
    by_cases h : x.f0.toList = nm.toList
    · rw [if_pos h]
      have : hasFeat nm (x :: xs) = true := by simp [hasFeat, h]
      rw [this]
      exact decide_eq_true (by omega)
    · rw [if_neg h, firstFeat_has nm xs (i + 1)]
      simp [hasFeat, h]
def api_Feature_18.f (l : List S65) (nm : ByteArray) : Option Bool := if (l.length : Int) ≤ 1000000000 then some (hasFeat nm l) else none
mutual
def morphology_Check.l0 : Nat → List (S38) → Int → Int → List (S48) → List (S89) → List (S38) → List (S34) → Option (Int)
  | 0, _, _, _, _, _, _, _ => none
  | k + 1, x23, x24, x25, x352000, x352001, x352002, x352003 => if x25 < x24 then (if 0 ≤ x25 then (if x25 < (x23.length : Int) then (if x25 ≤ (x352002.length : Int) then ((api_Paradigm_15.f (x352002.take (x25 : Int).toNat) ((rd_T38 x23 x25).f0)).bind fun t359 => (if t359 = true then (some 5) else (morphology_Check.l0 k x23 x24 (wrap64 (x25 + 1)) x352000 x352001 x352002 x352003))) else (none)) else (none)) else (none)) else (morphology_Check.l1 k x352003 (x352003.length : Int) 0 x352000 x352001 x352002 x352003)
def morphology_Check.l1 : Nat → List (S34) → Int → Int → List (S48) → List (S89) → List (S38) → List (S34) → Option (Int)
  | 0, _, _, _, _, _, _, _ => none
  | k + 1, x40, x41, x42, x352000, x352001, x352002, x352003 => if x42 < x41 then (if 0 ≤ x42 then (if x42 < (x40.length : Int) then ((morphology_words_paradigm.f k x352000 x352001 x352002 x352003 ((rd_T34 x40 x42).f3)).bind fun bt362 => (if bt362.2.2.2 = true then (morphology_Check.l1 k x40 x41 (wrap64 (x42 + 1)) x352000 x352001 x352002 x352003) else (if ((rd_T34 x40 x42).f3).toList = ([] : List UInt8) then (morphology_Check.l1 k x40 x41 (wrap64 (x42 + 1)) x352000 x352001 x352002 x352003) else (some 4)))) else (none)) else (none)) else (morphology_Check.l2 k x352003 (x352003.length : Int) 0 x352000 x352001 x352002 x352003)
def morphology_Check.l2 : Nat → List (S34) → Int → Int → List (S48) → List (S89) → List (S38) → List (S34) → Option (Int)
  | 0, _, _, _, _, _, _, _ => none
  | k + 1, x63, x64, x65, x352000, x352001, x352002, x352003 => if x65 < x64 then (if 0 ≤ x65 then (if x65 < (x63.length : Int) then ((morphology_words_paradigm.f k x352000 x352001 x352002 x352003 ((rd_T34 x63 x65).f3)).bind fun bt373 => (if ((rd_T34 x63 x65).f3).toList = ([] : List UInt8) then (morphology_Check.l2 k x63 x64 (wrap64 (x65 + 1)) x352000 x352001 x352002 x352003) else (morphology_Check.l3 k x63 x64 x65 bt373.2.1 (bt373.2.1.length : Int) 0 x352000 x352001 x352002 x352003 ((rd_T34 x63 x65).f0) ((rd_T34 x63 x65).f1) ((rd_T34 x63 x65).f2) ((rd_T34 x63 x65).f3) ((rd_T34 x63 x65).f4)))) else (none)) else (none)) else (some 0)
def morphology_Check.l3 : Nat → List (S34) → Int → Int → List (S55) → Int → Int → List (S48) → List (S89) → List (S38) → List (S34) → ByteArray → ByteArray → ByteArray → ByteArray → List (S65) → Option (Int)
  | 0, _, _, _, _, _, _, _, _, _, _, _, _, _, _, _ => none
  | k + 1, x63, x64, x65, x80, x81, x82, x352000, x352001, x352002, x352003, x373000, x373001, x373002, x373003, x373004 => if x82 < x81 then (if 0 ≤ x82 then (if x82 < (x80.length : Int) then ((api_Feature_18.f x373004 ((rd_T55 x80 x82).f0)).bind fun t384 => (if t384 = true then (some 11) else (morphology_Check.l3 k x63 x64 x65 x80 x81 (wrap64 (x82 + 1)) x352000 x352001 x352002 x352003 x373000 x373001 x373002 x373003 x373004))) else (none)) else (none)) else (morphology_Check.l2 k x63 x64 (wrap64 (x65 + 1)) x352000 x352001 x352002 x352003)
end
def morphology_Check.f (k : Nat) (l0_0 : List (S48)) (l0_1 : List (S89)) (l0_2 : List (S38)) (l0_3 : List (S34)) : Option (Int) := (morphology_words_parts.f k l0_0 l0_1 l0_2 l0_3).bind fun t352 => (if t352 = true then (morphology_Check.l0 k l0_2 (l0_2.length : Int) 0 l0_0 l0_1 l0_2 l0_3) else (some 1))
def morphology_Surface.j0 : Nat → List (S65) → Bool → List (S48) → List (S89) → List (S38) → List (S34) → ByteArray → ByteArray → ByteArray → ByteArray → List (S65) → Option (ByteArray × Int)
  | 0, _, _, _, _, _, _, _, _, _, _, _ => none
  | k + 1, x2, x11, x387000, x387001, x387002, x387003, x396000, x396001, x396002, x396003, x396004 => if x11 = true then ((morphology_words_form.f k x387000 x387001 x387002 x387003 x396000 x396001 x396002 x396003 x396004 x2).bind fun bt406 => (if bt406.2 = true then (some (bt406.1, 0)) else (some ((⟨#[]⟩ : ByteArray), 2)))) else (some ((⟨#[]⟩ : ByteArray), 1))
def morphology_Surface.f (k : Nat) (l0_0 : List (S48)) (l0_1 : List (S89)) (l0_2 : List (S38)) (l0_3 : List (S34)) (a1 : ByteArray) (l2 : List (S65)) : Option (ByteArray × Int) := (lexicon_Find.f l0_3 a1).bind fun bt387 => (if bt387.2.2.2.2.2 = true then (if bt387.2.2.2.1.toList = ([] : List UInt8) then (morphology_Surface.j0 k l2 ((l2.length : Int) == 0) l0_0 l0_1 l0_2 l0_3 bt387.1 bt387.2.1 bt387.2.2.1 bt387.2.2.2.1 bt387.2.2.2.2.1) else ((morphology_words_paradigm.f k l0_0 l0_1 l0_2 l0_3 bt387.2.2.2.1).bind fun bt396 => ((paradigm_Number.f k bt396.1 bt396.2.1 bt396.2.2.1 l2).bind fun t405 => (morphology_Surface.j0 k l2 (decide (t405 ≥ 0)) l0_0 l0_1 l0_2 l0_3 bt387.1 bt387.2.1 bt387.2.2.1 bt387.2.2.2.1 bt387.2.2.2.2.1)))) else (some ((⟨#[]⟩ : ByteArray), 4)))
end Go.Proofs.YtcoialpohgfikaaGreatDoor.C
