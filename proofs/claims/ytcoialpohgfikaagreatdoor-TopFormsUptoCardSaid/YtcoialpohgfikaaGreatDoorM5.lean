/- A part of the proof of TopForms, made short by a program. -/
import Derived.Test.YtcoialpohgfikaaGreatDoorM2
import Derived.Test.YtcoialpohgfikaaGreatDoorM3
import Derived.Test.YtcoialpohgfikaaGreatDoorM4
import Derived.Shelf.SlSortCmp.WholeK
namespace Go.Proofs.YtcoialpohgfikaaGreatDoor.C
open Go.RowKit Go.Proofs.YtcoialpohgfikaaGreatDoorW.PrintWords Go.Proofs.YtcoialpohgfikaaGreatDoorW.PrintLast Go.Proofs.YtcoialpohgfikaaGreatDoorW.PrintMore
attribute [local go_sem] max2_int min2_int max_two min_two max_three min_three max_four min_four
set_option linter.unusedVariables false
set_option maxHeartbeats 8000000
set_option maxRecDepth 100000
set_option linter.unusedSimpArgs false
theorem dims_l1 (dims : List S55) (n : Nat) (j : Int) (nm : ByteArray) (vs vs' : List ByteArray) (m : Int) : ∀ (k : Nat) (q : Int), feature_dimensions.l1 k dims j dims (n : Int) j vs m q nm vs' = some true →
  ∃ k', k' < k ∧ feature_dimensions.l2 k' dims dims (n : Int) j (dims.take j.toNat) ((dims.take j.toNat).length : Int) 0 nm vs' = some true := by
 intro k
 induction k with
 | zero => intro q h; simp [feature_dimensions.l1] at h
 | succ k ih =>
  intro q h
  rw [feature_dimensions.l1] at h
  split at h
  ·split at h
   ·split at h
    ·obtain ⟨t, _, h⟩ := Option.bind_eq_some_iff.1 h
     split at h
     ·split at h
      ·obtain ⟨t2, _, h⟩ := Option.bind_eq_some_iff.1 h
       split at h
       ·cases h
       obtain ⟨k', h1, h2⟩ := ih _ h
       exact ⟨k', by omega, h2⟩
      cases h
     cases h
    cases h
   cases h
  split at h
  ·split at h
   ·exact ⟨k, by omega, h⟩
   cases h
  cases h
theorem dims_l2 (dims : List S55) (n : Nat) (j : Int) (nm : ByteArray) (ys : List S55) (vs : List ByteArray) (hy : ys.length ≤ 1000) : ∀ (k : Nat) (q : Nat), feature_dimensions.l2 k dims dims (n : Int) j ys (ys.length : Int) (q : Int) nm vs = some true →
  (∀ i : Nat, q ≤ i → i < ys.length → (rd_T55 ys (i : Int)).f0.toList ≠ nm.toList) ∧ ∃ k', k' < k ∧ feature_dimensions.l0 k' dims dims (n : Int) (wrap64 (j + 1)) = some true := by
 intro k
 induction k with
 | zero => intro q h; simp [feature_dimensions.l2] at h
 | succ k ih =>
  intro q h
  rw [feature_dimensions.l2] at h
  split at h
  ·rename_i h1
   rw [if_pos (show (0 : Int) ≤ (q : Int) by omega)] at h
   split at h
   ·cases h
   rename_i h2
   have hw : wrap64 ((q : Int) + 1) = ((q + 1 : Nat) : Int) := by unfold wrap64; omega
   rw [hw] at h
   obtain ⟨h3, k', h4, h5⟩ := ih (q + 1) h
   refine ⟨fun i hi hl => ?_, k', by omega, h5⟩
   rcases Nat.eq_or_lt_of_le hi with e | e
   ·subst e
    exact h2
   exact h3 i e hl
  rename_i h1
  exact ⟨fun i hi hl => by omega, k, by omega, h⟩
theorem dims_l0 (dims : List S55) (hn : dims.length ≤ 1000) : ∀ (k j : Nat), feature_dimensions.l0 k dims dims (dims.length : Int) (j : Int) = some true →
  ∀ i : Nat, j ≤ i → i < dims.length → 1 ≤ (rd_T55 dims (i : Int)).f1.length ∧ (rd_T55 dims (i : Int)).f1.length ≤ 8 ∧ ∀ q : Nat, q < i → (rd_T55 dims (q : Int)).f0.toList ≠ (rd_T55 dims (i : Int)).f0.toList := by
 intro k
 induction k using Nat.strongRecOn with
 | ind k ih =>
  intro j h i hi hl
  cases k with
  | zero => simp [feature_dimensions.l0] at h
  | succ k =>
   have hj : j < dims.length := by omega
   rw [feature_dimensions.l0, if_pos (by omega), if_pos (by omega), if_pos (by omega)] at h
   obtain ⟨t, _, h⟩ := Option.bind_eq_some_iff.1 h
   have hj1 : ∀ b, feature_dimensions.j1 k dims (j : Int) dims (dims.length : Int) (j : Int) b ((rd_T55 dims (j : Int)).f0) ((rd_T55 dims (j : Int)).f1) = some true →
     b = false ∧ (∀ q : Nat, q < j → (rd_T55 dims (q : Int)).f0.toList ≠ (rd_T55 dims (j : Int)).f0.toList) ∧ ∃ k', k' < k + 1 ∧ feature_dimensions.l0 k' dims dims (dims.length : Int) ((j + 1 : Nat) : Int) = some true := by
    intro b hb
    cases k with
    | zero => simp [feature_dimensions.j1] at hb
    | succ k =>
     rw [feature_dimensions.j1] at hb
     split at hb
     ·cases hb
     rename_i hbt
     obtain ⟨k1, h1, h2⟩ := dims_l1 dims dims.length (j : Int) _ _ _ _ k 0 hb
     rw [Int.toNat_natCast] at h2
     obtain ⟨h3, k2, h4, h5⟩ := dims_l2 dims dims.length (j : Int) _ (dims.take j) _ (by rw [List.length_take]; omega) k1 0 h2
     have hw : wrap64 ((j : Int) + 1) = ((j + 1 : Nat) : Int) := by unfold wrap64; omega
     rw [hw] at h5
     refine ⟨by simpa using hbt, fun q hq => ?_, k2, by omega, h5⟩
     have := h3 q (Nat.zero_le _) (by rw [List.length_take]; omega)
     have e : rd_T55 (dims.take j) (q : Int) = rd_T55 dims (q : Int) := by unfold rd_T55; rw [Int.toNat_natCast]; simp [List.getD, List.getElem?_take, hq]
     rwa [e] at this
   have key : 1 ≤ (rd_T55 dims (j : Int)).f1.length ∧ (rd_T55 dims (j : Int)).f1.length ≤ 8 ∧ (∀ q : Nat, q < j → (rd_T55 dims (q : Int)).f0.toList ≠ (rd_T55 dims (j : Int)).f0.toList) ∧ ∃ k', k' < k + 1 ∧ feature_dimensions.l0 k' dims dims (dims.length : Int) ((j + 1 : Nat) : Int) = some true := by
    split at h
    ·split at h
     ·have := (hj1 _ h).1
      cases this
     rename_i h1
     obtain ⟨h2, h3⟩ := hj1 _ h
     have h2' := of_decide_eq_false h2
     exact ⟨by omega, by omega, h3⟩
    have := (hj1 _ h).1
    cases this
   obtain ⟨h1, h2, h3, k', h4, h5⟩ := key
   rcases Nat.eq_or_lt_of_le hi with e | e
   ·subst e
    exact ⟨h1, h2, h3⟩
   exact ih k' h4 (j + 1) h5 i e hl
theorem dims_true {k : Nat} {dims : List S55} (h : feature_dimensions.f k dims = some true) : dims.length ≤ 4 ∧
  ∀ i : Nat, i < dims.length → 1 ≤ (rd_T55 dims (i : Int)).f1.length ∧ (rd_T55 dims (i : Int)).f1.length ≤ 8 ∧ ∀ q : Nat, q < i → (rd_T55 dims (q : Int)).f0.toList ≠ (rd_T55 dims (i : Int)).f0.toList := by
 unfold feature_dimensions.f at h
 split at h
 ·cases h
 rename_i h1
 exact ⟨by omega, fun i hi => dims_l0 dims (by omega) k 0 h i (Nat.zero_le _) hi⟩
def Tryz.sortF_ren : Go.Shelf.Ren := ⟨fun | 6 => 40 | 15 => 67 | 14 => 66 | 28 => 88 | 29 => 89 | 20 => 80 | 21 => 81 | 22 => 82 | 23 => 83 | 24 => 84 | 25 => 85 | 26 => 86 | 27 => 87 | 46 => 95 | 47 => 96 | 48 => 97 | 49 => 98 | 50 => 99 | 57 => 103 | n => n, fun | 22 => 32 | 24 => 65 | 25 => 103 | 3 => 3 | 39 => 132 | 0 => 0 | 53 => 46 | 55 => 161 | 4 => 4 | 46 => 154 | 45 => 153 | 50 => 112 | 5 => 5 | 9 => 9 | 66 => 171 | 70 => 175 | 76 => 179 | 77 => 180 | n => n, fun | n => n⟩
theorem Tryz.sortF : Go.Proofs.SlLaysF0.n6 Tryz.prog Tryz.sortF_ren := {
 mixed := by kernel_rfl,
 f6 := ⟨"slices.SortFunc[[]pentaglot/api.Feature,pentaglot/api.Feature]", by decide, Tryz.func40.trans (congrArg some (by kernel_rfl))⟩,
 f14 := ⟨"slices.pdqsortCmpFunc[pentaglot/api.Feature]", by decide, Tryz.func66.trans (congrArg some (by kernel_rfl))⟩,
 f15 := Tryz.func67.trans (congrArg some (by kernel_rfl)),
 f20 := ⟨"slices.insertionSortCmpFunc[pentaglot/api.Feature]", by decide, Tryz.func80.trans (congrArg some (by kernel_rfl))⟩,
 f21 := ⟨"slices.heapSortCmpFunc[pentaglot/api.Feature]", by decide, Tryz.func81.trans (congrArg some (by kernel_rfl))⟩,
 f22 := ⟨"slices.breakPatternsCmpFunc[pentaglot/api.Feature]", by decide, Tryz.func82.trans (congrArg some (by kernel_rfl))⟩,
 f23 := ⟨"slices.choosePivotCmpFunc[pentaglot/api.Feature]", by decide, Tryz.func83.trans (congrArg some (by kernel_rfl))⟩,
 f24 := ⟨"slices.reverseRangeCmpFunc[pentaglot/api.Feature]", by decide, Tryz.func84.trans (congrArg some (by kernel_rfl))⟩,
 f25 := ⟨"slices.partialInsertionSortCmpFunc[pentaglot/api.Feature]", by decide, Tryz.func85.trans (congrArg some (by kernel_rfl))⟩,
 f26 := ⟨"slices.partitionEqualCmpFunc[pentaglot/api.Feature]", by decide, Tryz.func86.trans (congrArg some (by kernel_rfl))⟩,
 f27 := ⟨"slices.partitionCmpFunc[pentaglot/api.Feature]", by decide, Tryz.func87.trans (congrArg some (by kernel_rfl))⟩,
 f28 := Tryz.func88.trans (congrArg some (by kernel_rfl)),
 f29 := Tryz.func89.trans (congrArg some (by kernel_rfl)),
 f46 := ⟨"slices.siftDownCmpFunc[pentaglot/api.Feature]", by decide, Tryz.func95.trans (congrArg some (by kernel_rfl))⟩,
 f47 := Tryz.func96.trans (congrArg some (by kernel_rfl)),
 f48 := Tryz.func97.trans (congrArg some (by kernel_rfl)),
 f49 := ⟨"slices.medianAdjacentCmpFunc[pentaglot/api.Feature]", by decide, Tryz.func98.trans (congrArg some (by kernel_rfl))⟩,
 f50 := ⟨"slices.medianCmpFunc[pentaglot/api.Feature]", by decide, Tryz.func99.trans (congrArg some (by kernel_rfl))⟩,
 f57 := ⟨"slices.order2CmpFunc[pentaglot/api.Feature]", by decide, Tryz.func103.trans (congrArg some (by kernel_rfl))⟩,
 t0 := Tryz.underlying0,
 a0 := Tryz.isAgg0,
 z0 := Tryz.sizeOf0,
 v0 := Tryz.zeroValue0,
 t3 := Tryz.underlying3,
 a3 := Tryz.isAgg3,
 z3 := Tryz.sizeOf3,
 v3 := Tryz.zeroValue3,
 t4 := Tryz.underlying4,
 a4 := Tryz.isAgg4,
 z4 := Tryz.sizeOf4,
 v4 := Tryz.zeroValue4,
 t5 := Tryz.underlying5,
 a5 := Tryz.isAgg5,
 z5 := Tryz.sizeOf5,
 v5 := Tryz.zeroValue5,
 t9 := Tryz.underlying9,
 a9 := Tryz.isAgg9,
 z9 := Tryz.sizeOf9,
 v9 := Tryz.zeroValue9,
 t22 := Tryz.underlying32,
 a22 := Tryz.isAgg32,
 z22 := Tryz.sizeOf32,
 v22 := Tryz.zeroValue32,
 t25 := Tryz.underlying103,
 a25 := Tryz.isAgg103,
 z25 := Tryz.sizeOf103,
 v25 := Tryz.zeroValue103,
 t39 := Tryz.underlying132,
 a39 := Tryz.isAgg132,
 z39 := Tryz.sizeOf132,
 v39 := Tryz.zeroValue132,
 t45 := Tryz.underlying153,
 a45 := Tryz.isAgg153,
 z45 := Tryz.sizeOf153,
 v45 := Tryz.zeroValue153,
 t46 := Tryz.underlying154,
 a46 := Tryz.isAgg154,
 z46 := Tryz.sizeOf154,
 v46 := Tryz.zeroValue154,
 t50 := Tryz.underlying112,
 a50 := Tryz.isAgg112,
 z50 := Tryz.sizeOf112,
 v50 := Tryz.zeroValue112,
 t53 := Tryz.underlying46,
 a53 := Tryz.isAgg46,
 z53 := Tryz.sizeOf46,
 v53 := Tryz.zeroValue46,
 t55 := Tryz.underlying161,
 a55 := Tryz.isAgg161,
 z55 := Tryz.sizeOf161,
 v55 := Tryz.zeroValue161,
 t66 := Tryz.underlying171,
 a66 := Tryz.isAgg171,
 z66 := Tryz.sizeOf171,
 v66 := Tryz.zeroValue171,
 t70 := Tryz.underlying175,
 a70 := Tryz.isAgg175,
 z70 := Tryz.sizeOf175,
 v70 := Tryz.zeroValue175,
 t76 := Tryz.underlying179,
 a76 := Tryz.isAgg179,
 z76 := Tryz.sizeOf179,
 v76 := Tryz.zeroValue179,
 t77 := Tryz.underlying180,
 a77 := Tryz.isAgg180,
 z77 := Tryz.sizeOf180,
 v77 := Tryz.zeroValue180 }
instance instInhabitedS65 : Inhabited S65 := ⟨z65⟩
def enc65 (x : S65) : List Value := [.string x.f0, .string x.f1]
def cfN (x y : S65) : Int := if Op.bytesLess x.f0.toList y.f0.toList = true then -1 else (if Op.bytesLess y.f0.toList x.f0.toList = true then 1 else 0)
theorem cfN_f (x y : S65) : cmp_Compare_string.f x.f0 y.f0 = some (cfN x y) := by
 have hn : ∀ a : ByteArray, cmp_isNaN_string.f a = some false := fun a => congrArg some (by simp)
 unfold cmp_Compare_string.f cfN
 rw [hn, hn]
 simp only [Option.bind_some, Bool.false_eq_true, if_false]
 split
 ·rfl
 split <;> rfl
theorem ltN (x y : S65) : ltOf cfN x y = Op.bytesLess x.f0.toList y.f0.toList := by
 unfold ltOf cfN
 by_cases h : Op.bytesLess x.f0.toList y.f0.toList = true
 ·simp [h]
 by_cases h2 : Op.bytesLess y.f0.toList x.f0.toList = true <;> simp [h, h2]
theorem swoN : Sort.SWO (ltOf cfN) where
 irrefl x := by rw [ltN, bl_eq]; exact decide_eq_false (List.lt_irrefl _)
 trans x y z h1 h2 := by
  rw [ltN, bl_eq] at *
  exact decide_eq_true (List.lt_trans (of_decide_eq_true h1) (of_decide_eq_true h2))
 ntrans x y z h1 h2 := by
  rw [ltN, bl_eq] at *
  exact decide_eq_false (fun h => (of_decide_eq_false h2) (by
   have h1' : y.f0.toList ≤ x.f0.toList := of_decide_eq_false h1
   exact List.lt_of_le_of_lt h1' h))
theorem all_cmp.calls (x y : S65) (W : World) : Calls Tryz.prog 41 #[.agg #[.string x.f0, .string x.f1], .agg #[.string y.f0, .string y.f1]] W fun e w' => e = .returned (.int .i64 (cfN x y)) ∧ ∃ q os', w' = Sort.grow (W.drewN q) os' := by
 have hcon := fun W' => cmp_Compare_string.calls x.f0 y.f0 (cfN x y) W' (cfN_f x y)
 generalize cfN x y = r at hcon ⊢
 go_enter Tryz.func41, Tryz.ntmps41
 go_wp2_with (first | (go_at_call 42; refine (hcon _).mono ?_; rintro e w' ⟨rfl, ⟨q, rfl⟩⟩))
 go_ret
 exact ⟨rfl, _, _, by rw [Sort.alloc_eq_grow, Sort.alloc_eq_grow, Sort.grow_grow]; rfl⟩
theorem holds_of_C {W : World} {g n : Nat} {xs : List S65} (h : Kd.C k65 W (some ⟨g, 0, none⟩) n xs) (hn : n = xs.length) (hf : ∀ o, W.frozen? ⟨g, o, none⟩ = false) : Sort.HoldsK enc65 2 W g 0 xs.toArray := by
 intro t ht
 rw [Sort.size_flatK] at ht
 simp only [List.size_toArray] at ht
 have hlt : t / 2 < xs.length := by omega
 obtain ⟨ad, ead, hx0, hx1⟩ := at_T65 h (t / 2 : Nat) (by omega) (by omega)
 injection ead with ead
 subst ead
 refine ⟨?_, hf _⟩
 rw [Sort.get_flatK _ _ _ _ (by simpa using ht)]
 rw [Int.toNat_natCast] at hx0 hx1
 have he : xs.toArray[t / 2]! = rd_T65 xs ((t / 2 : Nat) : Int) := by unfold rd_T65; rw [Int.toNat_natCast]; simp [List.getD, hlt]
 rw [he]
 rcases Nat.mod_two_eq_zero_or_one t with hm | hm
 ·rw [hm]
  have : (⟨g, 0 + t, none⟩ : Addr) = (⟨g, 0, none⟩ : Addr).add (t / 2 * 2) := by rw [add_at]; congr 1; omega
  rw [this]
  exact hx0
 rw [hm]
 have : (⟨g, 0 + t, none⟩ : Addr) = ⟨((⟨g, 0, none⟩ : Addr).add (t / 2 * 2)).block, ((⟨g, 0, none⟩ : Addr).add (t / 2 * 2)).off + 1, none⟩ := by rw [add_at]; simp only [Addr.mk.injEq, true_and, and_true]; omega
 rw [this]
 exact hx1
theorem C_of_holds {W : World} {g : Nat} {d : Array S65} (h : Sort.HoldsK enc65 2 W g 0 d) (hn : d.size ≤ 9223372036854775807) : Kd.C k65 W (some ⟨g, 0, none⟩) d.size d.toList := by
 refine ⟨by simp, by omega, fun _ => ⟨_, rfl, fun j p hj => ?_⟩⟩
 obtain ⟨hj1, hj2⟩ := List.getElem?_eq_some_iff.1 hj
 have hj3 : j < d.size := by simpa using hj1
 have hp : d[j]! = p := by rw [← hj2]; simp [hj3]
 refine ⟨[.string p.f0, .string p.f1], rfl, k65_mk _ _, fun i u hu => ?_⟩
 have hk : k65.sz = 2 := rfl
 rw [hk]
 match i, hu with
 | 0, hu =>
  have := (h.cell hj3 (c := 0) (by omega)).1
  rw [hp] at this
  rw [add_at]
  obtain rfl := Option.some.inj hu
  exact this
 | 1, hu =>
  have := (h.cell hj3 (c := 1) (by omega)).1
  rw [hp] at this
  rw [add_at]
  obtain rfl := Option.some.inj hu
  exact this
theorem below_sortK {w : World} {g n : Nat} {d : Array S65} {os : Array Obj} (hg : g < w.heap.size) : Below g w (sortWorldK enc65 2 w g 0 n d os) := by
 refine ⟨rfl, rfl, rfl, size_sortWorldK_c enc65 2 w g 0 n d os, fun k hk => ?_⟩
 unfold sortWorldK Sort.putRowK Sort.putRow Sort.mapBlock Sort.grow Sort.ahead
 simp only [Array.getElem?_append, Array.size_modify, Array.getElem?_modify]
 rw [if_pos (by omega), if_neg (by omega)]
theorem sort_Feature.calls (g c : Nat) (ch : List S65) (w : World) (hC : Kd.C k65 w (some ⟨g, 0, none⟩) ch.length ch) (hf : ∀ o, w.frozen? ⟨g, o, none⟩ = false) (hg : g < w.heap.size) (hl : ch.length ≤ 1000) :
  Calls Tryz.prog 40 #[.slice (some ⟨g, 0, none⟩) ch.length c, .func (.func 41) #[] #[]] w fun e w' => e = .returned (.tuple #[]) ∧ ∃ r : List S65, r.length = ch.length ∧ r.Perm ch ∧ (∀ i j, i < j → j < r.length → Op.bytesLess (rd_T65 r (j : Int)).f0.toList (rd_T65 r (i : Int)).f0.toList = false) ∧ Kd.C k65 w' (some ⟨g, 0, none⟩) r.length r ∧ Below g w w' := by
 have hH := holds_of_C hC rfl hf
 have hcmp : CmpLays Tryz.prog 41 #[] enc65 2 cfN g 0 ch.toArray.size w := fun _ _ _ _ x y => all_cmp.calls x y _
 have hcon := AnyQ.slices_SortFunc Tryz.sortF 2 Tryz.isAgg65 Tryz.sizeOf65 enc65 (fun _ => rfl) (fun x v hv => by simp [enc65] at hv; rcases hv with rfl | rfl <;> rfl) cfN swoN 41 #[] g 0 c ch.toArray w (enters_of Tryz.func41 (by kernel_rfl) rfl) hcmp hH hg (by simp; omega)
 change Calls Tryz.prog 40 _ _ _ at hcon
 simp only [List.size_toArray] at hcon
 refine hcon.mono ?_
 rintro e w' ⟨rfl, d', n, os, hp, hs, rfl⟩
 obtain ⟨hsz, _, hperm⟩ := hp
 simp only [List.size_toArray] at hsz
 have hx1 : d'.extract 0 ch.length = d' := by rw [← hsz]; simp
 have hx2 : (ch.toArray).extract 0 ch.length = ch.toArray := by simp
 rw [hx1, hx2] at hperm
 refine ⟨rfl, d'.toList, by simpa using hsz, by simpa using hperm, fun i j hij hj => ?_, ?_, below_sortK hg⟩
 ·have hj' : j < d'.size := by simpa using hj
  have h1 := hs i j (Nat.zero_le _) hij (by omega)
  rw [ltN] at h1
  have e1 : ∀ q, q < d'.size → d'[q]! = rd_T65 d'.toList (q : Int) := fun q hq => by unfold rd_T65; rw [Int.toNat_natCast]; simp [List.getD, hq]
  rw [e1 j hj', e1 i (by omega)] at h1
  exact h1
 have := C_of_holds (holdsK_sortWorldK_c enc65 2 w g 0 ch.toArray d' n os hH hg (by simpa using hsz)) (by omega)
 simpa using this
theorem C65_cells {W W' : World} {A : Option Addr} {n : Nat} {xs : List S65} (h : Kd.C k65 W A n xs) (hm : ∀ ad, A = some ad → ∀ (a : Addr) v, a.block = ad.block → W.cell? a = some v → W'.cell? a = some v) : Kd.C k65 W' A n xs := by
 obtain ⟨h1, h2, h3⟩ := h
 refine ⟨h1, h2, fun hn => ?_⟩
 obtain ⟨ad, e, hr⟩ := h3 hn
 refine ⟨ad, e, fun j p hj => ?_⟩
 obtain ⟨c, h4, h5, h6⟩ := hr j p hj
 refine ⟨c, h4, ?_, fun i u hu => hm ad e _ u (by unfold Addr.add; split <;> rfl) (h6 i u hu)⟩
 rw [k65_open h5]
 exact k65_mk _ _
theorem C65_turn {lo : Nat} {W W' : World} {A : Option Addr} {n : Nat} {xs : List S65} (h : Kd.C k65 W A n xs) (ht : Turn lo W W') : Kd.C k65 W' A n xs :=
 C65_cells h (fun ad _ a v _ hc => by
  obtain ⟨o, ho, hcl⟩ := cells_of_cell hc
  exact (World.cell?_of_block ((ht.block _ _ ho (.inr hcl)).trans ho.symm)).trans hc)
theorem C65_off {S : Nat → Prop} {W W' : World} {A : Option Addr} {n : Nat} {xs : List S65} (h : Kd.C k65 W A n xs) (ho : Off S W W') (hs : ∀ ad, A = some ad → ¬ S ad.block) : Kd.C k65 W' A n xs :=
  C65_cells h (fun ad e a v hb hc => ho.cell hc (by rw [hb]; exact hs ad e))
def Part (dims : List S55) (ch : List S65) : Prop := ∀ j : Nat, j < ch.length → (rd_T65 ch (j : Int)).f0 = (rd_T55 dims (j : Int)).f0 ∧ (rd_T65 ch (j : Int)).f1 ∈ (rd_T55 dims (j : Int)).f1
def GoodRec (dims : List S55) (r : List S65) : Prop := ∃ ch : List S65, ch.length = dims.length ∧ Part dims ch ∧ r.length = ch.length ∧ r.Perm ch ∧ ∀ i j : Nat, i < j → j < r.length → Op.bytesLess (rd_T65 r (j : Int)).f0.toList (rd_T65 r (i : Int)).f0.toList = false
def GRec (dims : List S55) (v : Value) (W : World) : Prop := ∃ (r : List S65) (A : Option Addr) (c : Nat), v = .slice A r.length c ∧ r.length ≤ c ∧ Kd.C k65 W A r.length r ∧ GoodRec dims r
theorem GRec.turn {lo : Nat} {dims : List S55} {v : Value} {W W' : World} (h : GRec dims v W) (ht : Turn lo W W') : GRec dims v W' := by
 obtain ⟨r, A, c, h1, h2, h3, h4⟩ := h
 exact ⟨r, A, c, h1, h2, C65_turn h3 ht, h4⟩
structure VEnv (w0 : World) (AD : Option Addr) (nD cD bd bY bv l hi : Nat) (W : World) : Prop where
  old : Below w0.heap.size w0 W
  top : hi ≤ W.heap.size
  dim : W.heap[bd]? = some (.cells #[.slice AD nD cD] 35 (0, 0))
  yld : W.heap[bY]? = some (.cells #[.func (.yield l) #[] #[]] 98 (0, 0))
  vis : W.heap[bv]? = some (.cells #[.func (.func 39) #[] #[.pointer (some ⟨bd, 0, none⟩), .pointer (some ⟨bY, 0, none⟩), .pointer (some ⟨bv, 0, none⟩)]] 100 (0, 0))
theorem VEnv.below {w0 : World} {AD : Option Addr} {nD cD bd bY bv l hi : Nat} {W W' : World} (h : VEnv w0 AD nD cD bd bY bv l hi W) (hb : Below W.heap.size W W') : VEnv w0 AD nD cD bd bY bv l hi W' :=
  ⟨below_step h.old hb, Nat.le_trans h.top hb.size, blk_below h.dim hb, blk_below h.yld hb, blk_below h.vis hb⟩
theorem VEnv.off {w0 : World} {AD : Option Addr} {nD cD bd bY bv l hi : Nat} {W W' : World} {S : Nat → Prop} (h : VEnv w0 AD nD cD bd bY bv l hi W) (ho : Off S W W') (hS : ∀ k, S k → w0.heap.size ≤ k) (h1 : ¬ S bd) (h2 : ¬ S bY) (h3 : ¬ S bv) : VEnv w0 AD nD cD bd bY bv l hi W' :=
  ⟨h.old.trans (ho.below h.old.size hS), Nat.le_trans h.top ho.size, ho.blk h.dim h1, ho.blk h.yld h2, ho.blk h.vis h3⟩
theorem R65_block {W : World} {base : Nat} {ok : Nat → Prop} {v : Value} {xs : List S65} (h : Kd.R k65 65 W base ok v xs) (hne : v.ownBlock ≠ none) :
  ∃ g cap cur, v = .slice (some ⟨g, 0, none⟩) xs.length cap ∧ base ≤ g ∧ W.heap[g]? = some (.cells cur 65 (0, 0)) ∧ xs.length ≤ cap ∧ Kd.C k65 W (some ⟨g, 0, none⟩) xs.length xs := by
 have hr := Kd.R_reads h
 obtain ⟨_, inner, ⟨_, (⟨he, _⟩ | ⟨g, cap, cur, he, hb, hh, _⟩)⟩, _⟩ := h
 ·rw [he] at hne
  exact absurd rfl hne
 obtain ⟨A, c, he2, hle, hC⟩ := hr
 rw [he2] at he
 injection he with h1 h2 h3
 subst h1
 subst h3
 exact ⟨g, c, cur, he2, hb, hh, hle, hC⟩
def VPost (S : Nat → Prop) (J : Nat → World → Prop) (Jx : World → Prop) (m : Nat) (W : World) (e : Ending) (W' : World) : Prop :=
  ∃ b : Bool, e = .returned (.bool b) ∧ ((b = true ∧ (∃ m', m < m' ∧ J m' W') ∧ Off S W W') ∨ (b = false ∧ Jx W'))
theorem visit_last (w0 : World) (AD : Option Addr) (cD : Nat) (dims : List S55) (bd bY bv l hi : Nat) (S : Nat → Prop) (J : Nat → World → Prop) (Jx : World → Prop)
  (hlen : dims.length ≤ 100) (hJ : ∀ m A A', J m A → Below A.heap.size A A' → J m A')
  (hY : ∀ m v A, J m A → GRec dims v A → YieldAt Fence.wide 0 Tryz.prog l #[v] A fun e A' => (e = .returned (.bool true) ∧ J (m + 1) A' ∧ Off S A A') ∨ (e = .returned (.bool false) ∧ Jx A'))
  (ch : List S65) (A : Option Addr) (c m : Nat) (W : World) (hch : ch.length = dims.length) (hp : Part dims ch) (hC : Kd.C k65 W A ch.length ch) (hV : VEnv w0 AD dims.length cD bd bY bv l hi W) (hj : J m W) :
  Calls Tryz.prog 39 #[.int .i64 (dims.length : Int), .slice A dims.length c, .pointer (some ⟨bd, 0, none⟩), .pointer (some ⟨bY, 0, none⟩), .pointer (some ⟨bv, 0, none⟩)] W (VPost S J Jx m W) := by
 have HJ := am hJ
 have HY := am hY
 have HP := am hp
 have HC := am hC
 have HV := am hV
 have H0 := am hj
 have HL := am hlen
 have HCH := am hch
 have hxd : W.cell? ⟨bd, 0, none⟩ = some (.slice AD dims.length cD) := (blk_cell hV.dim 0).trans rfl
 have e1 : ((dims.length : Int) == (dims.length : Int)) = true := beq_iff_eq.mpr rfl
 rw [← hch]
 rw [← hch] at hxd e1
 clear hJ hY hp hC hV hj hlen hch
 go_enter Tryz.func39, Tryz.ntmps39
 go_upto_region 4 with (first | (at_builtin; refine Kd.R_append_rows k65 (Rr := k65.K W) (w0 := W) W.heap.size rfl (.tmp 15) (.tmp 16) 32 65 (.agg #[.string ⟨#[]⟩, .string ⟨#[]⟩]) 32 rfl Tryz.underlying32 wInfo65 rfl (by decide) (by omega) (.slice (some ⟨W.heap.size, 0, none⟩) 0 0) [] ch A ch.length c (fun _ => True) (fun _ => False) rfl rfl (mt_row65 W) ?rd (fun x cs hx => by rw [k65_open hx]; exact k65_mkM _ _ _ _) (fun _ hk => hk.elim) (fun _ _ => trivial) (below_alloc (Below.refl _ _) _) (by simp) (by have := HL.out; have := HCH.out; simp; omega) ?_; (case rd => exact ReadsRow.imp_ HC.out (below_alloc (Below.refl _ _) _) (fun _ _ hp => hp)); intro v1 w1 ho hb hg hat; have HB1 := am hb; obtain ⟨g, cap, cur, rfl, hgw, hbk, hcap, hC1⟩ := R65_block (show Kd.R k65 65 w1 W.heap.size (fun _ => True) v1 ch from ho) (by rcases hat with h | ⟨b, h, _⟩ <;> (rw [h]; simp [Value.ownBlock])); have HGW := am hgw; have HBK := am hbk; have HCAP := am hcap; have HC1 := am hC1; clear ho hb hg hat hgw hbk hcap hC1) | (go_at_call 40; refine (sort_Feature.calls g cap ch _ HC1.out (fun o => blk_frozen HBK.out o) (blk_lt HBK.out) (by have := HL.out; have := HCH.out; omega)).mono ?_; rintro e w2 ⟨rfl, r, hrl, hrp, hrs, hrc, hrb⟩; have HB2 := am (HB1.out.trans (hrb.mono HGW.out)); have HRL := am hrl; have HRP := am hrp; have HRS := am hrs; have HRC := am hrc; clear hrl hrp hrs hrc hrb))
 have hV2 := HV.out.below HB2.out
 have hxy : w2.cell? ⟨bY, 0, none⟩ = some (.func (.yield l) #[] #[]) := (blk_cell hV2.yld 0).trans rfl
 obtain ⟨fn_, tm_, as_, bo_, hy, hR⟩ := HY.out m (.slice (some ⟨g, 0, none⟩) ch.length cap) w2 (HJ.out _ _ _ H0.out HB2.out) ⟨r, some ⟨g, 0, none⟩, cap, by rw [HRL.out], by rw [HRL.out]; exact HCAP.out, HRC.out, ch, HCH.out, HP.out, HRL.out, HRP.out, HRS.out⟩
 have HRD := am hR
 clear hR hV2
 refine (wpIn_wide (n := 0)).1 ?_
 gi_wp2
 refine HRD.out.mono ?_
 rintro e W' (⟨rfl, hJ', hoff⟩ | ⟨rfl, hJx'⟩)
 ·have HJ' := am hJ'
  have HOF := am hoff
  clear hJ' hoff
  gi_wp2
  go_wp2
  go_ret
  exact ⟨true, rfl, .inl ⟨rfl, ⟨m + 1, by omega, HJ'.out⟩, (Off.of_below HB2.out).trans HOF.out⟩⟩
 have HJ' := am hJx'
 clear hJx'
 gi_wp2
 go_wp2
 go_ret
 exact ⟨false, rfl, .inr ⟨rfl, HJ'.out⟩⟩
theorem append_full65 (W : World) (A : Option Addr) (ch : List S65) (p : S65) (g : Nat) (hC : Kd.C k65 W A ch.length ch) (hl : ch.length ≤ 1000) (hp : W.heap[g]? = some (.cells #[.string p.f0, .string p.f1] 65 (0, 0))) :
  ∃ v' w', (Builtin.append_ #[32, 32] 32 #[.slice A ch.length ch.length, .slice (some ⟨g, 0, none⟩) 1 1]).run Tryz.prog W = .ok v' w' ∧ Kd.R k65 65 w' W.heap.size (fun _ => True) v' (ch ++ [p]) ∧ v'.ownBlock ≠ none ∧ Below W.heap.size W w' := by
 obtain ⟨i0, hi, hz0, hz1, hz2⟩ := info_parts wInfo65
 have hnews : ∀ j u, [Value.string p.f0, Value.string p.f1][j]? = some u → W.cell? ((⟨g, 0, none⟩ : Addr).add j) = some u := by
  intro j u hu
  rw [add_plain, blk_cell hp j]
  match j, hu with
  | 0, hu => exact hu
  | 1, hu => exact hu
 have fin : ∀ (olds : List Value) (v' : Value) (w' : World), Reps (k65.K W) 2 ch olds → w'.ownsRow W.heap.size 65 2 v' (ch.length + 1) (olds ++ [.string p.f0, .string p.f1]) → Kd.R k65 65 w' W.heap.size (fun _ => True) v' (ch ++ [p]) := by
  intro olds v' w' hr ho
  refine ⟨fun _ _ => trivial, _, by rw [List.length_append]; exact ho, ?_⟩
  exact Reps.snoc (hr.imp_ (fun q c hq => by rw [k65_open hq]; exact k65_mkM _ _ _ _)) (k65_mkM _ _ _ _) rfl
 cases A with
 | none =>
  obtain rfl := C65_nil hC
  obtain ⟨v', w', hr, ho, hg, _, hat⟩ := run_append_own_at (P := Tryz.prog) W W.heap.size 32 32 65 i0 _ 2 32 Tryz.underlying32 hi hz0 hz1 hz2 rfl (by decide) (.slice none 0 0) 0 [] ⟨rfl, .inl ⟨rfl, rfl⟩⟩ ⟨g, 0, none⟩ 1 1 [.string p.f0, .string p.f1] rfl hnews (by simp [Value.oneCell']) (by decide) (by decide) (Nat.le_refl _)
  refine ⟨v', w', hr, fin [] v' w' (Reps.none _ _) ho, ?_, (Below.refl _ _).grown hg (Nat.le_refl _) (fun k hk => by simp [Value.ownBlock] at hk)⟩
  rcases hat with hat | hat
  ·intro e
   rcases ho.2 with ⟨_, h1⟩ | ⟨g', cap', cur', he, _⟩
   ·omega
   rw [he] at e
   cases e
  rw [hat]
  simp
 | some b =>
  obtain ⟨olds, hre, hold⟩ := ReadsRow.inner_ hC
  obtain ⟨v', w', hr, ho, hg⟩ := run_append_arg_grows (P := Tryz.prog) W 32 32 65 i0 _ 2 32 Tryz.underlying32 hi hz0 hz1 hz2 rfl (by decide) b ch.length ch.length olds hre.1 hold ⟨g, 0, none⟩ 1 1 [.string p.f0, .string p.f1] rfl hnews (by omega) (by unfold maxLen; omega) (by omega)
  refine ⟨v', w', hr, fin olds v' w' hre ho, ?_, (Below.refl _ _).grown hg (Nat.le_refl _) (fun k hk => by cases hk)⟩
  intro e
  rcases ho.2 with ⟨_, h1⟩ | ⟨g', cap', cur', he, _⟩
  ·omega
  rw [he] at e
  cases e
theorem cut_full (A : Option Addr) (n c : Nat) (hc : n ≤ c) (W : World) : (Instr.slice 32 (.slice A n c) none (some (.int .i64 (n : Int))) (some (.int .i64 (n : Int)))).run Tryz.prog W = .ok (.slice A n n) W := by
 have h1 : (0 : Int) ≤ (n : Int) := by omega
 have h2 : (n : Int) ≤ (c : Int) := by omega
 have h3 : (n : Int) ≤ (n : Int) := by omega
 have h4 : n ≤ c := hc
 have ha : (A.map fun x => x.add 0) = A := by cases A <;> simp [Addr.add]
 obtain ⟨i0, hi, hz0, hz1, hz2⟩ := info_parts wInfo65
 simp [Instr.slice, run_underlying Tryz.underlying32, Instr.sliceBounds, run_sliceBound, sizeOf, typeInfo, hi, h1, h2, h3, h4, Result.andThen, ha]
theorem Part.snoc {dims : List S55} {ch : List S65} {p : S65} (h : Part dims ch) (h0 : p.f0 = (rd_T55 dims (ch.length : Int)).f0) (h1 : p.f1 ∈ (rd_T55 dims (ch.length : Int)).f1) : Part dims (ch ++ [p]) := by
 intro j hj
 rw [List.length_append, List.length_singleton] at hj
 rcases Nat.lt_or_ge j ch.length with hl | hl
 ·have e : rd_T65 (ch ++ [p]) (j : Int) = rd_T65 ch (j : Int) := by unfold rd_T65; rw [Int.toNat_natCast]; simp [List.getD, List.getElem?_append_left hl]
  rw [e]
  exact h j hl
 obtain rfl : j = ch.length := by omega
 have e : rd_T65 (ch ++ [p]) (ch.length : Int) = p := by unfold rd_T65; rw [Int.toNat_natCast]; simp [List.getD]
 rw [e]
 exact ⟨h0, h1⟩
theorem visit_step (w0 : World) (AD : Option Addr) (cD : Nat) (dims : List S55) (bd bY bv l hi : Nat) (S : Nat → Prop) (J : Nat → World → Prop) (Jx : World → Prop)
  (hD : Kd.C k55 w0 AD dims.length dims) (hlen : dims.length ≤ 100) (hval : ∀ j : Nat, j < dims.length → 0 < (rd_T55 dims (j : Int)).f1.length ∧ (rd_T55 dims (j : Int)).f1.length ≤ 1000000)
  (hJ : ∀ m A A', J m A → Below A.heap.size A A' → J m A')
  (hS : ∀ k, S k → w0.heap.size ≤ k ∧ k < hi) (hSd : ¬ S bd) (hSy : ¬ S bY) (hSv : ¬ S bv)
  (ch : List S65) (hlt : ch.length < dims.length)
  (ih : ∀ (ch' : List S65) (A' : Option Addr) (c' m' : Nat) (W' : World), ch'.length = ch.length + 1 → Part dims ch' → Kd.C k65 W' A' ch'.length ch' → ch'.length ≤ c' → (A' = none → c' = 0) → (∀ ad, A' = some ad → hi ≤ ad.block) → VEnv w0 AD dims.length cD bd bY bv l hi W' → J m' W' →
  Calls Tryz.prog 39 #[.int .i64 (ch'.length : Int), .slice A' ch'.length c', .pointer (some ⟨bd, 0, none⟩), .pointer (some ⟨bY, 0, none⟩), .pointer (some ⟨bv, 0, none⟩)] W' (VPost S J Jx m' W'))
  (A : Option Addr) (c m : Nat) (W : World) (hp : Part dims ch) (hC : Kd.C k65 W A ch.length ch) (hcc : ch.length ≤ c) (hn : A = none → c = 0) (hA : ∀ ad, A = some ad → hi ≤ ad.block) (hV : VEnv w0 AD dims.length cD bd bY bv l hi W) (hj : J m W) :
  Calls Tryz.prog 39 #[.int .i64 (ch.length : Int), .slice A ch.length c, .pointer (some ⟨bd, 0, none⟩), .pointer (some ⟨bY, 0, none⟩), .pointer (some ⟨bv, 0, none⟩)] W (VPost S J Jx m W) := by
 obtain ⟨ad, A1, c1, ead, hx0, hx1, hle1, hC1⟩ := at_T55 hD (ch.length : Int) (by omega) (by omega)
 subst ead
 rw [Int.toNat_natCast] at hx0 hx1
 obtain ⟨hv0, hv1⟩ := hval ch.length hlt
 obtain ⟨nv, hnv⟩ : ∃ nv, (rd_T55 dims (ch.length : Int)).f1.length = nv := ⟨_, rfl⟩
 rw [hnv] at hv0 hv1 hx1 hle1
 have HNV := am hnv
 have HV0 := am hv0
 have HV1 := am hv1
 have HX0 := am hx0
 have HC1 := am hC1
 have HJ := am hJ
 have HP := am hp
 have HC := am hC
 have HCC := am hcc
 have HN := am hn
 have HA := am hA
 have HV := am hV
 have H0 := am hj
 have HL := am hlen
 have HLT := am hlt
 have HS := am hS
 have HSD := am hSd
 have HSY := am hSy
 have HSV := am hSv
 have IH := am ih
 have hxd : W.cell? ⟨bd, 0, none⟩ = some (.slice (some ad) dims.length cD) := (blk_cell hV.dim 0).trans rfl
 have hxv := pw_cell_below hV.old hx1
 have e1 : ((ch.length : Int) == (dims.length : Int)) = false := beq_eq_false_iff_ne.mpr (by omega)
 have e1n : (ch.length == dims.length) = false := beq_eq_false_iff_ne.mpr (by omega)
 have p1 : (0 ≤ (ch.length : Int)) = True := eq_true (by omega)
 have p2 : ((ch.length : Int) < (dims.length : Int)) = True := eq_true (by omega)
 clear hx0 hx1 hle1 hC1 hv0 hv1 hnv hJ hp hC hcc hn hA hV hj hlen hlt hS hSd hSy hSv ih hval hD
 go_enter Tryz.func39, Tryz.ntmps39
 go_wp2
 clear hxd hxv
 go_loopg [29] (nv + 1) (fun kq v29 w' => ∃ (q m' : Nat), v29 = .int .i64 (q : Int) ∧ Aside0 (q ≤ nv) ∧ Aside0 (nv - q < kq) ∧ Aside0 (m ≤ m' ∧ (0 < q → m < m')) ∧ Aside0 (J m' w') ∧ Aside0 (Off S W w') ∧ Aside0 (VEnv w0 (some ad) dims.length cD bd bY bv l hi w'))
 case atStart => exact ⟨0, m, by first | rfl | (simp; done), ⟨Nat.zero_le _⟩, ⟨by omega⟩, ⟨Nat.le_refl _, fun h => by omega⟩, H0, ⟨Off.refl _ _⟩, HV⟩
 case round =>
  obtain ⟨q, m', rfl, QM, QK, QMM, QJ, QO, QV⟩ := hrel
  obtain ⟨k1, rfl⟩ : ∃ k1, gk = k1 + 1 := ⟨gk - 1, by have := QK.out; omega⟩
  by_cases c5 : q < nv
  ·obtain ⟨ad2, ead2, hy0⟩ := Kd.at_string (Kd.C_below HC1.out QV.out.old) (q : Int) (by omega) (by rw [HNV.out]; omega)
   subst ead2
   rw [Int.toNat_natCast] at hy0
   have p3 : (0 ≤ (q : Int)) = True := eq_true (by omega)
   have q3 : ((q : Int) < (nv : Int)) = True := eq_true (by omega)
   have q3b : decide ((q : Int) < (nv : Int)) = true := decide_eq_true (by omega)
   have hwq : wrap64 ((q : Int) + 1) = (q : Int) + 1 := by have := HV1.out; unfold wrap64; omega
   have QL := am c5
   have HMEM := am (show rdOf ByteArray.empty (rd_T55 dims (ch.length : Int)).f1 (q : Int) ∈ (rd_T55 dims (ch.length : Int)).f1 by
    have hq2 : q < (rd_T55 dims (ch.length : Int)).f1.length := by rw [HNV.out]; exact c5
    have : rdOf ByteArray.empty (rd_T55 dims (ch.length : Int)).f1 (q : Int) = (rd_T55 dims (ch.length : Int)).f1[q] := by unfold rdOf; rw [Int.toNat_natCast]; simp [List.getD, hq2]
    rw [this]
    exact List.getElem_mem hq2)
   obtain ⟨val, hval⟩ : ∃ val, rdOf ByteArray.empty (rd_T55 dims (ch.length : Int)).f1 (q : Int) = val := ⟨_, rfl⟩
   rw [hval] at hy0 HMEM
   have hw1 : wrap64 ((ch.length : Int) + 1) = ((ch.length + 1 : Nat) : Int) := by have := HL.out; have := HLT.out; unfold wrap64; omega
   have HW1 := am hw1
   clear c5 hval
   go_upto_region 8 with (fail)
   clear hy0
   have HF0 := am (show wr.drew.cell? ⟨bv, 0, none⟩ = some (.func (.func 39) #[] #[.pointer (some ⟨bd, 0, none⟩), .pointer (some ⟨bY, 0, none⟩), .pointer (some ⟨bv, 0, none⟩)]) from (blk_cell QV.out.vis 0).trans rfl)
   have HF1 := am (show wr.drew.cell? ⟨bd, 0, none⟩ = some (.slice (some ad) dims.length cD) from (blk_cell QV.out.dim 0).trans rfl)
   have HF2 := am (show wr.drew.cell? (ad.add (ch.length * 2)) = some (.string (rd_T55 dims (ch.length : Int)).f0) from pw_cell_below QV.out.old HX0.out)
   have HCW := am (show Kd.C k65 wr.drew A ch.length ch from Kd.C_drew (C65_off HC.out QO.out (fun ad' e hs => by have := (HS.out _ hs).2; have := HA.out ad' e; omega)))
   have HJW := am (HJ.out _ _ wr.drew QJ.out (below_drew (Below.refl _ _)))
   have HVW := am (VEnv.below QV.out (below_drew (Below.refl wr.heap.size wr)))
   have HOW := am (QO.out.drew)
   have hcut := cut_full A ch.length c HCC.out
   refine start_ (n := 18) (S := fun w' => w'.cell? ⟨bv, 0, none⟩ = some (.func (.func 39) #[] #[.pointer (some ⟨bd, 0, none⟩), .pointer (some ⟨bY, 0, none⟩), .pointer (some ⟨bv, 0, none⟩)]) ∧ w'.cell? ⟨bd, 0, none⟩ = some (.slice (some ad) dims.length cD) ∧ w'.cell? (ad.add (ch.length * 2)) = some (.string (rd_T55 dims (ch.length : Int)).f0)) (ds := [16]) (tf 18 0) (by kernel_rfl) rfl rfl ⟨HF0.out, HF1.out, HF2.out⟩ (fun hHeld => ?_)
   generalize wr.drew = wd at HF0 HF1 HF2 HCW HJW HVW HOW hHeld ⊢
   refine pure_ (i := 1) (N := some 34) (v := ?_) (a' := ?_) #[false, true, false, false, false, false, false, false, false, false, false, false, false, false, false, false, false, false] rfl rfl (by kernel_rfl) (fun _ _ _ h => h) (Or.inl ⟨by rfl, ?_⟩) ?_ ?_
   rotate_left
   ·intro w'
    go_simp
    with_reducible rfl
   rotate_left
   ·simp only [Act.put, List.setIfInBounds_toArray, List.set_cons_zero, List.set_cons_succ, i64_w, i32_w]
    rfl
   refine pure_ (i := 2) (N := some 35) (v := ?_) (a' := ?_) #[false, true, true, false, false, false, false, false, false, false, false, false, false, false, false, false, false, false] rfl rfl (by kernel_rfl) (fun _ _ _ h => h) (Or.inl ⟨by rfl, ?_⟩) ?_ ?_
   rotate_left
   ·intro w'
    go_simp
    with_reducible rfl
   rotate_left
   ·simp only [Act.put, List.setIfInBounds_toArray, List.set_cons_zero, List.set_cons_succ, i64_w, i32_w]
    rfl
   refine pure_ (i := 3) (N := some 36) (v := ?_) (a' := ?_) #[false, true, true, true, false, false, false, false, false, false, false, false, false, false, false, false, false, false] rfl rfl (by kernel_rfl) (fun _ _ _ h => h) (Or.inl ⟨by rfl, ?_⟩) ?_ ?_
   rotate_left
   ·intro w'
    go_simp
    with_reducible rfl
   rotate_left
   ·simp only [Act.put, List.setIfInBounds_toArray, List.set_cons_zero, List.set_cons_succ, i64_w, i32_w]
    rfl
   refine pure_ (i := 4) (N := some 37) (v := ?_) (a' := ?_) #[false, true, true, true, true, false, false, false, false, false, false, false, false, false, false, false, false, false] rfl rfl (by kernel_rfl) (fun _ _ _ h => h) (Or.inl ⟨by rfl, ?_⟩) ?_ ?_
   rotate_left
   ·intro w'
    go_simp
    with_reducible rfl
   rotate_left
   ·simp only [Act.put, List.setIfInBounds_toArray, List.set_cons_zero, List.set_cons_succ, i64_w, i32_w]
    rfl
   refine pure_ (i := 5) (N := some 38) (v := ?_) (a' := ?_) #[false, true, true, true, true, true, false, false, false, false, false, false, false, false, false, false, false, false] rfl rfl (by kernel_rfl) (fun _ _ _ h => h) (Or.inl ⟨by rfl, ?_⟩) ?_ ?_
   rotate_left
   ·intro w'
    go_simp
    with_reducible rfl
   rotate_left
   ·simp only [Act.put, List.setIfInBounds_toArray, List.set_cons_zero, List.set_cons_succ, i64_w, i32_w]
    rfl
   refine pure_ (i := 6) (N := some 39) (v := ?_) (a' := ?_) #[false, true, true, true, true, true, true, false, false, false, false, false, false, false, false, false, false, false] rfl rfl (by kernel_rfl) (fun _ _ _ h => h) (Or.inl ⟨by rfl, ?_⟩) ?_ ?_
   rotate_left
   ·intro w'
    go_simp
    with_reducible rfl
   rotate_left
   ·simp only [Act.put, List.setIfInBounds_toArray, List.set_cons_zero, List.set_cons_succ, i64_w, i32_w]
    rfl
   refine pure_ (i := 8) (N := some 41) (v := ?_) (a' := ?_) #[false, true, true, true, true, true, true, false, true, false, false, false, false, false, false, false, false, false] rfl rfl (by kernel_rfl) (fun _ _ _ h => h) (Or.inl ⟨by rfl, ?_⟩) ?_ ?_
   rotate_left
   ·intro w'
    go_simp
    with_reducible rfl
   rotate_left
   ·simp only [Act.put, List.setIfInBounds_toArray, List.set_cons_zero, List.set_cons_succ, i64_w, i32_w]
    rfl
   refine pure_ (i := 12) (N := some 45) (v := ?_) (a' := ?_) #[false, true, true, true, true, true, true, false, true, false, false, false, true, false, false, false, false, false] rfl rfl (by kernel_rfl) (fun _ _ _ h => h) (Or.inl ⟨by rfl, ?_⟩) ?_ ?_
   rotate_left
   ·intro w'
    go_simp
    with_reducible rfl
   rotate_left
   ·simp only [Act.put, List.setIfInBounds_toArray, List.set_cons_zero, List.set_cons_succ, i64_w, i32_w]
    rfl
   refine take_ (i := 0) (N := some 33) (v := ?_) (a' := ?_) #[true, true, true, true, true, true, true, false, true, false, false, false, true, false, false, false, false, false] rfl rfl (by kernel_rfl) (fun _ _ _ h => h) (Or.inl ⟨by rfl, ?_⟩) hHeld ?_ ?_
   rotate_left
   ·rintro w' ⟨s0, s1, s2⟩
    go_simp
    with_reducible rfl
   rotate_left
   ·simp only [Act.put, List.setIfInBounds_toArray, List.set_cons_zero, List.set_cons_succ, i64_w, i32_w]
    rfl
   refine take_ (i := 7) (N := some 40) (v := ?_) (a' := ?_) #[true, true, true, true, true, true, true, true, true, false, false, false, true, false, false, false, false, false] rfl rfl (by kernel_rfl) (fun _ _ _ h => h) (Or.inl ⟨by rfl, ?_⟩) hHeld ?_ ?_
   rotate_left
   ·rintro w' ⟨s0, s1, s2⟩
    go_simp
    with_reducible rfl
   rotate_left
   ·simp only [Act.put, List.setIfInBounds_toArray, List.set_cons_zero, List.set_cons_succ, i64_w, i32_w]
    rfl
   refine pure_ (i := 9) (N := some 42) (v := ?_) (a' := ?_) #[true, true, true, true, true, true, true, true, true, true, false, false, true, false, false, false, false, false] rfl rfl (by kernel_rfl) (fun _ _ _ h => h) (Or.inl ⟨by rfl, ?_⟩) ?_ ?_
   rotate_left
   ·intro w'
    go_simp
    with_reducible rfl
   rotate_left
   ·simp only [Act.put, List.setIfInBounds_toArray, List.set_cons_zero, List.set_cons_succ, i64_w, i32_w]
    rfl
   refine pure_ (i := 10) (N := some 43) (v := ?_) (a' := ?_) #[true, true, true, true, true, true, true, true, true, true, true, false, true, false, false, false, false, false] rfl rfl (by kernel_rfl) (fun _ _ _ h => h) (Or.inl ⟨by rfl, ?_⟩) ?_ ?_
   rotate_left
   ·intro w'
    go_simp
    with_reducible rfl
   rotate_left
   ·simp only [Act.put, List.setIfInBounds_toArray, List.set_cons_zero, List.set_cons_succ, i64_w, i32_w]
    rfl
   refine take_ (i := 11) (N := some 44) (v := ?_) (a' := ?_) (tf 18 13) rfl rfl (by kernel_rfl) (fun _ _ _ h => h) (Or.inl ⟨by rfl, ?_⟩) hHeld ?_ ?_
   rotate_left
   ·rintro w' ⟨s0, s1, s2⟩
    go_simp
    with_reducible rfl
   rotate_left
   ·simp only [Act.put, List.setIfInBounds_toArray, List.set_cons_zero, List.set_cons_succ, i64_w, i32_w]
    rfl
   refine pure_ (i := 13) (N := some 46) (v := ?_) (a' := ?_) (tf 18 14) rfl rfl (by kernel_rfl) (fun _ _ _ h => h) (Or.inl ⟨by rfl, ?_⟩) ?_ ?_
   rotate_left
   ·intro w'
    go_simp
    with_reducible rfl
   rotate_left
   ·simp only [Act.put, List.setIfInBounds_toArray, List.set_cons_zero, List.set_cons_succ, i64_w, i32_w]
    rfl
   refine one_ (i := 14) (N := some 47) (tf 18 15) rfl rfl (by kernel_rfl) (by decide) (fun K hK => ?_)
   refine value_ (w1 := ?_) (v := ?_) (by rfl) rfl ?_ ?_
   rotate_left 2
   ·go_simp
    constructor
    ·rfl
    rfl
   have HBK := am (blk_new wd (.cells #[.string (rd_T55 dims (ch.length : Int)).f0, .string val] 65))
   have HAL := am (below_alloc (Below.refl wd.heap.size wd) (.cells #[.string (rd_T55 dims (ch.length : Int)).f0, .string val] 65))
   refine hK.out _ _ ⟨pw_cell_below HAL.out HF0.out, pw_cell_below HAL.out HF1.out, pw_cell_below HAL.out HF2.out⟩ (fun hHeld => ?_)
   clear hK K
   refine norm_ (a' := ?_) ?_ ?_
   rotate_left
   ·show Act.put _ (some 47) _ = _
    simp only [Act.put, List.setIfInBounds_toArray, List.set_cons_zero, List.set_cons_succ, i64_w, i32_w]
    rfl
   refine one_ (i := 15) (N := some 48) (tf 18 16) rfl rfl (by kernel_rfl) (by decide) (fun K hK => ?_)
   obtain ⟨v', w3, hr3, hR3, hne3, hb3⟩ := append_full65 _ A ch (⟨(rd_T55 dims (ch.length : Int)).f0, val⟩ : S65) wd.heap.size (Kd.C_below HCW.out HAL.out) (by have := HL.out; have := HLT.out; omega) HBK.out
   obtain ⟨g3, c3, cur3, rfl, hg3, hbk3, hcap3, hC3⟩ := R65_block hR3 hne3
   refine value_ (w1 := w3) (v := .slice (some ⟨g3, 0, none⟩) (ch ++ [(⟨(rd_T55 dims (ch.length : Int)).f0, val⟩ : S65)]).length c3) (by rfl) rfl ?_ ?_
   ·unfold execOp
    simp [resolve, invoke, builtin, Sem.run_bind, Act.eval, hr3]
   have HB3 := am (below_step HAL.out hb3)
   have HG3 := am hg3
   have HCAP3 := am hcap3
   have HC3 := am hC3
   clear hr3 hR3 hne3 hb3 hg3 hbk3 hcap3 hC3
   refine hK.out _ _ ⟨pw_cell_below HB3.out HF0.out, pw_cell_below HB3.out HF1.out, pw_cell_below HB3.out HF2.out⟩ (fun hHeld => ?_)
   clear hK K
   refine norm_ (a' := ?_) ?_ ?_
   rotate_left
   ·show Act.put _ (some 48) _ = _
    simp only [Act.put, List.setIfInBounds_toArray, List.set_cons_zero, List.set_cons_succ, i64_w, i32_w]
    rfl
   refine last_ (i := 16) (N := some 49) (tf 18 17) rfl rfl (by kernel_rfl) (by decide) (fun K hK => ?_)
   refine call_ 39 #[.int .i64 (((ch ++ [(⟨(rd_T55 dims (ch.length : Int)).f0, val⟩ : S65)]).length : Nat) : Int), .slice (some ⟨g3, 0, none⟩) (ch ++ [(⟨(rd_T55 dims (ch.length : Int)).f0, val⟩ : S65)]).length c3, .pointer (some ⟨bd, 0, none⟩), .pointer (some ⟨bY, 0, none⟩), .pointer (some ⟨bv, 0, none⟩)] (by rfl) rfl ?_ ?_
   ·have he := fun args W_ => enters_ Tryz.func39 (by kernel_rfl) rfl args W_
    have hlen2 : (((ch ++ [(⟨(rd_T55 dims (ch.length : Int)).f0, val⟩ : S65)]).length : Nat) : Int) = wrap64 ((ch.length : Int) + 1) := by rw [HW1.out, List.length_append]; rfl
    rw [hlen2]
    unfold execOp
    simp [resolve, Deferred.ofValue, invoke, Act.eval, he]
   refine (IH.out (ch ++ [(⟨(rd_T55 dims (ch.length : Int)).f0, val⟩ : S65)]) (some ⟨g3, 0, none⟩) c3 m' w3 (by simp) (HP.out.snoc rfl HMEM.out) HC3.out HCAP3.out (fun h => by cases h) (fun ad' e => by cases e; have h1 := HG3.out; have h2 := HVW.out.top; have h3 := HAL.out.size; show hi ≤ g3; omega) (HVW.out.below HB3.out) (HJ.out _ _ _ HJW.out HB3.out)).mono ?_
   rintro e w4 ⟨b, rfl, hcase⟩
   refine ⟨_, rfl, ?_⟩
   have HCS := am hcase
   clear hcase
   refine hK.out _ _ ?_
   clear hK K
   refine norm_ (a' := ?_) ?_ ?_
   rotate_left
   ·show Act.put _ (some 49) _ = _
    simp only [Act.put, List.setIfInBounds_toArray, List.set_cons_zero, List.set_cons_succ, i64_w, i32_w]
    rfl
   refine pure_ (i := 17) (N := some 50) (v := ?_) (a' := ?_) (tf 18 18) rfl rfl (by kernel_rfl) (fun _ _ _ h => h) (Or.inl ⟨by rfl, ?_⟩) ?_ ?_
   rotate_left
   ·intro w'
    go_simp
    with_reducible rfl
   rotate_left
   ·simp only [Act.put, List.setIfInBounds_toArray, List.set_cons_zero, List.set_cons_succ, i64_w, i32_w]
    rfl
   refine done_ (by kernel_rfl) ?_
   rcases HCS.out with ⟨rfl, ⟨m2, hm2, hj2⟩, ho2⟩ | ⟨rfl, hx2⟩
   ·have HM2 := am hm2
    have HJ2 := am hj2
    have HO2 := am ho2
    clear hm2 hj2 ho2 HCS hHeld
    go_wp2
    go_roundg k1
    case measure => omega
    case rel => exact ⟨q + 1, m2, by first | rfl | (rw [hwq]; rfl), ⟨QL.out⟩, ⟨by have := QK.out; have := QL.out; omega⟩, ⟨by have := QMM.out.1; have := HM2.out; omega, fun _ => by have := QMM.out.1; have := HM2.out; omega⟩, HJ2, ⟨(HOW.out.trans (Off.of_below HB3.out)).trans HO2.out⟩, ⟨(HVW.out.below HB3.out).off HO2.out (fun k hk => (HS.out k hk).1) HSD.out HSY.out HSV.out⟩⟩
   have HX2 := am hx2
   clear hx2 HCS hHeld
   go_wp2
   go_ret
   exact ⟨false, rfl, .inr ⟨rfl, HX2.out⟩⟩
  obtain rfl : q = nv := by have := QM.out; omega
  have q3b : decide ((q : Int) < (q : Int)) = false := decide_eq_false (by omega)
  clear c5
  go_wp2
  go_ret
  exact ⟨true, rfl, .inl ⟨rfl, ⟨m', QMM.out.2 HV0.out, QJ.out⟩, QO.out⟩⟩
theorem visit.calls (w0 : World) (AD : Option Addr) (cD : Nat) (dims : List S55) (bd bY bv l hi : Nat) (S : Nat → Prop) (J : Nat → World → Prop) (Jx : World → Prop)
  (hD : Kd.C k55 w0 AD dims.length dims) (hlen : dims.length ≤ 100) (hval : ∀ j : Nat, j < dims.length → 0 < (rd_T55 dims (j : Int)).f1.length ∧ (rd_T55 dims (j : Int)).f1.length ≤ 1000000)
  (hJ : ∀ m A A', J m A → Below A.heap.size A A' → J m A')
  (hY : ∀ m v A, J m A → GRec dims v A → YieldAt Fence.wide 0 Tryz.prog l #[v] A fun e A' => (e = .returned (.bool true) ∧ J (m + 1) A' ∧ Off S A A') ∨ (e = .returned (.bool false) ∧ Jx A'))
  (hS : ∀ k, S k → w0.heap.size ≤ k ∧ k < hi) (hSd : ¬ S bd) (hSy : ¬ S bY) (hSv : ¬ S bv) :
  ∀ (d : Nat) (ch : List S65) (A : Option Addr) (c m : Nat) (W : World), ch.length + d = dims.length → Part dims ch → Kd.C k65 W A ch.length ch → ch.length ≤ c → (A = none → c = 0) → (∀ ad, A = some ad → hi ≤ ad.block) → VEnv w0 AD dims.length cD bd bY bv l hi W → J m W →
  Calls Tryz.prog 39 #[.int .i64 (ch.length : Int), .slice A ch.length c, .pointer (some ⟨bd, 0, none⟩), .pointer (some ⟨bY, 0, none⟩), .pointer (some ⟨bv, 0, none⟩)] W (VPost S J Jx m W) := by
 intro d
 induction d with
 | zero =>
  intro ch A c m W hch hp hC _ _ _ hV hj
  have e : ch.length = dims.length := by omega
  have := visit_last w0 AD cD dims bd bY bv l hi S J Jx hlen hJ hY ch A c m W e hp hC hV hj
  rw [e]
  exact this
 | succ d ih =>
  intro ch A c m W hch hp hC hcc hn hA hV hj
  exact visit_step w0 AD cD dims bd bY bv l hi S J Jx hD hlen hval hJ hS hSd hSy hSv ch (by omega)
   (fun ch' A' c' m' W' h1 h2 h3 h4 h5 h6 h7 h8 => ih ch' A' c' m' W' (by omega) h2 h3 h4 h5 h6 h7 h8) A c m W hp hC hcc hn hA hV hj
theorem feature_All.calls (AD : Option Addr) (n cD : Nat) (w : World) : Calls Tryz.prog 21 #[.slice AD n cD] w fun e w' => e = .returned (.func (.func 37) #[] #[.pointer (some ⟨w.heap.size, 0, none⟩)]) ∧ w' = w.alloc (.cells #[.slice AD n cD] 35) := by
 go_enter Tryz.func21, Tryz.ntmps21
 go_wp2
 go_ret
 exact ⟨by simp, rfl⟩
theorem all_iter (k : Nat) (w0 w : World) (AD : Option Addr) (cD : Nat) (dims : List S55) (bd : Nat) (S : Nat → Prop) (b : Bool)
  (hD : Kd.C k55 w0 AD dims.length dims) (hcD : dims.length ≤ cD) (hb0 : Below w0.heap.size w0 w) (hbd : w.heap[bd]? = some (.cells #[.slice AD dims.length cD] 35 (0, 0)))
  (hS : ∀ j, S j → w0.heap.size ≤ j ∧ j < w.heap.size + 2) (hSd : ¬ S bd) (hf : feature_dimensions.f k dims = some b) :
  IterC Tryz.prog 37 #[.pointer (some ⟨bd, 0, none⟩)] S (fun _ v W => b = true ∧ GRec dims v W) (fun m => (b = false ∧ m = 0) ∨ (b = true ∧ 0 < m)) w := by
 intro l J Jx W hbW hsz hJ hJx hY h0
 have hBW : Below w0.heap.size w0 W := hb0.trans (hbW.mono hb0.size)
 have hxd : W.cell? ⟨bd, 0, none⟩ = some (.slice AD dims.length cD) := (blk_cell (blk_below hbd hbW) 0).trans rfl
 have hxda := fun o => pw_cell_below (below_alloc (Below.refl W.heap.size W) o) hxd
 have HBD := am (blk_below hbd hbW)
 have HB := am hBW
 have HD := am hD
 have HCD := am hcD
 have HJ := am hJ
 have HY := am hY
 have H0 := am h0
 have HSZ := am hsz
 have HS := am hS
 have HSD := am hSd
 have HF := am hf
 clear hBW hbW hsz hJ hJx hY h0 hD hcD hb0 hbd hS hSd hf hxd
 show Calls Tryz.prog 37 #[.func (.yield l) #[] #[], .pointer (some ⟨bd, 0, none⟩)] W _
 cases b
 ·go_enter Tryz.func37, Tryz.ntmps37
  go_wp2_with (first | (go_at_call 38; refine (feature_dimensions.calls k AD cD dims false _ (Kd.C_below HD.out (below_step HB.out (below_alloc (Below.refl _ _) _))) HCD.out HF.out).mono ?_; rintro e w2 ⟨rfl, hb⟩; have HB2 := am (below_step (below_alloc (Below.refl _ _) _) hb); clear hb))
  refine bodyPost_ret (results_none rfl _ _ _) rfl ?_
  exact ⟨⟨_, rfl⟩, .inl ⟨0, by simp, HJ.out _ _ _ H0.out HB2.out⟩⟩
 obtain ⟨hl4, hv4⟩ := dims_true HF.out
 have HL4 := am hl4
 have HV4 := am hv4
 clear hl4 hv4
 go_enter Tryz.func37, Tryz.ntmps37
 go_wp2_with (first | (go_at_call 38; refine (feature_dimensions.calls k AD cD dims true _ (Kd.C_below HD.out (below_step HB.out (below_alloc (Below.refl _ _) _))) HCD.out HF.out).mono ?_; rintro e w2 ⟨rfl, hb⟩; have HB2 := am (below_step (below_alloc (Below.refl _ _) _) hb); have HBY := am (blk_below (blk_new W (.cells #[.func (.yield l) #[] #[]] 98)) hb); clear hb))
 have HV := am (show VEnv w0 AD dims.length cD bd W.heap.size w2.heap.size l W.heap.size (w2.alloc (.cells #[.func (.func 39) #[] #[.pointer (some ⟨bd, 0, none⟩), .pointer (some ⟨W.heap.size, 0, none⟩), .pointer (some ⟨w2.heap.size, 0, none⟩)]] 100)) from
  ⟨below_step HB.out (below_alloc HB2.out _), (below_alloc HB2.out _).size, blk_below HBD.out (below_alloc HB2.out _), blk_alloc HBY.out _, blk_new w2 _⟩)
 go_at_call 39
 show Calls Tryz.prog 39 #[.int .i64 (([] : List S65).length : Int), .slice none ([] : List S65).length 0, .pointer (some ⟨bd, 0, none⟩), .pointer (some ⟨W.heap.size, 0, none⟩), .pointer (some ⟨w2.heap.size, 0, none⟩)] _ _
 have hsz2 : W.heap.size < w2.heap.size := blk_lt HBY.out
 refine (visit.calls w0 AD cD dims bd W.heap.size w2.heap.size l W.heap.size S J Jx HD.out (by have := HL4.out; omega) (fun j hj => by have := HV4.out j hj; omega) HJ.out (fun m v A hj hg => HY.out m v A hj ⟨by first | rfl | trivial, hg⟩) (fun k hk => by have := HS.out k hk; have := HSZ.out; omega) HSD.out (fun hk => by have := HS.out _ hk; have := HSZ.out; omega) (fun hk => by have := HS.out _ hk; have := HSZ.out; omega)
  dims.length [] none 0 0 _ (by simp) (fun j hj => by simp at hj) (Kd.C_nil _ _) (Nat.le_refl _) (fun _ => rfl) (fun _ h => by cases h) HV.out (HJ.out _ _ _ H0.out (below_alloc HB2.out _))).mono ?_
 rintro e w4 ⟨b', rfl, hc⟩
 have HCS := am hc
 clear hc hsz2
 go_wp2
 refine bodyPost_end (results_none rfl _ _ _) rfl ?_
 refine ⟨⟨_, rfl⟩, ?_⟩
 rcases HCS.out with ⟨rfl, ⟨m', hm, hj⟩, _⟩ | ⟨rfl, hx⟩
 ·exact .inl ⟨m', by simp; exact hm, hj⟩
 exact .inr hx
attribute [local go_sem] Oper.semAt_some
theorem paradigm_Count.calls (k : Nat) (a0_0 : ByteArray) (A0_1 : Option Addr) (c0_1 : Nat) (l0_1 : List S55) (A0_2 : Option Addr) (c0_2 : Nat) (l0_2 : List (List S79)) (r : Int) (w : World) (hr0_1 : Kd.C k55 w A0_1 l0_1.length l0_1) (hc0_1 : l0_1.length ≤ c0_1) (hr0_2 : Kd.C (Kd.slice 79 k79) w A0_2 l0_2.length l0_2) (hc0_2 : l0_2.length ≤ c0_2) (h : paradigm_Count.f k a0_0 l0_1 l0_2 = some r) :
  Calls Tryz.prog 20 #[.agg #[.string a0_0, .slice A0_1 l0_1.length c0_1, .slice A0_2 l0_2.length c0_2]] w fun e w' => e = .returned (.int .i64 r) ∧ Below w.heap.size w w' := by
 unfold paradigm_Count.f at h
 obtain ⟨b, hb, h⟩ := Option.bind_eq_some_iff.1 h
 have HR := am hr0_1
 have HC := am hc0_1
 have HF := am hb
 have HRR := am (Option.some.inj h)
 obtain ⟨n2, hn2⟩ : ∃ n2, l0_2.length = n2 := ⟨_, rfl⟩
 rw [hn2]
 clear hr0_1 hc0_1 hr0_2 hc0_2 hb h hn2
 refine calls_of_marks Tryz.func20 rfl ?_
 simp only [Tryz.ntmps20, List.size_toArray, List.length_cons, List.length_nil, Nat.reduceAdd, Nat.reduceSub, Array.replicate_succ, Array.replicate_zero, List.push_toArray, List.append_toArray, List.nil_append, List.cons_append]
 go_wp2_with (first | (go_at_call 21; refine (feature_All.calls _ _ _ _).mono ?_; rintro e w1 ⟨rfl, rfl⟩))
 generalize hW : (((w.alloc (.cells #[.string a0_0, .slice A0_1 l0_1.length c0_1, .slice A0_2 n2 c0_2] 38)).alloc (.cells #[.int .i64 0] 3)).alloc (.cells #[.slice A0_1 l0_1.length c0_1] 35)) = W0
 have hsz : W0.heap.size = w.heap.size + 1 + 1 + 1 := by rw [← hW]; simp
 have b1 : W0.heap[w.heap.size]? = some (.cells #[.string a0_0, .slice A0_1 l0_1.length c0_1, .slice A0_2 n2 c0_2] 38 (0, 0)) := by rw [← hW]; exact blk_alloc (blk_alloc (blk_new w _) _) _
 have b2 : W0.heap[w.heap.size + 1]? = some (.cells #[.int .i64 0] 3 (0, 0)) := by rw [← hW]; exact blk_alloc (by have := blk_new (w.alloc (.cells #[.string a0_0, .slice A0_1 l0_1.length c0_1, .slice A0_2 n2 c0_2] 38)) (.cells #[.int .i64 0] 3); rwa [World.size_alloc] at this) _
 have bd : W0.heap[w.heap.size + 1 + 1]? = some (.cells #[.slice A0_1 l0_1.length c0_1] 35 (0, 0)) := by rw [← hW]; have := blk_new ((w.alloc (.cells #[.string a0_0, .slice A0_1 l0_1.length c0_1, .slice A0_2 n2 c0_2] 38)).alloc (.cells #[.int .i64 0] 3)) (.cells #[.slice A0_1 l0_1.length c0_1] 35); rwa [World.size_alloc, World.size_alloc] at this
 have hbl : Below w.heap.size w W0 := by rw [← hW]; exact below_alloc (below_alloc (below_alloc (Below.refl _ _) _) _) _
 clear hW
 refine wp_rangeFunc rfl (enters_of Tryz.func37 (by kernel_rfl) rfl) rfl w.heap.size (by omega) (fun k => k = w.heap.size + 1) (fun k hk => by omega) _ _
  (all_iter k w W0 A0_1 c0_1 l0_1 (w.heap.size + 1 + 1) _ b HR.out HC.out hbl bd (fun j hj => by omega) (by omega) HF.out)
  (fun m v X X' h ht => ⟨h.1, h.2.turn ht⟩)
  (fun m W => m = 0 ∧ W.heap[w.heap.size]? = some (.cells #[.string a0_0, .slice A0_1 l0_1.length c0_1, .slice A0_2 n2 c0_2] 38 (0, 0)) ∧ W.heap[w.heap.size + 1]? = some (.cells #[.int .i64 0] 3 (0, 0)) ∧ Below w.heap.size w W)
  (fun cd W => cd = .ret ∧ b = true ∧ W.heap[w.heap.size + 1]? = some (.cells #[.int .i64 (prodD l0_1 1)] 3 (0, 0)) ∧ Below w.heap.size w W)
  (fun m X X' h ht => ⟨h.1, ht.blk h.2.1, ht.blk h.2.2.1, h.2.2.2.trans (ht.below h.2.2.2.size)⟩)
  (fun cd X X' h ht => ⟨h.1, h.2.1, ht.blk h.2.2.1, h.2.2.2.trans (ht.below h.2.2.2.size)⟩)
  ⟨rfl, b1, b2, hbl⟩ [9] ?assign ?body ?done ?stop
 case assign =>
  intro l v W K hK
  simp only [List.foldl_cons, List.foldl_nil, List.setIfInBounds_toArray, List.set_cons_zero, List.set_cons_succ] at hK
  gi_wp2
  first | exact hK | simpa using hK
 case body =>
  rintro l m v W hsz1 ⟨rfl, c1, c2, hB⟩ ⟨rfl, _⟩
  simp only [List.foldl_cons, List.foldl_nil, List.setIfInBounds_toArray, List.set_cons_zero, List.set_cons_succ]
  have C1 := am c1
  have C2 := am c2
  have HB := am hB
  have hx1 := (blk_cell c1 1).trans rfl
  clear c1 c2 hB b1 b2 bd hbl hsz hsz1
  obtain ⟨hl4, hv4⟩ := dims_true HF.out
  have HL4 := am hl4
  have HV4 := am hv4
  clear hl4 hv4
  gi_wp2
  gi_loopw [3, 13] (fun v3 v13 wr => ∃ (q : Nat) (n : Int), v13 = .int .i64 (q : Int) ∧ v3 = .int .i64 n ∧ Aside0 (q ≤ l0_1.length) ∧ Aside0 (prodD (l0_1.drop q) n = prodD l0_1 1) ∧ Aside0 (wr.heap[w.heap.size + 1]? = some (.cells #[.int .i64 0] 3 (0, 0))) ∧ Aside0 (Below w.heap.size w wr) ∧ Aside0 (Off (fun k => k = w.heap.size + 1) W wr)) (fun v3 v13 wr => l0_1.length - (intOf v13).toNat)
  case atStart => exact ⟨0, 1, rfl, rfl, ⟨Nat.zero_le _⟩, ⟨rfl⟩, C2, HB, ⟨Off.refl _ _⟩⟩
  case round =>
   obtain ⟨q, n, rfl, rfl, QM, QP, Q2, QB, QO⟩ := hrel
   clear hx1
   by_cases c5 : q < l0_1.length
   ·obtain ⟨ad, A1, c1, ead, hy0, hy1, hle1, hC1⟩ := at_T55 (Kd.C_below HR.out QB.out) (q : Int) (by omega) (by omega)
    subst ead
    rw [Int.toNat_natCast] at hy0 hy1
    have hP := QP.out
    rw [List.drop_eq_getElem_cons c5, show l0_1[q] = rd_T55 l0_1 (q : Int) by simp [rd_T55, List.getD, List.getElem?_eq_getElem c5], prodD] at hP
    have HP := am hP
    have p3 : (0 ≤ (q : Int)) = True := eq_true (by omega)
    have q3 : ((q : Int) < (l0_1.length : Int)) = True := eq_true (by omega)
    have q3b : decide ((q : Int) < (l0_1.length : Int)) = true := decide_eq_true (by omega)
    have hwq : wrap64 ((q : Int) + 1) = (q : Int) + 1 := by have := HL4.out; unfold wrap64; omega
    have CQ := am c5
    clear c5 hP hle1 hC1 QP
    gi_wp2
    go_roundw
    case rel => exact ⟨q + 1, _, by first | rfl | (rw [hwq]; rfl), rfl, ⟨CQ.out⟩, HP, ⟨blk_alloc Q2.out _⟩, ⟨below_alloc QB.out _⟩, ⟨QO.out.alloc _⟩⟩
    case measure => have := CQ.out; first | (rw [hwq]; simp [intOf]; omega) | (simp [intOf]; omega)
   obtain rfl : q = l0_1.length := by have := QM.out; omega
   have q3b : decide ((l0_1.length : Int) < (l0_1.length : Int)) = false := decide_eq_false (by omega)
   have hP := QP.out
   rw [List.drop_eq_nil_of_le (Nat.le_refl _), prodD] at hP
   subst hP
   have hx2 := (blk_cell Q2.out 0).trans rfl
   have hf2 := blk_frozen Q2.out 0
   clear c5 QP
   gi_wp2
   exact ⟨QO.out.setCell (p := ⟨w.heap.size + 1, 0, none⟩) rfl _, rfl, by first | rfl | trivial, blk_set Q2.out 0 _, below_set QB.out (by omega)⟩
 case done =>
  rintro D m W hD hm ⟨rfl, c1, c2, hB⟩ hK
  have hbf : b = false := by rcases hm with ⟨h, _⟩ | ⟨_, h⟩; exact h; omega
  subst hbf
  have hr := HRR.out
  rw [if_neg (by decide)] at hr
  subst hr
  dsimp only
  have hx2 := (blk_cell c2 0).trans rfl
  have hf2 := blk_frozen c2 0
  have C2 := am c2
  have HB := am hB
  have HK := am hK
  have HD := am (show w.heap.size ≤ D by omega)
  clear c1 c2 hB hK b1 b2 bd hbl hsz hD hm
  go_wp2
  refine ⟨by simp, .inl ⟨_, _, rfl, run_takeDeferred (blk_far' HK.out (p := ⟨w.heap.size + 1, 0, none⟩) (ne_cells HK.out C2.out) _), ?_⟩⟩
  have K2 := am (blk_far' HK.out (p := ⟨w.heap.size + 1, 0, none⟩) (ne_cells HK.out C2.out) (.int .i64 0))
  have D2 := am (blk_set C2.out 0 (.int .i64 0))
  have hx5 := (blk_cell (put_far D2.out (ne_cells K2.out D2.out) (.deferred none)) 0).trans rfl
  refine ⟨.int .i64 0, by simp [results, Tryz.results20, go_sem, hx5], rfl, ?_⟩
  exact (below_set HB.out (by omega)).trans (belowK_b (w := w) (Nat.le_refl _) _ D _ _ HD.out K2.out rfl rfl)
 case stop =>
  rintro D cd W hD ⟨rfl, rfl, c2, hB⟩ hK
  have hr := HRR.out
  rw [if_pos rfl] at hr
  subst hr
  refine wpIn_ret ?_
  have C2 := am c2
  have HB := am hB
  have HK := am hK
  have HD := am (show w.heap.size ≤ D by omega)
  clear c2 hB hK b1 b2 bd hbl hsz hD
  go_wp2
  refine ⟨by simp, .inl ⟨_, _, rfl, run_takeDeferred HK.out, ?_⟩⟩
  have hx5 := (blk_cell (put_far C2.out (ne_cells HK.out C2.out) (.deferred none)) 0).trans rfl
  refine ⟨.int .i64 (prodD l0_1 1), by simp [results, Tryz.results20, go_sem, hx5], rfl, ?_⟩
  exact HB.out.trans (belowK_b (w := w) (Nat.le_refl _) _ D _ _ HD.out HK.out rfl rfl)
theorem feature_Get.calls (k : Nat) (A0 : Option Addr) (c0 : Nat) (l0 : List (S65)) (a1 : ByteArray) (r1 : ByteArray) (r2 : Bool) (w : World) (hr0 : Kd.C k65 w A0 l0.length l0) (hc0 : l0.length ≤ c0) (h : feature_Get.f k l0 a1 = some (r1, r2)) :
  Calls Tryz.prog 45 #[.slice A0 l0.length c0, .string a1] w fun e w' => e = .returned (.tuple #[.string r1, .bool r2]) ∧ Below w.heap.size w w' := by
 have hu65 := Tryz.underlying65
 have HR0 := am hr0
 have HC0 := am hc0
 clear hr0 hc0
 have HB := am (Below.refl w.heap.size w)
 have H : (feature_Get.l0 k a1 l0 (l0.length : Int) 0) = some (r1, r2) := h
 clear h
 have H' := am H
 clear H
 go_enter Tryz.func45, Tryz.ntmps45
 go_wp2
 go_loopg [10] k (fun kq v10 w' => ∃ (x10_1 : Int), v10 = .int .i64 x10_1 ∧ Aside0 (feature_Get.l0 kq a1 l0 (l0.length : Int) x10_1 = some (r1, r2)) ∧ Aside0 (kq ≤ k) ∧ Aside0 (Below w.heap.size w w'))
 case atStart => exact ⟨(0), rq, H', ⟨Nat.le_refl _⟩, ⟨bq⟩⟩
 case round =>
  clear H'
  obtain ⟨x10_1, rfl, HA, HK1, HB⟩ := hrel
  cases gk with
  | zero => exact absurd HA.out (by simp [feature_Get.l0])
  | succ k1 =>
   have H := HA.out
   clear HA
   simp only [feature_Get.l0] at H
   by_cases c3 : x10_1 < (l0.length : Int)
   ·rw [if_pos c3] at H
    have c3b0 : decide (x10_1 < (l0.length : Int)) = true := decide_eq_true c3
    clear c3
    by_cases c4 : 0 ≤ x10_1
    ·rw [if_pos c4] at H
     have c4b0 : decide (0 ≤ x10_1) = true := decide_eq_true c4
     clear c4
     by_cases c5 : x10_1 < (l0.length : Int)
     ·rw [if_pos c5] at H
      have c5b0 : decide (x10_1 < (l0.length : Int)) = true := decide_eq_true c5
      clear c5
      by_cases c6 : ((rd_T65 l0 x10_1).f0).toList = a1.toList
      ·rw [if_pos c6] at H
       have c6b0 : (((rd_T65 l0 x10_1).f0).toList == a1.toList) = true := beq_iff_eq.mpr c6
       have c6b1 : (((rd_T65 l0 x10_1).f0).toList != a1.toList) = false := bne_eq_false_iff_eq.mpr c6
       clear c6
       simp only [Option.some.injEq, Prod.mk.injEq] at H
       obtain ⟨rfl, rfl⟩ := H
       have p128 : 0 ≤ (x10_1 : Int) := oq
       have q128 : x10_1 < (l0.length : Int) := oq
       obtain ⟨ad128, e128, hx128_0, hx128_1⟩ := at_T65 HR0.out x10_1 p128 q128
       cases e128
       replace hx128_0 := cw hx128_0
       replace hx128_1 := cw hx128_1
       replace p128 := eq_true p128
       replace q128 := eq_true q128
       go_wp2_with (first | ((with_reducible refine gate_dst (N := 7) rfl ?_); refine bx 7 #[.string (⟨#[]⟩ : ByteArray), .string (⟨#[]⟩ : ByteArray)] 65 ?_; intro gb129 hg w7 hbox hb; have BK129 := am hbox; have GE129 := sz hg; replace HB := bs hb; clear hb hbox hg; obtain ⟨zaa, zab, zac, zad⟩ := bc2 BK129))
       go_ret2
       exact ⟨eq', bq⟩
      rw [if_neg c6] at H
      have c6b0 : (((rd_T65 l0 x10_1).f0).toList == a1.toList) = false := beq_eq_false_iff_ne.mpr c6
      have c6b1 : (((rd_T65 l0 x10_1).f0).toList != a1.toList) = true := bne_iff_ne.mpr c6
      have H' := am H
      clear H
      have p128 : 0 ≤ (x10_1 : Int) := oq
      have q128 : x10_1 < (l0.length : Int) := oq
      obtain ⟨ad128, e128, hx128_0, hx128_1⟩ := at_T65 HR0.out x10_1 p128 q128
      cases e128
      replace hx128_0 := cw hx128_0
      replace hx128_1 := cw hx128_1
      replace p128 := eq_true p128
      replace q128 := eq_true q128
      go_wp2_with (first | ((with_reducible refine gate_dst (N := 7) rfl ?_); refine bx 7 #[.string (⟨#[]⟩ : ByteArray), .string (⟨#[]⟩ : ByteArray)] 65 ?_; intro gb129 hg w9 hbox hb; have BK129 := am hbox; have GE129 := sz hg; replace HB := bs hb; clear hb hbox hg; obtain ⟨zae, zaf, zag, zah⟩ := bc2 BK129))
      go_roundg k1
      case measure => have := HK1.out; omega
      case rel => exact ⟨(wrap64 (x10_1 + 1)), rq, H', ⟨by have := HK1.out; omega⟩, ⟨bq⟩⟩
     rw [if_neg c5] at H
     exact absurd H (by simp)
    rw [if_neg c4] at H
    exact absurd H (by simp)
   rw [if_neg c3] at H
   have c3b0 : decide (x10_1 < (l0.length : Int)) = false := decide_eq_false c3
   clear c3
   simp only [Option.some.injEq, Prod.mk.injEq] at H
   obtain ⟨rfl, rfl⟩ := H
   go_wp2
   go_ret2
   exact ⟨eq', bq⟩
theorem paradigm_Number.calls (k : Nat) (a0_0 : ByteArray) (A0_1 : Option Addr) (c0_1 : Nat) (l0_1 : List (S55)) (A0_2 : Option Addr) (c0_2 : Nat) (l0_2 : List (List (S79))) (A1 : Option Addr) (c1 : Nat) (l1 : List (S65)) (r : Int) (w : World) (hr0_1 : Kd.C k55 w A0_1 l0_1.length l0_1) (hc0_1 : l0_1.length ≤ c0_1) (hr0_2 : Kd.C (Kd.slice 79 k79) w A0_2 l0_2.length l0_2) (hc0_2 : l0_2.length ≤ c0_2) (hr1 : Kd.C k65 w A1 l1.length l1) (hc1 : l1.length ≤ c1) (h : paradigm_Number.f k a0_0 l0_1 l0_2 l1 = some r) :
  Calls Tryz.prog 23 #[.agg #[.string a0_0, .slice A0_1 l0_1.length c0_1, .slice A0_2 l0_2.length c0_2], .slice A1 l1.length c1] w fun e w' => e = .returned (.int .i64 r) ∧ Below w.heap.size w w' := by
 have hu38 := Tryz.underlying38
 have hu55 := Tryz.underlying55
 have HR0_1 := am hr0_1
 have HC0_1 := am hc0_1
 clear hr0_1 hc0_1
 have HR0_2 := am hr0_2
 have HC0_2 := am hc0_2
 clear hr0_2 hc0_2
 have HR1 := am hr1
 have HC1 := am hc1
 clear hr1 hc1
 have HB := am (Below.refl w.heap.size w)
 have H : (if (l1.length : Int) = (l0_1.length : Int) then ((paradigm_Count.f k a0_0 l0_1 l0_2).bind fun t131 => (paradigm_Number.j0 k l1 (t131 == 0) a0_0 l0_1 l0_2)) else (paradigm_Number.j0 k l1 true a0_0 l0_1 l0_2)) = some r := h
 clear h
 have HC3 := am H
 clear H
 go_enter Tryz.func23, Tryz.ntmps23
 go_upto_region 1 with (first | ((with_reducible refine gate_dst (N := 2) rfl ?_); refine bx 2 #[.string a0_0, .slice A0_1 l0_1.length c0_1, .slice A0_2 l0_2.length c0_2] 38 ?_; intro gb130 hg w4 hbox hb; have BK130 := am hbox; have GE130 := sz hg; replace HB := bs hb; clear hb hbox hg))
 repeat (go_quiet (first | ((with_reducible refine gate_dst (N := 2) rfl ?_); refine bx 2 #[.string a0_0, .slice A0_1 l0_1.length c0_1, .slice A0_2 l0_2.length c0_2] 38 ?_; intro gb130 hg w4 hbox hb; have BK130 := am hbox; have GE130 := sz hg; replace HB := bs hb; clear hb hbox hg)); go_upto_region 1 with (first | ((with_reducible refine gate_dst (N := 2) rfl ?_); refine bx 2 #[.string a0_0, .slice A0_1 l0_1.length c0_1, .slice A0_2 l0_2.length c0_2] 38 ?_; intro gb130 hg w4 hbox hb; have BK130 := am hbox; have GE130 := sz hg; replace HB := bs hb; clear hb hbox hg)))
 (try simp only [Act.put, List.setIfInBounds_toArray, List.set_cons_zero, List.set_cons_succ])
 go_cut [22] (fun v22 wc => ∃ (kq : Nat) (x22_2 : Bool), v22 = .bool x22_2 ∧ Aside0 (paradigm_Number.j0 kq l1 x22_2 a0_0 l0_1 l0_2 = some r) ∧ Aside0 (kq ≤ k) ∧ Aside0 (wc.heap[gb130]? = some (.cells #[.string a0_0, (.slice A0_1 l0_1.length c0_1), (.slice A0_2 l0_2.length c0_2)] 38 (0, 0))) ∧ Aside0 (Below w.heap.size w wc))
 case first =>
  have H := HC3.out
  clear HC3
  by_cases c5 : (l1.length : Int) = (l0_1.length : Int)
  ·rw [if_pos c5] at H
   have c5b0 : ((l1.length : Int) == (l0_1.length : Int)) = true := beq_iff_eq.mpr c5
   have c5b1 : ((l1.length : Int) != (l0_1.length : Int)) = false := bne_eq_false_iff_eq.mpr c5
   have c5b2 : (l1.length == l0_1.length) = true := by first | simpa using c5 | (simp at c5 ⊢; omega)
   clear c5
   (first | rw [c5b0] | (simp only [i64_w, i32_w]; rw [c5b0]) | skip)
   replace H := Option.bind_eq_some_iff.mp H
   obtain ⟨t131, A60, H⟩ := H
   (try dsimp only at H)
   have A6 := am A60
   clear A60
   have H' := am H
   clear H
   obtain ⟨zaa, zab, zac, zad, zae, zaf⟩ := bc3 BK130
   go_wp2_with (first | (go_at_call 20; (with_reducible refine (paradigm_Count.calls k a0_0 _ _ l0_1 _ _ l0_2 t131 _ (cq HR0_1) HC0_1.out (cq HR0_2) HC0_2.out A6.out).mono ?_); rintro e w8 ⟨rfl, hb⟩; replace BK130 := bk BK130 hb; replace HB := bs hb; (try clear hb)))
   repeat (go_quiet (first | (go_at_call 20; (with_reducible refine (paradigm_Count.calls k a0_0 _ _ l0_1 _ _ l0_2 t131 _ (cq HR0_1) HC0_1.out (cq HR0_2) HC0_2.out A6.out).mono ?_); rintro e w8 ⟨rfl, hb⟩; replace BK130 := bk BK130 hb; replace HB := bs hb; (try clear hb))); try go_wp2_with (first | (go_at_call 20; (with_reducible refine (paradigm_Count.calls k a0_0 _ _ l0_1 _ _ l0_2 t131 _ (cq HR0_1) HC0_1.out (cq HR0_2) HC0_2.out A6.out).mono ?_); rintro e w8 ⟨rfl, hb⟩; replace BK130 := bk BK130 hb; replace HB := bs hb; (try clear hb))))
   go_meet
   case rel => exact ⟨_, ((t131 == 0)), rq, H', ⟨by first | omega | exact Nat.le_refl _⟩, ⟨bd BK130⟩, ⟨bq⟩⟩
  rw [if_neg c5] at H
  have c5b0 : ((l1.length : Int) == (l0_1.length : Int)) = false := beq_eq_false_iff_ne.mpr c5
  have c5b1 : ((l1.length : Int) != (l0_1.length : Int)) = true := bne_iff_ne.mpr c5
  have c5b2 : (l1.length == l0_1.length) = false := by first | simpa using c5 | (simp at c5 ⊢; omega)
  (first | rw [c5b0] | (simp only [i64_w, i32_w]; rw [c5b0]) | skip)
  have H' := am H
  clear H
  obtain ⟨zag, zah, zai, zaj, zak, zal⟩ := bc3 BK130
  go_wp2
  repeat (go_quiet (fail); try go_wp2)
  go_meet
  case rel => exact ⟨_, (true), rq, H', ⟨by first | omega | exact Nat.le_refl _⟩, ⟨bd BK130⟩, ⟨bq⟩⟩
 case rest =>
  clear HC3
  obtain ⟨kq, x22_2, rfl, HA, HJ2, BK130, HB⟩ := hcut
  cases kq with
  | zero => exact absurd HA.out (by simp [paradigm_Number.j0])
  | succ kj2 =>
   have H := HA.out
   clear HA
   simp only [paradigm_Number.j0] at H
   by_cases c10 : x22_2 = true
   ·subst c10
    rw [if_pos rfl] at H
    obtain rfl := Option.some.inj H
    go_wp2
    repeat (go_quiet (fail); try go_wp2)
    go_ret
    exact ⟨eq', bq⟩
   replace c10 := Bool.eq_false_iff.mpr c10
   subst c10
   rw [if_neg nf] at H
   have H' := am H
   clear H
   obtain ⟨zam, zan, zao, zap, zaq, zar⟩ := bc3 BK130
   go_wp2
   repeat (go_quiet (fail); try go_wp2)
   go_loopg [5, 26] kj2 (fun kq v5 v26 w' => ∃ (x5_2 : Int) (x26_2 : Int), v5 = .int .i64 x5_2 ∧ v26 = .int .i64 x26_2 ∧ Aside0 (paradigm_Number.l0 kq l1 x5_2 l0_1 (l0_1.length : Int) x26_2 = some r) ∧ Aside0 (kq ≤ kj2) ∧ Aside0 (w'.heap[gb130]? = some (.cells #[.string a0_0, (.slice A0_1 l0_1.length c0_1), (.slice A0_2 l0_2.length c0_2)] 38 (0, 0))) ∧ Aside0 (Below w.heap.size w w'))
   case atStart => exact ⟨(0), (0), rq, rq, H', ⟨Nat.le_refl _⟩, ⟨bd BK130⟩, ⟨bq⟩⟩
   case round =>
    clear H'
    clear zam zan zao zap zaq zar
    obtain ⟨x5_2, x26_2, rfl, rfl, HA, HK2, BK130, HB⟩ := hrel
    cases gk with
    | zero => exact absurd HA.out (by simp [paradigm_Number.l0])
    | succ k2 =>
     have H := HA.out
     clear HA
     simp only [paradigm_Number.l0] at H
     by_cases c12 : x26_2 < (l0_1.length : Int)
     ·rw [if_pos c12] at H
      have c12b0 : decide (x26_2 < (l0_1.length : Int)) = true := decide_eq_true c12
      clear c12
      by_cases c13 : 0 ≤ x26_2
      ·rw [if_pos c13] at H
       have c13b0 : decide (0 ≤ x26_2) = true := decide_eq_true c13
       clear c13
       by_cases c14 : x26_2 < (l0_1.length : Int)
       ·rw [if_pos c14] at H
        have c14b0 : decide (x26_2 < (l0_1.length : Int)) = true := decide_eq_true c14
        clear c14
        replace H := Option.bind_eq_some_iff.mp H
        obtain ⟨⟨t134, t135⟩, A150, H⟩ := H
        (try dsimp only at H)
        have A15 := am A150
        clear A150
        replace H := Option.bind_eq_some_iff.mp H
        obtain ⟨t136, A160, H⟩ := H
        (try dsimp only at H)
        have A16 := am A160
        clear A160
        by_cases c17 : t135 = true
        ·subst c17
         rw [if_pos rfl] at H
         by_cases c18 : t136 < 0
         ·rw [if_pos c18] at H
          have c18b0 : decide (t136 < 0) = true := decide_eq_true c18
          clear c18
          obtain rfl := Option.some.inj H
          have p132 : 0 ≤ (x26_2 : Int) := oq
          have q132 : x26_2 < (l0_1.length : Int) := oq
          obtain ⟨ad132, A132_1, c132_1, e132, hx132_0, hx132_1, hl132_1, hi132_1⟩ := at_T55 HR0_1.out x26_2 p132 q132
          cases e132
          replace hx132_0 := cw hx132_0
          replace hx132_1 := cw hx132_1
          have HR132_1 := am hi132_1
          have HC132_1 := am hl132_1
          clear hi132_1 hl132_1
          replace p132 := eq_true p132
          replace q132 := eq_true q132
          go_wp2_with (first | ((with_reducible refine gate_dst (N := 7) rfl ?_); refine bx 7 #[.string (⟨#[]⟩ : ByteArray), .slice none 0 0] 55 ?_; intro gb133 hg w19 hbox hb; have BK133 := am hbox; have GE133 := sz hg; have NB130_133 := nl hg BK130; have NB133_130 := ng hg BK130; replace BK130 := bk BK130 hb; replace HB := bs hb; clear hb hbox hg; have hnb20 := NB133_130.out; have hnc20 := NB130_133.out; obtain ⟨zas, zat, zau, zav⟩ := bc2 BK133) | (go_at_call 45; (with_reducible refine (feature_Get.calls k2 _ _ l1 ((rd_T55 l0_1 x26_2).f0) t134 true _ ?side1 ?side2 A15.out).mono ?_); (case side1 => exact Kd.C_below HR1.out bq); (case side2 => exact HC1.out); rintro e w22 ⟨rfl, hb⟩; replace BK130 := am (blk_below (g := gb130) (o := .cells #[.string a0_0, .slice (some ad132) l0_1.length c0_1, .slice A0_2 l0_2.length c0_2] 38 (0, 0)) (bf BK130) hb); replace BK133 := am (blk_below (g := gb133) (o := .cells #[.string ((rd_T55 l0_1 x26_2).f0), .slice A132_1 ((rd_T55 l0_1 x26_2).f1).length c132_1] 55 (0, 0)) (bp BK133) hb); replace HB := bs hb; (try clear hb); obtain ⟨zaw, zax, zay, zaz⟩ := bc2 BK133) | (go_at_call 46; (with_reducible refine (slices_Index_string_string.calls k2 _ _ ((rd_T55 l0_1 x26_2).f1) t134 t136 _ (cq HR132_1) HC132_1.out A16.out).mono ?_); rintro e w' ⟨rfl, ⟨nd, rfl⟩⟩; (try exact dq)))
          repeat (go_quiet (first | ((with_reducible refine gate_dst (N := 7) rfl ?_); refine bx 7 #[.string (⟨#[]⟩ : ByteArray), .slice none 0 0] 55 ?_; intro gb133 hg w19 hbox hb; have BK133 := am hbox; have GE133 := sz hg; have NB130_133 := nl hg BK130; have NB133_130 := ng hg BK130; replace BK130 := bk BK130 hb; replace HB := bs hb; clear hb hbox hg; have hnb20 := NB133_130.out; have hnc20 := NB130_133.out; obtain ⟨zas, zat, zau, zav⟩ := bc2 BK133) | (go_at_call 45; (with_reducible refine (feature_Get.calls k2 _ _ l1 ((rd_T55 l0_1 x26_2).f0) t134 true _ ?side1 ?side2 A15.out).mono ?_); (case side1 => exact Kd.C_below HR1.out bq); (case side2 => exact HC1.out); rintro e w22 ⟨rfl, hb⟩; replace BK130 := am (blk_below (g := gb130) (o := .cells #[.string a0_0, .slice (some ad132) l0_1.length c0_1, .slice A0_2 l0_2.length c0_2] 38 (0, 0)) (bf BK130) hb); replace BK133 := am (blk_below (g := gb133) (o := .cells #[.string ((rd_T55 l0_1 x26_2).f0), .slice A132_1 ((rd_T55 l0_1 x26_2).f1).length c132_1] 55 (0, 0)) (bp BK133) hb); replace HB := bs hb; (try clear hb); obtain ⟨zaw, zax, zay, zaz⟩ := bc2 BK133) | (go_at_call 46; (with_reducible refine (slices_Index_string_string.calls k2 _ _ ((rd_T55 l0_1 x26_2).f1) t134 t136 _ (cq HR132_1) HC132_1.out A16.out).mono ?_); rintro e w' ⟨rfl, ⟨nd, rfl⟩⟩; (try exact dq))); try go_wp2_with (first | ((with_reducible refine gate_dst (N := 7) rfl ?_); refine bx 7 #[.string (⟨#[]⟩ : ByteArray), .slice none 0 0] 55 ?_; intro gb133 hg w19 hbox hb; have BK133 := am hbox; have GE133 := sz hg; have NB130_133 := nl hg BK130; have NB133_130 := ng hg BK130; replace BK130 := bk BK130 hb; replace HB := bs hb; clear hb hbox hg; have hnb20 := NB133_130.out; have hnc20 := NB130_133.out; obtain ⟨zas, zat, zau, zav⟩ := bc2 BK133) | (go_at_call 45; (with_reducible refine (feature_Get.calls k2 _ _ l1 ((rd_T55 l0_1 x26_2).f0) t134 true _ ?side1 ?side2 A15.out).mono ?_); (case side1 => exact Kd.C_below HR1.out bq); (case side2 => exact HC1.out); rintro e w22 ⟨rfl, hb⟩; replace BK130 := am (blk_below (g := gb130) (o := .cells #[.string a0_0, .slice (some ad132) l0_1.length c0_1, .slice A0_2 l0_2.length c0_2] 38 (0, 0)) (bf BK130) hb); replace BK133 := am (blk_below (g := gb133) (o := .cells #[.string ((rd_T55 l0_1 x26_2).f0), .slice A132_1 ((rd_T55 l0_1 x26_2).f1).length c132_1] 55 (0, 0)) (bp BK133) hb); replace HB := bs hb; (try clear hb); obtain ⟨zaw, zax, zay, zaz⟩ := bc2 BK133) | (go_at_call 46; (with_reducible refine (slices_Index_string_string.calls k2 _ _ ((rd_T55 l0_1 x26_2).f1) t134 t136 _ (cq HR132_1) HC132_1.out A16.out).mono ?_); rintro e w' ⟨rfl, ⟨nd, rfl⟩⟩; (try exact dq))))
          go_ret
          exact ⟨eq', bq⟩
         rw [if_neg c18] at H
         have c18b0 : decide (t136 < 0) = false := decide_eq_false c18
         clear c18
         have H' := am H
         clear H
         have p132 : 0 ≤ (x26_2 : Int) := oq
         have q132 : x26_2 < (l0_1.length : Int) := oq
         obtain ⟨ad132, A132_1, c132_1, e132, hx132_0, hx132_1, hl132_1, hi132_1⟩ := at_T55 HR0_1.out x26_2 p132 q132
         cases e132
         replace hx132_0 := cw hx132_0
         replace hx132_1 := cw hx132_1
         have HR132_1 := am hi132_1
         have HC132_1 := am hl132_1
         clear hi132_1 hl132_1
         replace p132 := eq_true p132
         replace q132 := eq_true q132
         go_wp2_with (first | ((with_reducible refine gate_dst (N := 7) rfl ?_); refine bx 7 #[.string (⟨#[]⟩ : ByteArray), .slice none 0 0] 55 ?_; intro gb133 hg w24 hbox hb; have BK133 := am hbox; have GE133 := sz hg; have NB130_133 := nl hg BK130; have NB133_130 := ng hg BK130; replace BK130 := bk BK130 hb; replace HB := bs hb; clear hb hbox hg; have hnb25 := NB133_130.out; have hnc25 := NB130_133.out; obtain ⟨zba, zbb, zbc, zbd⟩ := bc2 BK133) | (go_at_call 45; (with_reducible refine (feature_Get.calls k2 _ _ l1 ((rd_T55 l0_1 x26_2).f0) t134 true _ ?side1 ?side2 A15.out).mono ?_); (case side1 => exact Kd.C_below HR1.out bq); (case side2 => exact HC1.out); rintro e w27 ⟨rfl, hb⟩; replace BK130 := am (blk_below (g := gb130) (o := .cells #[.string a0_0, .slice (some ad132) l0_1.length c0_1, .slice A0_2 l0_2.length c0_2] 38 (0, 0)) (bf BK130) hb); replace BK133 := am (blk_below (g := gb133) (o := .cells #[.string ((rd_T55 l0_1 x26_2).f0), .slice A132_1 ((rd_T55 l0_1 x26_2).f1).length c132_1] 55 (0, 0)) (bp BK133) hb); replace HB := bs hb; (try clear hb); obtain ⟨zbe, zbf, zbg, zbh⟩ := bc2 BK133) | (go_at_call 46; (with_reducible refine (slices_Index_string_string.calls k2 _ _ ((rd_T55 l0_1 x26_2).f1) t134 t136 _ (cq HR132_1) HC132_1.out A16.out).mono ?_); rintro e w' ⟨rfl, ⟨nd, rfl⟩⟩; (try exact dq)))
         repeat (go_quiet (first | ((with_reducible refine gate_dst (N := 7) rfl ?_); refine bx 7 #[.string (⟨#[]⟩ : ByteArray), .slice none 0 0] 55 ?_; intro gb133 hg w24 hbox hb; have BK133 := am hbox; have GE133 := sz hg; have NB130_133 := nl hg BK130; have NB133_130 := ng hg BK130; replace BK130 := bk BK130 hb; replace HB := bs hb; clear hb hbox hg; have hnb25 := NB133_130.out; have hnc25 := NB130_133.out; obtain ⟨zba, zbb, zbc, zbd⟩ := bc2 BK133) | (go_at_call 45; (with_reducible refine (feature_Get.calls k2 _ _ l1 ((rd_T55 l0_1 x26_2).f0) t134 true _ ?side1 ?side2 A15.out).mono ?_); (case side1 => exact Kd.C_below HR1.out bq); (case side2 => exact HC1.out); rintro e w27 ⟨rfl, hb⟩; replace BK130 := am (blk_below (g := gb130) (o := .cells #[.string a0_0, .slice (some ad132) l0_1.length c0_1, .slice A0_2 l0_2.length c0_2] 38 (0, 0)) (bf BK130) hb); replace BK133 := am (blk_below (g := gb133) (o := .cells #[.string ((rd_T55 l0_1 x26_2).f0), .slice A132_1 ((rd_T55 l0_1 x26_2).f1).length c132_1] 55 (0, 0)) (bp BK133) hb); replace HB := bs hb; (try clear hb); obtain ⟨zbe, zbf, zbg, zbh⟩ := bc2 BK133) | (go_at_call 46; (with_reducible refine (slices_Index_string_string.calls k2 _ _ ((rd_T55 l0_1 x26_2).f1) t134 t136 _ (cq HR132_1) HC132_1.out A16.out).mono ?_); rintro e w' ⟨rfl, ⟨nd, rfl⟩⟩; (try exact dq))); try go_wp2_with (first | ((with_reducible refine gate_dst (N := 7) rfl ?_); refine bx 7 #[.string (⟨#[]⟩ : ByteArray), .slice none 0 0] 55 ?_; intro gb133 hg w24 hbox hb; have BK133 := am hbox; have GE133 := sz hg; have NB130_133 := nl hg BK130; have NB133_130 := ng hg BK130; replace BK130 := bk BK130 hb; replace HB := bs hb; clear hb hbox hg; have hnb25 := NB133_130.out; have hnc25 := NB130_133.out; obtain ⟨zba, zbb, zbc, zbd⟩ := bc2 BK133) | (go_at_call 45; (with_reducible refine (feature_Get.calls k2 _ _ l1 ((rd_T55 l0_1 x26_2).f0) t134 true _ ?side1 ?side2 A15.out).mono ?_); (case side1 => exact Kd.C_below HR1.out bq); (case side2 => exact HC1.out); rintro e w27 ⟨rfl, hb⟩; replace BK130 := am (blk_below (g := gb130) (o := .cells #[.string a0_0, .slice (some ad132) l0_1.length c0_1, .slice A0_2 l0_2.length c0_2] 38 (0, 0)) (bf BK130) hb); replace BK133 := am (blk_below (g := gb133) (o := .cells #[.string ((rd_T55 l0_1 x26_2).f0), .slice A132_1 ((rd_T55 l0_1 x26_2).f1).length c132_1] 55 (0, 0)) (bp BK133) hb); replace HB := bs hb; (try clear hb); obtain ⟨zbe, zbf, zbg, zbh⟩ := bc2 BK133) | (go_at_call 46; (with_reducible refine (slices_Index_string_string.calls k2 _ _ ((rd_T55 l0_1 x26_2).f1) t134 t136 _ (cq HR132_1) HC132_1.out A16.out).mono ?_); rintro e w' ⟨rfl, ⟨nd, rfl⟩⟩; (try exact dq))))
         go_roundg k2
         case measure => have := HJ2.out; have := HK2.out; omega
         case rel => exact ⟨(wrap64 ((wrap64 (x5_2 * (((rd_T55 l0_1 x26_2).f1).length : Int))) + t136)), (wrap64 (x26_2 + 1)), rq, rq, H', ⟨by have := HJ2.out; have := HK2.out; omega⟩, ⟨bd BK130⟩, ⟨bq⟩⟩
        replace c17 := Bool.eq_false_iff.mpr c17
        subst c17
        rw [if_neg nf] at H
        obtain rfl := Option.some.inj H
        have p132 : 0 ≤ (x26_2 : Int) := oq
        have q132 : x26_2 < (l0_1.length : Int) := oq
        obtain ⟨ad132, A132_1, c132_1, e132, hx132_0, hx132_1, hl132_1, hi132_1⟩ := at_T55 HR0_1.out x26_2 p132 q132
        cases e132
        replace hx132_0 := cw hx132_0
        replace hx132_1 := cw hx132_1
        have HR132_1 := am hi132_1
        have HC132_1 := am hl132_1
        clear hi132_1 hl132_1
        replace p132 := eq_true p132
        replace q132 := eq_true q132
        go_wp2_with (first | ((with_reducible refine gate_dst (N := 7) rfl ?_); refine bx 7 #[.string (⟨#[]⟩ : ByteArray), .slice none 0 0] 55 ?_; intro gb133 hg w29 hbox hb; have BK133 := am hbox; have GE133 := sz hg; have NB130_133 := nl hg BK130; have NB133_130 := ng hg BK130; replace BK130 := bk BK130 hb; replace HB := bs hb; clear hb hbox hg; have hnb30 := NB133_130.out; have hnc30 := NB130_133.out; obtain ⟨zbi, zbj, zbk, zbl⟩ := bc2 BK133) | (go_at_call 45; (with_reducible refine (feature_Get.calls k2 _ _ l1 ((rd_T55 l0_1 x26_2).f0) t134 false _ ?side1 ?side2 A15.out).mono ?_); (case side1 => exact Kd.C_below HR1.out bq); (case side2 => exact HC1.out); rintro e w32 ⟨rfl, hb⟩; replace BK130 := am (blk_below (g := gb130) (o := .cells #[.string a0_0, .slice (some ad132) l0_1.length c0_1, .slice A0_2 l0_2.length c0_2] 38 (0, 0)) (bf BK130) hb); replace BK133 := am (blk_below (g := gb133) (o := .cells #[.string ((rd_T55 l0_1 x26_2).f0), .slice A132_1 ((rd_T55 l0_1 x26_2).f1).length c132_1] 55 (0, 0)) (bp BK133) hb); replace HB := bs hb; (try clear hb); obtain ⟨zbm, zbn, zbo, zbp⟩ := bc2 BK133) | (go_at_call 46; (with_reducible refine (slices_Index_string_string.calls k2 _ _ ((rd_T55 l0_1 x26_2).f1) t134 t136 _ (cq HR132_1) HC132_1.out A16.out).mono ?_); rintro e w' ⟨rfl, ⟨nd, rfl⟩⟩; (try exact dq)))
        repeat (go_quiet (first | ((with_reducible refine gate_dst (N := 7) rfl ?_); refine bx 7 #[.string (⟨#[]⟩ : ByteArray), .slice none 0 0] 55 ?_; intro gb133 hg w29 hbox hb; have BK133 := am hbox; have GE133 := sz hg; have NB130_133 := nl hg BK130; have NB133_130 := ng hg BK130; replace BK130 := bk BK130 hb; replace HB := bs hb; clear hb hbox hg; have hnb30 := NB133_130.out; have hnc30 := NB130_133.out; obtain ⟨zbi, zbj, zbk, zbl⟩ := bc2 BK133) | (go_at_call 45; (with_reducible refine (feature_Get.calls k2 _ _ l1 ((rd_T55 l0_1 x26_2).f0) t134 false _ ?side1 ?side2 A15.out).mono ?_); (case side1 => exact Kd.C_below HR1.out bq); (case side2 => exact HC1.out); rintro e w32 ⟨rfl, hb⟩; replace BK130 := am (blk_below (g := gb130) (o := .cells #[.string a0_0, .slice (some ad132) l0_1.length c0_1, .slice A0_2 l0_2.length c0_2] 38 (0, 0)) (bf BK130) hb); replace BK133 := am (blk_below (g := gb133) (o := .cells #[.string ((rd_T55 l0_1 x26_2).f0), .slice A132_1 ((rd_T55 l0_1 x26_2).f1).length c132_1] 55 (0, 0)) (bp BK133) hb); replace HB := bs hb; (try clear hb); obtain ⟨zbm, zbn, zbo, zbp⟩ := bc2 BK133) | (go_at_call 46; (with_reducible refine (slices_Index_string_string.calls k2 _ _ ((rd_T55 l0_1 x26_2).f1) t134 t136 _ (cq HR132_1) HC132_1.out A16.out).mono ?_); rintro e w' ⟨rfl, ⟨nd, rfl⟩⟩; (try exact dq))); try go_wp2_with (first | ((with_reducible refine gate_dst (N := 7) rfl ?_); refine bx 7 #[.string (⟨#[]⟩ : ByteArray), .slice none 0 0] 55 ?_; intro gb133 hg w29 hbox hb; have BK133 := am hbox; have GE133 := sz hg; have NB130_133 := nl hg BK130; have NB133_130 := ng hg BK130; replace BK130 := bk BK130 hb; replace HB := bs hb; clear hb hbox hg; have hnb30 := NB133_130.out; have hnc30 := NB130_133.out; obtain ⟨zbi, zbj, zbk, zbl⟩ := bc2 BK133) | (go_at_call 45; (with_reducible refine (feature_Get.calls k2 _ _ l1 ((rd_T55 l0_1 x26_2).f0) t134 false _ ?side1 ?side2 A15.out).mono ?_); (case side1 => exact Kd.C_below HR1.out bq); (case side2 => exact HC1.out); rintro e w32 ⟨rfl, hb⟩; replace BK130 := am (blk_below (g := gb130) (o := .cells #[.string a0_0, .slice (some ad132) l0_1.length c0_1, .slice A0_2 l0_2.length c0_2] 38 (0, 0)) (bf BK130) hb); replace BK133 := am (blk_below (g := gb133) (o := .cells #[.string ((rd_T55 l0_1 x26_2).f0), .slice A132_1 ((rd_T55 l0_1 x26_2).f1).length c132_1] 55 (0, 0)) (bp BK133) hb); replace HB := bs hb; (try clear hb); obtain ⟨zbm, zbn, zbo, zbp⟩ := bc2 BK133) | (go_at_call 46; (with_reducible refine (slices_Index_string_string.calls k2 _ _ ((rd_T55 l0_1 x26_2).f1) t134 t136 _ (cq HR132_1) HC132_1.out A16.out).mono ?_); rintro e w' ⟨rfl, ⟨nd, rfl⟩⟩; (try exact dq))))
        go_ret
        exact ⟨eq', bq⟩
       rw [if_neg c14] at H
       exact absurd H (by simp)
      rw [if_neg c13] at H
      exact absurd H (by simp)
     rw [if_neg c12] at H
     have c12b0 : decide (x26_2 < (l0_1.length : Int)) = false := decide_eq_false c12
     clear c12
     have H' := am H
     clear H
     go_wp2
     repeat (go_quiet (fail); try go_wp2)
     go_loopg [11] k2 (fun kq v11 w' => ∃ (x11_3 : Int), v11 = .int .i64 x11_3 ∧ Aside0 (paradigm_Number.l1 kq l1 x5_2 x11_3 = some r) ∧ Aside0 (kq ≤ k2) ∧ Aside0 (w'.heap[gb130]? = some (.cells #[.string a0_0, (.slice A0_1 l0_1.length c0_1), (.slice A0_2 l0_2.length c0_2)] 38 (0, 0))) ∧ Aside0 (Below w.heap.size w w'))
     case atStart => exact ⟨(1), rq, H', ⟨Nat.le_refl _⟩, ⟨bd BK130⟩, ⟨bq⟩⟩
     case round =>
      clear H'
      clear c12b0
      obtain ⟨x11_3, rfl, HA, HK3, BK130, HB⟩ := hrel
      cases gk with
      | zero => exact absurd HA.out (by simp [paradigm_Number.l1])
      | succ k3 =>
       have H := HA.out
       clear HA
       simp only [paradigm_Number.l1] at H
       by_cases c34 : x11_3 < (l1.length : Int)
       ·rw [if_pos c34] at H
        have c34b0 : decide (x11_3 < (l1.length : Int)) = true := decide_eq_true c34
        clear c34
        obtain ⟨ji35, hji35⟩ : ∃ j_ : Int, (wrap64 (x11_3 - 1)) = j_ := ⟨_, rfl⟩
        replace H : (if 0 ≤ (ji35) then (if (ji35) < (l1.length : Int) then (if 0 ≤ x11_3 then (if ((Op.bytesLess (((rd_T65 l1 (ji35)).f0).toList) (((rd_T65 l1 x11_3).f0).toList)) = true) then (paradigm_Number.l1 k3 l1 x5_2 (wrap64 (x11_3 + 1))) else (some (-1))) else (none)) else (none)) else (none)) = some r := by first | (rw [hji35] at H; exact H) | (simp only [hji35] at H ⊢; exact H)
        have hji35w : (IntKind.i64.wrap (x11_3 - 1)) = ji35 := (i64_w _).trans hji35
        by_cases c36 : 0 ≤ (ji35)
        ·rw [if_pos c36] at H
         have c36b0 : decide (0 ≤ (ji35)) = true := decide_eq_true c36
         clear c36
         by_cases c37 : (ji35) < (l1.length : Int)
         ·rw [if_pos c37] at H
          have c37b0 : decide ((ji35) < (l1.length : Int)) = true := decide_eq_true c37
          clear c37
          by_cases c38 : 0 ≤ x11_3
          ·rw [if_pos c38] at H
           have c38b0 : decide (0 ≤ x11_3) = true := decide_eq_true c38
           clear c38
           by_cases c39 : ((Op.bytesLess (((rd_T65 l1 (ji35)).f0).toList) (((rd_T65 l1 x11_3).f0).toList)) = true)
           ·rw [if_pos c39] at H
            have c39b0 : (Op.bytesLess (((rd_T65 l1 (ji35)).f0).toList) (((rd_T65 l1 x11_3).f0).toList)) = true := c39
            clear c39
            have H' := am H
            clear H
            have p137 : 0 ≤ ((ji35) : Int) := oq
            have q137 : (ji35) < (l1.length : Int) := oq
            obtain ⟨ad137, e137, hx137_0, hx137_1⟩ := at_T65 HR1.out (ji35) p137 q137
            cases e137
            replace hx137_0 := cw hx137_0
            replace hx137_1 := cw hx137_1
            replace p137 := eq_true p137
            replace q137 := eq_true q137
            have p138 : 0 ≤ (x11_3 : Int) := oq
            have q138 : x11_3 < (l1.length : Int) := oq
            obtain ⟨ad138, e138, hx138_0, hx138_1⟩ := at_T65 HR1.out x11_3 p138 q138
            obtain rfl : ad137 = ad138 := (by injection e138)
            replace hx138_0 := cw hx138_0
            replace hx138_1 := cw hx138_1
            replace p138 := eq_true p138
            replace q138 := eq_true q138
            go_wp2
            repeat (go_quiet (fail); try go_wp2)
            go_roundg k3
            case measure => have := HJ2.out; have := HK2.out; have := HK3.out; omega
            case rel => exact ⟨(wrap64 (x11_3 + 1)), rq, H', ⟨by have := HJ2.out; have := HK2.out; have := HK3.out; omega⟩, ⟨bd BK130⟩, ⟨bq⟩⟩
           rw [if_neg c39] at H
           have c39b0 : (Op.bytesLess (((rd_T65 l1 (ji35)).f0).toList) (((rd_T65 l1 x11_3).f0).toList)) = false := by simpa using c39
           clear c39
           obtain rfl := Option.some.inj H
           have p137 : 0 ≤ ((ji35) : Int) := oq
           have q137 : (ji35) < (l1.length : Int) := oq
           obtain ⟨ad137, e137, hx137_0, hx137_1⟩ := at_T65 HR1.out (ji35) p137 q137
           cases e137
           replace hx137_0 := cw hx137_0
           replace hx137_1 := cw hx137_1
           replace p137 := eq_true p137
           replace q137 := eq_true q137
           have p138 : 0 ≤ (x11_3 : Int) := oq
           have q138 : x11_3 < (l1.length : Int) := oq
           obtain ⟨ad138, e138, hx138_0, hx138_1⟩ := at_T65 HR1.out x11_3 p138 q138
           obtain rfl : ad137 = ad138 := (by injection e138)
           replace hx138_0 := cw hx138_0
           replace hx138_1 := cw hx138_1
           replace p138 := eq_true p138
           replace q138 := eq_true q138
           go_wp2
           repeat (go_quiet (fail); try go_wp2)
           go_ret
           exact ⟨by first | rfl | (simp [errW_none, errW_some] <;> rfl) | (simp only [← hji35]; first | rfl | (simp [errW_none, errW_some] <;> rfl)) | (simp [*, errW_none, errW_some] <;> rfl), bq⟩
          rw [if_neg c38] at H
          exact absurd H (by simp)
         rw [if_neg c37] at H
         exact absurd H (by simp)
        rw [if_neg c36] at H
        exact absurd H (by simp)
       rw [if_neg c34] at H
       have c34b0 : decide (x11_3 < (l1.length : Int)) = false := decide_eq_false c34
       clear c34
       obtain rfl := Option.some.inj H
       go_wp2
       repeat (go_quiet (fail); try go_wp2)
       go_ret
       exact ⟨eq', bq⟩
theorem feature_Valid.calls (k : Nat) (A0 : Option Addr) (c0 : Nat) (l0 : List (S65)) (r : Bool) (w : World) (hr0 : Kd.C k65 w A0 l0.length l0) (hc0 : l0.length ≤ c0) (h : feature_Valid.f k l0 = some r) :
  Calls Tryz.prog 47 #[.slice A0 l0.length c0] w fun e w' => e = .returned (.bool r) ∧ Below w.heap.size w w' := by
 have hu65 := Tryz.underlying65
 have HR0 := am hr0
 have HC0 := am hc0
 clear hr0 hc0
 have HB := am (Below.refl w.heap.size w)
 have H : (feature_Valid.l0 k l0 l0 (l0.length : Int) 0) = some r := h
 clear h
 have H' := am H
 clear H
 go_enter Tryz.func47, Tryz.ntmps47
 go_wp2
 repeat (go_quiet (fail); try go_wp2)
 go_loopg [7] k (fun kq v7 w' => ∃ (x7_1 : Int), v7 = .int .i64 x7_1 ∧ Aside0 (feature_Valid.l0 kq l0 l0 (l0.length : Int) x7_1 = some r) ∧ Aside0 (kq ≤ k) ∧ Aside0 (Below w.heap.size w w'))
 case atStart => exact ⟨(0), rq, H', ⟨Nat.le_refl _⟩, ⟨bq⟩⟩
 case round =>
  clear H'
  obtain ⟨x7_1, rfl, HA, HK1, HB⟩ := hrel
  cases gk with
  | zero => exact absurd HA.out (by simp [feature_Valid.l0])
  | succ k1 =>
   have H := HA.out
   clear HA
   simp only [feature_Valid.l0] at H
   by_cases c2 : x7_1 < (l0.length : Int)
   ·rw [if_pos c2] at H
    have c2b0 : decide (x7_1 < (l0.length : Int)) = true := decide_eq_true c2
    clear c2
    by_cases c3 : 0 ≤ x7_1
    ·rw [if_pos c3] at H
     have c3b0 : decide (0 ≤ x7_1) = true := decide_eq_true c3
     clear c3
     by_cases c4 : x7_1 < (l0.length : Int)
     ·rw [if_pos c4] at H
      have c4b0 : decide (x7_1 < (l0.length : Int)) = true := decide_eq_true c4
      clear c4
      replace H := Option.bind_eq_some_iff.mp H
      obtain ⟨t141, A50, H⟩ := H
      (try dsimp only at H)
      have A5 := am A50
      clear A50
      by_cases c6 : t141 = true
      ·subst c6
       rw [if_pos rfl] at H
       replace H := Option.bind_eq_some_iff.mp H
       obtain ⟨t142, A70, H⟩ := H
       (try dsimp only at H)
       have A7 := am A70
       clear A70
       by_cases c8 : t142 = true
       ·subst c8
        rw [if_pos rfl] at H
        by_cases c9 : x7_1 > 0
        ·rw [if_pos c9] at H
         have c9b0 : decide (0 < x7_1) = true := decide_eq_true c9
         clear c9
         obtain ⟨ji10, hji10⟩ : ∃ j_ : Int, (wrap64 (x7_1 - 1)) = j_ := ⟨_, rfl⟩
         replace H : (if 0 ≤ (ji10) then (if (ji10) < (l0.length : Int) then (if ((Op.bytesLess (((rd_T65 l0 (ji10)).f0).toList) (((rd_T65 l0 x7_1).f0).toList)) = true) then (feature_Valid.l0 k1 l0 l0 (l0.length : Int) (wrap64 (x7_1 + 1))) else (some false)) else (none)) else (none)) = some r := by first | (rw [hji10] at H; exact H) | (simp only [hji10] at H ⊢; exact H)
         (try rw [hji10] at A5)
         (try rw [hji10] at A7)
         have hji10w : (IntKind.i64.wrap (x7_1 - 1)) = ji10 := (i64_w _).trans hji10
         by_cases c11 : 0 ≤ (ji10)
         ·rw [if_pos c11] at H
          have c11b0 : decide (0 ≤ (ji10)) = true := decide_eq_true c11
          clear c11
          by_cases c12 : (ji10) < (l0.length : Int)
          ·rw [if_pos c12] at H
           have c12b0 : decide ((ji10) < (l0.length : Int)) = true := decide_eq_true c12
           clear c12
           by_cases c13 : ((Op.bytesLess (((rd_T65 l0 (ji10)).f0).toList) (((rd_T65 l0 x7_1).f0).toList)) = true)
           ·rw [if_pos c13] at H
            have c13b0 : (Op.bytesLess (((rd_T65 l0 (ji10)).f0).toList) (((rd_T65 l0 x7_1).f0).toList)) = true := c13
            clear c13
            have H' := am H
            clear H
            have p139 : 0 ≤ (x7_1 : Int) := oq
            have q139 : x7_1 < (l0.length : Int) := oq
            obtain ⟨ad139, e139, hx139_0, hx139_1⟩ := at_T65 HR0.out x7_1 p139 q139
            cases e139
            replace hx139_0 := cw hx139_0
            replace hx139_1 := cw hx139_1
            replace p139 := eq_true p139
            replace q139 := eq_true q139
            go_wp2_with (first | ((with_reducible refine gate_dst (N := 4) rfl ?_); refine bx 4 #[.string (⟨#[]⟩ : ByteArray), .string (⟨#[]⟩ : ByteArray)] 65 ?_; intro gb140 hg w14 hbox hb; have BK140 := am hbox; have GE140 := sz hg; replace HB := bs hb; clear hb hbox hg; obtain ⟨zaa, zab, zac, zad⟩ := bc2 BK140) | (go_at_call 64; (with_reducible refine (feature_name.calls k1 ((rd_T65 l0 x7_1).f0) true _ A5.out).mono ?_); rintro e w' ⟨rfl, ⟨nd, rfl⟩⟩; (try exact dq)) | (go_at_call 64; (with_reducible refine (feature_name.calls k1 ((rd_T65 l0 x7_1).f1) true _ A7.out).mono ?_); rintro e w' ⟨rfl, ⟨nd, rfl⟩⟩; (try exact dq); have p143 : 0 ≤ ((ji10) : Int) := oq; have q143 : (ji10) < (l0.length : Int) := oq; obtain ⟨ad143, e143, hx143_0, hx143_1⟩ := at_T65 HR0.out (ji10) p143 q143; obtain rfl : ad139 = ad143 := (by injection e143); have hn143_0 : ad139.block ≠ gb140 := Nat.ne_of_lt (Nat.lt_of_lt_of_le (by have := World.block_lt_of_cell? _ _ hx143_0; first | rwa [add_block] at this | exact this) GE140.out); have hn143_1 : ad139.block ≠ gb140 := Nat.ne_of_lt (Nat.lt_of_lt_of_le (by have := World.block_lt_of_cell? _ _ hx143_0; first | rwa [add_block] at this | exact this) GE140.out); replace hx143_0 := cw hx143_0; replace hx143_1 := cw hx143_1; replace hx143_0 := (cell_far (p := ⟨gb140, 0, none⟩) (by first | (rw [add_block]; exact hn143_0) | (show (Addr.add _ _).block ≠ _; rw [add_block]; exact hn143_0) | exact hn143_0) (.string ((rd_T65 l0 x7_1).f0))).trans hx143_0; replace hx143_1 := (cell_far (p := ⟨gb140, 0, none⟩) (by first | (rw [add_block]; exact hn143_0) | (show (Addr.add _ _).block ≠ _; rw [add_block]; exact hn143_0) | exact hn143_0) (.string ((rd_T65 l0 x7_1).f0))).trans hx143_1; replace hx143_0 := (cell_far (p := ⟨gb140, 1, none⟩) (by first | (rw [add_block]; exact hn143_1) | (show (Addr.add _ _).block ≠ _; rw [add_block]; exact hn143_1) | exact hn143_1) (.string ((rd_T65 l0 x7_1).f1))).trans hx143_0; replace hx143_1 := (cell_far (p := ⟨gb140, 1, none⟩) (by first | (rw [add_block]; exact hn143_1) | (show (Addr.add _ _).block ≠ _; rw [add_block]; exact hn143_1) | exact hn143_1) (.string ((rd_T65 l0 x7_1).f1))).trans hx143_1; (try have hy143_0 := fun (n_ : Nat) => (show ((((w14.drewN n_).setCell ⟨gb140, 0, none⟩ (.string ((rd_T65 l0 x7_1).f0))).setCell ⟨gb140, 1, none⟩ (.string ((rd_T65 l0 x7_1).f1)))).cell? _ = some _ from hx143_0)); (try have hy143_1 := fun (n_ : Nat) => (show ((((w14.drewN n_).setCell ⟨gb140, 0, none⟩ (.string ((rd_T65 l0 x7_1).f0))).setCell ⟨gb140, 1, none⟩ (.string ((rd_T65 l0 x7_1).f1)))).cell? _ = some _ from hx143_1)); clear hn143_0; clear hn143_1; replace p143 := eq_true p143; replace q143 := eq_true q143))
            repeat (go_quiet (first | ((with_reducible refine gate_dst (N := 4) rfl ?_); refine bx 4 #[.string (⟨#[]⟩ : ByteArray), .string (⟨#[]⟩ : ByteArray)] 65 ?_; intro gb140 hg w14 hbox hb; have BK140 := am hbox; have GE140 := sz hg; replace HB := bs hb; clear hb hbox hg; obtain ⟨zaa, zab, zac, zad⟩ := bc2 BK140) | (go_at_call 64; (with_reducible refine (feature_name.calls k1 ((rd_T65 l0 x7_1).f0) true _ A5.out).mono ?_); rintro e w' ⟨rfl, ⟨nd, rfl⟩⟩; (try exact dq)) | (go_at_call 64; (with_reducible refine (feature_name.calls k1 ((rd_T65 l0 x7_1).f1) true _ A7.out).mono ?_); rintro e w' ⟨rfl, ⟨nd, rfl⟩⟩; (try exact dq); have p143 : 0 ≤ ((ji10) : Int) := oq; have q143 : (ji10) < (l0.length : Int) := oq; obtain ⟨ad143, e143, hx143_0, hx143_1⟩ := at_T65 HR0.out (ji10) p143 q143; obtain rfl : ad139 = ad143 := (by injection e143); have hn143_0 : ad139.block ≠ gb140 := Nat.ne_of_lt (Nat.lt_of_lt_of_le (by have := World.block_lt_of_cell? _ _ hx143_0; first | rwa [add_block] at this | exact this) GE140.out); have hn143_1 : ad139.block ≠ gb140 := Nat.ne_of_lt (Nat.lt_of_lt_of_le (by have := World.block_lt_of_cell? _ _ hx143_0; first | rwa [add_block] at this | exact this) GE140.out); replace hx143_0 := cw hx143_0; replace hx143_1 := cw hx143_1; replace hx143_0 := (cell_far (p := ⟨gb140, 0, none⟩) (by first | (rw [add_block]; exact hn143_0) | (show (Addr.add _ _).block ≠ _; rw [add_block]; exact hn143_0) | exact hn143_0) (.string ((rd_T65 l0 x7_1).f0))).trans hx143_0; replace hx143_1 := (cell_far (p := ⟨gb140, 0, none⟩) (by first | (rw [add_block]; exact hn143_0) | (show (Addr.add _ _).block ≠ _; rw [add_block]; exact hn143_0) | exact hn143_0) (.string ((rd_T65 l0 x7_1).f0))).trans hx143_1; replace hx143_0 := (cell_far (p := ⟨gb140, 1, none⟩) (by first | (rw [add_block]; exact hn143_1) | (show (Addr.add _ _).block ≠ _; rw [add_block]; exact hn143_1) | exact hn143_1) (.string ((rd_T65 l0 x7_1).f1))).trans hx143_0; replace hx143_1 := (cell_far (p := ⟨gb140, 1, none⟩) (by first | (rw [add_block]; exact hn143_1) | (show (Addr.add _ _).block ≠ _; rw [add_block]; exact hn143_1) | exact hn143_1) (.string ((rd_T65 l0 x7_1).f1))).trans hx143_1; (try have hy143_0 := fun (n_ : Nat) => (show ((((w14.drewN n_).setCell ⟨gb140, 0, none⟩ (.string ((rd_T65 l0 x7_1).f0))).setCell ⟨gb140, 1, none⟩ (.string ((rd_T65 l0 x7_1).f1)))).cell? _ = some _ from hx143_0)); (try have hy143_1 := fun (n_ : Nat) => (show ((((w14.drewN n_).setCell ⟨gb140, 0, none⟩ (.string ((rd_T65 l0 x7_1).f0))).setCell ⟨gb140, 1, none⟩ (.string ((rd_T65 l0 x7_1).f1)))).cell? _ = some _ from hx143_1)); clear hn143_0; clear hn143_1; replace p143 := eq_true p143; replace q143 := eq_true q143)); try go_wp2_with (first | ((with_reducible refine gate_dst (N := 4) rfl ?_); refine bx 4 #[.string (⟨#[]⟩ : ByteArray), .string (⟨#[]⟩ : ByteArray)] 65 ?_; intro gb140 hg w14 hbox hb; have BK140 := am hbox; have GE140 := sz hg; replace HB := bs hb; clear hb hbox hg; obtain ⟨zaa, zab, zac, zad⟩ := bc2 BK140) | (go_at_call 64; (with_reducible refine (feature_name.calls k1 ((rd_T65 l0 x7_1).f0) true _ A5.out).mono ?_); rintro e w' ⟨rfl, ⟨nd, rfl⟩⟩; (try exact dq)) | (go_at_call 64; (with_reducible refine (feature_name.calls k1 ((rd_T65 l0 x7_1).f1) true _ A7.out).mono ?_); rintro e w' ⟨rfl, ⟨nd, rfl⟩⟩; (try exact dq); have p143 : 0 ≤ ((ji10) : Int) := oq; have q143 : (ji10) < (l0.length : Int) := oq; obtain ⟨ad143, e143, hx143_0, hx143_1⟩ := at_T65 HR0.out (ji10) p143 q143; obtain rfl : ad139 = ad143 := (by injection e143); have hn143_0 : ad139.block ≠ gb140 := Nat.ne_of_lt (Nat.lt_of_lt_of_le (by have := World.block_lt_of_cell? _ _ hx143_0; first | rwa [add_block] at this | exact this) GE140.out); have hn143_1 : ad139.block ≠ gb140 := Nat.ne_of_lt (Nat.lt_of_lt_of_le (by have := World.block_lt_of_cell? _ _ hx143_0; first | rwa [add_block] at this | exact this) GE140.out); replace hx143_0 := cw hx143_0; replace hx143_1 := cw hx143_1; replace hx143_0 := (cell_far (p := ⟨gb140, 0, none⟩) (by first | (rw [add_block]; exact hn143_0) | (show (Addr.add _ _).block ≠ _; rw [add_block]; exact hn143_0) | exact hn143_0) (.string ((rd_T65 l0 x7_1).f0))).trans hx143_0; replace hx143_1 := (cell_far (p := ⟨gb140, 0, none⟩) (by first | (rw [add_block]; exact hn143_0) | (show (Addr.add _ _).block ≠ _; rw [add_block]; exact hn143_0) | exact hn143_0) (.string ((rd_T65 l0 x7_1).f0))).trans hx143_1; replace hx143_0 := (cell_far (p := ⟨gb140, 1, none⟩) (by first | (rw [add_block]; exact hn143_1) | (show (Addr.add _ _).block ≠ _; rw [add_block]; exact hn143_1) | exact hn143_1) (.string ((rd_T65 l0 x7_1).f1))).trans hx143_0; replace hx143_1 := (cell_far (p := ⟨gb140, 1, none⟩) (by first | (rw [add_block]; exact hn143_1) | (show (Addr.add _ _).block ≠ _; rw [add_block]; exact hn143_1) | exact hn143_1) (.string ((rd_T65 l0 x7_1).f1))).trans hx143_1; (try have hy143_0 := fun (n_ : Nat) => (show ((((w14.drewN n_).setCell ⟨gb140, 0, none⟩ (.string ((rd_T65 l0 x7_1).f0))).setCell ⟨gb140, 1, none⟩ (.string ((rd_T65 l0 x7_1).f1)))).cell? _ = some _ from hx143_0)); (try have hy143_1 := fun (n_ : Nat) => (show ((((w14.drewN n_).setCell ⟨gb140, 0, none⟩ (.string ((rd_T65 l0 x7_1).f0))).setCell ⟨gb140, 1, none⟩ (.string ((rd_T65 l0 x7_1).f1)))).cell? _ = some _ from hx143_1)); clear hn143_0; clear hn143_1; replace p143 := eq_true p143; replace q143 := eq_true q143)))
            go_roundg k1
            case measure => have := HK1.out; omega
            case rel => exact ⟨(wrap64 (x7_1 + 1)), rq, H', ⟨by have := HK1.out; omega⟩, ⟨bq⟩⟩
           rw [if_neg c13] at H
           have c13b0 : (Op.bytesLess (((rd_T65 l0 (ji10)).f0).toList) (((rd_T65 l0 x7_1).f0).toList)) = false := by simpa using c13
           clear c13
           obtain rfl := Option.some.inj H
           have p139 : 0 ≤ (x7_1 : Int) := oq
           have q139 : x7_1 < (l0.length : Int) := oq
           obtain ⟨ad139, e139, hx139_0, hx139_1⟩ := at_T65 HR0.out x7_1 p139 q139
           cases e139
           replace hx139_0 := cw hx139_0
           replace hx139_1 := cw hx139_1
           replace p139 := eq_true p139
           replace q139 := eq_true q139
           go_wp2_with (first | ((with_reducible refine gate_dst (N := 4) rfl ?_); refine bx 4 #[.string (⟨#[]⟩ : ByteArray), .string (⟨#[]⟩ : ByteArray)] 65 ?_; intro gb140 hg w16 hbox hb; have BK140 := am hbox; have GE140 := sz hg; replace HB := bs hb; clear hb hbox hg; obtain ⟨zae, zaf, zag, zah⟩ := bc2 BK140) | (go_at_call 64; (with_reducible refine (feature_name.calls k1 ((rd_T65 l0 x7_1).f0) true _ A5.out).mono ?_); rintro e w' ⟨rfl, ⟨nd, rfl⟩⟩; (try exact dq)) | (go_at_call 64; (with_reducible refine (feature_name.calls k1 ((rd_T65 l0 x7_1).f1) true _ A7.out).mono ?_); rintro e w' ⟨rfl, ⟨nd, rfl⟩⟩; (try exact dq); have p143 : 0 ≤ ((ji10) : Int) := oq; have q143 : (ji10) < (l0.length : Int) := oq; obtain ⟨ad143, e143, hx143_0, hx143_1⟩ := at_T65 HR0.out (ji10) p143 q143; obtain rfl : ad139 = ad143 := (by injection e143); have hn143_0 : ad139.block ≠ gb140 := Nat.ne_of_lt (Nat.lt_of_lt_of_le (by have := World.block_lt_of_cell? _ _ hx143_0; first | rwa [add_block] at this | exact this) GE140.out); have hn143_1 : ad139.block ≠ gb140 := Nat.ne_of_lt (Nat.lt_of_lt_of_le (by have := World.block_lt_of_cell? _ _ hx143_0; first | rwa [add_block] at this | exact this) GE140.out); replace hx143_0 := cw hx143_0; replace hx143_1 := cw hx143_1; replace hx143_0 := (cell_far (p := ⟨gb140, 0, none⟩) (by first | (rw [add_block]; exact hn143_0) | (show (Addr.add _ _).block ≠ _; rw [add_block]; exact hn143_0) | exact hn143_0) (.string ((rd_T65 l0 x7_1).f0))).trans hx143_0; replace hx143_1 := (cell_far (p := ⟨gb140, 0, none⟩) (by first | (rw [add_block]; exact hn143_0) | (show (Addr.add _ _).block ≠ _; rw [add_block]; exact hn143_0) | exact hn143_0) (.string ((rd_T65 l0 x7_1).f0))).trans hx143_1; replace hx143_0 := (cell_far (p := ⟨gb140, 1, none⟩) (by first | (rw [add_block]; exact hn143_1) | (show (Addr.add _ _).block ≠ _; rw [add_block]; exact hn143_1) | exact hn143_1) (.string ((rd_T65 l0 x7_1).f1))).trans hx143_0; replace hx143_1 := (cell_far (p := ⟨gb140, 1, none⟩) (by first | (rw [add_block]; exact hn143_1) | (show (Addr.add _ _).block ≠ _; rw [add_block]; exact hn143_1) | exact hn143_1) (.string ((rd_T65 l0 x7_1).f1))).trans hx143_1; (try have hy143_0 := fun (n_ : Nat) => (show ((((w16.drewN n_).setCell ⟨gb140, 0, none⟩ (.string ((rd_T65 l0 x7_1).f0))).setCell ⟨gb140, 1, none⟩ (.string ((rd_T65 l0 x7_1).f1)))).cell? _ = some _ from hx143_0)); (try have hy143_1 := fun (n_ : Nat) => (show ((((w16.drewN n_).setCell ⟨gb140, 0, none⟩ (.string ((rd_T65 l0 x7_1).f0))).setCell ⟨gb140, 1, none⟩ (.string ((rd_T65 l0 x7_1).f1)))).cell? _ = some _ from hx143_1)); clear hn143_0; clear hn143_1; replace p143 := eq_true p143; replace q143 := eq_true q143))
           repeat (go_quiet (first | ((with_reducible refine gate_dst (N := 4) rfl ?_); refine bx 4 #[.string (⟨#[]⟩ : ByteArray), .string (⟨#[]⟩ : ByteArray)] 65 ?_; intro gb140 hg w16 hbox hb; have BK140 := am hbox; have GE140 := sz hg; replace HB := bs hb; clear hb hbox hg; obtain ⟨zae, zaf, zag, zah⟩ := bc2 BK140) | (go_at_call 64; (with_reducible refine (feature_name.calls k1 ((rd_T65 l0 x7_1).f0) true _ A5.out).mono ?_); rintro e w' ⟨rfl, ⟨nd, rfl⟩⟩; (try exact dq)) | (go_at_call 64; (with_reducible refine (feature_name.calls k1 ((rd_T65 l0 x7_1).f1) true _ A7.out).mono ?_); rintro e w' ⟨rfl, ⟨nd, rfl⟩⟩; (try exact dq); have p143 : 0 ≤ ((ji10) : Int) := oq; have q143 : (ji10) < (l0.length : Int) := oq; obtain ⟨ad143, e143, hx143_0, hx143_1⟩ := at_T65 HR0.out (ji10) p143 q143; obtain rfl : ad139 = ad143 := (by injection e143); have hn143_0 : ad139.block ≠ gb140 := Nat.ne_of_lt (Nat.lt_of_lt_of_le (by have := World.block_lt_of_cell? _ _ hx143_0; first | rwa [add_block] at this | exact this) GE140.out); have hn143_1 : ad139.block ≠ gb140 := Nat.ne_of_lt (Nat.lt_of_lt_of_le (by have := World.block_lt_of_cell? _ _ hx143_0; first | rwa [add_block] at this | exact this) GE140.out); replace hx143_0 := cw hx143_0; replace hx143_1 := cw hx143_1; replace hx143_0 := (cell_far (p := ⟨gb140, 0, none⟩) (by first | (rw [add_block]; exact hn143_0) | (show (Addr.add _ _).block ≠ _; rw [add_block]; exact hn143_0) | exact hn143_0) (.string ((rd_T65 l0 x7_1).f0))).trans hx143_0; replace hx143_1 := (cell_far (p := ⟨gb140, 0, none⟩) (by first | (rw [add_block]; exact hn143_0) | (show (Addr.add _ _).block ≠ _; rw [add_block]; exact hn143_0) | exact hn143_0) (.string ((rd_T65 l0 x7_1).f0))).trans hx143_1; replace hx143_0 := (cell_far (p := ⟨gb140, 1, none⟩) (by first | (rw [add_block]; exact hn143_1) | (show (Addr.add _ _).block ≠ _; rw [add_block]; exact hn143_1) | exact hn143_1) (.string ((rd_T65 l0 x7_1).f1))).trans hx143_0; replace hx143_1 := (cell_far (p := ⟨gb140, 1, none⟩) (by first | (rw [add_block]; exact hn143_1) | (show (Addr.add _ _).block ≠ _; rw [add_block]; exact hn143_1) | exact hn143_1) (.string ((rd_T65 l0 x7_1).f1))).trans hx143_1; (try have hy143_0 := fun (n_ : Nat) => (show ((((w16.drewN n_).setCell ⟨gb140, 0, none⟩ (.string ((rd_T65 l0 x7_1).f0))).setCell ⟨gb140, 1, none⟩ (.string ((rd_T65 l0 x7_1).f1)))).cell? _ = some _ from hx143_0)); (try have hy143_1 := fun (n_ : Nat) => (show ((((w16.drewN n_).setCell ⟨gb140, 0, none⟩ (.string ((rd_T65 l0 x7_1).f0))).setCell ⟨gb140, 1, none⟩ (.string ((rd_T65 l0 x7_1).f1)))).cell? _ = some _ from hx143_1)); clear hn143_0; clear hn143_1; replace p143 := eq_true p143; replace q143 := eq_true q143)); try go_wp2_with (first | ((with_reducible refine gate_dst (N := 4) rfl ?_); refine bx 4 #[.string (⟨#[]⟩ : ByteArray), .string (⟨#[]⟩ : ByteArray)] 65 ?_; intro gb140 hg w16 hbox hb; have BK140 := am hbox; have GE140 := sz hg; replace HB := bs hb; clear hb hbox hg; obtain ⟨zae, zaf, zag, zah⟩ := bc2 BK140) | (go_at_call 64; (with_reducible refine (feature_name.calls k1 ((rd_T65 l0 x7_1).f0) true _ A5.out).mono ?_); rintro e w' ⟨rfl, ⟨nd, rfl⟩⟩; (try exact dq)) | (go_at_call 64; (with_reducible refine (feature_name.calls k1 ((rd_T65 l0 x7_1).f1) true _ A7.out).mono ?_); rintro e w' ⟨rfl, ⟨nd, rfl⟩⟩; (try exact dq); have p143 : 0 ≤ ((ji10) : Int) := oq; have q143 : (ji10) < (l0.length : Int) := oq; obtain ⟨ad143, e143, hx143_0, hx143_1⟩ := at_T65 HR0.out (ji10) p143 q143; obtain rfl : ad139 = ad143 := (by injection e143); have hn143_0 : ad139.block ≠ gb140 := Nat.ne_of_lt (Nat.lt_of_lt_of_le (by have := World.block_lt_of_cell? _ _ hx143_0; first | rwa [add_block] at this | exact this) GE140.out); have hn143_1 : ad139.block ≠ gb140 := Nat.ne_of_lt (Nat.lt_of_lt_of_le (by have := World.block_lt_of_cell? _ _ hx143_0; first | rwa [add_block] at this | exact this) GE140.out); replace hx143_0 := cw hx143_0; replace hx143_1 := cw hx143_1; replace hx143_0 := (cell_far (p := ⟨gb140, 0, none⟩) (by first | (rw [add_block]; exact hn143_0) | (show (Addr.add _ _).block ≠ _; rw [add_block]; exact hn143_0) | exact hn143_0) (.string ((rd_T65 l0 x7_1).f0))).trans hx143_0; replace hx143_1 := (cell_far (p := ⟨gb140, 0, none⟩) (by first | (rw [add_block]; exact hn143_0) | (show (Addr.add _ _).block ≠ _; rw [add_block]; exact hn143_0) | exact hn143_0) (.string ((rd_T65 l0 x7_1).f0))).trans hx143_1; replace hx143_0 := (cell_far (p := ⟨gb140, 1, none⟩) (by first | (rw [add_block]; exact hn143_1) | (show (Addr.add _ _).block ≠ _; rw [add_block]; exact hn143_1) | exact hn143_1) (.string ((rd_T65 l0 x7_1).f1))).trans hx143_0; replace hx143_1 := (cell_far (p := ⟨gb140, 1, none⟩) (by first | (rw [add_block]; exact hn143_1) | (show (Addr.add _ _).block ≠ _; rw [add_block]; exact hn143_1) | exact hn143_1) (.string ((rd_T65 l0 x7_1).f1))).trans hx143_1; (try have hy143_0 := fun (n_ : Nat) => (show ((((w16.drewN n_).setCell ⟨gb140, 0, none⟩ (.string ((rd_T65 l0 x7_1).f0))).setCell ⟨gb140, 1, none⟩ (.string ((rd_T65 l0 x7_1).f1)))).cell? _ = some _ from hx143_0)); (try have hy143_1 := fun (n_ : Nat) => (show ((((w16.drewN n_).setCell ⟨gb140, 0, none⟩ (.string ((rd_T65 l0 x7_1).f0))).setCell ⟨gb140, 1, none⟩ (.string ((rd_T65 l0 x7_1).f1)))).cell? _ = some _ from hx143_1)); clear hn143_0; clear hn143_1; replace p143 := eq_true p143; replace q143 := eq_true q143)))
           go_ret
           exact ⟨by first | rfl | (simp [errW_none, errW_some] <;> rfl) | (simp only [← hji10]; first | rfl | (simp [errW_none, errW_some] <;> rfl)) | (simp [*, errW_none, errW_some] <;> rfl), bq⟩
          rw [if_neg c12] at H
          exact absurd H (by simp)
         rw [if_neg c11] at H
         exact absurd H (by simp)
        rw [if_neg c9] at H
        have c9b0 : decide (0 < x7_1) = false := decide_eq_false c9
        clear c9
        have H' := am H
        clear H
        have p139 : 0 ≤ (x7_1 : Int) := oq
        have q139 : x7_1 < (l0.length : Int) := oq
        obtain ⟨ad139, e139, hx139_0, hx139_1⟩ := at_T65 HR0.out x7_1 p139 q139
        cases e139
        replace hx139_0 := cw hx139_0
        replace hx139_1 := cw hx139_1
        replace p139 := eq_true p139
        replace q139 := eq_true q139
        go_wp2_with (first | ((with_reducible refine gate_dst (N := 4) rfl ?_); refine bx 4 #[.string (⟨#[]⟩ : ByteArray), .string (⟨#[]⟩ : ByteArray)] 65 ?_; intro gb140 hg w18 hbox hb; have BK140 := am hbox; have GE140 := sz hg; replace HB := bs hb; clear hb hbox hg; obtain ⟨zai, zaj, zak, zal⟩ := bc2 BK140) | (go_at_call 64; (with_reducible refine (feature_name.calls k1 ((rd_T65 l0 x7_1).f0) true _ A5.out).mono ?_); rintro e w' ⟨rfl, ⟨nd, rfl⟩⟩; (try exact dq)) | (go_at_call 64; (with_reducible refine (feature_name.calls k1 ((rd_T65 l0 x7_1).f1) true _ A7.out).mono ?_); rintro e w' ⟨rfl, ⟨nd, rfl⟩⟩; (try exact dq)))
        repeat (go_quiet (first | ((with_reducible refine gate_dst (N := 4) rfl ?_); refine bx 4 #[.string (⟨#[]⟩ : ByteArray), .string (⟨#[]⟩ : ByteArray)] 65 ?_; intro gb140 hg w18 hbox hb; have BK140 := am hbox; have GE140 := sz hg; replace HB := bs hb; clear hb hbox hg; obtain ⟨zai, zaj, zak, zal⟩ := bc2 BK140) | (go_at_call 64; (with_reducible refine (feature_name.calls k1 ((rd_T65 l0 x7_1).f0) true _ A5.out).mono ?_); rintro e w' ⟨rfl, ⟨nd, rfl⟩⟩; (try exact dq)) | (go_at_call 64; (with_reducible refine (feature_name.calls k1 ((rd_T65 l0 x7_1).f1) true _ A7.out).mono ?_); rintro e w' ⟨rfl, ⟨nd, rfl⟩⟩; (try exact dq))); try go_wp2_with (first | ((with_reducible refine gate_dst (N := 4) rfl ?_); refine bx 4 #[.string (⟨#[]⟩ : ByteArray), .string (⟨#[]⟩ : ByteArray)] 65 ?_; intro gb140 hg w18 hbox hb; have BK140 := am hbox; have GE140 := sz hg; replace HB := bs hb; clear hb hbox hg; obtain ⟨zai, zaj, zak, zal⟩ := bc2 BK140) | (go_at_call 64; (with_reducible refine (feature_name.calls k1 ((rd_T65 l0 x7_1).f0) true _ A5.out).mono ?_); rintro e w' ⟨rfl, ⟨nd, rfl⟩⟩; (try exact dq)) | (go_at_call 64; (with_reducible refine (feature_name.calls k1 ((rd_T65 l0 x7_1).f1) true _ A7.out).mono ?_); rintro e w' ⟨rfl, ⟨nd, rfl⟩⟩; (try exact dq))))
        go_roundg k1
        case measure => have := HK1.out; omega
        case rel => exact ⟨(wrap64 (x7_1 + 1)), rq, H', ⟨by have := HK1.out; omega⟩, ⟨bq⟩⟩
       replace c8 := Bool.eq_false_iff.mpr c8
       subst c8
       rw [if_neg nf] at H
       obtain rfl := Option.some.inj H
       have p139 : 0 ≤ (x7_1 : Int) := oq
       have q139 : x7_1 < (l0.length : Int) := oq
       obtain ⟨ad139, e139, hx139_0, hx139_1⟩ := at_T65 HR0.out x7_1 p139 q139
       cases e139
       replace hx139_0 := cw hx139_0
       replace hx139_1 := cw hx139_1
       replace p139 := eq_true p139
       replace q139 := eq_true q139
       go_wp2_with (first | ((with_reducible refine gate_dst (N := 4) rfl ?_); refine bx 4 #[.string (⟨#[]⟩ : ByteArray), .string (⟨#[]⟩ : ByteArray)] 65 ?_; intro gb140 hg w20 hbox hb; have BK140 := am hbox; have GE140 := sz hg; replace HB := bs hb; clear hb hbox hg; obtain ⟨zam, zan, zao, zap⟩ := bc2 BK140) | (go_at_call 64; (with_reducible refine (feature_name.calls k1 ((rd_T65 l0 x7_1).f0) true _ A5.out).mono ?_); rintro e w' ⟨rfl, ⟨nd, rfl⟩⟩; (try exact dq)) | (go_at_call 64; (with_reducible refine (feature_name.calls k1 ((rd_T65 l0 x7_1).f1) false _ A7.out).mono ?_); rintro e w' ⟨rfl, ⟨nd, rfl⟩⟩; (try exact dq)))
       repeat (go_quiet (first | ((with_reducible refine gate_dst (N := 4) rfl ?_); refine bx 4 #[.string (⟨#[]⟩ : ByteArray), .string (⟨#[]⟩ : ByteArray)] 65 ?_; intro gb140 hg w20 hbox hb; have BK140 := am hbox; have GE140 := sz hg; replace HB := bs hb; clear hb hbox hg; obtain ⟨zam, zan, zao, zap⟩ := bc2 BK140) | (go_at_call 64; (with_reducible refine (feature_name.calls k1 ((rd_T65 l0 x7_1).f0) true _ A5.out).mono ?_); rintro e w' ⟨rfl, ⟨nd, rfl⟩⟩; (try exact dq)) | (go_at_call 64; (with_reducible refine (feature_name.calls k1 ((rd_T65 l0 x7_1).f1) false _ A7.out).mono ?_); rintro e w' ⟨rfl, ⟨nd, rfl⟩⟩; (try exact dq))); try go_wp2_with (first | ((with_reducible refine gate_dst (N := 4) rfl ?_); refine bx 4 #[.string (⟨#[]⟩ : ByteArray), .string (⟨#[]⟩ : ByteArray)] 65 ?_; intro gb140 hg w20 hbox hb; have BK140 := am hbox; have GE140 := sz hg; replace HB := bs hb; clear hb hbox hg; obtain ⟨zam, zan, zao, zap⟩ := bc2 BK140) | (go_at_call 64; (with_reducible refine (feature_name.calls k1 ((rd_T65 l0 x7_1).f0) true _ A5.out).mono ?_); rintro e w' ⟨rfl, ⟨nd, rfl⟩⟩; (try exact dq)) | (go_at_call 64; (with_reducible refine (feature_name.calls k1 ((rd_T65 l0 x7_1).f1) false _ A7.out).mono ?_); rintro e w' ⟨rfl, ⟨nd, rfl⟩⟩; (try exact dq))))
       go_ret
       exact ⟨eq', bq⟩
      replace c6 := Bool.eq_false_iff.mpr c6
      subst c6
      rw [if_neg nf] at H
      obtain rfl := Option.some.inj H
      have p139 : 0 ≤ (x7_1 : Int) := oq
      have q139 : x7_1 < (l0.length : Int) := oq
      obtain ⟨ad139, e139, hx139_0, hx139_1⟩ := at_T65 HR0.out x7_1 p139 q139
      cases e139
      replace hx139_0 := cw hx139_0
      replace hx139_1 := cw hx139_1
      replace p139 := eq_true p139
      replace q139 := eq_true q139
      go_wp2_with (first | ((with_reducible refine gate_dst (N := 4) rfl ?_); refine bx 4 #[.string (⟨#[]⟩ : ByteArray), .string (⟨#[]⟩ : ByteArray)] 65 ?_; intro gb140 hg w22 hbox hb; have BK140 := am hbox; have GE140 := sz hg; replace HB := bs hb; clear hb hbox hg; obtain ⟨zaq, zar, zas, zat⟩ := bc2 BK140) | (go_at_call 64; (with_reducible refine (feature_name.calls k1 ((rd_T65 l0 x7_1).f0) false _ A5.out).mono ?_); rintro e w' ⟨rfl, ⟨nd, rfl⟩⟩; (try exact dq)))
      repeat (go_quiet (first | ((with_reducible refine gate_dst (N := 4) rfl ?_); refine bx 4 #[.string (⟨#[]⟩ : ByteArray), .string (⟨#[]⟩ : ByteArray)] 65 ?_; intro gb140 hg w22 hbox hb; have BK140 := am hbox; have GE140 := sz hg; replace HB := bs hb; clear hb hbox hg; obtain ⟨zaq, zar, zas, zat⟩ := bc2 BK140) | (go_at_call 64; (with_reducible refine (feature_name.calls k1 ((rd_T65 l0 x7_1).f0) false _ A5.out).mono ?_); rintro e w' ⟨rfl, ⟨nd, rfl⟩⟩; (try exact dq))); try go_wp2_with (first | ((with_reducible refine gate_dst (N := 4) rfl ?_); refine bx 4 #[.string (⟨#[]⟩ : ByteArray), .string (⟨#[]⟩ : ByteArray)] 65 ?_; intro gb140 hg w22 hbox hb; have BK140 := am hbox; have GE140 := sz hg; replace HB := bs hb; clear hb hbox hg; obtain ⟨zaq, zar, zas, zat⟩ := bc2 BK140) | (go_at_call 64; (with_reducible refine (feature_name.calls k1 ((rd_T65 l0 x7_1).f0) false _ A5.out).mono ?_); rintro e w' ⟨rfl, ⟨nd, rfl⟩⟩; (try exact dq))))
      go_ret
      exact ⟨eq', bq⟩
     rw [if_neg c4] at H
     exact absurd H (by simp)
    rw [if_neg c3] at H
    exact absurd H (by simp)
   rw [if_neg c2] at H
   have c2b0 : decide (x7_1 < (l0.length : Int)) = false := decide_eq_false c2
   clear c2
   obtain rfl := Option.some.inj H
   go_wp2
   repeat (go_quiet (fail); try go_wp2)
   go_ret
   exact ⟨eq', bq⟩
end Go.Proofs.YtcoialpohgfikaaGreatDoor.C
