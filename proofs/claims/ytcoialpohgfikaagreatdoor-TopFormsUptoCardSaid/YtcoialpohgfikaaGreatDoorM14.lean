/- A part of the proof of TopForms, made short by a program. -/
import Derived.Test.YtcoialpohgfikaaGreatDoorM5
namespace Go.Proofs.YtcoialpohgfikaaGreatDoor.C
open Go.RowKit Go.Proofs.YtcoialpohgfikaaGreatDoorW.PrintWords Go.Proofs.YtcoialpohgfikaaGreatDoorW.PrintLast Go.Proofs.YtcoialpohgfikaaGreatDoorW.PrintMore
set_option linter.unusedVariables false
set_option linter.unusedSimpArgs false
def Ends {α : Type} (g : Nat → Option α) (P : α → Prop) : Prop := ∃ v, P v ∧ ∃ K : Nat, ∀ k, K ≤ k → g k = some v
theorem Ends.some {α : Type} {v : α} {P : α → Prop} (h : P v) : Ends (fun _ => Option.some v) P := ⟨v, h, 0, fun _ _ => rfl⟩
theorem Ends.const {α : Type} {x : Option α} {v : α} {P : α → Prop} (e : x = Option.some v) (h : P v) : Ends (fun _ => x) P := ⟨v, h, 0, fun _ _ => e⟩
theorem Ends.succ {α : Type} {g : Nat → Option α} {P : α → Prop} (h : Ends (fun k => g (k + 1)) P) : Ends g P := by
 obtain ⟨v, hv, K, hK⟩ := h
 refine ⟨v, hv, K + 1, fun k hk => ?_⟩
 obtain ⟨j, rfl⟩ : ∃ j, k = j + 1 := ⟨k - 1, by omega⟩
 exact hK j (by omega)
theorem Ends.ite {α : Type} {c : Prop} [Decidable c] {A B : Nat → Option α} {P : α → Prop} (h1 : c → Ends A P) (h2 : ¬ c → Ends B P) : Ends (fun k => if c then A k else B k) P := by
 by_cases h : c
 ·simpa only [h, if_true] using h1 h
 simpa only [h, if_false] using h2 h
theorem Ends.bind {α β : Type} {A : Nat → Option α} {B : Nat → α → Option β} {Q : α → Prop} {P : β → Prop} (h1 : Ends A Q) (h2 : ∀ t, Q t → Ends (fun k => B k t) P) : Ends (fun k => (A k).bind fun t => B k t) P := by
 obtain ⟨v, hv, K, hK⟩ := h1
 obtain ⟨u, hu, K', hK'⟩ := h2 v hv
 exact ⟨u, hu, max K K', fun k hk => by show (A k).bind _ = _; rw [hK k (by omega)]; exact hK' k (by omega)⟩
theorem Ends.mono {α : Type} {g : Nat → Option α} {P Q : α → Prop} (h : Ends g P) (i : ∀ v, P v → Q v) : Ends g Q := by
 obtain ⟨v, hv, K⟩ := h
 exact ⟨v, i v hv, K⟩
def Vals {α : Type} (g : Nat → Option α) (v : α) : Prop := ∃ K : Nat, ∀ k, K ≤ k → g k = some v
theorem Vals.ends {α : Type} {g : Nat → Option α} {v : α} {P : α → Prop} (h : Vals g v) (hp : P v) : Ends g P := ⟨v, hp, h⟩
theorem Ends.vals {α : Type} {g : Nat → Option α} {P : α → Prop} (h : Ends g P) : ∃ v, P v ∧ Vals g v := h
theorem Vals.one {α : Type} {g : Nat → Option α} {v u : α} (h : Vals g v) (h' : Vals g u) : v = u := by
 obtain ⟨K, h⟩ := h
 obtain ⟨K', h'⟩ := h'
 have := (h (max K K') (by omega)).symm.trans (h' (max K K') (by omega))
 exact Option.some.inj this
theorem Ends.of_vals {α : Type} {g : Nat → Option α} {v : α} {P : α → Prop} (h : Ends g P) (h' : Vals g v) : P v := by
 obtain ⟨u, hu, hv⟩ := h
 rw [h'.one hv]
 exact hu
theorem up_ind {L : Int} {C : Int → Prop} (step : ∀ i, 0 ≤ i → i ≤ L → (i < L → C (i + 1)) → C i) : ∀ i, 0 ≤ i → i ≤ L → C i := by
 have key : ∀ (n : Nat) (i : Int), 0 ≤ i → i ≤ L → L < i + n → C i := by
  intro n
  induction n with
  | zero => intro i h0 h1 h2; exfalso; omega
  | succ n ih => intro i h0 h1 h2; exact step i h0 h1 (fun h => ih (i + 1) (by omega) (by omega) (by omega))
 exact fun i h0 h1 => key (L - i + 1).toNat i h0 h1 (by omega)
theorem wr1 {i : Int} (h : 0 ≤ i) (h2 : i ≤ 4611686018427387904) : wrap64 (i + 1) = i + 1 := by unfold wrap64; omega
theorem wr0 {i : Int} (h : -4611686018427387904 ≤ i) (h2 : i ≤ 4611686018427387904) : wrap64 i = i := by unfold wrap64; omega
theorem rd65_lt {l : List S65} {i : Int} (h0 : 0 ≤ i) (h : i < (l.length : Int)) : rd_T65 l i ∈ l := by
 have hl : i.toNat < l.length := by omega
 simp only [rd_T65, List.getD, List.getElem?_eq_getElem hl, Option.getD_some]
 exact List.getElem_mem hl
theorem rd55_lt {l : List S55} {i : Int} (h0 : 0 ≤ i) (h : i < (l.length : Int)) : rd_T55 l i ∈ l := by
 have hl : i.toNat < l.length := by omega
 simp only [rd_T55, List.getD, List.getElem?_eq_getElem hl, Option.getD_some]
 exact List.getElem_mem hl
theorem rd38_lt {l : List S38} {i : Int} (h0 : 0 ≤ i) (h : i < (l.length : Int)) : rd_T38 l i ∈ l := by
 have hl : i.toNat < l.length := by omega
 simp only [rd_T38, List.getD, List.getElem?_eq_getElem hl, Option.getD_some]
 exact List.getElem_mem hl
theorem rd34_lt {l : List S34} {i : Int} (h0 : 0 ≤ i) (h : i < (l.length : Int)) : rd_T34 l i ∈ l := by
 have hl : i.toNat < l.length := by omega
 simp only [rd_T34, List.getD, List.getElem?_eq_getElem hl, Option.getD_some]
 exact List.getElem_mem hl
theorem rd79_lt {l : List S79} {i : Int} (h0 : 0 ≤ i) (h : i < (l.length : Int)) : rd_T79 l i ∈ l := by
 have hl : i.toNat < l.length := by omega
 simp only [rd_T79, List.getD, List.getElem?_eq_getElem hl, Option.getD_some]
 exact List.getElem_mem hl
theorem rd89_lt {l : List S89} {i : Int} (h0 : 0 ≤ i) (h : i < (l.length : Int)) : rd_T89 l i ∈ l := by
 have hl : i.toNat < l.length := by omega
 simp only [rd_T89, List.getD, List.getElem?_eq_getElem hl, Option.getD_some]
 exact List.getElem_mem hl
theorem rd91_lt {l : List S91} {i : Int} (h0 : 0 ≤ i) (h : i < (l.length : Int)) : rd_T91 l i ∈ l := by
 have hl : i.toNat < l.length := by omega
 simp only [rd_T91, List.getD, List.getElem?_eq_getElem hl, Option.getD_some]
 exact List.getElem_mem hl
theorem rd11_lt {l : List (List S79)} {i : Int} (h0 : 0 ≤ i) (h : i < (l.length : Int)) : rd_L11 l i ∈ l := by
 have hl : i.toNat < l.length := by omega
 simp only [rd_L11, List.getD, List.getElem?_eq_getElem hl, Option.getD_some]
 exact List.getElem_mem hl
theorem rdB_lt {l : List ByteArray} {i : Int} (h0 : 0 ≤ i) (h : i < (l.length : Int)) : rdOf ByteArray.empty l i ∈ l := by
 have hl : i.toNat < l.length := by omega
 simp only [rdOf, List.getD, List.getElem?_eq_getElem hl, Option.getD_some]
 exact List.getElem_mem hl
theorem feature_name_ends (s : ByteArray) (hs : (s.size : Int) ≤ 1000000000) : Ends (fun k => feature_name.f k s) (fun b => b = true → s.toList ≠ []) := by
 have key : ∀ i : Int, 0 ≤ i → i ≤ (s.size : Int) → Ends (fun k => feature_name.l0 k s i) (fun b => b = true → s.toList ≠ []) := by
  refine up_ind fun i h0 h1 ih => ?_
  have hw : wrap64 (i + 1) = i + 1 := wr1 h0 (by omega)
  refine Ends.succ ?_
  simp only [feature_name.l0, hw]
  repeat' (first | (exact ih (by assumption)) | (exact Ends.some (by simp)) | (with_reducible refine Ends.ite (fun _ => ?_) (fun _ => ?_)) | (exfalso; omega))
 exact key 0 (Int.le_refl _) (by omega)
theorem Index_ends (l : List ByteArray) (a : ByteArray) (hl : (l.length : Int) ≤ 1000000000) : Ends (fun k => slices_Index_string_string.f k l a) (fun r => r < max (l.length : Int) 1 ∧ -1 ≤ r ∧ ((∃ j : Int, 0 ≤ j ∧ j < (l.length : Int) ∧ (rdOf ByteArray.empty l j).toList = a.toList) → 0 ≤ r ∧ r < (l.length : Int))) := by
 have key : ∀ i : Int, 0 ≤ i → i ≤ (l.length : Int) → Ends (fun k => slices_Index_string_string.l0 k l a (l.length : Int) i) (fun r => r < max (l.length : Int) 1 ∧ -1 ≤ r ∧ ((∃ j : Int, i ≤ j ∧ j < (l.length : Int) ∧ (rdOf ByteArray.empty l j).toList = a.toList) → 0 ≤ r ∧ r < (l.length : Int))) := by
  refine up_ind fun i h0 h1 ih => ?_
  have hw : wrap64 (i + 1) = i + 1 := wr1 h0 (by omega)
  refine Ends.succ ?_
  simp only [slices_Index_string_string.l0, hw]
  refine Ends.ite (fun h => ?_) (fun h => ?_)
  ·refine Ends.ite (fun _ => ?_) (fun _ => by omega)
   refine Ends.ite (fun _ => ?_) (fun _ => by omega)
   refine Ends.ite (fun he => ?_) (fun he => ?_)
   ·exact Ends.some ⟨by omega, by omega, fun _ => ⟨h0, h⟩⟩
   refine (ih h).mono fun r hr => ⟨hr.1, hr.2.1, ?_⟩
   rintro ⟨j, h3, h4, h5⟩
   by_cases e : j = i
   ·subst e; exact absurd h5.symm he
   exact hr.2.2 ⟨j, by omega, h4, h5⟩
  refine Ends.some ⟨by omega, by omega, ?_⟩
  rintro ⟨j, h3, h4, _⟩
  omega
 exact key 0 (Int.le_refl _) (by omega)
theorem Contains_ends (l : List ByteArray) (a : ByteArray) (hl : (l.length : Int) ≤ 1000000000) : Ends (fun k => slices_Contains_string_string.f k l a) (fun _ => True) := by
 unfold slices_Contains_string_string.f
 exact Ends.bind (Index_ends l a hl) fun t _ => Ends.some trivial
def bDim (d : S55) : Prop := (d.f0.size : Int) ≤ 1000000000 ∧ (d.f1.length : Int) ≤ 1000000000 ∧ ∀ v ∈ d.f1, (v.size : Int) ≤ 1000000000
def nm (ds : List S55) (i : Int) : List UInt8 := (rd_T55 ds i).f0.toList
def DimOk (ds : List S55) (i : Int) (b : Bool) : Prop := b = true → ∀ i' : Int, i ≤ i' → i' < (ds.length : Int) → (1 ≤ ((rd_T55 ds i').f1.length : Int) ∧ ((rd_T55 ds i').f1.length : Int) ≤ 8 ∧ nm ds i' ≠ []) ∧ ∀ j : Int, 0 ≤ j → j < i' → nm ds j ≠ nm ds i'
theorem rd55_take (ds : List S55) (i j : Int) (h0 : 0 ≤ j) (h : j < i) : rd_T55 (ds.take i.toNat) j = rd_T55 ds j := by
 have hl : j.toNat < i.toNat := by omega
 simp only [rd_T55, List.getD, List.getElem?_take, hl, if_true]
theorem dims_ends (ds : List S55) (hd : ∀ d ∈ ds, bDim d) : Ends (fun k => feature_dimensions.f k ds) (fun b => b = true → (ds.length : Int) ≤ 4 ∧ DimOk ds 0 true) := by
 unfold feature_dimensions.f
 refine Ends.ite (fun _ => Ends.some (by simp)) (fun hlen => ?_)
 have key : ∀ i : Int, 0 ≤ i → i ≤ (ds.length : Int) → Ends (fun k => feature_dimensions.l0 k ds ds (ds.length : Int) i) (DimOk ds i) := by
  refine up_ind fun i h0 h1 ih => ?_
  have hw : wrap64 (i + 1) = i + 1 := wr1 h0 (by omega)
  refine Ends.succ ?_
  simp only [feature_dimensions.l0]
  refine Ends.ite (fun hi => ?_) (fun hi => Ends.some (fun _ i' h2 h3 => by omega))
  refine Ends.ite (fun _ => ?_) (fun _ => by omega)
  refine Ends.ite (fun _ => ?_) (fun _ => by omega)
  obtain ⟨b1, b2, b3⟩ := hd _ (rd55_lt h0 hi)
  have fal : ∀ (P : Prop) (b : Bool), b = false → (b = true → P) := fun P b e e' => by rw [e] at e'; cases e'
  have jt : ∀ (x3 : Bool) (x6 : ByteArray) (x7 : List ByteArray), x3 = true → Ends (fun k => feature_dimensions.j1 k ds i ds (ds.length : Int) i x3 x6 x7) (DimOk ds i) := by
   intro x3 x6 x7 hx
   refine Ends.succ ?_
   simp only [feature_dimensions.j1, hx, if_true]
   exact Ends.some (fun e => by cases e)
  have jf : ∀ (x3 : Bool), (nm ds i ≠ [] ) → 1 ≤ ((rd_T55 ds i).f1.length : Int) → ((x3 = false) → ((rd_T55 ds i).f1.length : Int) ≤ 8) → Ends (fun k => feature_dimensions.j1 k ds i ds (ds.length : Int) i x3 ((rd_T55 ds i).f0) ((rd_T55 ds i).f1)) (DimOk ds i) := by
   intro x3 hnm hx1 hx8
   cases x3 with
   | true => exact jt _ _ _ rfl
   | false =>
    have hx8 := hx8 rfl
    refine Ends.succ ?_
    simp only [feature_dimensions.j1, Bool.false_eq_true, if_false]
    have l2 : ∀ j : Int, 0 ≤ j → j ≤ i → Ends (fun k => feature_dimensions.l2 k ds ds (ds.length : Int) i (ds.take i.toNat) (((ds.take i.toNat : List S55)).length : Int) j ((rd_T55 ds i).f0) ((rd_T55 ds i).f1)) (fun b => b = true → (∀ j' : Int, j ≤ j' → j' < i → nm ds j' ≠ nm ds i) ∧ DimOk ds (i + 1) b) := by
     have hle : (((ds.take i.toNat : List S55)).length : Int) = i := by rw [List.length_take]; omega
     refine up_ind fun j g0 g1 gh => ?_
     have hwj : wrap64 (j + 1) = j + 1 := wr1 g0 (by omega)
     refine Ends.succ ?_
     simp only [feature_dimensions.l2, hwj]
     refine Ends.ite (fun hj => ?_) (fun hj => ?_)
     ·refine Ends.ite (fun _ => ?_) (fun _ => by omega)
      refine Ends.ite (fun _ => ?_) (fun _ => by omega)
      rw [rd55_take ds i j g0 (by omega)]
      refine Ends.ite (fun he => Ends.some (fun e => by cases e)) (fun he => ?_)
      refine (gh (by omega)).mono fun b hb e => ⟨fun j' h2 h3 => ?_, (hb e).2⟩
      by_cases ej : j' = j
      ·subst ej; exact he
      exact (hb e).1 j' (by omega) h3
     rw [hw]
     exact (ih hi).mono fun b hb e => ⟨fun j' h2 h3 => by omega, hb⟩
    have l1 : ∀ j : Int, 0 ≤ j → j ≤ ((rd_T55 ds i).f1.length : Int) → Ends (fun k => feature_dimensions.l1 k ds i ds (ds.length : Int) i ((rd_T55 ds i).f1) ((rd_T55 ds i).f1.length : Int) j ((rd_T55 ds i).f0) ((rd_T55 ds i).f1)) (DimOk ds i) := by
     refine up_ind fun j g0 g1 gh => ?_
     have hwj : wrap64 (j + 1) = j + 1 := wr1 g0 (by omega)
     refine Ends.succ ?_
     simp only [feature_dimensions.l1, hwj]
     refine Ends.ite (fun hj => ?_) (fun hj => ?_)
     ·refine Ends.ite (fun _ => ?_) (fun _ => by omega)
      refine Ends.ite (fun _ => ?_) (fun _ => by omega)
      refine Ends.bind (feature_name_ends _ (b3 _ (rdB_lt g0 hj))) fun t _ => ?_
      refine Ends.ite (fun _ => ?_) (fun _ => Ends.some (fun e => by cases e))
      refine Ends.ite (fun _ => ?_) (fun _ => by omega)
      refine Ends.bind (Contains_ends _ _ (by rw [List.length_take]; omega)) fun t _ => ?_
      refine Ends.ite (fun _ => Ends.some (fun e => by cases e)) (fun _ => gh hj)
     refine Ends.ite (fun _ => ?_) (fun _ => by omega)
     refine Ends.ite (fun _ => ?_) (fun _ => by omega)
     refine Ends.bind (Q := fun y => y = ds.take i.toNat) (Ends.some rfl) fun y hy => ?_
     subst hy
     refine (l2 0 (Int.le_refl _) (by omega)).mono fun b hb e i' h2 h3 => ?_
     by_cases e' : i' = i
     ·subst e'; exact ⟨⟨hx1, hx8, hnm⟩, fun j h4 h5 => (hb e).1 j h4 h5⟩
     exact (hb e).2 e i' (by omega) h3
    exact l1 0 (Int.le_refl _) (by omega)
  refine Ends.bind (feature_name_ends _ b1) fun t ht => ?_
  refine Ends.ite (fun h => ?_) (fun h => jt _ _ _ rfl)
  refine Ends.ite (fun _ => jt _ _ _ rfl) (fun hv => ?_)
  exact jf _ (ht h) (by omega) (fun e => by have := of_decide_eq_false e; omega)
 exact (key 0 (Int.le_refl _) (by omega)).mono fun b hb e => ⟨by omega, fun _ => hb e⟩
theorem Get_ends (l : List S65) (a : ByteArray) (hl : (l.length : Int) ≤ 1000000000) : Ends (fun k => feature_Get.f k l a) (fun r => (r.2 = true → ∃ j : Int, 0 ≤ j ∧ j < (l.length : Int) ∧ (rd_T65 l j).f0.toList = a.toList ∧ r.1 = (rd_T65 l j).f1) ∧ ((∃ j : Int, 0 ≤ j ∧ j < (l.length : Int) ∧ (rd_T65 l j).f0.toList = a.toList) → r.2 = true)) := by
 have key : ∀ i : Int, 0 ≤ i → i ≤ (l.length : Int) → Ends (fun k => feature_Get.l0 k a l (l.length : Int) i) (fun r => (r.2 = true → ∃ j : Int, 0 ≤ j ∧ j < (l.length : Int) ∧ (rd_T65 l j).f0.toList = a.toList ∧ r.1 = (rd_T65 l j).f1) ∧ ((∃ j : Int, i ≤ j ∧ j < (l.length : Int) ∧ (rd_T65 l j).f0.toList = a.toList) → r.2 = true)) := by
  refine up_ind fun i h0 h1 ih => ?_
  have hw : wrap64 (i + 1) = i + 1 := wr1 h0 (by omega)
  refine Ends.succ ?_
  simp only [feature_Get.l0, hw]
  refine Ends.ite (fun h => ?_) (fun h => ?_)
  ·refine Ends.ite (fun _ => ?_) (fun _ => by omega)
   refine Ends.ite (fun _ => ?_) (fun _ => by omega)
   refine Ends.ite (fun he => ?_) (fun he => ?_)
   ·exact Ends.some ⟨fun _ => ⟨i, h0, h, he, rfl⟩, fun _ => rfl⟩
   refine (ih h).mono fun r hr => ⟨hr.1, ?_⟩
   rintro ⟨j, h3, h4, h5⟩
   by_cases e : j = i
   ·subst e; exact absurd h5 he
   exact hr.2 ⟨j, by omega, h4, h5⟩
  refine Ends.some ⟨(fun e => by cases e), ?_⟩
  rintro ⟨j, h3, h4, _⟩
  omega
 exact key 0 (Int.le_refl _) (by omega)
theorem prodD_pos : ∀ (ds : List S55) (n : Int), (∀ d ∈ ds, 1 ≤ (d.f1.length : Int) ∧ (d.f1.length : Int) ≤ 8) → 1 ≤ n → n * 8 ^ ds.length ≤ 1000000 → 1 ≤ prodD ds n
 | [], n, _, h, _ => h
 | d :: ds, n, hd, h, hb => by
  obtain ⟨h1, h8⟩ := hd d (List.mem_cons_self ..)
  have hp : (1 : Int) ≤ 8 ^ ds.length := by
   have : 1 ≤ 8 ^ ds.length := Nat.one_le_pow _ _ (by decide)
   exact_mod_cast this
  have e1 : n * (d.f1.length : Int) ≤ n * 8 := Int.mul_le_mul_of_nonneg_left h8 (by omega)
  have e0 : n * 1 ≤ n * (d.f1.length : Int) := Int.mul_le_mul_of_nonneg_left h1 (by omega)
  have e2 : n * 8 * 8 ^ ds.length ≤ 1000000 := by
   have : n * 8 ^ (d :: ds).length = n * 8 * 8 ^ ds.length := by rw [List.length_cons, Int.pow_succ, Int.mul_assoc, Int.mul_comm 8]
   omega
  have e3 : n * (d.f1.length : Int) * 8 ^ ds.length ≤ n * 8 * 8 ^ ds.length := Int.mul_le_mul_of_nonneg_right e1 (by omega)
  have e4 : n * (d.f1.length : Int) * 1 ≤ n * (d.f1.length : Int) * 8 ^ ds.length := Int.mul_le_mul_of_nonneg_left hp (by omega)
  have hw : wrap64 (n * (d.f1.length : Int)) = n * (d.f1.length : Int) := wr0 (by omega) (by omega)
  rw [prodD, hw]
  exact prodD_pos ds _ (fun x hx => hd x (List.mem_cons_of_mem _ hx)) (by omega) (by omega)
theorem mem_rd55 {ds : List S55} {d : S55} (h : d ∈ ds) : ∃ i : Int, 0 ≤ i ∧ i < (ds.length : Int) ∧ rd_T55 ds i = d := by
 obtain ⟨n, hn, e⟩ := List.getElem_of_mem h
 refine ⟨(n : Int), by omega, by omega, ?_⟩
 simp [rd_T55, List.getD, List.getElem?_eq_getElem hn, e]
theorem mem_rd65 {ds : List S65} {d : S65} (h : d ∈ ds) : ∃ i : Int, 0 ≤ i ∧ i < (ds.length : Int) ∧ rd_T65 ds i = d := by
 obtain ⟨n, hn, e⟩ := List.getElem_of_mem h
 refine ⟨(n : Int), by omega, by omega, ?_⟩
 simp [rd_T65, List.getD, List.getElem?_eq_getElem hn, e]
theorem Count_ends (nme : ByteArray) (ds : List S55) (sl : List (List S79)) (hd : ∀ d ∈ ds, bDim d) : Ends (fun k => paradigm_Count.f k nme ds sl) (fun _ => True) := by
 unfold paradigm_Count.f
 exact Ends.bind (dims_ends ds hd) fun t _ => Ends.some trivial
theorem Count_pos (nme : ByteArray) (ds : List S55) (sl : List (List S79)) (hd : ∀ d ∈ ds, bDim d) (hv : Vals (fun k => feature_dimensions.f k ds) true) : Ends (fun k => paradigm_Count.f k nme ds sl) (fun c => c ≠ 0) := by
 have ho := (dims_ends ds hd).of_vals hv rfl
 unfold paradigm_Count.f
 refine Ends.bind (hv.ends (P := fun b => b = true) rfl) fun t ht => Ends.some ?_
 subst ht
 rw [if_pos rfl]
 have h := prodD_pos ds 1 (fun d hm => by
  obtain ⟨i, h0, h1, e⟩ := mem_rd55 hm
  obtain ⟨⟨p1, p2, _⟩, _⟩ := ho.2 rfl i h0 h1
  rw [e] at p1 p2
  exact ⟨p1, p2⟩) (by omega) (by
   have : (8 : Nat) ^ ds.length ≤ 8 ^ 4 := Nat.pow_le_pow_right (by decide) (by omega)
   have h2 : ((8 ^ ds.length : Nat) : Int) ≤ 4096 := Int.ofNat_le.2 (by simpa only [Nat.reducePow] using this)
   rw [Int.natCast_pow] at h2
   have h3 : ((8 : Nat) : Int) = 8 := rfl
   rw [h3] at h2
   omega)
 omega
theorem GoodRec.has {ds : List S55} {r : List S65} (h : GoodRec ds r) {i : Int} (h0 : 0 ≤ i) (h1 : i < (ds.length : Int)) : ∃ j : Int, 0 ≤ j ∧ j < (r.length : Int) ∧ (rd_T65 r j).f0.toList = nm ds i := by
 obtain ⟨ch, hl, hp, hr, hperm, _⟩ := h
 have hc : rd_T65 ch i ∈ r := hperm.mem_iff.2 (rd65_lt h0 (by omega))
 obtain ⟨j, g0, g1, e⟩ := mem_rd65 hc
 refine ⟨j, g0, g1, ?_⟩
 rw [e]
 have := (hp i.toNat (by omega)).1
 rw [show ((i.toNat : Nat) : Int) = i by omega] at this
 rw [this]
 rfl
theorem GoodRec.val {ds : List S55} {r : List S65} (h : GoodRec ds r) (hd : DimOk ds 0 true) {i j : Int} (h0 : 0 ≤ i) (h1 : i < (ds.length : Int)) (g0 : 0 ≤ j) (g1 : j < (r.length : Int)) (e : (rd_T65 r j).f0.toList = nm ds i) : (rd_T65 r j).f1 ∈ (rd_T55 ds i).f1 := by
 obtain ⟨ch, hl, hp, hr, hperm, _⟩ := h
 have hc : rd_T65 r j ∈ ch := hperm.mem_iff.1 (rd65_lt g0 g1)
 obtain ⟨i', k0, k1, e'⟩ := mem_rd65 hc
 have hpi := hp i'.toNat (by omega)
 rw [show ((i'.toNat : Nat) : Int) = i' by omega, e'] at hpi
 have hn : nm ds i' = nm ds i := by rw [← e, hpi.1]; rfl
 have : i' = i := by
  rcases Int.lt_trichotomy i' i with hlt | he | hgt
  ·exact absurd hn ((hd rfl i h0 h1).2 i' k0 hlt)
  ·exact he
  exact absurd hn.symm ((hd rfl i' k0 (by omega)).2 i h0 hgt)
 subst this
 exact hpi.2
theorem GoodRec.asc {ds : List S55} {r : List S65} (h : GoodRec ds r) (hd : DimOk ds 0 true) {x : Int} (h0 : 0 ≤ x) (h1 : x + 1 < (r.length : Int)) : Op.bytesLess (rd_T65 r x).f0.toList (rd_T65 r (x + 1)).f0.toList = true := by
 obtain ⟨ch, hl, hp, hr, hperm, hs⟩ := h
 have hs1 := hs x.toNat (x.toNat + 1) (by omega) (by omega)
 rw [show ((x.toNat : Nat) : Int) = x by omega, show ((x.toNat + 1 : Nat) : Int) = x + 1 by omega] at hs1
 have hnd : (ch.map fun y => y.f0.toList).Nodup := by
  rw [List.nodup_iff_pairwise_ne, List.pairwise_iff_getElem]
  intro i j hi hj hij
  rw [List.length_map] at hi hj
  rw [List.getElem_map, List.getElem_map, rd65_at ch i hi, rd65_at ch j hj, (hp i hi).1, (hp j hj).1]
  exact (hd rfl (j : Int) (by omega) (by omega)).2 (i : Int) (by omega) (by omega)
 have hnr : (r.map fun y => y.f0.toList).Nodup := (hperm.map _).nodup_iff.2 hnd
 have hne : (rd_T65 r x).f0.toList ≠ (rd_T65 r (x + 1)).f0.toList := by
  rw [List.nodup_iff_pairwise_ne, List.pairwise_iff_getElem] at hnr
  have := hnr x.toNat (x.toNat + 1) (by rw [List.length_map]; omega) (by rw [List.length_map]; omega) (by omega)
  rw [List.getElem_map, List.getElem_map, rd65_at r x.toNat (by omega), rd65_at r (x.toNat + 1) (by omega), show ((x.toNat : Nat) : Int) = x by omega, show ((x.toNat + 1 : Nat) : Int) = x + 1 by omega] at this
  exact this
 rw [← bl_gt, hs1]
 simp only [Bool.not_false, Bool.true_and, Bool.not_eq_true', beq_eq_false_iff_ne, ne_eq]
 exact fun e => hne e.symm
theorem Number_ends (nme : ByteArray) (ds : List S55) (sl : List (List S79)) (r : List S65) (hd : ∀ d ∈ ds, bDim d) (hv : Vals (fun k => feature_dimensions.f k ds) true) (hg : GoodRec ds r) : Ends (fun k => paradigm_Number.f k nme ds sl r) (fun c => 0 ≤ c) := by
 have ho := (dims_ends ds hd).of_vals hv rfl
 have hlen : r.length = ds.length := by obtain ⟨ch, h1, _, h2, _⟩ := hg; omega
 have asc : ∀ i : Int, 0 ≤ i → i ≤ (r.length : Int) → 1 ≤ i → ∀ x5 : Int, 0 ≤ x5 → Ends (fun k => paradigm_Number.l1 k r x5 i) (fun c => 0 ≤ c) := by
  refine up_ind fun i h0 h1 ih => ?_
  intro hi x5 hx5
  have hw : wrap64 (i + 1) = i + 1 := wr1 h0 (by omega)
  have hw' : wrap64 (i - 1) = i - 1 := wr0 (by omega) (by omega)
  refine Ends.succ ?_
  simp only [paradigm_Number.l1, hw, hw']
  refine Ends.ite (fun h => ?_) (fun h => Ends.some hx5)
  refine Ends.ite (fun _ => ?_) (fun _ => by omega)
  refine Ends.ite (fun _ => ?_) (fun _ => by omega)
  refine Ends.ite (fun _ => ?_) (fun _ => by omega)
  have ha := hg.asc ho.2 (x := i - 1) (by omega) (by omega)
  rw [show i - 1 + 1 = i by omega] at ha
  refine Ends.ite (fun _ => ih h (by omega) x5 hx5) (fun hn => absurd ha hn)
 have lp : ∀ i : Int, 0 ≤ i → i ≤ (ds.length : Int) → ∀ x5 : Int, 0 ≤ x5 → x5 < (8 ^ i.toNat : Nat) → Ends (fun k => paradigm_Number.l0 k r x5 ds (ds.length : Int) i) (fun c => 0 ≤ c) := by
  refine up_ind fun i h0 h1 ih => ?_
  intro x5 hx5 hx8
  have hw : wrap64 (i + 1) = i + 1 := wr1 h0 (by omega)
  refine Ends.succ ?_
  simp only [paradigm_Number.l0, hw]
  refine Ends.ite (fun h => ?_) (fun h => ?_)
  ·refine Ends.ite (fun _ => ?_) (fun _ => by omega)
   refine Ends.ite (fun _ => ?_) (fun _ => by omega)
   obtain ⟨⟨v1, v8, _⟩, _⟩ := ho.2 rfl i h0 h
   refine Ends.bind (Get_ends r _ (by omega)) fun t ht => ?_
   have ht2 := ht.2 (hg.has h0 h)
   obtain ⟨j, g0, g1, ge, gv⟩ := ht.1 ht2
   have hm := hg.val ho.2 h0 h g0 g1 ge
   rw [← gv] at hm
   refine Ends.bind (Index_ends _ t.1 (by omega)) fun q hq => ?_
   obtain ⟨n, hn, en⟩ := List.getElem_of_mem hm
   have hq2 := hq.2.2 ⟨(n : Int), by omega, by omega, by simp [rdOf, List.getD, List.getElem?_eq_getElem hn, en]⟩
   refine Ends.ite (fun _ => ?_) (fun hn => absurd ht2 hn)
   refine Ends.ite (fun _ => by omega) (fun _ => ?_)
   have hp : (8 : Nat) ^ i.toNat ≤ 8 ^ 4 := Nat.pow_le_pow_right (by decide) (by omega)
   have e1 : x5 * ((rd_T55 ds i).f1.length : Int) ≤ x5 * 8 := Int.mul_le_mul_of_nonneg_left v8 hx5
   have e0 : 0 ≤ x5 * ((rd_T55 ds i).f1.length : Int) := Int.mul_nonneg hx5 (by omega)
   have hs : (8 : Nat) ^ (i + 1).toNat = 8 ^ i.toNat * 8 := by rw [show (i + 1).toNat = i.toNat + 1 by omega, Nat.pow_succ]
   have w1 : wrap64 (x5 * ((rd_T55 ds i).f1.length : Int)) = x5 * ((rd_T55 ds i).f1.length : Int) := wr0 (by omega) (by omega)
   have w2 : wrap64 (x5 * ((rd_T55 ds i).f1.length : Int) + q) = x5 * ((rd_T55 ds i).f1.length : Int) + q := wr0 (by omega) (by omega)
   rw [w1, w2]
   exact ih h _ (by omega) (by omega)
  by_cases hz : (1 : Int) ≤ (r.length : Int)
  ·exact asc 1 (by omega) hz (by omega) x5 hx5
  refine Ends.succ ?_
  simp only [paradigm_Number.l1]
  exact Ends.ite (fun h => by omega) (fun _ => Ends.some hx5)
 unfold paradigm_Number.f
 refine Ends.ite (fun _ => ?_) (fun hn => absurd (by omega) hn)
 refine Ends.bind (Count_pos nme ds sl hd hv) fun t ht => ?_
 refine Ends.succ ?_
 have ht0 : (t == 0) = false := beq_eq_false_iff_ne.2 ht
 simp only [paradigm_Number.j0, ht0, Bool.false_eq_true, if_false]
 exact lp 0 (by omega) (by omega) 0 (by omega) (by simp)
def bF (x : S65) : Prop := (x.f0.size : Int) ≤ 1000000000 ∧ (x.f1.size : Int) ≤ 1000000000
theorem feature_Valid_ends (l : List S65) (hl : (l.length : Int) ≤ 1000000000) (hb : ∀ x ∈ l, bF x) : Ends (fun k => feature_Valid.f k l) (fun b => b = true → ∀ x ∈ l, x.f0.toList ≠ []) := by
 have key : ∀ i : Int, 0 ≤ i → i ≤ (l.length : Int) → Ends (fun k => feature_Valid.l0 k l l (l.length : Int) i) (fun b => b = true → ∀ j : Int, i ≤ j → j < (l.length : Int) → (rd_T65 l j).f0.toList ≠ []) := by
  refine up_ind fun i h0 h1 ih => ?_
  have hw : wrap64 (i + 1) = i + 1 := wr1 h0 (by omega)
  have hw' : wrap64 (i - 1) = i - 1 := wr0 (by omega) (by omega)
  refine Ends.succ ?_
  simp only [feature_Valid.l0, hw, hw']
  refine Ends.ite (fun h => ?_) (fun h => Ends.some (fun _ j h2 h3 => by omega))
  refine Ends.ite (fun _ => ?_) (fun _ => by omega)
  refine Ends.ite (fun _ => ?_) (fun _ => by omega)
  obtain ⟨b0, b1⟩ := hb _ (rd65_lt h0 h)
  refine Ends.bind (feature_name_ends _ b0) fun t ht => ?_
  refine Ends.ite (fun e => ?_) (fun _ => Ends.some (by simp))
  have go : Ends (fun k => feature_Valid.l0 k l l (l.length : Int) (i + 1)) (fun b => b = true → ∀ j : Int, i ≤ j → j < (l.length : Int) → (rd_T65 l j).f0.toList ≠ []) := by
   refine (ih h).mono fun b hb e2 j h2 h3 => ?_
   by_cases ej : j = i
   ·subst ej; exact ht e
   exact hb e2 j (by omega) h3
  refine Ends.bind (feature_name_ends _ b1) fun t _ => ?_
  refine Ends.ite (fun _ => ?_) (fun _ => Ends.some (by simp))
  refine Ends.ite (fun _ => ?_) (fun _ => go)
  refine Ends.ite (fun _ => ?_) (fun _ => by omega)
  refine Ends.ite (fun _ => ?_) (fun _ => by omega)
  exact Ends.ite (fun _ => go) (fun _ => Ends.some (by simp))
 refine (key 0 (Int.le_refl _) (by omega)).mono fun b hb e x hx => ?_
 obtain ⟨j, h0, h1, ej⟩ := mem_rd65 hx
 rw [← ej]
 exact hb e j h0 h1
theorem uniG_len : ∀ (n : Nat) (a b out : List S65), (uniG n a b out).1.length ≤ out.length + a.length + b.length
 | 0, a, b, out => by simp only [uniG]; omega
 | _ + 1, [], [], out => by simp only [uniG]; omega
 | n + 1, a :: xs, [], out => by
  have := uniG_len n xs [] (out ++ [a])
  simp only [uniG, List.length_append, List.length_cons, List.length_nil] at *
  omega
 | n + 1, [], b :: ys, out => by
  have := uniG_len n [] ys (out ++ [b])
  simp only [uniG, List.length_append, List.length_cons, List.length_nil] at *
  omega
 | n + 1, a :: xs, b :: ys, out => by
  have h1 := uniG_len n xs (b :: ys) (out ++ [a])
  have h2 := uniG_len n (a :: xs) ys (out ++ [b])
  have h3 := uniG_len n xs ys (out ++ [a])
  simp only [uniG, List.length_append, List.length_cons, List.length_nil] at *
  split
  ·omega
  split
  ·omega
  split
  ·omega
  simp
theorem Merge_ends (nme : ByteArray) (ds : List S55) (sl : List (List S79)) (r f : List S65) (hd : ∀ d ∈ ds, bDim d) (hv : Vals (fun k => feature_dimensions.f k ds) true) (hg : GoodRec ds r) (hf : (f.length : Int) ≤ 1000000) (hfb : ∀ x ∈ f, bF x) : Ends (fun k => paradigm_Merge.f k nme ds sl r f) (fun c => (c.1.length : Int) ≤ 2000000) := by
 have hlen : r.length = ds.length := by obtain ⟨ch, h1, _, h2, _⟩ := hg; omega
 have h4 := ((dims_ends ds hd).of_vals hv rfl).1
 unfold paradigm_Merge.f
 refine Ends.bind (Number_ends nme ds sl r hd hv hg) fun t ht => ?_
 refine Ends.ite (fun _ => by omega) (fun _ => ?_)
 refine Ends.bind (feature_Valid_ends f (by omega) hfb) fun t _ => ?_
 refine Ends.ite (fun _ => ?_) (fun _ => Ends.some (by simp))
 refine Ends.bind (Q := fun c => (c.1.length : Int) ≤ 2000000) (Ends.const (by unfold feature_Unify.f; rw [if_pos (by omega), if_pos hf]) ?_) fun c hc => Ends.some hc
 have := uniG_len (r.length + f.length + 1) r f []
 simp only [List.length_nil] at this
 omega
theorem Subsumes_ends (a b : List S65) (ha : (a.length : Int) ≤ 1000000000) (hb : (b.length : Int) ≤ 1000000000) : Ends (fun k => feature_Subsumes.f k a b) (fun _ => True) := by
 have key : ∀ i : Int, 0 ≤ i → i ≤ (a.length : Int) → ∀ x5 : Int, 0 ≤ x5 → x5 ≤ (b.length : Int) → Ends (fun k => feature_Subsumes.l0 k b x5 a (a.length : Int) i) (fun _ => True) := by
  refine up_ind fun i h0 h1 ih => ?_
  intro x5 g0 g1
  have hw : wrap64 (i + 1) = i + 1 := wr1 h0 (by omega)
  refine Ends.succ ?_
  simp only [feature_Subsumes.l0]
  refine Ends.ite (fun h => ?_) (fun h => Ends.some trivial)
  refine Ends.ite (fun _ => ?_) (fun _ => by omega)
  refine Ends.ite (fun _ => ?_) (fun _ => by omega)
  generalize (rd_T65 a i).f0 = u
  generalize (rd_T65 a i).f1 = v
  have l1 : ∀ j : Int, 0 ≤ j → j ≤ (b.length : Int) → Ends (fun k => feature_Subsumes.l1 k b j a (a.length : Int) i u v) (fun _ => True) := by
   refine up_ind fun j j0 j1 jh => ?_
   have hwj : wrap64 (j + 1) = j + 1 := wr1 j0 (by omega)
   refine Ends.succ ?_
   simp only [feature_Subsumes.l1, hwj, hw]
   refine Ends.ite (fun hj => ?_) (fun hj => ?_)
   ·refine Ends.ite (fun _ => ?_) (fun _ => by omega)
    refine Ends.ite (fun _ => jh hj) (fun _ => ?_)
    refine Ends.ite (fun _ => Ends.some trivial) (fun _ => ?_)
    exact Ends.ite (fun _ => Ends.some trivial) (fun _ => ih h (j + 1) (by omega) (by omega))
   exact Ends.ite (fun _ => Ends.some trivial) (fun _ => by omega)
  exact l1 x5 g0 g1
 exact key 0 (Int.le_refl _) (by omega) 0 (Int.le_refl _) (by omega)
theorem matT_ends (fs : List S65) (hf : (fs.length : Int) ≤ 1000000000) : ∀ es : List S140, (∀ e ∈ es, (e.f0.length : Int) ≤ 1000000000) → Ends (fun k => matT k fs es) (fun ms => ∀ m ∈ ms, ∃ e ∈ es, e.f1 = m)
 | [], _ => by
  simp only [matT]
  exact Ends.some (by simp)
 | e :: es, h => by
  simp only [matT]
  refine Ends.bind (Subsumes_ends e.f0 fs (h e (List.mem_cons_self ..)) hf) fun b _ => ?_
  refine Ends.bind (matT_ends fs hf es fun x hx => h x (List.mem_cons_of_mem _ hx)) fun ms hms => Ends.some ?_
  intro m hm
  split at hm
  ·rcases List.mem_cons.1 hm with rfl | hm
   ·exact ⟨e, List.mem_cons_self .., rfl⟩
   obtain ⟨x, hx, ex⟩ := hms m hm
   exact ⟨x, List.mem_cons_of_mem _ hx, ex⟩
  obtain ⟨x, hx, ex⟩ := hms m hm
  exact ⟨x, List.mem_cons_of_mem _ hx, ex⟩
theorem ents_mem : ∀ (l : List S79) (i : Nat) (e : S140), e ∈ ents l i → (∃ x ∈ l, e.f0 = x.f0) ∧ (i : Int) ≤ e.f1 ∧ e.f1 < ((i + l.length : Nat) : Int)
 | [], i, e, h => by cases h
 | x :: xs, i, e, h => by
  rw [ents] at h
  rcases List.mem_cons.1 h with rfl | h
  ·exact ⟨⟨x, List.mem_cons_self .., rfl⟩, by simp, by simp only [List.length_cons]; omega⟩
  obtain ⟨⟨y, hy, ey⟩, h1, h2⟩ := ents_mem xs (i + 1) e h
  refine ⟨⟨y, List.mem_cons_of_mem _ hy, ey⟩, by omega, ?_⟩
  simp only [List.length_cons]
  omega
theorem Chosen_ends (nme : ByteArray) (ds : List S55) (sl : List (List S79)) (i : Int) (fs : List S65) (hf : (fs.length : Int) ≤ 1000000000) (ha : ∀ l ∈ sl, affOk l = true) : Ends (fun k => paradigm_Chosen.f k nme ds sl i fs) (fun c => 0 ≤ c → c < ((rd_L11 sl i).length : Int)) := by
 unfold paradigm_Chosen.f
 refine Ends.ite (fun _ => Ends.some (by omega)) (fun h0 => ?_)
 refine Ends.ite (fun _ => Ends.some (by omega)) (fun h1 => ?_)
 have hm : rd_L11 sl i ∈ sl := rd11_lt (by omega) (by omega)
 have he : rd_slots sl i = rd_L11 sl i := rfl
 rw [he]
 refine Ends.ite (fun hok => ?_) (fun hn => absurd (ha _ hm) hn)
 unfold affOk at hok
 rw [Bool.and_eq_true, List.all_eq_true] at hok
 refine Ends.bind (matT_ends fs hf _ fun e hee => ?_) fun ms hms => Ends.some ?_
 ·obtain ⟨⟨x, hx, ex⟩, _⟩ := ents_mem _ _ _ hee
  have := of_decide_eq_true (hok.2 x hx)
  rw [ex]
  omega
 split
 ·omega
 intro _
 have hne : ms ≠ [] := by simpa using ‹¬ms.isEmpty = true›
 have hr : rd ms 0 ∈ ms := by
  cases ms with
  | nil => exact absurd rfl hne
  | cons m ms => simp [rd]
 obtain ⟨e, hee, ex⟩ := hms _ hr
 obtain ⟨_, _, h3⟩ := ents_mem _ _ _ hee
 rw [← ex]
 simpa using h3
theorem dec_w (s : ByteArray) (pos : Nat) : 1 ≤ (Utf8.decode s pos).2 ∧ (Utf8.decode s pos).2 ≤ 4 := by
 unfold Utf8.decode
 dsimp only
 repeat' split
 all_goals simp
theorem enc_w (r : Int) : (Utf8.encode r).size ≤ 4 := by
 unfold Utf8.encode
 dsimp only
 generalize (if Utf8.valid r = true then r.toNat else Utf8.runeError) = c
 repeat' split
 all_goals (simp only [ByteArray.size, List.size_toArray, List.length_cons, List.length_nil]; omega)
theorem size_rnsFrom (s : ByteArray) : ∀ k pos : Nat, s.size ≤ pos + k → s.size ≤ pos + 4 * (rnsFrom s k pos).length
 | 0, pos, h => by omega
 | k + 1, pos, h => by
  rw [rnsFrom]
  have hw := dec_w s pos
  split
  ·have := size_rnsFrom s k (pos + (Utf8.decode s pos).2) (by omega)
   rw [List.length_cons]
   omega
  omega
theorem size_rns (s : ByteArray) : s.size ≤ 4 * (rns s).length := by
 have := size_rnsFrom s s.size 0 (by omega)
 rw [rns]
 omega
theorem size_foldl (rs : List Int) : ∀ a : ByteArray, (rs.foldl (fun r n => r ++ Utf8.encode n) a).size ≤ a.size + 4 * rs.length := by
 induction rs with
 | nil => intro a; simp
 | cons r rs ih =>
  intro a
  have h1 := ih (a ++ Utf8.encode r)
  have h2 := enc_w r
  rw [List.foldl_cons, List.length_cons]
  rw [ByteArray.size_append] at h1
  omega
theorem size_str (xs : List Int) : (strOfRunes xs).size ≤ 4 * xs.length := by
 have := size_foldl xs .empty
 rw [strOfRunes]
 simpa using this
theorem okS_of {l : List S48} {s : ByteArray} (h : okA l = true) (hs : s.size ≤ 1000000000) : okS l s = true := by
 unfold okS
 rw [h, decide_eq_true hs]
 rfl
theorem smallP_of {p : List S91} (h : ∀ x ∈ p, x.f1.size ≤ 1000000000) : smallP p = true := by
 unfold smallP
 rw [List.all_eq_true]
 exact fun x hx => decide_eq_true (h x hx)
theorem smallP_at {p : List S91} (h : smallP p = true) : ∀ x ∈ p, x.f1.size ≤ 1000000000 := by
 unfold smallP at h
 rw [List.all_eq_true] at h
 exact fun x hx => of_decide_eq_true (h x hx)
theorem ValidRune_ends (r : Int) : Ends (fun k => utf8_ValidRune.f k r) (fun _ => True) := by
 unfold utf8_ValidRune.f
 have j : ∀ b, Ends (fun k => utf8_ValidRune.j0 k r b) (fun _ => True) := by
  intro b
  refine Ends.succ ?_
  simp only [utf8_ValidRune.j0]
  repeat' (first | (exact Ends.some trivial) | (with_reducible refine Ends.ite (fun _ => ?_) (fun _ => ?_)))
 exact Ends.ite (fun _ => j _) (fun _ => j _)
theorem has_ends (l : List S48) (r : Int) (hl : (l.length : Int) ≤ 1000000000) : Ends (fun k => rewrite_letters_has.f k l r) (fun _ => True) := by
 have key : ∀ i : Int, 0 ≤ i → i ≤ (l.length : Int) → Ends (fun k => rewrite_letters_has.l0 k r l (l.length : Int) i) (fun _ => True) := by
  refine up_ind fun i h0 h1 ih => ?_
  have hw : wrap64 (i + 1) = i + 1 := wr1 h0 (by omega)
  refine Ends.succ ?_
  simp only [rewrite_letters_has.l0, hw]
  repeat' (first | (exact ih (by assumption)) | (exact Ends.some trivial) | (with_reducible refine Ends.ite (fun _ => ?_) (fun _ => ?_)) | (exfalso; omega))
 exact key 0 (Int.le_refl _) (by omega)
theorem admissible_ends (l : List S48) (hl : (l.length : Int) ≤ 1000000000) : Ends (fun k => rewrite_letters_admissible.f k l) (fun _ => True) := by
 have key : ∀ i : Int, 0 ≤ i → i ≤ (l.length : Int) → Ends (fun k => rewrite_letters_admissible.l0 k l l (l.length : Int) i) (fun _ => True) := by
  refine up_ind fun i h0 h1 ih => ?_
  have hw : wrap64 (i + 1) = i + 1 := wr1 h0 (by omega)
  refine Ends.succ ?_
  simp only [rewrite_letters_admissible.l0, hw]
  refine Ends.ite (fun h => ?_) (fun _ => Ends.some trivial)
  refine Ends.ite (fun _ => ?_) (fun _ => by omega)
  refine Ends.ite (fun _ => ?_) (fun _ => by omega)
  refine Ends.ite (fun _ => Ends.some trivial) (fun _ => ?_)
  refine Ends.bind (ValidRune_ends _) fun t _ => ?_
  refine Ends.ite (fun _ => ?_) (fun _ => Ends.some trivial)
  refine Ends.ite (fun _ => ?_) (fun _ => by omega)
  refine Ends.bind (has_ends _ _ (by rw [List.length_take]; omega)) fun t _ => ?_
  exact Ends.ite (fun _ => Ends.some trivial) (fun _ => ih h)
 have j : ∀ b, Ends (fun k => rewrite_letters_admissible.j0 k l b) (fun _ => True) := by
  intro b
  refine Ends.succ ?_
  simp only [rewrite_letters_admissible.j0]
  exact Ends.ite (fun _ => Ends.some trivial) (fun _ => key 0 (Int.le_refl _) (by omega))
 unfold rewrite_letters_admissible.f
 exact Ends.ite (fun _ => j _) (fun _ => j _)
theorem okA_len {l : List S48} (h : okA l = true) : (l.length : Int) ≤ 1000 := (okA_at h).2
theorem rValid_ends (l : List S48) (fr : Int) (tw : ByteArray) (le ri : List S91) (b c : Bool) (hA : okA l = true) (ht : tw.size ≤ 1000000000) (hle : smallP le = true) (hri : smallP ri = true) : Ends (fun k => rewrite_Valid.f k l fr tw le ri b c) (fun _ => True) := by
 unfold rewrite_Valid.f
 refine Ends.ite (fun _ => ?_) (fun hn => absurd (by rw [okS_of hA ht, hle, hri]; rfl) hn)
 refine Ends.bind (admissible_ends l (by have := okA_len hA; omega)) fun t _ => ?_
 exact Ends.ite (fun _ => Ends.some trivial) (fun _ => Ends.some trivial)
theorem firstIn_lt {l : List S48} {m : Nat} {r v : Int} (h : firstIn l m r = some v) : 0 ≤ v ∧ v < (l.length : Int) := by
 unfold firstIn at h
 cases e : (l.take m).findIdx? (fun x => x.f0 == r) with
 | none => rw [e] at h; cases h
 | some n =>
  rw [e] at h
  obtain ⟨hn, _⟩ := List.findIdx?_eq_some_iff_getElem.1 e
  rw [List.length_take] at hn
  have : (n : Int) = v := by simpa using h
  omega
theorem read_ends (l : List S48) (p : List S91) (s : ByteArray) (hA : okA l = true) (hp : smallP p = true) (hs : s.size ≤ 1000000000) : Ends (fun _ => pattern_read.f l p s) (fun r => r.2 = true → okP l p = true ∧ okLet l r.1 = true ∧ (r.1.length : Int) ≤ 1000000000) := by
 refine Ends.const (by unfold pattern_read.f; rw [if_pos (by rw [okS_of hA hs, hp]; rfl)]) ?_
 split
 ·rename_i ho
  intro h
  have hv : overOK (firstIn l l.length) s = true := h
  refine ⟨ho, ?_, ?_⟩
  ·show okLet l (overL (firstIn l l.length) s) = true
   unfold overL
   rw [if_pos hv]
   unfold okLet
   rw [List.all_eq_true]
   intro x hx
   obtain ⟨r, hr, rfl⟩ := List.mem_map.1 hx
   unfold overOK at hv
   rw [Bool.and_eq_true, List.all_eq_true] at hv
   obtain ⟨v, e⟩ := Option.isSome_iff_exists.1 (hv.2 r hr)
   rw [e]
   obtain ⟨h1, h2⟩ := firstIn_lt e
   rw [Option.getD_some, decide_eq_true h1, decide_eq_true h2]
   rfl
  show ((overL (firstIn l l.length) s).length : Int) ≤ 1000000000
  unfold overL
  rw [if_pos hv, List.length_map]
  have := rns_len s
  omega
 intro h; cases h
theorem lens_len (p : List S91) (f : Nat → Nat → Bool) : ∀ (xs : List Int) (i : Nat) (s : Int) (out : List Int), (lens p f xs i s out).length ≤ out.length + xs.length + 1
 | [], i, s, out => by
  rw [lens]
  split <;> simp
 | x :: xs, i, s, out => by
  rw [lens]
  split
  ·split <;> simp <;> omega
  refine Nat.le_trans (lens_len p f xs _ _ _) ?_
  split <;> simp <;> omega
theorem okP_len {l : List S48} {p : List S91} (h : okP l p = true) : (p.length : Int) ≤ 3 := by
 unfold okP at h
 rw [Bool.and_eq_true, Bool.and_eq_true] at h
 exact of_decide_eq_true h.2.1
theorem lengths_ends (l : List S48) (p : List S91) (ls : List Int) (hA : okA l = true) (hp : smallP p = true) (h7 : (p.length : Int) ≤ 7) (ho : okLet l ls = true) (hl : (ls.length : Int) ≤ 1000000000) : Ends (fun _ => pattern_lengths.f l p ls) (fun r => (r.length : Int) ≤ 1000000001) := by
 refine Ends.const (by unfold pattern_lengths.f; rw [if_pos (by rw [hA, hp, ho, decide_eq_true h7, decide_eq_true hl]; rfl)]) ?_
 have := lens_len p (admF p l) ls 0 (closeP p 1) []
 unfold lensOf
 simp only [List.length_nil] at this
 omega
theorem Matches_ends (l : List S48) (p : List S91) (s : ByteArray) (hA : okA l = true) (hp : smallP p = true) (hs : s.size ≤ 1000000000) : Ends (fun _ => pattern_Matches.f l p s) (fun _ => True) := by
 unfold pattern_Matches.f
 refine Ends.bind (read_ends l p s hA hp hs) fun t ht => ?_
 refine Ends.ite (fun h => ?_) (fun _ => Ends.some trivial)
 obtain ⟨h1, h2, h3⟩ := ht h
 have h4 := okP_len h1
 refine Ends.bind (lengths_ends l p t.1 hA hp (by omega) h2 h3) fun q hq => ?_
 refine Ends.ite (fun hq0 => ?_) (fun _ => Ends.some trivial)
 have hw : wrap64 ((q.length : Int) - 1) = (q.length : Int) - 1 := wr0 (by omega) (by omega)
 rw [hw]
 refine Ends.ite (fun _ => ?_) (fun _ => by omega)
 exact Ends.ite (fun _ => Ends.some trivial) (fun _ => by omega)
theorem revP_ends (p : List S91) (hl : (p.length : Int) ≤ 1000000000) (hp : smallP p = true) : Ends (fun k => api_Item_107.f k p) (fun r => r.length = p.length ∧ smallP r = true) := by
 have key : ∀ i : Int, 0 ≤ i → i ≤ (p.length : Int) → ∀ x0 : List S91, x0.length = p.length → (∀ x ∈ x0, x.f1.size ≤ 1000000000) → Ends (fun k => api_Item_107.l0 k x0 i ((p.length : Int) - 1 - i)) (fun r => r.length = p.length ∧ smallP r = true) := by
  refine up_ind fun i h0 h1 ih => ?_
  intro x0 hx hb
  have hw : wrap64 (i + 1) = i + 1 := wr1 h0 (by omega)
  have hw' : wrap64 ((p.length : Int) - 1 - i - 1) = (p.length : Int) - 1 - (i + 1) := by rw [wr0 (by omega) (by omega)]; omega
  refine Ends.succ ?_
  simp only [api_Item_107.l0, hw, hw']
  refine Ends.ite (fun h => ?_) (fun _ => Ends.some ⟨hx, smallP_of hb⟩)
  refine Ends.ite (fun _ => ?_) (fun _ => by omega)
  refine Ends.ite (fun _ => ?_) (fun _ => by omega)
  refine Ends.ite (fun _ => ?_) (fun _ => by omega)
  refine Ends.ite (fun _ => ?_) (fun _ => by omega)
  refine ih (by omega) _ (by rw [List.length_set, List.length_set]; exact hx) fun x hxm => ?_
  rcases List.mem_or_eq_of_mem_set hxm with hxm | rfl
  ·rcases List.mem_or_eq_of_mem_set hxm with hxm | rfl
   ·exact hb x hxm
   exact hb _ (rd91_lt (l := x0) (i := (p.length : Int) - 1 - i) (by omega) (by omega))
  exact hb _ (rd91_lt (l := x0) (i := i) (by omega) (by omega))
 unfold api_Item_107.f
 have hw : wrap64 ((p.length : Int) - 1) = (p.length : Int) - 1 - 0 := by rw [wr0 (by omega) (by omega)]; omega
 rw [hw]
 exact key 0 (Int.le_refl _) (by omega) p rfl (smallP_at hp)
theorem rdI_lt {l : List Int} {i : Int} (h0 : 0 ≤ i) (h : i < (l.length : Int)) : rd l i ∈ l := by
 have hl : i.toNat < l.length := by omega
 simp only [rd, List.getD, List.getElem?_eq_getElem hl, Option.getD_some]
 exact List.getElem_mem hl
theorem revI_ends (p : List Int) (l : List S48) (hl : (p.length : Int) ≤ 1000000000) (hp : okLet l p = true) : Ends (fun k => slices_Reverse_int_int.f k p) (fun r => r.length = p.length ∧ okLet l r = true) := by
 have key : ∀ i : Int, 0 ≤ i → i ≤ (p.length : Int) → ∀ x0 : List Int, x0.length = p.length → (∀ x ∈ x0, (decide (0 ≤ x) && decide (x < (l.length : Int))) = true) → Ends (fun k => slices_Reverse_int_int.l0 k x0 i ((p.length : Int) - 1 - i)) (fun r => r.length = p.length ∧ okLet l r = true) := by
  refine up_ind fun i h0 h1 ih => ?_
  intro x0 hx hb
  have hw : wrap64 (i + 1) = i + 1 := wr1 h0 (by omega)
  have hw' : wrap64 ((p.length : Int) - 1 - i - 1) = (p.length : Int) - 1 - (i + 1) := by rw [wr0 (by omega) (by omega)]; omega
  refine Ends.succ ?_
  simp only [slices_Reverse_int_int.l0, hw, hw']
  refine Ends.ite (fun h => ?_) (fun _ => Ends.some ⟨hx, List.all_eq_true.2 hb⟩)
  refine Ends.ite (fun _ => ?_) (fun _ => by omega)
  refine Ends.ite (fun _ => ?_) (fun _ => by omega)
  refine Ends.ite (fun _ => ?_) (fun _ => by omega)
  refine Ends.ite (fun _ => ?_) (fun _ => by omega)
  refine ih (by omega) _ (by rw [List.length_set, List.length_set]; exact hx) fun x hxm => ?_
  rcases List.mem_or_eq_of_mem_set hxm with hxm | rfl
  ·rcases List.mem_or_eq_of_mem_set hxm with hxm | rfl
   ·exact hb x hxm
   exact hb _ (rdI_lt (l := x0) (i := (p.length : Int) - 1 - i) (by omega) (by omega))
  exact hb _ (rdI_lt (l := x0) (i := i) (by omega) (by omega))
 unfold slices_Reverse_int_int.f
 have hw : wrap64 ((p.length : Int) - 1) = (p.length : Int) - 1 - 0 := by rw [wr0 (by omega) (by omega)]; omega
 rw [hw]
 exact key 0 (Int.le_refl _) (by omega) p rfl (List.all_eq_true.1 hp)
theorem Suffixes_ends (l : List S48) (p : List S91) (s : ByteArray) (hA : okA l = true) (hp : smallP p = true) (hs : s.size ≤ 1000000000) : Ends (fun k => pattern_Suffixes.f k l p s) (fun _ => True) := by
 unfold pattern_Suffixes.f
 refine Ends.bind (read_ends l p s hA hp hs) fun t ht => ?_
 refine Ends.ite (fun h => ?_) (fun _ => Ends.some trivial)
 obtain ⟨h1, h2, h3⟩ := ht h
 have h4 := okP_len h1
 refine Ends.bind (Q := fun y => y = p) (Ends.const (by unfold api_Item_106.f; rw [if_pos (by omega)]) rfl) fun y hy => ?_
 subst hy
 refine Ends.bind (revP_ends y (by omega) hp) fun u hu => ?_
 refine Ends.bind (revI_ends t.1 l h3 h2) fun v hv => ?_
 refine Ends.bind (lengths_ends l u v hA hu.2 (by rw [hu.1]; omega) hv.2 (by rw [hv.1]; exact h3)) fun q _ => Ends.some trivial
theorem Prefixes_ends (l : List S48) (p : List S91) (s : ByteArray) (hA : okA l = true) (hp : smallP p = true) (hs : s.size ≤ 1000000000) : Ends (fun _ => pattern_Prefixes.f l p s) (fun _ => True) := by
 unfold pattern_Prefixes.f
 refine Ends.bind (read_ends l p s hA hp hs) fun t ht => ?_
 refine Ends.ite (fun h => ?_) (fun _ => Ends.some trivial)
 obtain ⟨h1, h2, h3⟩ := ht h
 have h4 := okP_len h1
 exact Ends.bind (lengths_ends l p t.1 hA hp (by omega) h2 h3) fun q hq => Ends.some trivial
theorem follows_ends (l : List S48) (fr : Int) (tw : ByteArray) (le ri : List S91) (b c : Bool) (s : ByteArray) (hA : okA l = true) (hp : smallP le = true) (hs : s.size ≤ 1000000000) : Ends (fun k => rewrite_follows.f k l fr tw le ri b c s) (fun _ => True) := by
 unfold rewrite_follows.f
 refine Ends.ite (fun _ => ?_) (fun _ => ?_)
 ·exact Ends.bind (Matches_ends l le s hA hp hs) fun q _ => Ends.some trivial
 exact Ends.bind (Suffixes_ends l le s hA hp hs) fun q _ => Ends.some trivial
theorem precedes_ends (l : List S48) (fr : Int) (tw : ByteArray) (le ri : List S91) (b c : Bool) (s : ByteArray) (hA : okA l = true) (hp : smallP ri = true) (hs : s.size ≤ 1000000000) : Ends (fun _ => rewrite_precedes.f l fr tw le ri b c s) (fun _ => True) := by
 unfold rewrite_precedes.f
 refine Ends.ite (fun _ => ?_) (fun _ => ?_)
 ·exact Ends.bind (Matches_ends l ri s hA hp hs) fun q _ => Ends.some trivial
 exact Ends.bind (Prefixes_ends l ri s hA hp hs) fun q _ => Ends.some trivial
theorem isWord_ends (l : List S48) (s : ByteArray) (hA : okA l = true) (hs : s.size ≤ 1000000000) : Ends (fun _ => rewrite_letters_isWord.f l s) (fun b => b = true → ((rns s).length : Int) ≤ 40) := by
 refine Ends.const (by unfold rewrite_letters_isWord.f; rw [if_pos (okS_of hA hs)]) fun h => ?_
 unfold consOK at h
 rw [Bool.and_eq_true, Bool.and_eq_true] at h
 exact of_decide_eq_true h.2.2
theorem Sites_ends (l : List S48) (fr : Int) (tw : ByteArray) (le ri : List S91) (b c : Bool) (s : ByteArray) (hA : okA l = true) (ht : tw.size ≤ 1000000000) (hle : smallP le = true) (hri : smallP ri = true) (hs : s.size ≤ 1000000000) : Ends (fun k => rewrite_Sites.f k l fr tw le ri b c s) (fun _ => True) := by
 have j0t : Ends (fun k => rewrite_Sites.j0 k l s true fr tw le ri b c) (fun _ => True) := by
  refine Ends.succ ?_
  simp only [rewrite_Sites.j0, if_true]
  exact Ends.some trivial
 have j0f : ((rns s).length : Int) ≤ 40 → Ends (fun k => rewrite_Sites.j0 k l s false fr tw le ri b c) (fun _ => True) := by
  intro h40
  have key : ∀ i : Int, 0 ≤ i → i ≤ ((rns s).length : Int) + 1 → ∀ x8 : List Int, (x8.length : Int) ≤ i → Ends (fun k => rewrite_Sites.l0 k l (rns s) x8 i fr tw le ri b c) (fun _ => True) := by
   refine up_ind fun i h0 h1 ih => ?_
   intro x8 hx
   have hw : wrap64 (i + 1) = i + 1 := wr1 h0 (by omega)
   have go : i ≤ ((rns s).length : Int) → ∀ x8' : List Int, (x8'.length : Int) ≤ i + 1 → Ends (fun k => rewrite_Sites.l0 k l (rns s) x8' (i + 1) fr tw le ri b c) (fun _ => True) := fun h x8' hx' => ih (by omega) x8' hx'
   have j2 : i ≤ ((rns s).length : Int) → ∀ x10 : Int, 0 ≤ x10 → x10 ≤ ((rns s).length : Int) → Ends (fun k => rewrite_Sites.j2 k l (rns s) x8 i x10 fr tw le ri b c) (fun _ => True) := by
    intro h x10 g0 g1
    have t1 := size_str ((rns s).take i.toNat)
    rw [List.length_take] at t1
    have t2 := size_str ((rns s).drop x10.toNat)
    rw [List.length_drop] at t2
    refine Ends.succ ?_
    simp only [rewrite_Sites.j2, hw]
    refine Ends.ite (fun _ => ?_) (fun _ => by omega)
    refine Ends.ite (fun _ => ?_) (fun _ => by omega)
    refine Ends.bind (follows_ends l fr tw le ri b c _ hA hle (by omega)) fun t _ => ?_
    refine Ends.ite (fun _ => ?_) (fun _ => go h _ (by omega))
    refine Ends.ite (fun _ => ?_) (fun _ => by omega)
    refine Ends.ite (fun _ => ?_) (fun _ => by omega)
    refine Ends.bind (precedes_ends l fr tw le ri b c _ hA hri (by omega)) fun t _ => ?_
    refine Ends.ite (fun _ => ?_) (fun _ => go h _ (by omega))
    exact Ends.ite (fun _ => go h _ (by rw [List.length_append]; simp only [List.length_cons, List.length_nil]; omega)) (fun _ => by omega)
   refine Ends.succ ?_
   simp only [rewrite_Sites.l0, hw]
   refine Ends.ite (fun h => ?_) (fun _ => Ends.some trivial)
   refine Ends.ite (fun _ => j2 h i h0 h) (fun _ => ?_)
   refine Ends.ite (fun _ => go h _ (by omega)) (fun _ => ?_)
   refine Ends.ite (fun _ => ?_) (fun _ => by omega)
   refine Ends.ite (fun _ => ?_) (fun _ => by omega)
   exact Ends.ite (fun _ => j2 h (i + 1) (by omega) (by omega)) (fun _ => go h _ (by omega))
  refine Ends.succ ?_
  simp only [rewrite_Sites.j0, Bool.false_eq_true, if_false]
  exact Ends.ite (fun _ => key 0 (Int.le_refl _) (by omega) [] (by simp)) (fun _ => by omega)
 unfold rewrite_Sites.f
 refine Ends.bind (rValid_ends l fr tw le ri b c hA ht hle hri) fun t _ => ?_
 refine Ends.ite (fun _ => ?_) (fun _ => j0t)
 refine Ends.bind (isWord_ends l s hA hs) fun t ht => ?_
 cases t with
 | true => exact j0f (ht rfl)
 | false => exact j0t
theorem result_ends (fr : Int) (tw : ByteArray) (le ri : List S91) (b c : Bool) (x1 : List Int) (s : ByteArray) (ht : tw.size ≤ 1000000000) (h40 : ((rns s).length : Int) ≤ 40) (hs : s.size ≤ 1000000000) : Ends (fun k => rewrite_result.f k fr tw le ri b c x1 s) (fun r => r.size ≤ 200000000000) := by
 have h8 := rns_len tw
 have key : ∀ i : Int, 0 ≤ i → i ≤ ((rns s).length : Int) + 1 → ∀ x1 x9 : List Int, (x9.length : Int) ≤ i * 1000000001 → Ends (fun k => rewrite_result.l0 k x1 (rns s) (rns tw) x9 i fr tw le ri b c) (fun r => r.size ≤ 200000000000) := by
  refine up_ind fun i h0 h1 ih => ?_
  intro x1 x9 hx
  have hw : wrap64 (i + 1) = i + 1 := wr1 h0 (by omega)
  have go : i ≤ ((rns s).length : Int) → ∀ x1' x9' : List Int, (x9'.length : Int) ≤ (i + 1) * 1000000001 → Ends (fun k => rewrite_result.l0 k x1' (rns s) (rns tw) x9' (i + 1) fr tw le ri b c) (fun r => r.size ≤ 200000000000) := fun h x1' x9' hx' => ih (by omega) x1' x9' hx'
  have j1 : i ≤ ((rns s).length : Int) → ∀ f : Bool, (f = true → 1 ≤ (x1.length : Int)) → Ends (fun k => rewrite_result.j1 k x1 (rns s) (rns tw) x9 i f fr tw le ri b c) (fun r => r.size ≤ 200000000000) := by
   intro h f hf
   refine Ends.succ ?_
   simp only [rewrite_result.j1, hw]
   refine Ends.ite (fun e => ?_) (fun _ => ?_)
   ·refine Ends.ite (fun _ => ?_) (fun hn => absurd (hf e) hn)
    refine Ends.bind (Q := fun _ => True) (Ends.some trivial) fun y _ => ?_
    refine Ends.ite (fun _ => ?_) (fun _ => by omega)
    refine Ends.bind (Q := fun y => y = x9 ++ rns tw) (Ends.some rfl) fun z hz => ?_
    have hzl : (z.length : Int) ≤ i * 1000000001 + 1000000000 := by rw [hz, List.length_append]; omega
    refine Ends.ite (fun _ => ?_) (fun _ => go h _ _ (by omega))
    refine Ends.ite (fun _ => ?_) (fun _ => go h _ _ (by omega))
    refine Ends.ite (fun _ => ?_) (fun _ => by omega)
    exact Ends.ite (fun _ => go h _ _ (by rw [List.length_append]; simp only [List.length_cons, List.length_nil]; omega)) (fun _ => by omega)
   refine Ends.ite (fun _ => ?_) (fun _ => go h _ _ (by omega))
   refine Ends.ite (fun _ => ?_) (fun _ => by omega)
   exact Ends.ite (fun _ => go h _ _ (by rw [List.length_append]; simp only [List.length_cons, List.length_nil]; omega)) (fun _ => by omega)
  refine Ends.succ ?_
  simp only [rewrite_result.l0]
  refine Ends.ite (fun h => ?_) (fun _ => Ends.some ?_)
  ·refine Ends.ite (fun hx1 => ?_) (fun _ => j1 h _ (fun e => by cases e))
   exact Ends.ite (fun _ => j1 h _ (fun _ => by omega)) (fun _ => by omega)
  have := size_str x9
  omega
 unfold rewrite_result.f
 refine Ends.ite (fun _ => ?_) (fun _ => by omega)
 refine Ends.ite (fun _ => ?_) (fun _ => by omega)
 exact key 0 (Int.le_refl _) (by omega) x1 [] (by simp)
theorem RuneCount_ends (s : ByteArray) (hs : s.size ≤ 1000000000000) : Ends (fun _ => utf8_RuneCountInString.f s) (fun n => n = ((rns s).length : Int)) := by
  refine Ends.const (by unfold utf8_RuneCountInString.f; rw [if_pos hs]) rfl
theorem Apply_ends (l : List S48) (fr : Int) (tw : ByteArray) (le ri : List S91) (b c : Bool) (s : ByteArray) (hA : okA l = true) (ht : tw.size ≤ 1000000000) (hle : smallP le = true) (hri : smallP ri = true) (hs : s.size ≤ 1000000000) : Ends (fun k => rewrite_Apply.f k l fr tw le ri b c s) (fun r => r.2 = 0 → r.1.size ≤ 160) := by
 have j0t : Ends (fun k => rewrite_Apply.j0 k l s true fr tw le ri b c) (fun r => r.2 = 0 → r.1.size ≤ 160) := by
  refine Ends.succ ?_
  simp only [rewrite_Apply.j0, if_true]
  exact Ends.some (by simp)
 have j0f : ((rns s).length : Int) ≤ 40 → Ends (fun k => rewrite_Apply.j0 k l s false fr tw le ri b c) (fun r => r.2 = 0 → r.1.size ≤ 160) := by
  intro h40
  refine Ends.succ ?_
  simp only [rewrite_Apply.j0, Bool.false_eq_true, if_false]
  refine Ends.bind (Sites_ends l fr tw le ri b c s hA ht hle hri hs) fun q _ => ?_
  refine Ends.bind (result_ends fr tw le ri b c q s ht h40 hs) fun u hu => ?_
  refine Ends.bind (RuneCount_ends u (by omega)) fun n hn => ?_
  refine Ends.ite (fun _ => Ends.some (by simp)) (fun h => Ends.some fun _ => ?_)
  have := size_rns u
  show u.size ≤ 160
  omega
 unfold rewrite_Apply.f
 refine Ends.bind (rValid_ends l fr tw le ri b c hA ht hle hri) fun t _ => ?_
 refine Ends.ite (fun _ => ?_) (fun _ => j0t)
 refine Ends.bind (isWord_ends l s hA hs) fun t ht => ?_
 cases t with
 | true => exact j0f (ht rfl)
 | false => exact j0t
def bRule (r : S89) : Prop := r.f1.size ≤ 1000000000 ∧ smallP r.f2 = true ∧ smallP r.f3 = true ∧ (r.f2.length : Int) ≤ 1000000000 ∧ (r.f3.length : Int) ≤ 1000000000
theorem Trace_ends (l : List S48) (rs : List S89) (s : ByteArray) (hA : okA l = true) (hr : ∀ r ∈ rs, bRule r) (hs : s.size ≤ 1000000000) : Ends (fun k => rewrite_Trace.f k l rs s) (fun r => r.2 = 0 → 1 ≤ (r.1.length : Int) ∧ (r.1.length : Int) ≤ 65) := by
 have j0t : Ends (fun k => rewrite_Trace.j0 k l rs s true) (fun r => r.2 = 0 → 1 ≤ (r.1.length : Int) ∧ (r.1.length : Int) ≤ 65) := by
  refine Ends.succ ?_
  simp only [rewrite_Trace.j0, if_true]
  exact Ends.some (by simp)
 unfold rewrite_Trace.f
 refine Ends.ite (fun _ => j0t) (fun h64 => ?_)
 have l1 : ∀ i : Int, 0 ≤ i → i ≤ (rs.length : Int) → ∀ x10 : List ByteArray, 1 ≤ (x10.length : Int) → (x10.length : Int) ≤ i + 1 → (rdOf ByteArray.empty x10 ((x10.length : Int) - 1)).size ≤ 1000000000 → Ends (fun k => rewrite_Trace.l1 k l x10 rs (rs.length : Int) i) (fun r => r.2 = 0 → 1 ≤ (r.1.length : Int) ∧ (r.1.length : Int) ≤ 65) := by
  refine up_ind fun i h0 h1 ih => ?_
  intro x10 hx1 hx2 hx3
  have hw : wrap64 (i + 1) = i + 1 := wr1 h0 (by omega)
  have hw' : wrap64 ((x10.length : Int) - 1) = (x10.length : Int) - 1 := wr0 (by omega) (by omega)
  refine Ends.succ ?_
  simp only [rewrite_Trace.l1, hw, hw']
  refine Ends.ite (fun h => ?_) (fun _ => Ends.some fun _ => ⟨hx1, by show (x10.length : Int) ≤ 65; omega⟩)
  refine Ends.ite (fun _ => ?_) (fun _ => by omega)
  refine Ends.ite (fun _ => ?_) (fun _ => by omega)
  refine Ends.ite (fun _ => ?_) (fun _ => by omega)
  refine Ends.ite (fun _ => ?_) (fun _ => by omega)
  obtain ⟨b1, b2, b3, _, _⟩ := hr _ (rd89_lt h0 h)
  refine Ends.bind (Apply_ends l _ _ _ _ _ _ _ hA b1 b2 b3 hx3) fun t ht => ?_
  refine Ends.ite (fun e => ?_) (fun hn => Ends.some fun e => absurd e hn)
  refine Ends.ite (fun _ => ?_) (fun _ => by omega)
  refine ih h _ (by rw [List.length_append]; simp only [List.length_cons, List.length_nil]; omega) (by rw [List.length_append]; simp only [List.length_cons, List.length_nil]; omega) ?_
  have e2 : rdOf ByteArray.empty (x10 ++ [t.1]) (((x10 ++ [t.1]).length : Int) - 1) = t.1 := by
   have hn : ((((x10 ++ [t.1]).length : Nat) : Int) - 1).toNat = x10.length := by rw [List.length_append]; simp only [List.length_cons, List.length_nil]; omega
   simp [rdOf, hn]
  rw [e2]
  have := ht e
  omega
 have l0 : ∀ i : Int, 0 ≤ i → i ≤ (rs.length : Int) → Ends (fun k => rewrite_Trace.l0 k l rs s rs (rs.length : Int) i) (fun r => r.2 = 0 → 1 ≤ (r.1.length : Int) ∧ (r.1.length : Int) ≤ 65) := by
  refine up_ind fun i h0 h1 ih => ?_
  have hw : wrap64 (i + 1) = i + 1 := wr1 h0 (by omega)
  refine Ends.succ ?_
  simp only [rewrite_Trace.l0, hw]
  refine Ends.ite (fun h => ?_) (fun _ => l1 0 (Int.le_refl _) (by omega) [s] (by simp) (by simp) (by simpa [rdOf] using hs))
  refine Ends.ite (fun _ => ?_) (fun _ => by omega)
  refine Ends.ite (fun _ => ?_) (fun _ => by omega)
  obtain ⟨b1, b2, b3, _, _⟩ := hr _ (rd89_lt h0 h)
  refine Ends.bind (rValid_ends l _ _ _ _ _ _ hA b1 b2 b3) fun t ht => ?_
  exact Ends.ite (fun _ => ih h) (fun _ => Ends.some (by simp))
 refine Ends.bind (admissible_ends l (by have := okA_len hA; omega)) fun t _ => ?_
 refine Ends.ite (fun _ => ?_) (fun _ => j0t)
 refine Ends.bind (isWord_ends l s hA hs) fun t _ => ?_
 cases t with
 | true =>
  refine Ends.succ ?_
  simp only [rewrite_Trace.j0, Bool.not_true, Bool.false_eq_true, if_false]
  exact l0 0 (Int.le_refl _) (by omega)
 | false => exact j0t
theorem Cascade_ends (l : List S48) (rs : List S89) (s : ByteArray) (hA : okA l = true) (hr : ∀ r ∈ rs, bRule r) (hs : s.size ≤ 1000000000) : Ends (fun k => rewrite_Cascade.f k l rs s) (fun _ => True) := by
 unfold rewrite_Cascade.f
 refine Ends.bind (Trace_ends l rs s hA hr hs) fun t ht => ?_
 refine Ends.ite (fun e => ?_) (fun _ => Ends.some trivial)
 obtain ⟨h1, h2⟩ := ht e
 have hw : wrap64 ((t.1.length : Int) - 1) = (t.1.length : Int) - 1 := wr0 (by omega) (by omega)
 rw [hw]
 refine Ends.ite (fun _ => ?_) (fun _ => by omega)
 exact Ends.ite (fun _ => Ends.some trivial) (fun _ => by omega)
theorem alphabet_Valid_ends (l : List S48) (hg : good l = true) : Ends (fun k => alphabet_Valid.f k l) (fun b => b = true → (l.length : Int) ≤ 64) := by
 unfold alphabet_Valid.f
 refine Ends.ite (fun _ => Ends.some (by simp)) (fun _ => ?_)
 refine Ends.ite (fun _ => Ends.some (by simp)) (fun h64 => ?_)
 have key : ∀ i : Int, 0 ≤ i → i ≤ (l.length : Int) → Ends (fun k => alphabet_Valid.l0 k l i) (fun _ => True) := by
  refine up_ind fun i h0 h1 ih => ?_
  refine Ends.succ ?_
  simp only [alphabet_Valid.l0]
  refine Ends.ite (fun h => ?_) (fun _ => ?_)
  ·refine Ends.ite (fun _ => Ends.some trivial) (fun _ => ?_)
   refine Ends.bind (ValidRune_ends _) fun t _ => ?_
   exact Ends.ite (fun _ => ih h) (fun _ => Ends.some trivial)
  exact Ends.ite (fun _ => Ends.some trivial) (fun hn => absurd hg hn)
 exact (key 0 (Int.le_refl _) (by omega)).mono fun b _ _ => by omega
theorem IsWord_ends (l : List S48) (s : ByteArray) (hA : okA l = true) (hs : s.size ≤ 1000000000) : Ends (fun _ => alphabet_IsWord.f l s) (fun _ => True) :=
  Ends.const (by unfold alphabet_IsWord.f; rw [if_pos (okS_of hA hs)]) trivial
def bAff (a : S79) : Prop := (a.f0.length : Int) ≤ 1000000 ∧ (∀ x ∈ a.f0, bF x) ∧ a.f1.size ≤ 10000000 ∧ a.f2.size ≤ 10000000
def bPar (p : S38) : Prop := (p.f0.size : Int) ≤ 1000000000 ∧ (∀ d ∈ p.f1, bDim d) ∧ (p.f1.length : Int) ≤ 1000000000 ∧ (p.f2.length : Int) ≤ 1000000000 ∧ ∀ l ∈ p.f2, (l.length : Int) ≤ 1000000 ∧ ∀ a ∈ l, bAff a
def bLex (x : S34) : Prop := x.f0.size ≤ 10000000 ∧ x.f1.size ≤ 10000000 ∧ x.f2.size ≤ 10000000 ∧ x.f3.size ≤ 10000000 ∧ (x.f4.length : Int) ≤ 1000000 ∧ ∀ y ∈ x.f4, bF y
theorem pValid_ends (l : List S48) (p : S38) (hA : okA l = true) (hp : bPar p) : Ends (fun k => paradigm_Valid.f k l p.f0 p.f1 p.f2) (fun b => b = true → p.f0.toList ≠ []) := by
 obtain ⟨b0, b1, b2, b3, b4⟩ := hp
 have hg : good l = true := (okA_at hA).1
 have l0 : ∀ i : Int, 0 ≤ i → i ≤ (p.f2.length : Int) → Ends (fun k => paradigm_Valid.l0 k l p.f2 (p.f2.length : Int) i) (fun _ => True) := by
  refine up_ind fun i h0 h1 ih => ?_
  have hw : wrap64 (i + 1) = i + 1 := wr1 h0 (by omega)
  refine Ends.succ ?_
  simp only [paradigm_Valid.l0]
  refine Ends.ite (fun h => ?_) (fun _ => Ends.some trivial)
  refine Ends.ite (fun _ => ?_) (fun _ => by omega)
  refine Ends.ite (fun _ => ?_) (fun _ => by omega)
  refine Ends.ite (fun _ => Ends.some trivial) (fun _ => ?_)
  obtain ⟨c0, c1⟩ := b4 _ (rd11_lt h0 h)
  generalize rd_L11 p.f2 i = row at c0 c1
  have l1 : ∀ j : Int, 0 ≤ j → j ≤ (row.length : Int) → Ends (fun k => paradigm_Valid.l1 k l p.f2 (p.f2.length : Int) i row (row.length : Int) j) (fun _ => True) := by
   refine up_ind fun j g0 g1 gh => ?_
   have hwj : wrap64 (j + 1) = j + 1 := wr1 g0 (by omega)
   refine Ends.succ ?_
   simp only [paradigm_Valid.l1, hwj, hw]
   refine Ends.ite (fun hj => ?_) (fun _ => ih h)
   refine Ends.ite (fun _ => ?_) (fun _ => by omega)
   refine Ends.ite (fun _ => ?_) (fun _ => by omega)
   obtain ⟨d0, d1, d2, d3⟩ := c1 _ (rd79_lt g0 hj)
   refine Ends.bind (feature_Valid_ends _ (by omega) d1) fun t _ => ?_
   refine Ends.ite (fun _ => ?_) (fun _ => Ends.some trivial)
   refine Ends.bind (IsWord_ends l _ hA (by omega)) fun t _ => ?_
   refine Ends.ite (fun _ => ?_) (fun _ => Ends.some trivial)
   refine Ends.bind (IsWord_ends l _ hA (by omega)) fun t _ => ?_
   exact Ends.ite (fun _ => gh hj) (fun _ => Ends.some trivial)
  exact l1 0 (Int.le_refl _) (by omega)
 have jt : Ends (fun k => paradigm_Valid.j0 k l true p.f0 p.f1 p.f2) (fun b => b = true → p.f0.toList ≠ []) := by
  refine Ends.succ ?_
  simp only [paradigm_Valid.j0, if_true]
  exact Ends.some (by simp)
 unfold paradigm_Valid.f
 refine Ends.bind (alphabet_Valid_ends l hg) fun t _ => ?_
 refine Ends.ite (fun _ => ?_) (fun _ => jt)
 refine Ends.bind (feature_Valid_ends [⟨p.f0, ⟨#[120]⟩⟩] (by simp) (fun x hx => by
  rw [List.mem_singleton] at hx
  subst hx
  exact ⟨b0, by simp [ByteArray.size]⟩)) fun t ht => ?_
 refine Ends.ite (fun e => ?_) (fun _ => jt)
 have hne : p.f0.toList ≠ [] := ht e _ (List.mem_singleton.2 rfl)
 have jf : ∀ b, Ends (fun k => paradigm_Valid.j0 k l b p.f0 p.f1 p.f2) (fun b => b = true → p.f0.toList ≠ []) := by
  intro b
  refine Ends.succ ?_
  simp only [paradigm_Valid.j0]
  refine Ends.ite (fun _ => Ends.some (by simp)) (fun _ => ?_)
  exact (l0 0 (Int.le_refl _) (by omega)).mono fun _ _ _ => hne
 refine Ends.bind (Count_ends p.f0 p.f1 p.f2 b1) fun t _ => ?_
 exact Ends.ite (fun _ => jt) (fun _ => jf _)
theorem lexicon_name_ends (s : ByteArray) (hs : (s.size : Int) ≤ 1000000000) : Ends (fun k => lexicon_name.f k s) (fun _ => True) := by
 have key : ∀ i : Int, 0 ≤ i → i ≤ (s.size : Int) → Ends (fun k => lexicon_name.l0 k s (s.size : Int) i) (fun _ => True) := by
  refine up_ind fun i h0 h1 ih => ?_
  have hw : wrap64 (i + 1) = i + 1 := wr1 h0 (by omega)
  refine Ends.succ ?_
  simp only [lexicon_name.l0, hw]
  repeat' (first | (exact ih (by assumption)) | (exact Ends.some trivial) | (with_reducible refine Ends.ite (fun _ => ?_) (fun _ => ?_)) | (exfalso; omega))
 exact key 0 (Int.le_refl _) (by omega)
theorem lexBad_ends (l : List S48) (seen : List (List UInt8)) (x : S34) (hA : okA l = true) (hx : bLex x) : Ends (fun k => lexBad k l seen x) (fun b => b = false → isSeen seen x.f0.toList = false) := by
 obtain ⟨b0, b1, b2, b3, b4, b5⟩ := hx
 unfold lexBad
 refine Ends.ite (fun _ => Ends.some (by simp)) (fun hs => ?_)
 have hs' : isSeen seen x.f0.toList = false := Bool.eq_false_iff.2 hs
 refine Ends.mono (P := fun _ => True) ?_ (fun _ _ _ => hs')
 refine Ends.bind (lexicon_name_ends _ (by omega)) fun t _ => ?_
 refine Ends.ite (fun _ => Ends.some trivial) (fun _ => ?_)
 refine Ends.bind (lexicon_name_ends _ (by omega)) fun t _ => ?_
 refine Ends.ite (fun _ => Ends.some trivial) (fun _ => ?_)
 refine Ends.bind (Q := fun _ => True) (Ends.ite (fun _ => Ends.some trivial) (fun _ => lexicon_name_ends _ (by omega))) fun t _ => ?_
 refine Ends.ite (fun _ => Ends.some trivial) (fun _ => ?_)
 refine Ends.bind (IsWord_ends l _ hA (by omega)) fun t _ => ?_
 refine Ends.ite (fun _ => Ends.some trivial) (fun _ => ?_)
 exact Ends.bind (feature_Valid_ends _ (by omega) b5) fun t _ => Ends.some trivial
theorem lexGo_ends (l : List S48) (hA : okA l = true) : ∀ (xs : List S34) (seen : List (List UInt8)), (∀ x ∈ xs, bLex x) → Ends (fun k => lexGo k l seen xs) (fun b => b = true → (∀ x ∈ xs, isSeen seen x.f0.toList = false) ∧ (xs.map fun x => x.f0.toList).Nodup)
 | [], seen, _ => by
  simp only [lexGo]
  exact Ends.some (by simp)
 | x :: xs, seen, hb => by
  have hx := hb x (List.mem_cons_self ..)
  simp only [lexGo]
  refine Ends.ite (fun _ => ?_) (fun hn => absurd (by have := hx.1; omega) hn)
  refine Ends.bind (lexBad_ends l seen x hA hx) fun t ht => ?_
  refine Ends.ite (fun _ => Ends.some (by simp)) (fun e => ?_)
  have hs := ht (Bool.eq_false_iff.2 e)
  refine (lexGo_ends l hA xs (x.f0.toList :: seen) fun y hy => hb y (List.mem_cons_of_mem _ hy)).mono fun b h e => ?_
  obtain ⟨h1, h2⟩ := h e
  refine ⟨fun y hy => ?_, ?_⟩
  ·rcases List.mem_cons.1 hy with rfl | hy
   ·exact hs
   have := h1 y hy
   unfold isSeen at this
   rw [List.any_cons, Bool.or_eq_false_iff] at this
   exact this.2
  rw [List.map_cons, List.nodup_cons]
  refine ⟨fun hm => ?_, h2⟩
  obtain ⟨y, hy, ey⟩ := List.mem_map.1 hm
  have := h1 y hy
  unfold isSeen at this
  rw [List.any_cons, Bool.or_eq_false_iff] at this
  have h3 := this.1
  rw [ey] at h3
  simp at h3
theorem lexValid_ends (l : List S48) (xs : List S34) (hA : okA l = true) (hb : ∀ x ∈ xs, bLex x) : Ends (fun k => lexicon_Valid.f k l xs) (fun b => b = true → (xs.map fun x => x.f0.toList).Nodup) := by
 unfold lexicon_Valid.f
 refine Ends.bind (alphabet_Valid_ends l (okA_at hA).1) fun t _ => ?_
 refine Ends.ite (fun _ => Ends.some (by simp)) (fun _ => ?_)
 refine Ends.ite (fun _ => Ends.some (by simp)) (fun _ => ?_)
 exact (lexGo_ends l hA xs [] hb).mono fun b h e => (h e).2
structure BW (l0 : List S48) (l1 : List S89) (l2 : List S38) (l3 : List S34) : Prop where
  letters : good l0 = true
  nl : (l0.length : Int) ≤ 1000000000
  rules : ∀ r ∈ l1, bRule r
  nr : (l1.length : Int) ≤ 1000000000
  pars : ∀ p ∈ l2, bPar p
  np : (l2.length : Int) ≤ 1000000000
  lexs : ∀ x ∈ l3, bLex x
  nx : (l3.length : Int) ≤ 1000000
structure PartsOk (l0 : List S48) (l2 : List S38) (l3 : List S34) : Prop where
  ok : okA l0 = true
  names : ∀ p ∈ l2, p.f0.toList ≠ []
  ids : (l3.map fun x => x.f0.toList).Nodup
theorem mem_rd38 {ds : List S38} {d : S38} (h : d ∈ ds) : ∃ i : Int, 0 ≤ i ∧ i < (ds.length : Int) ∧ rd_T38 ds i = d := by
 obtain ⟨n, hn, e⟩ := List.getElem_of_mem h
 refine ⟨(n : Int), by omega, by omega, ?_⟩
 simp [rd_T38, List.getD, List.getElem?_eq_getElem hn, e]
theorem parts_ends (l0 : List S48) (l1 : List S89) (l2 : List S38) (l3 : List S34) (h : BW l0 l1 l2 l3) : Ends (fun k => morphology_words_parts.f k l0 l1 l2 l3) (fun b => b = true → PartsOk l0 l2 l3) := by
 obtain ⟨hg, hnl, hr, hnr, hp, hnp, hx, hnx⟩ := h
 have jt : Ends (fun k => morphology_words_parts.j0 k true l0 l1 l2 l3) (fun b => b = true → PartsOk l0 l2 l3) := by
  refine Ends.succ ?_
  simp only [morphology_words_parts.j0, if_true]
  exact Ends.some (by simp)
 unfold morphology_words_parts.f
 refine Ends.bind (alphabet_Valid_ends l0 hg) fun t ht => ?_
 refine Ends.ite (fun e => ?_) (fun _ => jt)
 refine Ends.ite (fun _ => jt) (fun _ => ?_)
 have hA : okA l0 = true := by
  have := ht e
  unfold okA
  rw [hg, decide_eq_true (by omega)]
  rfl
 have lp : ∀ i : Int, 0 ≤ i → i ≤ (l2.length : Int) → Ends (fun k => morphology_words_parts.l1 k l2 (l2.length : Int) i l0 l1 l2 l3) (fun b => b = true → (∀ j : Int, i ≤ j → j < (l2.length : Int) → (rd_T38 l2 j).f0.toList ≠ []) ∧ (l3.map fun x => x.f0.toList).Nodup) := by
  refine up_ind fun i h0 h1 ih => ?_
  have hw : wrap64 (i + 1) = i + 1 := wr1 h0 (by omega)
  refine Ends.succ ?_
  simp only [morphology_words_parts.l1, hw]
  refine Ends.ite (fun h => ?_) (fun _ => ?_)
  ·refine Ends.ite (fun _ => ?_) (fun _ => by omega)
   refine Ends.ite (fun _ => ?_) (fun _ => by omega)
   refine Ends.bind (pValid_ends l0 _ hA (hp _ (rd38_lt h0 h))) fun t ht => ?_
   refine Ends.ite (fun e => ?_) (fun _ => Ends.some (by simp))
   refine (ih h).mono fun b hb e2 => ⟨fun j g0 g1 => ?_, (hb e2).2⟩
   by_cases ej : j = i
   ·subst ej; exact ht e
   exact (hb e2).1 j (by omega) g1
  refine Ends.bind (lexValid_ends l0 l3 hA hx) fun t ht => Ends.some fun e => ⟨fun j g0 g1 => by omega, ht e⟩
 have lr : ∀ i : Int, 0 ≤ i → i ≤ (l1.length : Int) → Ends (fun k => morphology_words_parts.l0 k l1 (l1.length : Int) i l0 l1 l2 l3) (fun b => b = true → PartsOk l0 l2 l3) := by
  refine up_ind fun i h0 h1 ih => ?_
  have hw : wrap64 (i + 1) = i + 1 := wr1 h0 (by omega)
  refine Ends.succ ?_
  simp only [morphology_words_parts.l0, hw]
  refine Ends.ite (fun h => ?_) (fun _ => ?_)
  ·refine Ends.ite (fun _ => ?_) (fun _ => by omega)
   refine Ends.ite (fun _ => ?_) (fun _ => by omega)
   obtain ⟨b1, b2, b3, _, _⟩ := hr _ (rd89_lt h0 h)
   refine Ends.bind (rValid_ends l0 _ _ _ _ _ _ hA b1 b2 b3) fun t _ => ?_
   exact Ends.ite (fun _ => ih h) (fun _ => Ends.some (by simp))
  refine (lp 0 (Int.le_refl _) (by omega)).mono fun b hb e => ⟨hA, fun p hpm => ?_, (hb e).2⟩
  obtain ⟨j, g0, g1, ej⟩ := mem_rd38 hpm
  rw [← ej]
  exact (hb e).1 j g0 g1
 refine Ends.succ ?_
 simp only [morphology_words_parts.j0]
 exact Ends.ite (fun _ => Ends.some (by simp)) (fun _ => lr 0 (Int.le_refl _) (by omega))
structure ParAt (l2 : List S38) (a : ByteArray) (r : ByteArray × (List (S55)) × (List (List (S79))) × Bool) : Prop where
  yes : r.2.2.2 = true → ∃ j : Int, 0 ≤ j ∧ j < (l2.length : Int) ∧ (rd_T38 l2 j).f0.toList = a.toList ∧ r = ((rd_T38 l2 j).f0, (rd_T38 l2 j).f1, (rd_T38 l2 j).f2, true)
  no : r.2.2.2 = false → r.2.1 = []
theorem par_ends (l0 : List S48) (l1 : List S89) (l2 : List S38) (l3 : List S34) (a : ByteArray) (hl : (l2.length : Int) ≤ 1000000000) : Ends (fun k => morphology_words_paradigm.f k l0 l1 l2 l3 a) (fun r => ParAt l2 a r ∧ ((∃ j : Int, 0 ≤ j ∧ j < (l2.length : Int) ∧ (rd_T38 l2 j).f0.toList = a.toList) → r.2.2.2 = true)) := by
 have key : ∀ i : Int, 0 ≤ i → i ≤ (l2.length : Int) → Ends (fun k => morphology_words_paradigm.l0 k a l2 (l2.length : Int) i) (fun r => ParAt l2 a r ∧ ((∃ j : Int, i ≤ j ∧ j < (l2.length : Int) ∧ (rd_T38 l2 j).f0.toList = a.toList) → r.2.2.2 = true)) := by
  refine up_ind fun i h0 h1 ih => ?_
  have hw : wrap64 (i + 1) = i + 1 := wr1 h0 (by omega)
  refine Ends.succ ?_
  simp only [morphology_words_paradigm.l0, hw]
  refine Ends.ite (fun h => ?_) (fun _ => ?_)
  ·refine Ends.ite (fun _ => ?_) (fun _ => by omega)
   refine Ends.ite (fun _ => ?_) (fun _ => by omega)
   refine Ends.ite (fun e => ?_) (fun he => ?_)
   ·exact Ends.some ⟨⟨fun _ => ⟨i, h0, h, e, rfl⟩, fun h => by cases h⟩, fun _ => rfl⟩
   refine (ih h).mono fun r hr => ⟨hr.1, ?_⟩
   rintro ⟨j, g0, g1, ge⟩
   by_cases ej : j = i
   ·subst ej; exact absurd ge he
   exact hr.2 ⟨j, by omega, g1, ge⟩
  refine Ends.some ⟨⟨(fun h => by cases h), fun _ => rfl⟩, ?_⟩
  rintro ⟨j, g0, g1, ge⟩
  omega
 unfold morphology_words_paradigm.f
 exact key 0 (Int.le_refl _) (by omega)
structure CheckOk (l0 : List S48) (l2 : List S38) (l3 : List S34) : Prop where
  parts : PartsOk l0 l2 l3
  apart : ∀ i : Int, 0 ≤ i → i < (l2.length : Int) → ∀ j : Int, 0 ≤ j → j < i → (rd_T38 l2 j).f0.toList ≠ (rd_T38 l2 i).f0.toList
theorem Check_ends (l0 : List S48) (l1 : List S89) (l2 : List S38) (l3 : List S34) (h : BW l0 l1 l2 l3) : Ends (fun k => morphology_Check.f k l0 l1 l2 l3) (fun r => r = 0 → CheckOk l0 l2 l3) := by
 have hP := parts_ends l0 l1 l2 l3 h
 obtain ⟨hg, hnl, hr, hnr, hp, hnp, hx, hnx⟩ := h
 have l2e : ∀ i : Int, 0 ≤ i → i ≤ (l3.length : Int) → Ends (fun k => morphology_Check.l2 k l3 (l3.length : Int) i l0 l1 l2 l3) (fun _ => True) := by
  refine up_ind fun i h0 h1 ih => ?_
  have hw : wrap64 (i + 1) = i + 1 := wr1 h0 (by omega)
  refine Ends.succ ?_
  simp only [morphology_Check.l2, hw]
  refine Ends.ite (fun h => ?_) (fun _ => Ends.some trivial)
  refine Ends.ite (fun _ => ?_) (fun _ => by omega)
  refine Ends.ite (fun _ => ?_) (fun _ => by omega)
  refine Ends.bind (par_ends l0 l1 l2 l3 _ hnp) fun t ht => ?_
  refine Ends.ite (fun _ => ih h) (fun _ => ?_)
  have hds : (t.2.1.length : Int) ≤ 1000000000 := by
   cases e : t.2.2.2 with
   | false => rw [ht.1.no e]; simp
   | true =>
    obtain ⟨j, g0, g1, _, ej⟩ := ht.1.yes e
    rw [ej]
    exact (hp _ (rd38_lt g0 g1)).2.2.1
  obtain ⟨_, _, _, _, b4, _⟩ := hx _ (rd34_lt h0 h)
  have l3e : ∀ j : Int, 0 ≤ j → j ≤ (t.2.1.length : Int) → Ends (fun k => morphology_Check.l3 k l3 (l3.length : Int) i t.2.1 (t.2.1.length : Int) j l0 l1 l2 l3 ((rd_T34 l3 i).f0) ((rd_T34 l3 i).f1) ((rd_T34 l3 i).f2) ((rd_T34 l3 i).f3) ((rd_T34 l3 i).f4)) (fun _ => True) := by
   refine up_ind fun j g0 g1 gh => ?_
   have hwj : wrap64 (j + 1) = j + 1 := wr1 g0 (by omega)
   refine Ends.succ ?_
   simp only [morphology_Check.l3, hwj, hw]
   refine Ends.ite (fun hj => ?_) (fun _ => ih h)
   refine Ends.ite (fun _ => ?_) (fun _ => by omega)
   refine Ends.ite (fun _ => ?_) (fun _ => by omega)
   refine Ends.bind (Q := fun _ => True) (Ends.const (by unfold api_Feature_18.f; rw [if_pos (by omega)]) trivial) fun t _ => ?_
   exact Ends.ite (fun _ => Ends.some trivial) (fun _ => gh hj)
  exact l3e 0 (Int.le_refl _) (by omega)
 have l1e : ∀ i : Int, 0 ≤ i → i ≤ (l3.length : Int) → Ends (fun k => morphology_Check.l1 k l3 (l3.length : Int) i l0 l1 l2 l3) (fun _ => True) := by
  refine up_ind fun i h0 h1 ih => ?_
  have hw : wrap64 (i + 1) = i + 1 := wr1 h0 (by omega)
  refine Ends.succ ?_
  simp only [morphology_Check.l1, hw]
  refine Ends.ite (fun h => ?_) (fun _ => l2e 0 (Int.le_refl _) (by omega))
  refine Ends.ite (fun _ => ?_) (fun _ => by omega)
  refine Ends.ite (fun _ => ?_) (fun _ => by omega)
  refine Ends.bind (par_ends l0 l1 l2 l3 _ hnp) fun t ht => ?_
  refine Ends.ite (fun _ => ih h) (fun _ => ?_)
  exact Ends.ite (fun _ => ih h) (fun _ => Ends.some trivial)
 have l0e : ∀ i : Int, 0 ≤ i → i ≤ (l2.length : Int) → Ends (fun k => morphology_Check.l0 k l2 (l2.length : Int) i l0 l1 l2 l3) (fun r => r = 0 → ∀ i' : Int, i ≤ i' → i' < (l2.length : Int) → hasPar (rd_T38 l2 i').f0 (l2.take i'.toNat) = false) := by
  refine up_ind fun i h0 h1 ih => ?_
  have hw : wrap64 (i + 1) = i + 1 := wr1 h0 (by omega)
  refine Ends.succ ?_
  simp only [morphology_Check.l0, hw]
  refine Ends.ite (fun h => ?_) (fun _ => (l1e 0 (Int.le_refl _) (by omega)).mono fun r _ _ i' g0 g1 => by omega)
  refine Ends.ite (fun _ => ?_) (fun _ => by omega)
  refine Ends.ite (fun _ => ?_) (fun _ => by omega)
  refine Ends.ite (fun _ => ?_) (fun _ => by omega)
  refine Ends.bind (Q := fun t => t = hasPar (rd_T38 l2 i).f0 (l2.take i.toNat)) (Ends.const (by unfold api_Paradigm_15.f; rw [if_pos (by rw [List.length_take]; omega)]) rfl) fun t ht => ?_
  refine Ends.ite (fun _ => Ends.some (by simp)) (fun e => ?_)
  refine (ih h).mono fun r hr e2 i' g0 g1 => ?_
  by_cases ei : i' = i
  ·subst ei; rw [← ht]; exact Bool.eq_false_iff.2 e
  exact hr e2 i' (by omega) g1
 unfold morphology_Check.f
 refine Ends.bind hP fun t ht => ?_
 refine Ends.ite (fun e => ?_) (fun _ => Ends.some (by simp))
 refine (l0e 0 (Int.le_refl _) (by omega)).mono fun r hr e2 => ⟨ht e, fun i h0 h1 j g0 g1 en => ?_⟩
 have hh := hr e2 i h0 h1
 unfold hasPar at hh
 rw [List.any_eq_false] at hh
 have hm : rd_T38 l2 j ∈ l2.take i.toNat := by
  have : rd_T38 (l2.take i.toNat) j = rd_T38 l2 j := by
   have hl : j.toNat < i.toNat := by omega
   simp only [rd_T38, List.getD, List.getElem?_take, hl, if_true]
  rw [← this]
  exact rd38_lt g0 (by rw [List.length_take]; omega)
 exact absurd (beq_iff_eq.2 en) (hh _ hm)
theorem fewRules_ends (l0 : List S48) (l1 : List S89) (a : Int) (hr : ∀ r ∈ l1, bRule r) (hn : (l1.length : Int) ≤ 1000000000) : Ends (fun k => pentaglottop_fewRules.f k l0 l1 a) (fun _ => True) := by
 have key : ∀ i : Int, 0 ≤ i → i ≤ (l1.length : Int) → Ends (fun k => pentaglottop_fewRules.l0 k l0 l1 a i) (fun _ => True) := by
  refine up_ind fun i h0 h1 ih => ?_
  have hw : wrap64 (i + 1) = i + 1 := wr1 h0 (by omega)
  refine Ends.succ ?_
  simp only [pentaglottop_fewRules.l0]
  refine Ends.ite (fun h => ?_) (fun _ => ?_)
  ·refine Ends.ite (fun _ => ?_) (fun _ => by omega)
   obtain ⟨_, _, _, b2, b3⟩ := hr _ (rd89_lt h0 h)
   generalize (rd_T89 l1 i).f2 = p at b2
   generalize (rd_T89 l1 i).f3 = q at b3
   generalize (rd_T89 l1 i).f0 = u0
   generalize (rd_T89 l1 i).f1 = u1
   generalize (rd_T89 l1 i).f4 = u4
   generalize (rd_T89 l1 i).f5 = u5
   have l2 : ∀ j : Int, 0 ≤ j → j ≤ (q.length : Int) → Ends (fun k => pentaglottop_fewRules.l2 k l0 l1 a i j u0 u1 p q u4 u5) (fun _ => True) := by
    refine up_ind fun j g0 g1 gh => ?_
    have hwj : wrap64 (j + 1) = j + 1 := wr1 g0 (by omega)
    refine Ends.succ ?_
    simp only [pentaglottop_fewRules.l2, hwj, hw]
    refine Ends.ite (fun hj => ?_) (fun _ => ih h)
    refine Ends.ite (fun _ => ?_) (fun _ => by omega)
    exact Ends.ite (fun _ => Ends.some trivial) (fun _ => gh hj)
   have lp : ∀ j : Int, 0 ≤ j → j ≤ (p.length : Int) → Ends (fun k => pentaglottop_fewRules.l1 k l0 l1 a i j u0 u1 p q u4 u5) (fun _ => True) := by
    refine up_ind fun j g0 g1 gh => ?_
    have hwj : wrap64 (j + 1) = j + 1 := wr1 g0 (by omega)
    refine Ends.succ ?_
    simp only [pentaglottop_fewRules.l1, hwj]
    refine Ends.ite (fun hj => ?_) (fun _ => l2 0 (Int.le_refl _) (by omega))
    refine Ends.ite (fun _ => ?_) (fun _ => by omega)
    exact Ends.ite (fun _ => Ends.some trivial) (fun _ => gh hj)
   have j1 : ∀ b, Ends (fun k => pentaglottop_fewRules.j1 k l0 l1 a i b u0 u1 p q u4 u5) (fun _ => True) := by
    intro b
    refine Ends.succ ?_
    simp only [pentaglottop_fewRules.j1]
    exact Ends.ite (fun _ => Ends.some trivial) (fun _ => lp 0 (Int.le_refl _) (by omega))
   refine Ends.ite (fun _ => j1 _) (fun _ => ?_)
   exact Ends.ite (fun _ => j1 _) (fun _ => j1 _)
  exact Ends.ite (fun _ => Ends.some trivial) (fun _ => Ends.some trivial)
 unfold pentaglottop_fewRules.f
 exact key 0 (Int.le_refl _) (by omega)
theorem few_ends (l0 : List S48) (l1 : List S89) (l2 : List S38) (l3 : List S34) (h : BW l0 l1 l2 l3) : Ends (fun k => pentaglottop_fewWords.f k l0 l1 l2 l3) (fun b => b = true → ∀ i : Int, 0 ≤ i → i < (l2.length : Int) → ((rd_T38 l2 i).f2.length : Int) ≤ 6) := by
 obtain ⟨hg, hnl, hr, hnr, hp, hnp, hx, hnx⟩ := h
 have key : ∀ i : Int, 0 ≤ i → i ≤ (l2.length : Int) → Ends (fun k => pentaglottop_fewWords.l0 k i l0 l1 l2 l3) (fun b => b = true → ∀ i' : Int, i ≤ i' → i' < (l2.length : Int) → ((rd_T38 l2 i').f2.length : Int) ≤ 6) := by
  refine up_ind fun i h0 h1 ih => ?_
  have hw : wrap64 (i + 1) = i + 1 := wr1 h0 (by omega)
  refine Ends.succ ?_
  simp only [pentaglottop_fewWords.l0]
  refine Ends.ite (fun h => ?_) (fun _ => ?_)
  ·obtain ⟨_, _, b2, _, _⟩ := hp _ (rd38_lt h0 h)
   have fin : ∀ x4 : Int, Ends (fun k => if x4 > 40 then Option.some false else (if ((rd_T38 l2 i).f1.length : Int) > 4 then (some false) else (if ((rd_T38 l2 i).f2.length : Int) > 6 then (some false) else (pentaglottop_fewWords.l0 k (i + 1) l0 l1 l2 l3)))) (fun b => b = true → ∀ i' : Int, i ≤ i' → i' < (l2.length : Int) → ((rd_T38 l2 i').f2.length : Int) ≤ 6) := by
    intro x4
    refine Ends.ite (fun _ => Ends.some (by simp)) (fun _ => ?_)
    refine Ends.ite (fun _ => Ends.some (by simp)) (fun _ => ?_)
    refine Ends.ite (fun _ => Ends.some (by simp)) (fun h6 => ?_)
    refine (ih h).mono fun b hb e i' g0 g1 => ?_
    by_cases ei : i' = i
    ·subst ei; omega
    exact hb e i' (by omega) g1
   have l1e : ∀ j : Int, 0 ≤ j → j ≤ ((rd_T38 l2 i).f1.length : Int) → ∀ x4 : Int, Ends (fun k => pentaglottop_fewWords.l1 k i x4 j l0 l1 l2 l3) (fun b => b = true → ∀ i' : Int, i ≤ i' → i' < (l2.length : Int) → ((rd_T38 l2 i').f2.length : Int) ≤ 6) := by
    refine up_ind fun j g0 g1 gh => ?_
    intro x4
    have hwj : wrap64 (j + 1) = j + 1 := wr1 g0 (by omega)
    refine Ends.succ ?_
    simp only [pentaglottop_fewWords.l1, hwj, hw]
    refine Ends.ite (fun _ => ?_) (fun _ => by omega)
    refine Ends.ite (fun _ => ?_) (fun _ => by omega)
    refine Ends.ite (fun hj => ?_) (fun _ => fin x4)
    refine Ends.ite (fun _ => ?_) (fun _ => fin x4)
    exact Ends.ite (fun _ => gh hj _) (fun _ => by omega)
   exact l1e 0 (Int.le_refl _) (by omega) 1
  refine Ends.mono (P := fun _ => True) ?_ (fun b _ _ i' g0 g1 => by omega)
  refine Ends.ite (fun _ => ?_) (fun _ => Ends.some trivial)
  refine Ends.ite (fun _ => ?_) (fun _ => Ends.some trivial)
  refine Ends.ite (fun _ => ?_) (fun _ => Ends.some trivial)
  exact Ends.bind (fewRules_ends [] l1 4 hr hnr) fun t _ => Ends.some trivial
 unfold pentaglottop_fewWords.f
 exact key 0 (Int.le_refl _) (by omega)
theorem affOk_of {p : S38} (h : bPar p) : ∀ l ∈ p.f2, affOk l = true := by
 intro l hl
 obtain ⟨_, _, _, _, b4⟩ := h
 obtain ⟨c0, c1⟩ := b4 l hl
 unfold affOk
 rw [Bool.and_eq_true, List.all_eq_true]
 exact ⟨decide_eq_true (by omega), fun x hx => decide_eq_true (c1 x hx).1⟩
theorem Underlying_ends (p : S38) (st : ByteArray) (fs r : List S65) (hp : bPar p) (h6 : (p.f2.length : Int) ≤ 6) (hs : st.size ≤ 10000000) (hf : (fs.length : Int) ≤ 1000000) (hfb : ∀ x ∈ fs, bF x) (hv : Vals (fun k => feature_dimensions.f k p.f1) true) (hg : GoodRec p.f1 r) : Ends (fun k => paradigm_Underlying.f k p.f0 p.f1 p.f2 st fs r) (fun t => t.1.size ≤ 1000000000) := by
 have hao := affOk_of hp
 obtain ⟨b0, b1, b2, b3, b4⟩ := hp
 unfold paradigm_Underlying.f
 refine Ends.bind (Merge_ends p.f0 p.f1 p.f2 r fs b1 hv hg hf hfb) fun m hm => ?_
 refine Ends.ite (fun _ => ?_) (fun _ => Ends.some (by show (0 : Nat) ≤ 1000000000; omega))
 have key : ∀ i : Int, 0 ≤ i → i ≤ (p.f2.length : Int) → ∀ x12 : ByteArray, (x12.size : Int) ≤ 20000000 * i + 10000000 → Ends (fun k => paradigm_Underlying.l0 k m.1 x12 (p.f2.length : Int) i p.f0 p.f1 p.f2) (fun t => t.1.size ≤ 1000000000) := by
  refine up_ind fun i h0 h1 ih => ?_
  intro x12 hx
  have hw : wrap64 (i + 1) = i + 1 := wr1 h0 (by omega)
  refine Ends.succ ?_
  simp only [paradigm_Underlying.l0, hw]
  refine Ends.ite (fun h => ?_) (fun _ => ?_)
  ·refine Ends.bind (Chosen_ends p.f0 p.f1 p.f2 i m.1 (by omega) hao) fun c hc => ?_
   refine Ends.ite (fun hc0 => ?_) (fun _ => ih h x12 (by omega))
   refine Ends.ite (fun _ => ?_) (fun _ => by omega)
   refine Ends.ite (fun _ => ?_) (fun _ => by omega)
   refine Ends.ite (fun _ => ?_) (fun _ => by omega)
   refine Ends.ite (fun _ => ?_) (fun hn => absurd (hc hc0) hn)
   obtain ⟨_, c1⟩ := b4 _ (rd11_lt h0 h)
   obtain ⟨_, _, d2, d3⟩ := c1 _ (rd79_lt hc0 (hc hc0))
   refine Ends.ite (fun _ => ?_) (fun hn => by omega)
   refine Ends.ite (fun _ => ?_) (fun hn => by rw [ByteArray.size_append] at hn; omega)
   refine ih h _ ?_
   rw [ByteArray.size_append, ByteArray.size_append]
   omega
  refine Ends.bind (RuneCount_ends x12 (by omega)) fun n _ => ?_
  refine Ends.ite (fun _ => Ends.some (by show (0 : Nat) ≤ 1000000000; omega)) (fun _ => Ends.some ?_)
  show x12.size ≤ 1000000000
  omega
 exact key 0 (Int.le_refl _) (by omega) st (by omega)
theorem idxFrom_at (id : ByteArray) : ∀ (l : List S34) (n i : Nat), i < l.length → (∀ j : Nat, j < i → ∀ x, l[j]? = some x → x.f0.toList ≠ id.toList) → (∀ x, l[i]? = some x → x.f0.toList = id.toList) → idxFrom id l n = ((n + i : Nat) : Int)
 | [], n, i, h, _, _ => by simp at h
 | x :: xs, n, 0, h, _, h2 => by
  rw [idxFrom, if_pos (h2 x rfl)]
  rfl
 | x :: xs, n, i + 1, h, h1, h2 => by
  rw [idxFrom, if_neg (h1 0 (by omega) x rfl), idxFrom_at id xs (n + 1) i (by simpa using h) (fun j hj y hy => h1 (j + 1) (by omega) y (by simpa using hy)) (fun y hy => h2 y (by simpa using hy))]
  omega
theorem idx_self {l : List S34} (hnd : (l.map fun x => x.f0.toList).Nodup) {i : Int} (h0 : 0 ≤ i) (h1 : i < (l.length : Int)) : idxFrom (rd_T34 l i).f0 l 0 = i := by
 have hi : i.toNat < l.length := by omega
 have hr : rd_T34 l i = l[i.toNat] := by simp [rd_T34, List.getD, List.getElem?_eq_getElem hi]
 rw [List.nodup_iff_pairwise_ne, List.pairwise_iff_getElem] at hnd
 rw [idxFrom_at _ l 0 i.toNat hi ?_ ?_]
 ·omega
 ·intro j hj x hx e
  have hjl : j < l.length := by omega
  rw [List.getElem?_eq_getElem hjl] at hx
  injection hx with hx
  have := hnd j i.toNat (by rw [List.length_map]; exact hjl) (by rw [List.length_map]; exact hi) hj
  rw [List.getElem_map, List.getElem_map, hx] at this
  rw [hr] at e
  exact this e
 intro x hx
 rw [List.getElem?_eq_getElem hi] at hx
 injection hx with hx
 rw [hr, hx]
theorem round_ends (l0 : List S48) (l1 : List S89) (l2 : List S38) (l3 : List S34) (h : BW l0 l1 l2 l3) (hc : CheckOk l0 l2 l3) (hf : ∀ i : Int, 0 ≤ i → i < (l2.length : Int) → ((rd_T38 l2 i).f2.length : Int) ≤ 6) (a j : Int) (cl : List S65) (ha0 : 0 ≤ a) (ha1 : a < (l3.length : Int)) (hj0 : 0 ≤ j) (hj1 : j < (l2.length : Int)) (hn : (rd_T38 l2 j).f0.toList = (rd_T34 l3 a).f3.toList) (hv : Vals (fun k => feature_dimensions.f k (rd_T38 l2 j).f1) true) (hg : GoodRec (rd_T38 l2 j).f1 cl) :
  ∃ k s e t u g v, morphology_Surface.f k l0 l1 l2 l3 (rd_T34 l3 a).f0 cl = some (s, e) ∧ paradigm_Underlying.f k (rd_T38 l2 j).f0 (rd_T38 l2 j).f1 (rd_T38 l2 j).f2 (rd_T34 l3 a).f2 (rd_T34 l3 a).f4 cl = some (t, u) ∧ rewrite_Cascade.f k l0 l1 t = some (g, v) ∧ (u = 0 → v = 0 → e = 0 ∧ s.toList = g.toList) ∧ (¬ (u = 0 ∧ v = 0) → e = 2) := by
 obtain ⟨⟨hA, hnames, hids⟩, hapart⟩ := hc
 have hpj := rd38_lt hj0 hj1
 have hbp := h.pars _ hpj
 obtain ⟨x0, x1, x2, x3, x4, x5⟩ := h.lexs _ (rd34_lt ha0 ha1)
 obtain ⟨tu, htu, hU⟩ := (Underlying_ends _ _ _ cl hbp (hf j hj0 hj1) x2 x4 x5 hv hg).vals
 obtain ⟨gv, _, hC⟩ := (Cascade_ends l0 l1 tu.1 hA h.rules htu).vals
 have hne : (rd_T34 l3 a).f3.toList ≠ [] := by rw [← hn]; exact hnames _ hpj
 have hpar : Ends (fun k => morphology_words_paradigm.f k l0 l1 l2 l3 (rd_T34 l3 a).f3) (fun r => r = ((rd_T38 l2 j).f0, (rd_T38 l2 j).f1, (rd_T38 l2 j).f2, true)) := by
  refine (par_ends l0 l1 l2 l3 _ h.np).mono fun r hr => ?_
  obtain ⟨i, h0, h1, en, ei⟩ := hr.1.yes (hr.2 ⟨j, hj0, hj1, hn⟩)
  have : i = j := by
   rcases Int.lt_trichotomy i j with hlt | he | hgt
   ·exact absurd (en.trans hn.symm) (hapart j hj0 hj1 i h0 hlt)
   ·exact he
   exact absurd (hn.trans en.symm) (hapart i h0 h1 j hj0 hgt)
  subst this
  exact ei
 have hS : Ends (fun k => morphology_Surface.f k l0 l1 l2 l3 (rd_T34 l3 a).f0 cl) (fun r => (tu.2 = 0 → gv.2 = 0 → r.2 = 0 ∧ r.1.toList = gv.1.toList) ∧ (¬ (tu.2 = 0 ∧ gv.2 = 0) → r.2 = 2)) := by
  unfold morphology_Surface.f
  refine Ends.bind (Q := fun t => t = ((rd_T34 l3 a).f0, (rd_T34 l3 a).f1, (rd_T34 l3 a).f2, (rd_T34 l3 a).f3, (rd_T34 l3 a).f4, true)) (Ends.const (by
   have := h.nx
   unfold lexicon_Find.f
   rw [idx_self hids ha0 ha1, if_pos (by omega), if_pos ha0, if_pos x4]) rfl) fun t ht => ?_
  subst ht
  refine Ends.ite (fun _ => ?_) (fun hn => absurd rfl hn)
  refine Ends.ite (fun e => absurd e hne) (fun _ => ?_)
  refine Ends.bind hpar fun t ht => ?_
  subst ht
  refine Ends.bind (Number_ends (rd_T38 l2 j).f0 (rd_T38 l2 j).f1 (rd_T38 l2 j).f2 cl hbp.2.1 hv hg) fun t ht => ?_
  refine Ends.succ ?_
  have hd : decide (t ≥ 0) = true := decide_eq_true ht
  simp only [morphology_Surface.j0, hd, if_true]
  refine Ends.bind (Q := fun t => (tu.2 = 0 → gv.2 = 0 → t.2 = true ∧ t.1 = gv.1) ∧ (¬ (tu.2 = 0 ∧ gv.2 = 0) → t.2 = false)) ?_ fun t ht => ?_
  ·unfold morphology_words_form.f
   refine Ends.ite (fun e => absurd e hne) (fun _ => ?_)
   refine Ends.bind hpar fun t ht => ?_
   subst ht
   refine Ends.bind (hU.ends (P := fun t => t = tu) rfl) fun t ht => ?_
   subst ht
   refine Ends.ite (fun e => ?_) (fun e => Ends.some ⟨fun e' => absurd e' e, fun _ => rfl⟩)
   refine Ends.bind (hC.ends (P := fun t => t = gv) rfl) fun y hy => ?_
   subst hy
   refine Ends.some ⟨fun _ e' => ⟨beq_iff_eq.2 e', rfl⟩, fun hn => beq_eq_false_iff_ne.2 fun e' => hn ⟨e, e'⟩⟩
  by_cases e : tu.2 = 0 ∧ gv.2 = 0
  ·obtain ⟨h1, h2⟩ := ht.1 e.1 e.2
   refine Ends.ite (fun _ => Ends.some ⟨fun _ _ => ⟨rfl, by show t.1.toList = _; rw [h2]⟩, fun hn => absurd e hn⟩) (fun hn => absurd h1 hn)
  have h1 := ht.2 e
  exact Ends.ite (fun hn => by rw [h1] at hn; cases hn) (fun _ => Ends.some ⟨fun e1 e2 => absurd ⟨e1, e2⟩ e, fun _ => rfl⟩)
 obtain ⟨se, hse, K1, hK1⟩ := hS
 obtain ⟨K2, hK2⟩ := hU
 obtain ⟨K3, hK3⟩ := hC
 exact ⟨max K1 (max K2 K3), se.1, se.2, tu.1, tu.2, gv.1, gv.2, hK1 _ (by omega), hK2 _ (by omega), hK3 _ (by omega), hse.1, hse.2⟩
theorem all_below {p : Nat → Int → Prop} : ∀ n : Nat, (∀ j : Int, 0 ≤ j → j < (n : Int) → ∃ K, ∀ k, K ≤ k → p k j) → ∃ K, ∀ j : Int, 0 ≤ j → j < (n : Int) → ∀ k, K ≤ k → p k j
 | 0, _ => ⟨0, fun j h0 h1 => by omega⟩
 | n + 1, h => by
  obtain ⟨K, hK⟩ := all_below n (fun j h0 h1 => h j h0 (by omega))
  obtain ⟨K', hK'⟩ := h (n : Int) (by omega) (by omega)
  refine ⟨max K K', fun j h0 h1 k hk => ?_⟩
  by_cases e : j = (n : Int)
  ·subst e; exact hK' k (by omega)
  exact hK j h0 (by omega) k (by omega)
theorem topForms_pure (l0 : List S48) (l1 : List S89) (l2 : List S38) (l3 : List S34) (a1 : Int) (h : BW l0 l1 l2 l3) :
  ∃ k few chk, pentaglottop_fewWords.f k l0 l1 l2 l3 = some few ∧ (∀ j : Int, 0 ≤ j → j < (l2.length : Int) → ∃ b, feature_dimensions.f k (rd_T38 l2 j).f1 = some b) ∧ (few = true → 0 ≤ a1 → a1 < (l3.length : Int) → morphology_Check.f k l0 l1 l2 l3 = some chk) ∧ (few = true → 0 ≤ a1 → a1 < (l3.length : Int) → chk = 0 → ∀ (j : Int) (cl : List S65), 0 ≤ j → j < (l2.length : Int) → (rd_T38 l2 j).f0.toList = (rd_T34 l3 a1).f3.toList → feature_dimensions.f k (rd_T38 l2 j).f1 = some true → GoodRec (rd_T38 l2 j).f1 cl → ∃ k' s e t u g v, morphology_Surface.f k' l0 l1 l2 l3 (rd_T34 l3 a1).f0 cl = some (s, e) ∧ paradigm_Underlying.f k' (rd_T38 l2 j).f0 (rd_T38 l2 j).f1 (rd_T38 l2 j).f2 (rd_T34 l3 a1).f2 (rd_T34 l3 a1).f4 cl = some (t, u) ∧ rewrite_Cascade.f k' l0 l1 t = some (g, v) ∧ (u = 0 → v = 0 → e = 0 ∧ s.toList = g.toList) ∧ (¬ (u = 0 ∧ v = 0) → e = 2)) := by
 obtain ⟨few, hfew, K1, hK1⟩ := few_ends l0 l1 l2 l3 h
 obtain ⟨chk, hchk, K2, hK2⟩ := Check_ends l0 l1 l2 l3 h
 obtain ⟨K3, hK3⟩ := all_below (p := fun k j => feature_dimensions.f k (rd_T38 l2 j).f1 = feature_dimensions.f (k + 1) (rd_T38 l2 j).f1 ∧ ∃ b, feature_dimensions.f k (rd_T38 l2 j).f1 = some b) l2.length fun j h0 h1 => by
  obtain ⟨b, _, K, hK⟩ := dims_ends (rd_T38 l2 j).f1 (h.pars _ (rd38_lt h0 h1)).2.1
  exact ⟨K, fun k hk => ⟨(hK k hk).trans (hK (k + 1) (by omega)).symm, b, hK k hk⟩⟩
 refine ⟨max K1 (max K2 K3), few, chk, hK1 _ (by omega), fun j h0 h1 => (hK3 j h0 h1 _ (by omega)).2, fun _ _ _ => hK2 _ (by omega), ?_⟩
 intro e1 ha0 ha1 e2 j cl hj0 hj1 hn hd hg
 have hv : Vals (fun k => feature_dimensions.f k (rd_T38 l2 j).f1) true := by
  refine ⟨max K1 (max K2 K3), fun k hk => ?_⟩
  obtain ⟨d, rfl⟩ : ∃ d, k = max K1 (max K2 K3) + d := ⟨k - max K1 (max K2 K3), by omega⟩
  clear hk
  induction d with
  | zero => exact hd
  | succ d ih => exact (hK3 j hj0 hj1 (max K1 (max K2 K3) + d) (by omega)).1.symm.trans ih
 exact round_ends l0 l1 l2 l3 h (hchk e2) (hfew e1) a1 j cl ha0 ha1 hj0 hj1 hn hv hg
end Go.Proofs.YtcoialpohgfikaaGreatDoor.C
