/- The order: runs turned round. No program and no memory stands here. -/
import Derived.Test.YtfecolaljnijbaaDoorPureB
set_option linter.unusedVariables false
set_option linter.unusedSimpArgs false
namespace Go.Proofs.YtfecolaljnijbaaDoor.Pure
open Go.RowKit Go.Lib Go.Proofs.YtfecolaljnijbaaDoor.C Go.Proofs.YtfecolaljnijbaaDoorW.PrintWords Go.Proofs.YtfecolaljnijbaaDoor.Utf

theorem classesL_at {k : Nat} (hk : 5 ≤ k) : ∀ xs : List Int, classesL k xs = some (xs.map cls)
  | [] => rfl
  | x :: xs => by simp [classesL, Class_at x hk, classesL_at hk xs]
theorem Levels_at {k : Nat} (b : Int) (s : ByteArray) (hs : s.size ≤ 1000000) (hk : 5 ≤ k) : bidi_Levels.f k b s = some (if validD s.data.toList = true then lvls b ((rns s).map cls) else []) := by
  unfold bidi_Levels.f
  rw [if_pos hs, valid_at s hs]
  simp only [Option.bind_some]
  split
  · rw [classesL_at hk]; simp only [Option.bind_some]; rw [levelsL_lvls]
  · rfl
/-- Every run of what fits is turned round. -/
def rra {α : Type} (q : α → Bool) : List α → List α → List α
  | acc, [] => acc
  | acc, x :: xs => if q x = true then rra q (x :: acc) xs else acc ++ x :: rra q [] xs
theorem rra_acc {α : Type} (q : α → Bool) : ∀ (tw acc rest : List α), (∀ x ∈ tw, q x = true) → rra q acc (tw ++ rest) = rra q (tw.reverse ++ acc) rest
  | [], acc, rest, h => rfl
  | x :: tw, acc, rest, h => by
    rw [List.cons_append, rra, if_pos (h x (by simp)), rra_acc q tw _ _ (fun y hy => h y (by simp [hy]))]
    simp
theorem rra_stop {α : Type} (q : α → Bool) (acc rest : List α) (h : ∀ x, rest.head? = some x → q x = false) : rra q acc rest = acc ++ rra q [] rest := by
  cases rest with
  | nil => simp [rra]
  | cons x xs =>
    have hx := h x rfl
    simp only [rra]
    rw [hx]
    simp
theorem rra_run {α : Type} (q : α → Bool) (l : List α) : rra q [] l = (l.takeWhile q).reverse ++ rra q [] (l.dropWhile q) := by
  conv => lhs; rw [← List.takeWhile_append_dropWhile (p := q) (l := l)]
  rw [rra_acc q _ _ _ (fun x hx => List.all_eq_true.1 List.all_takeWhile x hx), List.append_nil]
  apply rra_stop
  intro x hx
  have := List.head?_dropWhile_not q l
  rw [hx] at this
  simpa using this
theorem rra_perm {α : Type} (q : α → Bool) : ∀ (l acc : List α), (rra q acc l).Perm (acc ++ l)
  | [], acc => by simp [rra]
  | x :: xs, acc => by
    unfold rra
    by_cases c : q x = true
    · rw [if_pos c]
      exact (rra_perm q xs (x :: acc)).trans (by simpa using List.perm_middle.symm)
    · rw [if_neg c]
      exact List.Perm.append_left acc ((rra_perm q xs []).cons x)
theorem rra_len {α : Type} (q : α → Bool) (l : List α) : (rra q [] l).length = l.length := (rra_perm q l []).length_eq
def qL (ls : List Int) (least : Int) (x : Int) : Bool := decide (rd ls x ≥ least)
/-- Where the run ends. -/
theorem turnRun_at (order ls : List Int) (least : Int) (hr : ∀ x ∈ order, 0 ≤ x ∧ x < (ls.length : Int)) : ∀ (d n k : Nat), order.length - n = d → n ≤ order.length → d < k →
    turnRun order ls least k n = some (n + ((order.drop n).takeWhile (qL ls least)).length)
  | 0, n, k, hd, hn, hk => by
    obtain ⟨k, rfl⟩ : ∃ m, k = m + 1 := ⟨k - 1, by omega⟩
    unfold turnRun
    rw [if_neg (by omega), List.drop_eq_nil_of_le (by omega)]
    rfl
  | d + 1, n, k, hd, hn, hk => by
    obtain ⟨k, rfl⟩ : ∃ m, k = m + 1 := ⟨k - 1, by omega⟩
    have hlt : n < order.length := by omega
    have hx := hr _ (List.getElem_mem hlt)
    unfold turnRun
    rw [if_pos hlt, rd_get hlt, if_pos hx.1, if_pos hx.2, List.drop_eq_getElem_cons hlt, List.takeWhile_cons]
    by_cases c : rd ls order[n] ≥ least
    · rw [if_pos c, turnRun_at order ls least hr d (n + 1) k (by omega) (by omega) (by omega), if_pos (by simpa [qL] using c), List.length_cons]
      congr 1; omega
    · rw [if_neg c, if_neg (by simpa [qL] using c)]
      rfl
theorem turnL_at (ls : List Int) (least : Int) : ∀ (d : Nat) (order : List Int) (i k : Nat), order.length - i = d → i ≤ order.length → 2 * order.length + d + 2 < k → (∀ x ∈ order, 0 ≤ x ∧ x < (ls.length : Int)) →
    turnL ls least k order i = some (order.take i ++ rra (qL ls least) [] (order.drop i)) := by
  intro d
  induction d using Nat.strongRecOn with
  | _ d ih =>
    intro order i k hd hi hk hr
    obtain ⟨k, rfl⟩ : ∃ m, k = m + 1 := ⟨k - 1, by omega⟩
    unfold turnL
    by_cases c : i < order.length
    · rw [if_pos c, turnRun_at order ls least hr (order.length - i) i k rfl hi (by omega)]
      simp only [Option.bind_some]
      have hsp := List.takeWhile_append_dropWhile (p := qL ls least) (l := order.drop i)
      have hru := rra_run (qL ls least) (order.drop i)
      generalize htw : (order.drop i).takeWhile (qL ls least) = tw at hsp hru ⊢
      generalize hdw : (order.drop i).dropWhile (qL ls least) = dw at hsp hru
      have hlen : tw.length + dw.length = order.length - i := by rw [← List.length_append, hsp, List.length_drop]
      have horder : order = order.take i ++ (tw ++ dw) := by rw [hsp, List.take_append_drop]
      have hlt : (order.take i).length = i := by rw [List.length_take]; omega
      have hrev : revAt order i (i + tw.length) = order.take i ++ (tw.reverse ++ dw) := by
        unfold revAt
        have e1 : (order.take (i + tw.length)).drop i = tw := by
          conv => lhs; rw [horder]
          rw [show i + tw.length = (order.take i).length + tw.length by rw [hlt], List.take_length_add_append, ]
          rw [List.take_left]
          conv => lhs; rw [← hlt]
          rw [hlt, List.drop_left' hlt]
        have e2 : order.drop (i + tw.length) = dw := by
          rw [← List.drop_drop, ← hsp, List.drop_left]
        rw [e1, e2]
      rw [hrev]
      by_cases ct : tw = []
      · subst ct
        have hd0 : dw = order.drop i := by simpa using hsp
        have ho : order.take i ++ (([] : List Int).reverse ++ dw) = order := by rw [hd0]; simp
        rw [ho, show max (i + 1) (i + ([] : List Int).length) = i + 1 by simp, ih (order.length - (i + 1)) (by omega) order (i + 1) k rfl (by omega) (by omega) hr]
        have hg := List.drop_eq_getElem_cons c
        have hq : qL ls least order[i] = false := by
          rw [hg] at htw
          rw [List.takeWhile_cons] at htw
          by_cases cq : qL ls least order[i] = true
          · rw [if_pos cq] at htw; simp at htw
          · exact Bool.eq_false_iff.mpr cq
        rw [hg, rra, if_neg (by simp [hq]), List.nil_append, List.take_succ_eq_append_getElem c, List.append_assoc]
        rfl
      · have h0 : 0 < tw.length := List.length_pos_iff.2 ct
        have hl2 : (order.take i ++ (tw.reverse ++ dw)).length = order.length := by simp; omega
        have hl3 : (order.take i ++ tw.reverse).length = i + tw.length := by simp; omega
        rw [show max (i + 1) (i + tw.length) = i + tw.length by omega, ih (order.length - (i + tw.length)) (by omega) _ (i + tw.length) k (by rw [hl2]) (by rw [hl2]; omega) (by rw [hl2]; omega) (fun x hx => hr x (by
          rw [horder]
          simpa using hx))]
        rw [← List.append_assoc, List.take_left' hl3, List.drop_left' hl3, hru, List.append_assoc]
    · rw [if_neg c, List.drop_eq_nil_of_le (by omega), List.take_of_length_le (by omega)]
      simp [rra]
/-- The order of the places. -/
def ord (ls : List Int) : List Int := rra (qL ls 1) [] (rra (qL ls 2) [] (iotaL ls.length))
theorem iota_range (n : Nat) : ∀ x ∈ iotaL n, 0 ≤ x ∧ x < (n : Int) := by
  intro x hx
  simp only [iotaL, List.mem_map, List.mem_range] at hx
  obtain ⟨i, hi, rfl⟩ := hx
  omega
theorem ord_range (ls : List Int) : ∀ x ∈ ord ls, 0 ≤ x ∧ x < (ls.length : Int) := by
  intro x hx
  have h1 := (rra_perm _ _ _).mem_iff.1 hx
  rw [List.nil_append] at h1
  have h2 := (rra_perm _ _ _).mem_iff.1 h1
  exact iota_range _ x (by simpa using h2)
theorem iota_len (n : Nat) : (iotaL n).length = n := by simp [iotaL]
theorem ord_len (ls : List Int) : (ord ls).length = ls.length := by unfold ord; rw [rra_len, rra_len, iota_len]
theorem Order_at {k : Nat} (b : Int) (s : ByteArray) (hs : s.size ≤ 1000000) (hk : 3 * s.size + 10 < k) : bidi_Order.f k b s = some (ord (if validD s.data.toList = true then lvls b ((rns s).map cls) else [])) := by
  unfold bidi_Order.f
  rw [Levels_at b s hs (by omega)]
  simp only [Option.bind_some]
  have hl : (if validD s.data.toList = true then lvls b ((rns s).map cls) else []).length ≤ s.size := by
    split
    · rw [lvls_len, List.length_map]; exact rns_len' s
    · simp
  generalize (if validD s.data.toList = true then lvls b ((rns s).map cls) else []) = ls at hl ⊢
  rw [if_pos (by omega), turnL_at ls 2 ls.length _ 0 k (by simp [iota_len]) (by omega) (by rw [iota_len]; omega) (iota_range _)]
  simp only [Option.bind_some, List.take_zero, List.nil_append, List.drop_zero]
  rw [turnL_at ls 1 ls.length _ 0 k (by rw [rra_len, iota_len]; omega) (by omega) (by rw [rra_len, iota_len]; omega) (fun x hx => by
    have h2 := (rra_perm _ _ _).mem_iff.1 hx
    exact iota_range _ x (by simpa using h2))]
  simp [ord]
end Go.Proofs.YtfecolaljnijbaaDoor.Pure
