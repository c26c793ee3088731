/- The laws of the visual string and of plain strings. No program and no memory stands here. -/
import Derived.Test.YtfecolaljnijbaaDoorPureE
set_option linter.unusedVariables false
set_option linter.unusedSimpArgs false
namespace Go.Proofs.YtfecolaljnijbaaDoor.Pure
open Go.RowKit Go.Lib Go.Proofs.YtfecolaljnijbaaDoor.C Go.Proofs.YtfecolaljnijbaaDoorW.PrintWords Go.Proofs.YtfecolaljnijbaaDoor.Utf

theorem iota_nodup (n : Nat) : (iotaL n).Nodup := by
  unfold iotaL
  unfold List.Nodup
  rw [List.pairwise_map]
  exact List.Pairwise.imp (fun h e => h (by omega)) (List.nodup_range (n := n))
theorem ord_perm (ls : List Int) : (ord ls).Perm (iotaL ls.length) := by
  unfold ord
  exact (rra_perm _ _ []).trans (rra_perm _ _ [])
theorem ord_nodup (ls : List Int) : (ord ls).Nodup := (ord_perm ls).nodup_iff.2 (iota_nodup _)
theorem lev_valid {b : Int} {s : ByteArray} (v : validD s.data.toList = true) : lev b s = lvls b ((rns s).map cls) := by unfold lev; rw [if_pos v]
theorem lev_len' {b : Int} {s : ByteArray} (v : validD s.data.toList = true) : (lev b s).length = (rns s).length := by rw [lev_valid v, lvls_len, List.length_map]
theorem vlaw_loop (b : Int) (s : ByteArray) (hs : s.size ≤ 400) (v : validD s.data.toList = true) : ∀ (d n k : Nat) (seen : List Bool) (acc : List Int), (ord (lev b s)).length - n = d → n ≤ (ord (lev b s)).length → d + 2000 < k → seen.length = (rns s).length →
    (∀ m : Nat, seen.getD m false = true → (m : Int) ∈ (ord (lev b s)).take n) → acc = ((ord (lev b s)).take n).map (rd (rns s)) → pentaglotlaw43_BidiVisual.l0 k b s (rns s) (ord (lev b s)) seen acc (n : Int) = some true
  | 0, n, k, seen, acc, hd, hn, hk, hz, hv, ha => by
    obtain ⟨k, rfl⟩ : ∃ m, k = m + 1 := ⟨k - 1, by omega⟩
    have hl : (ord (lev b s)).length = (rns s).length := by rw [ord_len, lev_len' v]
    simp only [pentaglotlaw43_BidiVisual.l0]
    rw [if_neg (by omega), awake_at (by omega), Visual_at b s (by omega) (by omega)]
    simp only [Option.bind_some, if_true]
    rw [if_pos (by omega), ha, List.take_of_length_le (by omega)]
    unfold vis
    simp
  | d + 1, n, k, seen, acc, hd, hn, hk, hz, hv, ha => by
    obtain ⟨k, rfl⟩ : ∃ m, k = m + 1 := ⟨k - 1, by omega⟩
    have hl : (ord (lev b s)).length = (rns s).length := by rw [ord_len, lev_len' v]
    have hr := rns_len' s
    have hlt : n < (ord (lev b s)).length := by omega
    have hx := ord_range _ _ (List.getElem_mem hlt)
    rw [lev_len' v] at hx
    obtain ⟨x, hxe⟩ : ∃ x : Nat, (ord (lev b s))[n] = (x : Int) := ⟨((ord (lev b s))[n]).toNat, by omega⟩
    have hnd : (ord (lev b s))[n] ∉ (ord (lev b s)).take n := by
      intro hm
      obtain ⟨i, hi, e⟩ := List.getElem_of_mem hm
      rw [List.length_take] at hi
      rw [List.getElem_take] at e
      have := (List.getElem_inj (ord_nodup (lev b s))).1 e
      omega
    simp only [pentaglotlaw43_BidiVisual.l0]
    rw [if_pos (by omega), if_pos (by omega), rd_get hlt, hxe]
    rw [hxe] at hnd hx
    have hsn : ¬ rdOf false seen (x : Int) = true := by
      intro h
      exact hnd (hv x (by simpa [rdOf] using h))
    rw [if_neg (by omega), if_neg (by omega), if_pos (by omega), if_pos (by omega), if_neg hsn, if_pos (by omega), if_pos (by rw [ha, List.length_map, List.length_take]; omega), wrap_id (by omega) (by omega), show (n : Int) + 1 = ((n + 1 : Nat) : Int) by omega, Int.toNat_natCast]
    refine vlaw_loop b s hs v d (n + 1) k _ _ (by omega) (by omega) (by omega) (by simp [hz]) (fun m hm => ?_) ?_
    · rw [List.take_succ_eq_append_getElem hlt, List.mem_append, hxe]
      by_cases e : x = m
      · subst e; right; simp
      · left
        apply hv m
        simpa [List.getD, List.getElem?_set, e] using hm
    · rw [List.take_succ_eq_append_getElem hlt, List.map_append, ← ha, hxe]
      rfl
theorem BidiVisual (b : Int) (s : ByteArray) : ∃ k, pentaglotlaw43_BidiVisual.f k b s = some true := by
  obtain ⟨K, hK⟩ : ∃ K : Nat, K = 10000 := ⟨_, rfl⟩
  refine ⟨K + 1, ?_⟩
  have out : pentaglotlaw43_BidiVisual.j0 (K + 1) b s true = some true := by
    simp only [pentaglotlaw43_BidiVisual.j0, if_true]
    rw [awake_at (by omega)]; rfl
  unfold pentaglotlaw43_BidiVisual.f
  rw [short_at]
  simp only [Option.bind_some]
  by_cases h : (s.size : Int) ≤ 400
  · have hr := rns_len' s
    rw [decide_eq_true h, if_pos rfl, valid_at s (by omega)]
    simp only [Option.bind_some]
    by_cases v : validD s.data.toList = true
    · rw [v]
      simp only [Bool.not_true, pentaglotlaw43_BidiVisual.j0, Bool.false_eq_true, if_false]
      rw [if_pos (by omega), Order_at b s (by omega) (by omega)]
      simp only [Option.bind_some, Int.toNat_natCast]
      rw [if_pos (by omega), if_pos (by omega), if_pos v, ← lev_valid v]
      exact vlaw_loop b s (by omega) v _ 0 K _ _ rfl (by omega) (by rw [ord_len, lev_len' v]; omega) (by simp) (fun m hm => by
        exfalso
        by_cases c : m < (rns s).length
        · simp [List.getD, c] at hm
        · simp [List.getD, c] at hm) (by simp)
    · rw [Bool.eq_false_iff.mpr v]; exact out
  · rw [decide_eq_false h, if_neg (by decide)]; exact out
/-! ### plain strings -/
theorem rra_none {α : Type} (q : α → Bool) : ∀ (l acc : List α), (∀ x ∈ l, q x = false) → rra q acc l = acc ++ l
  | [], acc, h => by simp [rra]
  | x :: xs, acc, h => by
    unfold rra
    rw [if_neg (by rw [h x (by simp)]; simp), rra_none q xs [] (fun y hy => h y (by simp [hy]))]
    simp
theorem rra_all {α : Type} (q : α → Bool) (l : List α) (h : ∀ x ∈ l, q x = true) : rra q [] l = l.reverse := by
  have := rra_acc q l [] [] h
  simpa [rra] using this
theorem map_iota (xs : List Int) : (iotaL xs.length).map (rd xs) = xs := by
  apply List.ext_getElem
  · simp [iotaL]
  · intro i h1 h2
    simp only [iotaL, List.getElem_map, List.getElem_range]
    exact rd_get h2
theorem str_rns {s : ByteArray} (v : validD s.data.toList = true) : strOfRunes (rns s) = s := by
  apply str_ext
  rw [strOfRunes_E, rns_R, E_R' v]
theorem inn_no {p : Int → Bool} {v : Int} {cs : List Int} (h : ∀ c ∈ cs, p c = false) {i : Nat} (hi : i < cs.length) : inn p v cs i = false := by
  rw [Bool.eq_false_iff]
  intro e
  obtain ⟨l, r, h1, h2, h3, h4, h5, _⟩ := (inn_iff hi).1 e
  have hm : cs.getD l 0 ∈ cs := by
    have hl : l < cs.length := by omega
    simp only [List.getD, List.getElem?_eq_getElem hl, Option.getD_some]
    exact List.getElem_mem hl
  rw [h _ hm] at h5
  simp at h5
theorem rd_lvls (b : Int) (cs : List Int) {j : Nat} (hj : j < cs.length) : rd (lvls b cs) (j : Int) = lvl b cs j := by
  have := lvls_get b cs hj
  simpa [rd] using this
theorem ord_zero {cs : List Int} (h : ∀ c ∈ cs, c ≠ 2) : ord (lvls 0 cs) = iotaL cs.length := by
  have hz : ∀ x ∈ iotaL (lvls 0 cs).length, rd (lvls 0 cs) x = 0 := by
    intro x hx
    rw [lvls_len] at hx
    simp only [iotaL, List.mem_map, List.mem_range] at hx
    obtain ⟨i, hi, rfl⟩ := hx
    rw [rd_lvls 0 cs hi]
    unfold lvl
    rw [if_pos rfl, inn_no (fun c hc => by simpa [end0] using h c hc) hi]
    rfl
  unfold ord
  have e2 : rra (qL (lvls 0 cs) 2) [] (iotaL (lvls 0 cs).length) = iotaL (lvls 0 cs).length := by rw [rra_none _ _ _ (fun x hx => by simp [qL, hz x hx])]; rfl
  rw [e2, rra_none _ _ _ (fun x hx => by simp [qL, hz x hx]), lvls_len]
  rfl
theorem ord_one {cs : List Int} (h : ∀ c ∈ cs, c ≠ 1 ∧ c ≠ 3) : ord (lvls 1 cs) = (iotaL cs.length).reverse := by
  have hz : ∀ x ∈ iotaL (lvls 1 cs).length, rd (lvls 1 cs) x = 1 := by
    intro x hx
    rw [lvls_len] at hx
    simp only [iotaL, List.mem_map, List.mem_range] at hx
    obtain ⟨i, hi, rfl⟩ := hx
    rw [rd_lvls 1 cs hi]
    unfold lvl
    rw [if_neg (by decide), inn_no (fun c hc => by have := h c hc; simp [end1, this.1, this.2]) hi]
    rfl
  unfold ord
  have e2 : rra (qL (lvls 1 cs) 2) [] (iotaL (lvls 1 cs).length) = iotaL (lvls 1 cs).length := by rw [rra_none _ _ _ (fun x hx => by simp [qL, hz x hx])]; rfl
  rw [e2, rra_all _ _ (fun x hx => by simp [qL, hz x hx]), lvls_len]
theorem vis_zero {s : ByteArray} (v : validD s.data.toList = true) (h : ∀ c ∈ (rns s).map cls, c ≠ 2) : vis 0 s = s := by
  unfold vis
  rw [lev_valid v, ord_zero h, List.length_map, map_iota, str_rns v]
theorem vis_one {s : ByteArray} (v : validD s.data.toList = true) (h : ∀ c ∈ (rns s).map cls, c ≠ 1 ∧ c ≠ 3) : vis 1 s = strOfRunes (rns s).reverse := by
  unfold vis
  rw [lev_valid v, ord_one h, List.length_map, List.map_reverse, map_iota]
theorem back_loop (xs : List Int) (hl : xs.length ≤ 1000000) : ∀ (n k : Nat) (acc : List Int), n ≤ xs.length → acc.length + n ≤ 1000000 → n < k → pentaglotlaw43_backward.l0 k xs acc ((n : Int) - 1) = some (strOfRunes (acc ++ (xs.take n).reverse))
  | 0, k, acc, hn, ha, hk => by
    obtain ⟨k, rfl⟩ : ∃ m, k = m + 1 := ⟨k - 1, by omega⟩
    simp only [pentaglotlaw43_backward.l0]
    rw [if_neg (by omega)]
    simp
  | n + 1, k, acc, hn, ha, hk => by
    obtain ⟨k, rfl⟩ : ∃ m, k = m + 1 := ⟨k - 1, by omega⟩
    have hlt : n < xs.length := by omega
    simp only [pentaglotlaw43_backward.l0]
    rw [show ((n + 1 : Nat) : Int) - 1 = (n : Int) by omega, if_pos (by omega), if_pos (by omega), if_pos (by omega), if_pos (by omega), rd_get hlt, wrap_id (by omega) (by omega),
      back_loop xs hl n k _ (by omega) (by simp; omega) (by omega), List.take_succ_eq_append_getElem hlt, List.reverse_append]
    simp [List.append_assoc]
theorem backward_at {k : Nat} (xs : List Int) (hl : xs.length ≤ 1000000) (hk : xs.length < k) : pentaglotlaw43_backward.f k xs = some (strOfRunes xs.reverse) := by
  unfold pentaglotlaw43_backward.f
  rw [wrap_id (by omega) (by omega), back_loop xs hl xs.length k [] (by omega) (by simp; omega) hk, List.take_length]
  rfl
def has (p : Int → Bool) (cs : List Int) : Bool := cs.any p
theorem plain_loop (s : ByteArray) (hs : s.size ≤ 400) (v : validD s.data.toList = true) : ∀ (d n k : Nat) (x4 x5 : Bool), (rns s).length - n = d → n ≤ (rns s).length → d + 2000 < k →
    x4 = ((rns s).take n).any (fun r => cls r == 2) → x5 = ((rns s).take n).any (fun r => cls r == 1 || cls r == 3) → pentaglotlaw43_BidiPlain.l0 k s (rns s) x4 x5 (n : Int) = some true
  | 0, n, k, x4, x5, hd, hn, hk, h4, h5 => by
    obtain ⟨k, rfl⟩ : ∃ m, k = m + 1 := ⟨k - 1, by omega⟩
    have hr := rns_len' s
    rw [List.take_of_length_le (by omega)] at h4 h5
    simp only [pentaglotlaw43_BidiPlain.l0]
    rw [if_neg (by omega), awake_at (by omega), Visual_at 0 s (by omega) (by omega), Visual_at 1 s (by omega) (by omega), backward_at _ (by omega) (by omega)]
    simp only [Option.bind_some, if_true]
    have one : x5 = false → vis 1 s = strOfRunes (rns s).reverse := fun e => vis_one v (fun c hc => by
      rw [e] at h5
      obtain ⟨r, hr, rfl⟩ := List.mem_map.1 hc
      have := List.any_eq_false.1 h5.symm r hr
      simpa using this)
    have zero : x4 = false → vis 0 s = s := fun e => vis_zero v (fun c hc => by
      rw [e] at h4
      obtain ⟨r, hr, rfl⟩ := List.mem_map.1 hc
      have := List.any_eq_false.1 h4.symm r hr
      simpa using this)
    cases x4 with
    | true =>
      cases x5 with
      | true => rfl
      | false => rw [one rfl]; simp
    | false =>
      rw [zero rfl]
      cases x5 with
      | true => simp
      | false => rw [one rfl]; simp
  | d + 1, n, k, x4, x5, hd, hn, hk, h4, h5 => by
    obtain ⟨k, rfl⟩ : ∃ m, k = m + 1 := ⟨k - 1, by omega⟩
    have hr := rns_len' s
    have hlt : n < (rns s).length := by omega
    have next : ∀ y4 y5 : Bool, y4 = (x4 || cls (rns s)[n] == 2) → y5 = (x5 || (cls (rns s)[n] == 1 || cls (rns s)[n] == 3)) → pentaglotlaw43_BidiPlain.l0 k s (rns s) y4 y5 ((n + 1 : Nat) : Int) = some true := fun y4 y5 e4 e5 =>
      plain_loop s hs v d (n + 1) k y4 y5 (by omega) (by omega) (by omega) (by rw [e4, h4, List.take_succ_eq_append_getElem hlt, List.any_append, List.any_cons, List.any_nil, Bool.or_false]) (by rw [e5, h5, List.take_succ_eq_append_getElem hlt, List.any_append, List.any_cons, List.any_nil, Bool.or_false])
    simp only [pentaglotlaw43_BidiPlain.l0]
    rw [if_pos (by omega), if_pos (by omega), RClass_at _ (by omega), rd_get hlt, wrap_id (by omega) (by omega), show (n : Int) + 1 = ((n + 1 : Nat) : Int) by omega]
    simp only [Option.bind_some]
    by_cases c1 : cls (rns s)[n] = 1
    · rw [c1] at next ⊢
      cases x4 <;> cases x5 <;> exact next _ _ (by decide) (by decide)
    · have b1 : (cls (rns s)[n] == 1) = false := beq_eq_false_iff_ne.mpr c1
      rw [b1] at next
      rw [if_neg c1, if_neg c1]
      cases x4 <;> cases x5 <;> exact next _ _ (by simp) (by simp)
theorem BidiPlain (s : ByteArray) : ∃ k, pentaglotlaw43_BidiPlain.f k s = some true := by
  obtain ⟨K, hK⟩ : ∃ K : Nat, K = 10000 := ⟨_, rfl⟩
  refine ⟨K + 1, ?_⟩
  have out : pentaglotlaw43_BidiPlain.j0 (K + 1) s true = some true := by
    simp only [pentaglotlaw43_BidiPlain.j0, if_true]
    rw [awake_at (by omega)]; rfl
  unfold pentaglotlaw43_BidiPlain.f
  rw [short_at]
  simp only [Option.bind_some]
  by_cases h : (s.size : Int) ≤ 400
  · have hr := rns_len' s
    rw [decide_eq_true h, if_pos rfl, valid_at s (by omega)]
    simp only [Option.bind_some]
    by_cases v : validD s.data.toList = true
    · rw [v]
      simp only [Bool.not_true, pentaglotlaw43_BidiPlain.j0, Bool.false_eq_true, if_false]
      rw [if_pos (by omega)]
      exact plain_loop s (by omega) v _ 0 K _ _ rfl (by omega) (by omega) (by simp) (by simp)
    · rw [Bool.eq_false_iff.mpr v]; exact out
  · rw [decide_eq_false h, if_neg (by decide)]; exact out
end Go.Proofs.YtfecolaljnijbaaDoor.Pure
