/- The visual string on pairs of level and rune; strings parted by a barrier. No program and no memory stands here. -/
import Derived.Test.YtfecolaljnijbaaDoorPureF
set_option linter.unusedVariables false
set_option linter.unusedSimpArgs false
namespace Go.Proofs.YtfecolaljnijbaaDoor.Pure
open Go.RowKit Go.Lib Go.Proofs.YtfecolaljnijbaaDoor.C Go.Proofs.YtfecolaljnijbaaDoorW.PrintWords Go.Proofs.YtfecolaljnijbaaDoor.Utf

theorem rra_map {α β : Type} (f : α → β) (q : β → Bool) : ∀ (l acc : List α), (rra (fun x => q (f x)) acc l).map f = rra q (acc.map f) (l.map f)
  | [], acc => rfl
  | x :: xs, acc => by
    simp only [rra, List.map_cons]
    by_cases c : q (f x) = true
    · rw [if_pos c, if_pos c, rra_map f q xs (x :: acc)]; rfl
    · rw [if_neg c, if_neg c, List.map_append, List.map_cons, rra_map f q xs []]; rfl
theorem rra_break {α : Type} (q : α → Bool) (z : α) (hz : q z = false) (m : List α) : ∀ (l acc : List α), rra q acc (l ++ z :: m) = rra q acc l ++ z :: rra q [] m
  | [], acc => by simp [rra, hz]
  | x :: xs, acc => by
    simp only [List.cons_append, rra]
    by_cases c : q x = true
    · rw [if_pos c, if_pos c, rra_break q z hz m xs (x :: acc)]
    · rw [if_neg c, if_neg c, rra_break q z hz m xs []]; simp
def ge (n : Int) (x : Int × Int) : Bool := decide (x.1 ≥ n)
/-- The visual order of pairs of level and rune. -/
def visP (ps : List (Int × Int)) : List (Int × Int) := rra (ge 1) [] (rra (ge 2) [] ps)
theorem visP_ord (ls xs : List Int) (h : ls.length = xs.length) : (ord ls).map (fun i => (rd ls i, rd xs i)) = visP (ls.zip xs) := by
  have hm : (iotaL ls.length).map (fun i => (rd ls i, rd xs i)) = ls.zip xs := by
    apply List.ext_getElem
    · simp [iotaL, h]
    · intro i h1 h2
      have hl : i < ls.length := by simpa [iotaL] using h1
      simp only [iotaL, List.getElem_map, List.getElem_range, List.getElem_zip]
      rw [rd_get hl, rd_get (by omega)]
  unfold ord visP
  have e := fun n => rra_map (fun i => (rd ls i, rd xs i)) (ge n)
  have e1 : qL ls 1 = fun x => ge 1 (rd ls x, rd xs x) := rfl
  have e2 : qL ls 2 = fun x => ge 2 (rd ls x, rd xs x) := rfl
  rw [e1, e2, e, e, hm]
  rfl
theorem vis_pairs {b : Int} {s : ByteArray} (v : validD s.data.toList = true) : vis b s = strOfRunes ((visP ((lvls b ((rns s).map cls)).zip (rns s))).map Prod.snd) := by
  unfold vis
  rw [lev_valid v, ← visP_ord _ _ (by rw [lvls_len, List.length_map]), List.map_map]
  rfl
theorem reach_stop {p : Int → Bool} {v : Int} : ∀ (xs ys : List Int), reach p v (xs ++ v :: ys) = reach p v xs
  | [], ys => by simp [reach]
  | x :: xs, ys => by
    simp only [List.cons_append, reach, reach_stop xs ys]
theorem inn_front {p : Int → Bool} {v : Int} {cs ds : List Int} {i : Nat} (hi : i < cs.length) : inn p v (cs ++ v :: ds) i = inn p v cs i := by
  unfold inn
  rw [List.drop_append_of_le_length (by omega), reach_stop, List.take_append_of_le_length (by omega)]
theorem inn_at {p : Int → Bool} {v : Int} {cs ds : List Int} : inn p v (cs ++ v :: ds) cs.length = false := by
  unfold inn
  rw [List.drop_left]
  simp [reach]
theorem inn_back {p : Int → Bool} {v : Int} {cs ds : List Int} {i : Nat} (hi : i < ds.length) : inn p v (cs ++ v :: ds) (cs.length + 1 + i) = inn p v ds i := by
  unfold inn
  have e1 : (cs ++ v :: ds).drop (cs.length + 1 + i) = ds.drop i := by
    rw [show cs ++ v :: ds = (cs ++ [v]) ++ ds by simp, show cs.length + 1 + i = (cs ++ [v]).length + i by simp, List.drop_length_add_append]
  have e2 : (cs ++ v :: ds).take (cs.length + 1 + i + 1) = (cs ++ [v]) ++ ds.take (i + 1) := by
    rw [show cs ++ v :: ds = (cs ++ [v]) ++ ds by simp, show cs.length + 1 + i + 1 = (cs ++ [v]).length + (i + 1) by simp; omega, List.take_length_add_append]
  rw [e1, e2, List.reverse_append, List.reverse_append]
  simp only [List.reverse_cons, List.reverse_nil, List.nil_append, List.cons_append]
  rw [reach_stop]
def bas (b : Int) : Int := if b = 0 then 0 else 1
theorem lvls_parts (b : Int) (cs ds : List Int) : lvls b (cs ++ nv b :: ds) = lvls b cs ++ bas b :: lvls b ds := by
  apply list_ext
  · simp [lvls_len]
  · intro j hj
    rw [lvls_len] at hj
    rw [lvls_get _ _ hj]
    have hj2 : j < cs.length + 1 + ds.length := by simp at hj; omega
    rw [inn_pe]
    by_cases c1 : j < cs.length
    · have e : (lvls b cs ++ bas b :: lvls b ds).getD j 0 = lvl b cs j := by
        rw [← lvls_get b cs c1]
        simp [List.getD, List.getElem?_append_left (show j < (lvls b cs).length by rw [lvls_len]; exact c1)]
      have e2 : (cs ++ nv b :: ds).getD j 0 = cs.getD j 0 := by simp [List.getD, List.getElem?_append_left c1]
      rw [e, inn_pe, inn_front c1, e2]
    · by_cases c2 : j = cs.length
      · subst c2
        have e : (lvls b cs ++ bas b :: lvls b ds).getD cs.length 0 = bas b := by
          simp [List.getD, List.getElem?_append_right (show (lvls b cs).length ≤ cs.length by rw [lvls_len]; omega), lvls_len]
        rw [e, inn_at]
        unfold bas
        simp
      · obtain ⟨i, rfl⟩ : ∃ i, j = cs.length + 1 + i := ⟨j - cs.length - 1, by omega⟩
        have hi : i < ds.length := by omega
        have e : (lvls b cs ++ bas b :: lvls b ds).getD (cs.length + 1 + i) 0 = lvl b ds i := by
          rw [← lvls_get b ds hi]
          simp only [List.getD]
          rw [List.getElem?_append_right (by rw [lvls_len]; omega), lvls_len, show cs.length + 1 + i - cs.length = i + 1 by omega, List.getElem?_cons_succ]
        have e2 : (cs ++ nv b :: ds).getD (cs.length + 1 + i) 0 = ds.getD i 0 := by
          simp only [List.getD]
          rw [List.getElem?_append_right (by omega), show cs.length + 1 + i - cs.length = i + 1 by omega, List.getElem?_cons_succ]
        rw [e, inn_pe, inn_back hi, e2]
theorem lvls_mem {b : Int} {cs : List Int} {x : Int} (hx : x ∈ lvls b cs) : bas b ≤ x ∧ x ≤ 2 := by
  simp only [lvls, List.mem_map] at hx
  obtain ⟨i, _, rfl⟩ := hx
  unfold lvl bas
  repeat' split
  all_goals omega
theorem visP_one {ps : List (Int × Int)} (h : ∀ x ∈ ps, 1 ≤ x.1) : visP ps = (rra (ge 2) [] ps).reverse := by
  unfold visP
  exact rra_all _ _ (fun x hx => by
    have := (rra_perm (ge 2) ps []).mem_iff.1 hx
    simpa [ge] using h x (by simpa using this))
theorem zip_ge {b : Int} (hb : b ≠ 0) {cs xs : List Int} : ∀ x ∈ (lvls b cs).zip xs, 1 ≤ x.1 := by
  intro x hx
  have := (lvls_mem (List.of_mem_zip (a := x.1) (b := x.2) hx).1).1
  unfold bas at this
  rw [if_neg hb] at this
  exact this
theorem strOf_append (a b : List Int) : (strOfRunes (a ++ b)).data.toList = (strOfRunes a).data.toList ++ (strOfRunes b).data.toList := by
  rw [strOfRunes_E, strOfRunes_E, strOfRunes_E, E_append]
theorem rns_x : rns ⟨#[120]⟩ = [120] := by decide +kernel
theorem rns_a : rns ⟨#[215, 144]⟩ = [1488] := by decide +kernel
theorem str_x : (strOfRunes [120]).data.toList = [120] := by decide +kernel
theorem str_a : (strOfRunes [1488]).data.toList = [215, 144] := by decide +kernel
theorem val_x : validD (⟨#[120]⟩ : ByteArray).data.toList = true := by decide +kernel
theorem val_a : validD (⟨#[215, 144]⟩ : ByteArray).data.toList = true := by decide +kernel
theorem parts_zero (a c : ByteArray) (va : validD a.data.toList = true) (vc : validD c.data.toList = true) : (vis 0 ((a ++ ⟨#[120]⟩) ++ c)).data.toList = (vis 0 a).data.toList ++ [120] ++ (vis 0 c).data.toList := by
  have v1 : validD (a ++ (⟨#[120]⟩ : ByteArray)).data.toList = true := by rw [valid_cat _ va, val_x]
  have v2 : validD ((a ++ (⟨#[120]⟩ : ByteArray)) ++ c).data.toList = true := by rw [valid_cat _ v1, vc]
  have e : rns ((a ++ (⟨#[120]⟩ : ByteArray)) ++ c) = rns a ++ 120 :: rns c := by rw [rns_append _ v1, rns_append _ va, rns_x]; simp
  have e2 : (rns a ++ 120 :: rns c).map cls = (rns a).map cls ++ nv 0 :: (rns c).map cls := by
    rw [List.map_append, List.map_cons]
    rfl
  rw [vis_pairs v2, vis_pairs va, vis_pairs vc, e, e2, lvls_parts, List.zip_append (by rw [lvls_len, List.length_map]), List.zip_cons_cons]
  unfold visP
  rw [rra_break (ge 2) (bas 0, 120) (by decide), rra_break (ge 1) (bas 0, 120) (by decide), List.map_append, List.map_cons, strOf_append, show ((bas 0, 120) : Int × Int).2 :: (List.map Prod.snd (rra (ge 1) [] (rra (ge 2) [] ((lvls 0 ((rns c).map cls)).zip (rns c))))) = [120] ++ (List.map Prod.snd (rra (ge 1) [] (rra (ge 2) [] ((lvls 0 ((rns c).map cls)).zip (rns c))))) from rfl, strOf_append, str_x, List.append_assoc]
theorem parts_one (a c : ByteArray) (va : validD a.data.toList = true) (vc : validD c.data.toList = true) : (vis 1 ((a ++ ⟨#[215, 144]⟩) ++ c)).data.toList = (vis 1 c).data.toList ++ [215, 144] ++ (vis 1 a).data.toList := by
  have v1 : validD (a ++ (⟨#[215, 144]⟩ : ByteArray)).data.toList = true := by rw [valid_cat _ va, val_a]
  have v2 : validD ((a ++ (⟨#[215, 144]⟩ : ByteArray)) ++ c).data.toList = true := by rw [valid_cat _ v1, vc]
  have e : rns ((a ++ (⟨#[215, 144]⟩ : ByteArray)) ++ c) = rns a ++ 1488 :: rns c := by rw [rns_append _ v1, rns_append _ va, rns_a]; simp
  have e2 : (rns a ++ 1488 :: rns c).map cls = (rns a).map cls ++ nv 1 :: (rns c).map cls := by
    rw [List.map_append, List.map_cons]
    rfl
  have e3 := lvls_parts 1 ((rns a).map cls) ((rns c).map cls)
  rw [vis_pairs v2, vis_pairs va, vis_pairs vc, visP_one (zip_ge (by decide)), visP_one (zip_ge (by decide)), visP_one (zip_ge (by decide)), e, e2, e3, List.zip_append (by rw [lvls_len, List.length_map]), List.zip_cons_cons]
  rw [rra_break (ge 2) (bas 1, 1488) (by decide), List.reverse_append, List.reverse_cons, List.map_append, List.map_append, strOf_append, strOf_append]
  rw [show (List.map Prod.snd [((bas 1, 1488) : Int × Int)]) = [1488] from rfl, str_a]
theorem BidiParts (a c : ByteArray) : ∃ k, pentaglotlaw43_BidiParts.f k a c = some true := by
  obtain ⟨K, hK⟩ : ∃ K : Nat, K = 20000 := ⟨_, rfl⟩
  refine ⟨K + 1, ?_⟩
  have out : pentaglotlaw43_BidiParts.j0 (K + 1) a c true = some true := by
    simp only [pentaglotlaw43_BidiParts.j0, if_true]
    rw [awake_at (by omega)]; rfl
  unfold pentaglotlaw43_BidiParts.f
  rw [short_at, short_at]
  simp only [Option.bind_some]
  by_cases h0 : (a.size : Int) ≤ 400
  · rw [decide_eq_true h0, if_pos rfl]
    by_cases h1 : (c.size : Int) ≤ 400
    · rw [decide_eq_true h1, if_pos rfl, valid_at a (by omega), valid_at c (by omega)]
      simp only [Option.bind_some]
      by_cases va : validD a.data.toList = true
      · rw [if_pos va]
        by_cases vc : validD c.data.toList = true
        · rw [vc]
          simp only [Bool.not_true, pentaglotlaw43_BidiParts.j0, Bool.false_eq_true, if_false]
          have x1 : (a ++ (⟨#[120]⟩ : ByteArray)).size = a.size + 1 := by rw [ByteArray.size_append]; rfl
          have x2 : ((a ++ (⟨#[120]⟩ : ByteArray)) ++ c).size = a.size + 1 + c.size := by rw [ByteArray.size_append, x1]
          have y1 : (a ++ (⟨#[215, 144]⟩ : ByteArray)).size = a.size + 2 := by rw [ByteArray.size_append]; rfl
          have y2 : ((a ++ (⟨#[215, 144]⟩ : ByteArray)) ++ c).size = a.size + 2 + c.size := by rw [ByteArray.size_append, y1]
          have sz : ∀ (b : Int) (t : ByteArray), t.size ≤ 400 → (vis b t).size ≤ 4000 := fun b t ht => by
            have h1 := lev_len b t
            have h2 := rns_len' t
            have h3 : ∀ rs : List Int, (E rs).length ≤ 4 * rs.length := fun rs => by
              induction rs with
              | nil => simp [E]
              | cons r rs ih =>
                have := size_encode r
                rw [← size_data, encode_enc] at this
                rw [E_cons, List.length_append, List.length_cons]; omega
            rw [← size_data]
            unfold vis
            rw [strOfRunes_E]
            have := h3 ((ord (lev b t)).map (rd (rns t)))
            rw [List.length_map, ord_len] at this
            omega
          have z0 := sz 0 a (by omega)
          have z1 := sz 0 c (by omega)
          have z2 := sz 1 a (by omega)
          have z3 := sz 1 c (by omega)
          rw [awake_at (by omega), Visual_at 0 ((a ++ ⟨#[120]⟩) ++ c) (by omega) (by omega), Visual_at 0 a (by omega) (by omega), Visual_at 0 c (by omega) (by omega), Visual_at 1 ((a ++ ⟨#[215, 144]⟩) ++ c) (by omega) (by omega), Visual_at 1 a (by omega) (by omega), Visual_at 1 c (by omega) (by omega)]
          simp only [Option.bind_some, if_true]
          have w1 : (vis 0 a ++ (⟨#[120]⟩ : ByteArray)).size = (vis 0 a).size + 1 := by rw [ByteArray.size_append]; rfl
          have w2 : (vis 1 c ++ (⟨#[215, 144]⟩ : ByteArray)).size = (vis 1 c).size + 2 := by rw [ByteArray.size_append]; rfl
          have t1 : (vis 0 ((a ++ ⟨#[120]⟩) ++ c)).toList = ((vis 0 a ++ (⟨#[120]⟩ : ByteArray)) ++ vis 0 c).toList := by
            rw [toList_data, toList_data, parts_zero a c va vc, str_append, str_append]
          have t2 : (vis 1 ((a ++ ⟨#[215, 144]⟩) ++ c)).toList = ((vis 1 c ++ (⟨#[215, 144]⟩ : ByteArray)) ++ vis 1 a).toList := by
            rw [toList_data, toList_data, parts_one a c va vc, str_append, str_append]
          rw [if_pos (by omega), if_pos (by omega), if_pos (by omega), if_pos (by omega), if_pos t1, if_pos (by omega), if_pos (by omega), if_pos (by omega), if_pos (by omega), t2]
          simp
        · rw [Bool.eq_false_iff.mpr vc]; exact out
      · rw [if_neg va]; exact out
    · rw [decide_eq_false h1, if_neg (by decide)]; exact out
  · rw [decide_eq_false h0, if_neg (by decide)]; exact out
end Go.Proofs.YtfecolaljnijbaaDoor.Pure
