/- The visual order undoes itself. No program and no memory stands here. -/
import Derived.Test.YtfecolaljnijbaaDoorPureG
set_option linter.unusedVariables false
set_option linter.unusedSimpArgs false
namespace Go.Proofs.YtfecolaljnijbaaDoor.Pure
open Go.RowKit Go.Lib Go.Proofs.YtfecolaljnijbaaDoor.C Go.Proofs.YtfecolaljnijbaaDoorW.PrintWords Go.Proofs.YtfecolaljnijbaaDoor.Utf

/-! ### turning runs twice -/
theorem split_run {α : Type} (q : α → Bool) : ∀ l : List α, (∀ x ∈ l, q x = true) ∨ ∃ run z rest, l = run ++ z :: rest ∧ (∀ x ∈ run, q x = true) ∧ q z = false
  | [] => .inl (by simp)
  | x :: xs => by
    by_cases c : q x = true
    · rcases split_run q xs with h | ⟨run, z, rest, e, h1, h2⟩
      · exact .inl (by simpa [c] using h)
      · exact .inr ⟨x :: run, z, rest, by rw [e]; rfl, by simpa [c] using h1, h2⟩
    · exact .inr ⟨[], x, xs, rfl, by simp, Bool.eq_false_iff.mpr c⟩
theorem rra_split {α : Type} (q : α → Bool) {run : List α} {z : α} (rest : List α) (h1 : ∀ x ∈ run, q x = true) (h2 : q z = false) : rra q [] (run ++ z :: rest) = run.reverse ++ z :: rra q [] rest := by
  rw [rra_break q z h2, rra_all q run h1]
theorem rra_twice {α : Type} (q : α → Bool) : ∀ (n : Nat) (l : List α), l.length ≤ n → rra q [] (rra q [] l) = l
  | n, l, hn => by
    rcases split_run q l with h | ⟨run, z, rest, e, h1, h2⟩
    · rw [rra_all q l h, rra_all q _ (fun x hx => h x (by simpa using hx)), List.reverse_reverse]
    · subst e
      have hl : rest.length < n := by simp at hn; omega
      rw [rra_split q rest h1 h2, rra_split q _ (fun x hx => h1 x (by simpa using hx)) h2, List.reverse_reverse, rra_twice q (n - 1) rest (by omega)]
termination_by n => n
theorem rra_rev {α : Type} (q : α → Bool) : ∀ (n : Nat) (l : List α), l.length ≤ n → rra q [] l.reverse = (rra q [] l).reverse
  | n, l, hn => by
    rcases split_run q l with h | ⟨run, z, rest, e, h1, h2⟩
    · rw [rra_all q l h, rra_all q _ (fun x hx => h x (by simpa using hx))]
    · subst e
      have hl : rest.length < n := by simp at hn; omega
      rw [rra_split q rest h1 h2, List.reverse_append, List.reverse_cons, List.append_assoc, List.singleton_append, rra_break q z h2, rra_rev q (n - 1) rest (by omega), rra_all q run.reverse (fun x hx => h1 x (by simpa using hx))]
      simp
termination_by n => n
theorem rra_comm {α : Type} (p q : α → Bool) (hpq : ∀ x, q x = true → p x = true) : ∀ (n : Nat) (l : List α), l.length ≤ n → rra p [] (rra q [] l) = rra q [] (rra p [] l)
  | n, l, hn => by
    have hm : ∀ (l : List α) x, x ∈ rra q [] l → x ∈ l := fun l x hx => by simpa using (rra_perm q l []).mem_iff.1 hx
    rcases split_run p l with h | ⟨run, z, rest, e, h1, h2⟩
    · rw [rra_all p l h, rra_all p _ (fun x hx => h x (hm l x hx)), rra_rev q _ l (Nat.le_refl _)]
    · subst e
      have hl : rest.length < n := by simp at hn; omega
      have h3 : q z = false := by
        rw [Bool.eq_false_iff]
        intro c
        rw [hpq z c] at h2
        simp at h2
      rw [rra_break q z h3, rra_split p _ (fun x hx => h1 x (hm run x hx)) h2, rra_split p rest h1 h2, rra_break q z h3, rra_rev q _ run (Nat.le_refl _), rra_comm p q hpq (n - 1) rest (by omega)]
termination_by n => n
theorem visP_twice (ps : List (Int × Int)) : visP (visP ps) = ps := by
  unfold visP
  have e := rra_comm (ge 1) (ge 2) (fun x h => by simp [ge] at h ⊢; omega) _ ps (Nat.le_refl _)
  rw [e, rra_twice (ge 2) _ _ (Nat.le_refl _), rra_twice (ge 1) _ _ (Nat.le_refl _)]
/-! ### rightly labelled strings -/
def pl (b : Int) (x : Int × Int) : Prop := x.1 = bas b ∧ pe b (cls x.2) = false ∧ cls x.2 ≠ nv b
def fm (b c : Int) : Int := if b = 0 then (if c = 3 then 2 else 1) else 2
def im (b : Int) (x : Int × Int) : Prop := x.1 = fm b (cls x.2) ∧ cls x.2 ≠ nv b
def ends (b : Int) (l : List (Int × Int)) : Prop := (∃ e l', l = e :: l' ∧ pe b (cls e.2) = true) ∧ (∃ e l', l = l' ++ [e] ∧ pe b (cls e.2) = true)
inductive Seg (b : Int) : List (Int × Int) → Prop
  | plain (l) : (∀ x ∈ l, pl b x) → Seg b l
  | isl (pre mid post) : (∀ x ∈ pre, pl b x) → (∀ x ∈ mid, im b x) → (∀ x ∈ post, pl b x) → ends b mid → Seg b (pre ++ (mid ++ post))
inductive Good (b : Int) : List (Int × Int) → Prop
  | seg (l) : Seg b l → Good b l
  | cat (l z r) : Seg b l → z.1 = bas b → cls z.2 = nv b → Good b r → Good b (l ++ z :: r)
theorem ends_rev {b : Int} {l : List (Int × Int)} (h : ends b l) : ends b l.reverse := by
  obtain ⟨⟨e, l1, h1, p1⟩, ⟨f, l2, h2, p2⟩⟩ := h
  exact ⟨⟨f, l2.reverse, by rw [h2]; simp, p2⟩, ⟨e, l1.reverse, by rw [h1]; simp, p1⟩⟩
theorem Seg.rev {b : Int} {l : List (Int × Int)} (h : Seg b l) : Seg b l.reverse := by
  cases h with
  | plain _ h => exact .plain _ (fun x hx => h x (by simpa using hx))
  | isl pre mid post h1 h2 h3 h4 =>
    rw [List.reverse_append, List.reverse_append, List.append_assoc]
    exact .isl _ _ _ (fun x hx => h3 x (by simpa using hx)) (fun x hx => h2 x (by simpa using hx)) (fun x hx => h1 x (by simpa using hx)) (ends_rev h4)
theorem Good.app {b : Int} {l m : List (Int × Int)} {z : Int × Int} (h : Good b l) (hz : z.1 = bas b) (hc : cls z.2 = nv b) (hm : Good b m) : Good b (l ++ z :: m) := by
  induction h with
  | seg l hl => exact .cat l z m hl hz hc hm
  | cat l y r hl hy hd hr ih =>
    rw [List.append_assoc, List.cons_append]
    exact .cat l y _ hl hy hd ih
theorem Good.rev {b : Int} {l : List (Int × Int)} (h : Good b l) : Good b l.reverse := by
  induction h with
  | seg l hl => exact .seg _ hl.rev
  | cat l z r hl hz hc hr ih =>
    rw [List.reverse_append, List.reverse_cons, List.append_assoc, List.singleton_append]
    exact ih.app hz hc (.seg _ hl.rev)
theorem rra_pre {α : Type} (q : α → Bool) : ∀ (pre l : List α), (∀ x ∈ pre, q x = false) → rra q [] (pre ++ l) = pre ++ rra q [] l
  | [], l, h => rfl
  | x :: pre, l, h => by
    rw [List.cons_append, rra, if_neg (by rw [h x (by simp)]; simp), rra_pre q pre l (fun y hy => h y (by simp [hy]))]
    rfl
theorem rra_post {α : Type} (q : α → Bool) (post : List α) (h : ∀ x ∈ post, q x = false) : ∀ (l acc : List α), rra q acc (l ++ post) = rra q acc l ++ post
  | [], acc => by rw [List.nil_append, rra_none q post acc h]; rfl
  | x :: l, acc => by
    simp only [List.cons_append, rra]
    by_cases c : q x = true
    · rw [if_pos c, if_pos c, rra_post q post h l]
    · rw [if_neg c, if_neg c, rra_post q post h l]; simp
theorem rra_ends {b : Int} {q : Int × Int → Bool} {l : List (Int × Int)} (h : ends b l) (hq : ∀ x ∈ l, pe b (cls x.2) = true → q x = false) : ends b (rra q [] l) := by
  obtain ⟨⟨e, l1, h1, p1⟩, ⟨f, l2, h2, p2⟩⟩ := h
  refine ⟨⟨e, rra q [] l1, ?_, p1⟩, ⟨f, rra q [] l2, ?_, p2⟩⟩
  · have := hq e (by rw [h1]; simp) p1
    rw [h1, rra, if_neg (by rw [this]; simp)]
    rfl
  · have := hq f (by rw [h2]; simp) p2
    rw [h2, rra_break q f this]
    simp [rra]
theorem mem_rra {α : Type} {q : α → Bool} {l : List α} {x : α} (h : x ∈ rra q [] l) : x ∈ l := by simpa using (rra_perm q l []).mem_iff.1 h
theorem bas_lt (b : Int) : bas b < 2 := by unfold bas; split <;> omega
/-- Turning the runs of level 2 keeps a string rightly labelled. -/
theorem Seg.two {b : Int} {l : List (Int × Int)} (h : Seg b l) : Seg b (rra (ge 2) [] l) := by
  have hb := bas_lt b
  cases h with
  | plain _ h =>
    rw [rra_none _ _ _ (fun x hx => by have := (h x hx).1; simp [ge]; omega)]
    exact .plain _ h
  | isl pre mid post h1 h2 h3 h4 =>
    rw [rra_pre _ _ _ (fun x hx => by have := (h1 x hx).1; simp [ge]; omega), rra_post _ _ (fun x hx => by have := (h3 x hx).1; simp [ge]; omega)]
    refine .isl _ _ _ h1 (fun x hx => h2 x (mem_rra hx)) h3 ?_
    by_cases c : b = 0
    · apply rra_ends h4
      intro x hx hp
      have hl := (h2 x hx).1
      unfold fm at hl
      unfold pe end0 at hp
      rw [if_pos c] at hl hp
      have hc : cls x.2 = 2 := by simpa using hp
      rw [hc, if_neg (by decide)] at hl
      simp [ge, hl]
    · rw [rra_all _ _ (fun x hx => by
        have hl := (h2 x hx).1
        unfold fm at hl
        rw [if_neg c] at hl
        simp [ge, hl])]
      exact ends_rev h4
theorem Good.two {b : Int} {l : List (Int × Int)} (h : Good b l) : Good b (rra (ge 2) [] l) := by
  have hb := bas_lt b
  induction h with
  | seg l hl => exact .seg _ hl.two
  | cat l z r hl hz hc hr ih =>
    rw [rra_break _ z (by simp [ge]; omega)]
    exact .cat _ z _ hl.two hz hc ih
theorem Seg.one {l : List (Int × Int)} (h : Seg 0 l) : Seg 0 (rra (ge 1) [] l) := by
  have hb : bas 0 = 0 := rfl
  cases h with
  | plain _ h =>
    rw [rra_none _ _ _ (fun x hx => by have := (h x hx).1; simp [ge]; omega)]
    exact .plain _ h
  | isl pre mid post h1 h2 h3 h4 =>
    rw [rra_pre _ _ _ (fun x hx => by have := (h1 x hx).1; simp [ge]; omega), rra_post _ _ (fun x hx => by have := (h3 x hx).1; simp [ge]; omega)]
    refine .isl _ _ _ h1 (fun x hx => h2 x (mem_rra hx)) h3 ?_
    rw [rra_all _ _ (fun x hx => by
        have hl := (h2 x hx).1
        unfold fm at hl
        rw [if_pos rfl] at hl
        simp only [ge, decide_eq_true_eq]
        split at hl <;> omega)]
    exact ends_rev h4
theorem Good.one {l : List (Int × Int)} (h : Good 0 l) : Good 0 (rra (ge 1) [] l) := by
  have hb : bas 0 = 0 := rfl
  induction h with
  | seg l hl => exact .seg _ hl.one
  | cat l z r hl hz hc hr ih =>
    rw [rra_break _ z (by simp [ge]; omega)]
    exact .cat _ z _ hl.one hz hc ih
theorem Good.ge_bas {b : Int} {l : List (Int × Int)} (h : Good b l) : ∀ x ∈ l, bas b ≤ x.1 := by
  have hs : ∀ {l : List (Int × Int)}, Seg b l → ∀ x ∈ l, bas b ≤ x.1 := by
    intro l h x hx
    have hi : im b x → bas b ≤ x.1 := fun hi => by
      have := hi.1
      unfold fm at this
      unfold bas
      repeat' split at this
      all_goals (split <;> omega)
    cases h with
    | plain _ h => exact Int.le_of_eq (h x hx).1.symm
    | isl pre mid post h1 h2 h3 h4 =>
      simp only [List.mem_append] at hx
      rcases hx with hx | hx | hx
      · exact Int.le_of_eq (h1 x hx).1.symm
      · exact hi (h2 x hx)
      · exact Int.le_of_eq (h3 x hx).1.symm
  induction h with
  | seg l hl => exact hs hl
  | cat l z r hl hz hc hr ih =>
    intro x hx
    simp only [List.mem_append, List.mem_cons] at hx
    rcases hx with hx | rfl | hx
    · exact hs hl x hx
    · omega
    · exact ih x hx
theorem Good.vis {b : Int} {l : List (Int × Int)} (h : Good b l) : Good b (visP l) := by
  by_cases c : b = 0
  · subst c
    exact h.two.one
  · rw [visP_one (fun x hx => by have := h.ge_bas x hx; unfold bas at this; rw [if_neg c] at this; exact this)]
    exact h.two.rev
/-! ### every string is rightly labelled -/
theorem Seg.cons {b r : Int} {l : List (Int × Int)} (h : Seg b l) (hr : cls r ≠ nv b) : ∃ l', Seg b l' ∧ l'.map Prod.snd = r :: l.map Prod.snd := by
  cases h with
  | plain _ h =>
    by_cases c : pe b (cls r) = true
    · exact ⟨[] ++ ([(fm b (cls r), r)] ++ l), .isl _ _ _ (by simp) (by simpa [im] using hr) h ⟨⟨_, [], rfl, c⟩, ⟨_, [], rfl, c⟩⟩, by simp⟩
    · exact ⟨(bas b, r) :: l, .plain _ (by simpa [pl, hr, c] using h), by simp⟩
  | isl pre mid post h1 h2 h3 h4 =>
    by_cases c : pe b (cls r) = true
    · refine ⟨[] ++ (((fm b (cls r), r) :: ((pre.map fun y => (fm b (cls y.2), y.2)) ++ mid)) ++ post), .isl _ _ _ (by simp) ?_ h3 ⟨⟨_, _, rfl, c⟩, ?_⟩, ?_⟩
      · intro x hx
        simp only [List.mem_cons, List.mem_append, List.mem_map] at hx
        rcases hx with rfl | ⟨y, hy, rfl⟩ | hx
        · exact ⟨rfl, hr⟩
        · exact ⟨rfl, (h1 y hy).2.2⟩
        · exact h2 x hx
      · obtain ⟨_, ⟨f, l2, e2, p2⟩⟩ := h4
        exact ⟨f, (fm b (cls r), r) :: ((pre.map fun y => (fm b (cls y.2), y.2)) ++ l2), by rw [e2]; simp, p2⟩
      · simp [List.map_map, Function.comp_def]
    · exact ⟨((bas b, r) :: pre) ++ (mid ++ post), .isl _ _ _ (by simpa [pl, hr, c] using h1) h2 h3 h4, by simp⟩
theorem Good.made (b : Int) : ∀ xs : List Int, ∃ ps, Good b ps ∧ ps.map Prod.snd = xs
  | [] => ⟨[], .seg _ (.plain _ (by simp)), rfl⟩
  | r :: xs => by
    obtain ⟨ps, h, e⟩ := Good.made b xs
    by_cases c : cls r = nv b
    · exact ⟨[] ++ (bas b, r) :: ps, .cat [] _ ps (.plain _ (by simp)) rfl c h, by simp [e]⟩
    · cases h with
      | seg l hl =>
        obtain ⟨l', h1, h2⟩ := hl.cons c
        exact ⟨l', .seg _ h1, by rw [h2, e]⟩
      | cat l z q hl hz hc hq =>
        obtain ⟨l', h1, h2⟩ := hl.cons c
        exact ⟨l' ++ z :: q, .cat _ _ _ h1 hz hc hq, by rw [← e, List.map_append, h2]; simp⟩
theorem get_mem3 {α : Type} {A M P : List α} {i : Nat} (h : i < (A ++ (M ++ P)).length) : (i < A.length → (A ++ (M ++ P))[i] ∈ A) ∧ (A.length ≤ i → i < A.length + M.length → (A ++ (M ++ P))[i] ∈ M) ∧ (A.length + M.length ≤ i → (A ++ (M ++ P))[i] ∈ P) := by
  refine ⟨fun h1 => ?_, fun h1 h2 => ?_, fun h1 => ?_⟩
  · rw [List.getElem_append_left h1]; exact List.getElem_mem _
  · rw [List.getElem_append_right h1, List.getElem_append_left (by omega)]; exact List.getElem_mem _
  · rw [List.getElem_append_right (by omega), List.getElem_append_right (by omega)]; exact List.getElem_mem _
def cl (x : Int × Int) : Int := cls x.2
theorem cl_get (ps : List (Int × Int)) {i : Nat} (h : i < ps.length) : (ps.map cl).getD i 0 = cls ps[i].2 := by simp [List.getD, h, cl]
theorem fst_get (ps : List (Int × Int)) {i : Nat} (h : i < ps.length) : (ps.map Prod.fst).getD i 0 = ps[i].1 := by simp [List.getD, h]
theorem lvl_not {b : Int} {cs : List Int} {i : Nat} (h : ¬ inn (pe b) (nv b) cs i = true) : lvl b cs i = bas b := by
  rw [inn_pe]; unfold bas; rw [if_neg h, if_neg h]
theorem lvl_in {b : Int} {cs : List Int} {i : Nat} (h : inn (pe b) (nv b) cs i = true) : lvl b cs i = fm b (cs.getD i 0) := by
  rw [inn_pe]; unfold fm; rw [if_pos h, if_pos h]
theorem Seg.lvls {b : Int} {ps : List (Int × Int)} (h : Seg b ps) : lvls b (ps.map cl) = ps.map Prod.fst := by
  apply list_ext (by rw [lvls_len]; simp)
  intro j hj
  rw [lvls_len, List.length_map] at hj
  rw [lvls_get _ _ (by simpa using hj), fst_get ps hj]
  cases h with
  | plain _ h =>
    rw [lvl_not, (h _ (List.getElem_mem hj)).1]
    rw [inn_no (fun c hc => by
      obtain ⟨x, hx, rfl⟩ := List.mem_map.1 hc
      exact (h x hx).2.1) (by simpa using hj)]
    simp
  | isl pre mid post h1 h2 h3 h4 =>
    have hcl : (((pre ++ (mid ++ post)).map cl)).length = pre.length + mid.length + post.length := by simp; omega
    have hpl : (pre ++ (mid ++ post)).length = pre.length + mid.length + post.length := by simp; omega
    have hjl : j < pre.length + mid.length + post.length := by rw [← hcl]; simpa using hj
    obtain ⟨g1, g2, g3⟩ := get_mem3 hj
    by_cases c1 : j < pre.length
    · rw [lvl_not, (h1 _ (g1 c1)).1]
      intro e
      obtain ⟨l, r, k1, k2, k3, k4, k5, k6, k7⟩ := (inn_iff (by rw [hcl]; exact hjl)).1 e
      have hl : l < (pre ++ (mid ++ post)).length := by omega
      rw [cl_get _ hl, (h1 _ ((get_mem3 hl).1 (by omega))).2.1] at k5
      simp at k5
    · by_cases c2 : j < pre.length + mid.length
      · rw [lvl_in, cl_get _ hj, (h2 _ (g2 (by omega) c2)).1]
        obtain ⟨⟨e, l1, e1, p1⟩, ⟨f, l2, e2, p2⟩⟩ := h4
        have hm : 0 < mid.length := by rw [e1]; simp
        refine (inn_iff (by rw [hcl]; exact hjl)).2 ⟨pre.length, pre.length + mid.length - 1, by omega, by omega, by omega, by rw [hcl]; omega, ?_, ?_, fun m m1 m2 => ?_⟩
        · have hl : pre.length < (pre ++ (mid ++ post)).length := by omega
          have : (pre ++ (mid ++ post))[pre.length] = e := by
            rw [List.getElem_append_right (Nat.le_refl _), List.getElem_append_left (by omega)]
            simp [e1]
          rw [cl_get _ hl, this, p1]
        · have hl : pre.length + mid.length - 1 < (pre ++ (mid ++ post)).length := by omega
          have : (pre ++ (mid ++ post))[pre.length + mid.length - 1] = f := by
            rw [List.getElem_append_right (by omega), List.getElem_append_left (by omega)]
            have hl2 : mid.length = l2.length + 1 := by rw [e2]; simp
            rw [List.getElem_of_eq e2, List.getElem_append_right (by omega)]
            simp
          rw [cl_get _ hl, this, p2]
        · have hl : m < (pre ++ (mid ++ post)).length := by omega
          rw [cl_get _ hl]
          exact (h2 _ ((get_mem3 hl).2.1 m1 (by omega))).2
      · rw [lvl_not, (h3 _ (g3 (by omega))).1]
        intro e
        obtain ⟨l, r, k1, k2, k3, k4, k5, k6, k7⟩ := (inn_iff (by rw [hcl]; exact hjl)).1 e
        have hr : r < (pre ++ (mid ++ post)).length := by rw [hcl] at k4; simp; omega
        rw [cl_get _ hr, (h3 _ ((get_mem3 hr).2.2 (by omega))).2.1] at k6
        simp at k6
theorem Good.lvls {b : Int} {ps : List (Int × Int)} (h : Good b ps) : lvls b (ps.map cl) = ps.map Prod.fst := by
  induction h with
  | seg l hl => exact hl.lvls
  | cat l z r hl hz hc hr ih =>
    rw [List.map_append, List.map_cons, show cl z = nv b from hc, lvls_parts, hl.lvls, ih, List.map_append, List.map_cons, hz]
theorem zip_fst_snd (ps : List (Int × Int)) : (ps.map Prod.fst).zip (ps.map Prod.snd) = ps := by
  induction ps with
  | nil => rfl
  | cons x ps ih => simp [ih]
theorem Good.zip (b : Int) (xs : List Int) : Good b ((Pure.lvls b (xs.map cls)).zip xs) := by
  obtain ⟨ps, h, e⟩ := Good.made b xs
  have h2 := h.lvls
  have e2 : ps.map cl = xs.map cls := by rw [← e, List.map_map]; rfl
  rw [e2] at h2
  rw [h2, ← e, zip_fst_snd]
  exact h
theorem vis_rns {b : Int} {s : ByteArray} (v : validD s.data.toList = true) : rns (vis b s) = (visP ((lvls b ((rns s).map cls)).zip (rns s))).map Prod.snd ∧ validD (vis b s).data.toList = true := by
  have hr : ∀ r ∈ (visP ((lvls b ((rns s).map cls)).zip (rns s))).map Prod.snd, validRune r = true := by
    intro r hr
    obtain ⟨x, hx, rfl⟩ := List.mem_map.1 hr
    have h1 := mem_rra (mem_rra hx)
    have h2 := (List.of_mem_zip (a := x.1) (b := x.2) h1).2
    rw [rns_R] at h2
    exact R_valid _ _ h2
  rw [vis_pairs v]
  refine ⟨?_, ?_⟩
  · rw [rns_R, strOfRunes_E, R_E' hr]
  · rw [strOfRunes_E, valid_E' hr]
theorem vis_twice {b : Int} {s : ByteArray} (v : validD s.data.toList = true) : vis b (vis b s) = s := by
  obtain ⟨h1, h2⟩ := vis_rns (b := b) v
  have hg := Good.zip b (rns s)
  have hv := hg.vis.lvls
  rw [vis_pairs h2, h1]
  have e : ((visP ((lvls b ((rns s).map cls)).zip (rns s))).map Prod.snd).map cls = (visP ((lvls b ((rns s).map cls)).zip (rns s))).map cl := by rw [List.map_map]; rfl
  rw [e, hv, zip_fst_snd, visP_twice]
  rw [show (((lvls b ((rns s).map cls)).zip (rns s)).map Prod.snd) = rns s from List.map_snd_zip (by rw [lvls_len, List.length_map]; exact Nat.le_refl _), str_rns v]
theorem vis_size (b : Int) (t : ByteArray) (ht : t.size ≤ 400) : (vis b t).size ≤ 4000 := by
  have h1 := lev_len b t
  have h2 := rns_len' t
  have h3 : ∀ rs : List Int, (E rs).length ≤ 4 * rs.length := fun rs => by
    induction rs with
    | nil => simp [E]
    | cons r rs ih =>
      have := size_encode r
      rw [← size_data, encode_enc] at this
      rw [E_cons, List.length_append, List.length_cons]; omega
  rw [← size_data]
  unfold vis
  rw [strOfRunes_E]
  have := h3 ((ord (lev b t)).map (rd (rns t)))
  rw [List.length_map, ord_len] at this
  omega
theorem BidiLogical (b : Int) (s : ByteArray) : ∃ k, pentaglotlaw43_BidiLogical.f k b s = some true := by
  obtain ⟨K, hK⟩ : ∃ K : Nat, K = 20000 := ⟨_, rfl⟩
  refine ⟨K + 1, ?_⟩
  have out : pentaglotlaw43_BidiLogical.j0 (K + 1) b s true = some true := by
    simp only [pentaglotlaw43_BidiLogical.j0, if_true]
    rw [awake_at (by omega)]; rfl
  unfold pentaglotlaw43_BidiLogical.f
  rw [short_at]
  simp only [Option.bind_some]
  by_cases h : (s.size : Int) ≤ 400
  · rw [decide_eq_true h, if_pos rfl, valid_at s (by omega)]
    simp only [Option.bind_some]
    by_cases v : validD s.data.toList = true
    · rw [v]
      simp only [Bool.not_true, pentaglotlaw43_BidiLogical.j0, Bool.false_eq_true, if_false]
      have z := vis_size b s (by omega)
      rw [awake_at (by omega), Visual_at b s (by omega) (by omega), Logical_at b s (by omega) (by omega)]
      simp only [Option.bind_some, if_true]
      rw [Visual_at b (vis b s) (by omega) (by omega), Logical_at b (vis b s) (by omega) (by omega)]
      simp only [Option.bind_some]
      rw [vis_twice v]
      simp
    · rw [Bool.eq_false_iff.mpr v]; exact out
  · rw [decide_eq_false h, if_neg (by decide)]; exact out
end Go.Proofs.YtfecolaljnijbaaDoor.Pure
