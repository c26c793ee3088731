/- A part of the proof of TopForms, made short by a program. -/
import Derived.Test.YtcoialpohgfikaaGreatDoorRows
import Derived.Test.YtcoialpohgfikaaGreatDoorM2
import Derived.Deep.Slices
import Derived.Deep.Fields
import Derived.ChangeSame
set_option linter.unusedVariables false
namespace Go.Proofs.YtcoialpohgfikaaGreatDoor.Nest
open Go.ChangeShapes Go.WideShapes Go.Deep Go.Proofs.YtcoialpohgfikaaGreatDoor.C Go.Proofs.YtcoialpohgfikaaGreatDoorW.PrintWords Go.Proofs.YtcoialpohgfikaaGreatDoor.Rows
theorem bulk_mem {H : Type} : ∀ (l : List (DataW H)) (d : DataW H), d ∈ l → uptoBulk d ≤ uptoBulkAll l
 | x :: l, d, h => by
  rw [uptoBulkAll]
  rcases List.mem_cons.1 h with rfl | h
  ·omega
  have := bulk_mem l d h
  omega
theorem bulk_len {H : Type} {m : Nat} : ∀ (l : List (DataW H)), (∀ d ∈ l, m ≤ uptoBulk d) → m * l.length ≤ uptoBulkAll l
 | [], _ => by simp
 | x :: l, h => by
  have h1 := h x (List.mem_cons_self ..)
  have h2 := bulk_len l fun d hd => h d (List.mem_cons_of_mem _ hd)
  rw [uptoBulkAll, List.length_cons, Nat.mul_succ]
  omega
theorem list_of {α : Type} {p : Nat → α → Prop} : ∀ n : Nat, (∀ i, i < n → ∃ x, p i x) → ∃ l : List α, l.length = n ∧ ∀ (i : Nat) (x : α), l[i]? = some x → p i x
 | 0, _ => ⟨[], rfl, fun i x h => by simp at h⟩
 | n + 1, h => by
  obtain ⟨l, hl, hp⟩ := list_of n fun i hi => h i (by omega)
  obtain ⟨y, hy⟩ := h n (by omega)
  refine ⟨l ++ [y], by simp [hl], fun i x hx => ?_⟩
  by_cases hi : i < l.length
  ·rw [List.getElem?_append_left hi] at hx
   exact hp i x hx
  rw [List.getElem?_append_right (by omega)] at hx
  have h0 : i - l.length = 0 := by
   have := (List.getElem?_eq_some_iff.1 hx).1
   simp at this
   omega
  rw [h0] at hx
  have e : i = n := by omega
  subst e
  have : y = x := by simpa using hx
  exact this ▸ hy
section
variable (H : Type) (enc : TypeId × Value → H) (P : Program) (W : World)
def Opens {α : Type} (K : Kd α) (t : TypeId) (m : Nat) (b : α → Prop) : Prop :=
  ∀ (fuel : Nat) (cs : List Value) (x : DataW H × List MemPlace), DataW.trod enc P W 0 (fun _ => true) true fuel t cs = some x → ∃ y : α, K.K W y cs ∧ m ≤ uptoBulk x.1 ∧ (uptoBulk x.1 ≤ 1048576 → b y)
def OpensL {α : Type} (K : Kd α) (ts : List TypeId) (m : Nat) (b : α → Prop) : Prop :=
  ∀ (n : Nat) (cs : List Value) (xs : List (DataW H × List MemPlace)), cs.length = ts.length → xs.length = ts.length → (∀ (j : Nat) t, ts[j]? = some t → ∃ v y, cs[j]? = some v ∧ xs[j]? = some y ∧ DataW.trod enc P W 0 (fun _ => true) true n t [v] = some y) →
    ∃ y : α, K.K W y cs ∧ m ≤ uptoBulkAll (xs.map (·.1)) ∧ (uptoBulkAll (xs.map (·.1)) ≤ 1048576 → b y)
end
section
variable {H : Type} {enc : TypeId × Value → H} {P : Program} {W : World}
theorem opens_int {t : TypeId} {k : IntKind} (ht : P.underlying t = some (.int k)) : Opens H enc P W (Kd.int k) t 1 (fun n => (Lit.int k n).wf = true) := by
 intro fuel cs x hx
 obtain ⟨n, rfl, rfl, hw⟩ := DataW.trod_int ht hx
 exact ⟨n, rfl, by simp [uptoBulk], fun _ => hw⟩
theorem opens_bool {t : TypeId} (ht : P.underlying t = some .bool) : Opens H enc P W Kd.bool t 1 (fun _ => True) := by
 intro fuel cs x hx
 obtain ⟨b, rfl, rfl⟩ := DataW.trod_bool ht hx
 exact ⟨b, rfl, by simp [uptoBulk], fun _ => trivial⟩
theorem opens_string {t : TypeId} (ht : P.underlying t = some .string) : Opens H enc P W Kd.string t 1 (fun s => s.size ≤ 1048576) := by
 intro fuel cs x hx
 obtain ⟨s, rfl, rfl, _⟩ := DataW.trod_string ht hx
 refine ⟨s, rfl, by simp [uptoBulk], fun h => ?_⟩
 simp only [uptoBulk, Array.length_toList] at h
 have : s.size = s.data.size := rfl
 omega
theorem opens_slice {α : Type} {K : Kd α} {t e : TypeId} {m : Nat} {b : α → Prop} (ht : P.underlying t = some (.slice e)) (hs : P.cellsOf e = K.sz) (h : Opens H enc P W K e m b) : Opens H enc P W (Kd.slice e K) t 1 (fun l => m * l.length ≤ 1048576 ∧ ∀ x ∈ l, b x) := by
 intro fuel cs x hx
 rcases open_slice ht hx with ⟨rfl, rfl⟩ | ⟨a, len, cap, q, n, D, Pl, rfl, _, hl, hm, hq, rfl, hi⟩
 ·exact ⟨[], ⟨none, 0, rfl, Nat.le_refl _, rfl, Nat.zero_le _, fun h => absurd h (Nat.lt_irrefl 0)⟩, by simp [uptoBulk], fun _ => ⟨by simp, by simp⟩⟩
 have hq : q = cap := by simpa using hq
 subst hq
 have key : ∀ i, i < len → ∃ y, ∃ cs', W.cells? 0 (a.add (i * P.cellsOf e)) (P.cellsOf e) = some cs' ∧ K.K W y cs' ∧ m ≤ uptoBulk (D i) ∧ (uptoBulk (D i) ≤ 1048576 → b y) := by
  intro i hil
  obtain ⟨cs', hc, ht'⟩ := hi i (by omega)
  obtain ⟨y, h1, h2, h3⟩ := h _ _ _ ht'
  exact ⟨y, cs', hc, h1, h2, h3⟩
 obtain ⟨l, hll, hp⟩ := list_of len key
 subst hll
 have hbulk : ∀ i, i < l.length → uptoBulk (D i) ≤ uptoBulkAll ((List.range l.length).map D) := fun i hil => bulk_mem _ _ (List.mem_map.2 ⟨i, List.mem_range.2 hil, rfl⟩)
 refine ⟨l, ⟨some a, q, rfl, hl, rfl, by unfold maxLen at hm; omega, fun _ => ⟨a, rfl, fun j y hj => ?_⟩⟩, by simp only [uptoBulk]; omega, fun hb => ?_⟩
 ·obtain ⟨cs', hc, hk, _⟩ := hp j y hj
  obtain ⟨_, hcl, hat⟩ := World.cells?_some hc
  refine ⟨cs', by rw [hcl, hs], hk, fun i u hu => ?_⟩
  have hil : i < P.cellsOf e := by
   have := (List.getElem?_eq_some_iff.1 hu).1
   omega
  rw [← hs, ← Go.Deep.add_add, hat i hil]
  exact hu
 simp only [uptoBulk] at hb
 constructor
 ·have := bulk_len (m := m) ((List.range l.length).map D) fun d hd => by
   obtain ⟨i, hi', rfl⟩ := List.mem_map.1 hd
   have hil := List.mem_range.1 hi'
   obtain ⟨cs', _, _, h2, _⟩ := hp i l[i] (List.getElem?_eq_getElem hil)
   exact h2
  rw [List.length_map, List.length_range] at this
  omega
 intro y hy
 obtain ⟨i, hil, rfl⟩ := List.getElem_of_mem hy
 obtain ⟨cs', _, _, _, h3⟩ := hp i l[i] (List.getElem?_eq_getElem hil)
 have := hbulk i hil
 exact h3 (by omega)
theorem opensL_one {α : Type} {K : Kd α} {t : TypeId} {m : Nat} {b : α → Prop} (h : Opens H enc P W K t m b) : OpensL H enc P W K [t] m b := by
 intro n cs xs hc hx hj
 obtain ⟨v, y, h1, h2, h3⟩ := hj 0 t rfl
 match cs, xs, hc, hx, h1, h2 with
 | [c], [x], _, _, h1, h2 =>
  obtain rfl : c = v := by simpa using h1
  obtain rfl : x = y := by simpa using h2
  obtain ⟨z, g1, g2, g3⟩ := h _ _ _ h3
  exact ⟨z, g1, by simpa [uptoBulkAll] using g2, fun hb => g3 (by simpa [uptoBulkAll] using hb)⟩
theorem opensL_cons {α β : Type} {K : Kd α} {K' : Kd β} {t : TypeId} {ts : List TypeId} {m m' : Nat} {b : α → Prop} {b' : β → Prop} (h : Opens H enc P W K t m b) (h' : OpensL H enc P W K' ts m' b') : OpensL H enc P W (Kd.pair K K') (t :: ts) (m + m') (fun x => b x.1 ∧ b' x.2) := by
 intro n cs xs hc hx hj
 obtain ⟨v, y, h1, h2, h3⟩ := hj 0 t rfl
 match cs, xs, hc, hx, h1, h2, hj with
 | c :: cs, x :: xs, hc, hx, h1, h2, hj =>
  obtain rfl : c = v := by simpa using h1
  obtain rfl : x = y := by simpa using h2
  obtain ⟨z, g1, g2, g3⟩ := h _ _ _ h3
  obtain ⟨z', g1', g2', g3'⟩ := h' n cs xs (by simpa using hc) (by simpa using hx) (fun j t ht => by simpa using hj (j + 1) t (by simpa using ht))
  refine ⟨(z, z'), ⟨[c], cs, rfl, g1, g1'⟩, by simp only [List.map_cons, uptoBulkAll]; omega, fun hb => ?_⟩
  simp only [List.map_cons, uptoBulkAll] at hb
  exact ⟨g3 (by omega), g3' (by omega)⟩
theorem fields_of {t : TypeId} {fs : Array Field} {ts : List TypeId} {fuel : Nat} {cs : List Value} {x : DataW H × List MemPlace} (hs : P.underlying t = some (.struct fs)) (hone : oneCellFields P fs = true) (hC : P.cellsOf t = fs.size) (hts : fs.toList.map (·.type) = ts)
  (h : DataW.trod enc P W 0 (fun _ => true) true fuel t cs = some x) : ∃ (n : Nat) (xs : List (DataW H × List MemPlace)), x.1 = .agg (xs.map (·.1)) ∧ cs.length = ts.length ∧ xs.length = ts.length ∧ ∀ (j : Nat) t, ts[j]? = some t → ∃ v y, cs[j]? = some v ∧ xs[j]? = some y ∧ DataW.trod enc P W 0 (fun _ => true) true n t [v] = some y := by
 obtain ⟨xs, n, _, rfl, hl, hxl, hx⟩ := DataW.trod_struct hs h
 have htl : ts.length = fs.size := by rw [← hts]; simp
 refine ⟨n, xs, rfl, by rw [hl, hC, htl], by rw [hxl, htl], fun j t' hj => ?_⟩
 subst hts
 rw [List.getElem?_map] at hj
 obtain ⟨f, hf, rfl⟩ := Option.map_eq_some_iff.1 hj
 have hf' : fs[j]? = some f := by simpa using hf
 obtain ⟨ho, hk⟩ := hone_of hone j f hf'
 have hjl : j < fs.size := (Array.getElem?_eq_some_iff.1 hf').1
 have hjc : j < cs.length := by rw [hl, hC]; exact hjl
 have hjx : j < xs.length := by rw [hxl]; exact hjl
 have hj2 := hx j f hf'
 have e1 : (cs.drop j).take 1 = [cs[j]] := by
  rw [List.drop_eq_getElem_cons hjc]
  rfl
 rw [ho, hk, e1, List.getElem?_eq_getElem hjx] at hj2
 exact ⟨cs[j], xs[j], List.getElem?_eq_getElem hjc, List.getElem?_eq_getElem hjx, hj2⟩
theorem opens_struct {α β : Type} {K : Kd α} {t : TypeId} {fs : Array Field} {ts : List TypeId} {m : Nat} {b : α → Prop} (f : β → α) (g : α → β) (hg : ∀ y, f (g y) = y) (hs : P.underlying t = some (.struct fs)) (hone : oneCellFields P fs = true) (hC : P.cellsOf t = fs.size) (hts : fs.toList.map (·.type) = ts) (h : OpensL H enc P W K ts m b) : Opens H enc P W (Kd.iso K f) t (m + 1) (fun x => b (f x)) := by
 intro fuel cs x hx
 obtain ⟨n, xs, e, hc, hxl, hj⟩ := fields_of hs hone hC hts hx
 obtain ⟨y, h1, h2, h3⟩ := h n cs xs hc hxl hj
 refine ⟨g y, ?_, ?_, fun hb => ?_⟩
 ·show K.K W (f (g y)) cs
  rw [hg]
  exact h1
 ·rw [e]
  simp only [uptoBulk]
  omega
 show b (f (g y))
 rw [hg]
 rw [e] at hb
 simp only [uptoBulk] at hb
 exact h3 (by omega)
end
end Go.Proofs.YtcoialpohgfikaaGreatDoor.Nest
